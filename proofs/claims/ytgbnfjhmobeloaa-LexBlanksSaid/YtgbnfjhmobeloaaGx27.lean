import Derived.Test.YtgbnfjhmobeloaaGx0
import Derived.Test.YtgbnfjhmobeloaaGx1
import Derived.Test.YtgbnfjhmobeloaaGx6
import Derived.Test.YtgbnfjhmobeloaaGx13
import Derived.Test.YtgbnfjhmobeloaaGx14
import Derived.Test.YtgbnfjhmobeloaaGx15
import Derived.Test.YtgbnfjhmobeloaaGx26
namespace Go.Proofs.Ytgbnfjhmobeloaa.G
open Go.RowKit Go.Proofs.YtgbnfjhmobeloaaW.PrintWords Go.Proofs.YtgbnfjhmobeloaaW.PrintLast Go.Proofs.YtgbnfjhmobeloaaW.PrintMore Go.Proofs.YtgbnfjhmobeloaaW.VWords
attribute [local go_sem] max2_int min2_int max_two min_two max_three min_three max_four min_four
set_option linter.unusedVariables false
set_option linter.unusedSimpArgs false
attribute [local go_sem high] eqA47
mutual
def interlocutorlaw6_LexBlanks.l0 : Nat → List Int → Int → List Int → Int → ByteArray → Int → Int → List (S53) → List (S108) → List (S138) → Option (Bool)
  | 0, _, _, _, _, _, _, _, _, _, _ => none
  | k + 1, x10, x12, x13, x14, x247000, x247001, x247002, x247003, x247004, x247005 => if x14 < x12 then (if 0 ≤ x14 then (if x14 < (x13.length : Int) then (interlocutorlaw6_LexBlanks.l0 k x10 x12 (x13.set (x14 : Int).toNat 32) (wrap64 (x14 + 1)) x247000 x247001 x247002 x247003 x247004 x247005) else (none)) else (none)) else ((lex_Tokens.f x247000 x247001 x247002 x247003 x247004 x247005 x10).bind fun t259 => ((lex_At.f k t259 0).bind fun t262 => (if x13.length + x10.length < 17592186044416 then ((lex_Tokens.f x247000 x247001 x247002 x247003 x247004 x247005 (x13 ++ x10)).bind fun t268 => ((lex_At.f k t268 0).bind fun t271 => (if (t262.length : Int) = (t271.length : Int) then (interlocutorlaw6_LexBlanks.l1 k x12 t262 t271 0) else (some false)))) else (none))))
def interlocutorlaw6_LexBlanks.l1 : Nat → Int → List (S47) → List (S47) → Int → Option (Bool)
  | 0, _, _, _, _ => none
  | k + 1, x12, x15, x16, x17 => if x17 < (x15.length : Int) then (if 0 ≤ x17 then (if x17 < (x16.length : Int) then (if (!(((rd_T47 x16 x17).f0) == ((rd_T47 x15 x17).f0)) || (!(((rd_T47 x16 x17).f1) == (wrap64 (((rd_T47 x15 x17).f1) + x12))) || (!(((rd_T47 x16 x17).f2) == ((rd_T47 x15 x17).f2)) || (!(((rd_T47 x16 x17).f3) == ((rd_T47 x15 x17).f3)) || (!(((rd_T47 x16 x17).f4) == ((rd_T47 x15 x17).f4))))))) = true then (some false) else (interlocutorlaw6_LexBlanks.l1 k x12 x15 x16 (wrap64 (x17 + 1)))) else (none)) else (none)) else (some true)
end
def interlocutorlaw6_LexBlanks.f (k : Nat) (a0_0 : Int) (a0_1 : Int) (a0_2 : Int) (a0_3 : Int) (l0_4 : List (S85)) (a0_5 : Bool) (a1 : Int) (l2 : List Int) (a3 : Int) : Option (Bool) := (interlocutorlaw6_known.f k).bind fun t232 => (if t232 = true then ((interlocutorlaw5_Shape_Few.f k a0_0 a0_1 a0_2 a0_3 l0_4 a0_5).bind fun t233 => (if t233 = true then ((interlocutorlaw6_Locale.f k a0_0 a0_1 a0_2 a0_3 l0_4 a0_5 a1).bind fun bt234 => ((interlocutorlaw6_Text.f k l2 10).bind fun t247 => ((interlocutorref3_Fold.f k t247).bind fun bt248 => ((interlocutorlaw6_within.f a3 6).bind fun t254 => (if 0 ≤ t254 then (if (t254 : Int).toNat ≤ 35184372088832 then (interlocutorlaw6_LexBlanks.l0 k bt248.1 t254 (List.replicate (t254 : Int).toNat 0) 0 bt234.1 bt234.2.1 bt234.2.2.1 bt234.2.2.2.1 bt234.2.2.2.2.1 bt234.2.2.2.2.2) else (none)) else (none)))))) else (some true))) else (some false))
theorem interlocutorlaw6_LexBlanks.mono_l : ∀ k, (∀ y0 y1 y2 y3 y4 y5 y6 y7 y8 y9, LeO (interlocutorlaw6_LexBlanks.l0 k y0 y1 y2 y3 y4 y5 y6 y7 y8 y9) (interlocutorlaw6_LexBlanks.l0 (k + 1) y0 y1 y2 y3 y4 y5 y6 y7 y8 y9)) ∧ (∀ y0 y1 y2 y3, LeO (interlocutorlaw6_LexBlanks.l1 k y0 y1 y2 y3) (interlocutorlaw6_LexBlanks.l1 (k + 1) y0 y1 y2 y3))
  | 0 => ⟨fun _ _ _ _ _ _ _ _ _ _ r h => by simp [interlocutorlaw6_LexBlanks.l0] at h, fun _ _ _ _ r h => by simp [interlocutorlaw6_LexBlanks.l1] at h⟩
  | k + 1 => by
    obtain ⟨ih0, ih1⟩ := interlocutorlaw6_LexBlanks.mono_l k
    refine ⟨?_, ?_⟩
    · intro y0 y1 y2 y3 y4 y5 y6 y7 y8 y9
      unfold interlocutorlaw6_LexBlanks.l0
      repeat' first
      | (with_reducible exact ih0 _ _ _ _ _ _ _ _ _ _)
      | (with_reducible exact ih1 _ _ _ _)
      | (with_reducible exact interlocutorlaw5_Shape_Few.mono _ _ _ _ _ _ _)
      | (with_reducible exact interlocutorlaw6_Locale.mono _ _ _ _ _ _ _ _)
      | (with_reducible exact interlocutorlaw6_Text.mono _ _ _)
      | (with_reducible exact interlocutorlaw6_known.mono _)
      | (with_reducible exact interlocutorref3_Fold.mono _ _)
      | (with_reducible exact lex_At.mono _ _ _)
      | (with_reducible exact LeO.refl _)
      | (with_reducible exact LeO.none _)
      | (with_reducible refine LeO.ite ?_ ?_)
      | (with_reducible refine LeO.bind ?_ (fun _ => ?_))
      | exact ih0 _ _ _ _ _ _ _ _ _ _
      | exact ih1 _ _ _ _
      | exact interlocutorlaw5_Shape_Few.mono _ _ _ _ _ _ _
      | exact interlocutorlaw6_Locale.mono _ _ _ _ _ _ _ _
      | exact interlocutorlaw6_Text.mono _ _ _
      | exact interlocutorlaw6_known.mono _
      | exact interlocutorref3_Fold.mono _ _
      | exact lex_At.mono _ _ _
      | exact LeO.none _
      | refine LeO.ite ?_ ?_
      | refine LeO.bind ?_ (fun _ => ?_)
    · intro y0 y1 y2 y3
      unfold interlocutorlaw6_LexBlanks.l1
      repeat' first
      | (with_reducible exact ih0 _ _ _ _ _ _ _ _ _ _)
      | (with_reducible exact ih1 _ _ _ _)
      | (with_reducible exact interlocutorlaw5_Shape_Few.mono _ _ _ _ _ _ _)
      | (with_reducible exact interlocutorlaw6_Locale.mono _ _ _ _ _ _ _ _)
      | (with_reducible exact interlocutorlaw6_Text.mono _ _ _)
      | (with_reducible exact interlocutorlaw6_known.mono _)
      | (with_reducible exact interlocutorref3_Fold.mono _ _)
      | (with_reducible exact lex_At.mono _ _ _)
      | (with_reducible exact LeO.refl _)
      | (with_reducible exact LeO.none _)
      | (with_reducible refine LeO.ite ?_ ?_)
      | (with_reducible refine LeO.bind ?_ (fun _ => ?_))
      | exact ih0 _ _ _ _ _ _ _ _ _ _
      | exact ih1 _ _ _ _
      | exact interlocutorlaw5_Shape_Few.mono _ _ _ _ _ _ _
      | exact interlocutorlaw6_Locale.mono _ _ _ _ _ _ _ _
      | exact interlocutorlaw6_Text.mono _ _ _
      | exact interlocutorlaw6_known.mono _
      | exact interlocutorref3_Fold.mono _ _
      | exact lex_At.mono _ _ _
      | exact LeO.none _
      | refine LeO.ite ?_ ?_
      | refine LeO.bind ?_ (fun _ => ?_)
def interlocutorlaw6_LexBlanks.T13 : Bool × List (List Nat × List Nat) := (true, [([], []), ([], []), ([0, 1], [0, 1]), ([2, 2], [2]), ([], []), ([], []), ([], []), ([5, 6, 3], [5, 6]), ([4, 7, 7], [4, 7]), ([8, 8], [8]), ([3, 9, 0, 1, 2, 3], [3]), ([9, 10, 0, 1, 2, 3, 4, 5, 6, 7, 8, 9, 10], [9])])
def interlocutorlaw6_LexBlanks.B13 : List Nat := [0, 0, 3, 7, 0, 0, 0, 111, 255, 511, 1023, 2047]
theorem interlocutorlaw6_LexBlanks.tab13 : rtab .any (opsOf Try.f5 13) = interlocutorlaw6_LexBlanks.T13 := by kernel_rfl
theorem interlocutorlaw6_LexBlanks.bits13 : waitsOk interlocutorlaw6_LexBlanks.T13.2 interlocutorlaw6_LexBlanks.B13 = true := by kernel_rfl
set_option maxHeartbeats 8000000 in
set_option maxRecDepth 100000 in
theorem interlocutorlaw6_LexBlanks.calls (k : Nat) (a0_0 : Int) (a0_1 : Int) (a0_2 : Int) (a0_3 : Int) (A0_4 : Option Addr) (c0_4 : Nat) (l0_4 : List (S85)) (a0_5 : Bool) (a1 : Int) (A2 : Option Addr) (c2 : Nat) (l2 : List Int) (a3 : Int) (r : Bool) (w : World) (hr0_4 : Kd.C k85 w A0_4 l0_4.length l0_4) (hc0_4 : l0_4.length ≤ c0_4) (hr2 : Kd.C (Kd.int .i64) w A2 l2.length l2) (hc2 : l2.length ≤ c2) (h : interlocutorlaw6_LexBlanks.f k a0_0 a0_1 a0_2 a0_3 l0_4 a0_5 a1 l2 a3 = some r) :
    Calls Try.prog 5 #[.agg #[.int .i64 a0_0, .int .i64 a0_1, .int .i64 a0_2, .int .i64 a0_3, .slice A0_4 l0_4.length c0_4, .bool a0_5], .int .i64 a1, .slice A2 l2.length c2, .int .i64 a3] w fun e w' => e = .returned (.bool r) ∧ Below w.heap.size w w' := by
  have hu24 := Try.underlying24
  have hu32 := Try.underlying32
  have hu47 := Try.underlying47
  have HR0_4 := Aside0.mk hr0_4
  have HC0_4 := Aside0.mk hc0_4
  clear hr0_4 hc0_4
  have HR2 := Aside0.mk hr2
  have HC2 := Aside0.mk hc2
  clear hr2 hc2
  have HB := Aside0.mk (Below.refl w.heap.size w)
  have H : ((interlocutorlaw6_known.f k).bind fun t232 => (if t232 = true then ((interlocutorlaw5_Shape_Few.f k a0_0 a0_1 a0_2 a0_3 l0_4 a0_5).bind fun t233 => (if t233 = true then ((interlocutorlaw6_Locale.f k a0_0 a0_1 a0_2 a0_3 l0_4 a0_5 a1).bind fun bt234 => ((interlocutorlaw6_Text.f k l2 10).bind fun t247 => ((interlocutorref3_Fold.f k t247).bind fun bt248 => ((interlocutorlaw6_within.f a3 6).bind fun t254 => (if 0 ≤ t254 then (if (t254 : Int).toNat ≤ 35184372088832 then (interlocutorlaw6_LexBlanks.l0 k bt248.1 t254 (List.replicate (t254 : Int).toNat 0) 0 bt234.1 bt234.2.1 bt234.2.2.1 bt234.2.2.2.1 bt234.2.2.2.2.1 bt234.2.2.2.2.2) else (none)) else (none)))))) else (some true))) else (some false))) = some r := h
  clear h
  replace H := Option.bind_eq_some_iff.mp H
  obtain ⟨t232, A50, H⟩ := H
  replace H : (if t232 = true then ((interlocutorlaw5_Shape_Few.f k a0_0 a0_1 a0_2 a0_3 l0_4 a0_5).bind fun t233 => (if t233 = true then ((interlocutorlaw6_Locale.f k a0_0 a0_1 a0_2 a0_3 l0_4 a0_5 a1).bind fun bt234 => ((interlocutorlaw6_Text.f k l2 10).bind fun t247 => ((interlocutorref3_Fold.f k t247).bind fun bt248 => ((interlocutorlaw6_within.f a3 6).bind fun t254 => (if 0 ≤ t254 then (if (t254 : Int).toNat ≤ 35184372088832 then (interlocutorlaw6_LexBlanks.l0 k bt248.1 t254 (List.replicate (t254 : Int).toNat 0) 0 bt234.1 bt234.2.1 bt234.2.2.1 bt234.2.2.2.1 bt234.2.2.2.2.1 bt234.2.2.2.2.2) else (none)) else (none)))))) else (some true))) else (some false)) = some r := H
  have A5 := Aside0.mk A50
  clear A50
  by_cases c6 : t232 = true
  · subst c6
    have H1 : ((interlocutorlaw5_Shape_Few.f k a0_0 a0_1 a0_2 a0_3 l0_4 a0_5).bind fun t233 => (if t233 = true then ((interlocutorlaw6_Locale.f k a0_0 a0_1 a0_2 a0_3 l0_4 a0_5 a1).bind fun bt234 => ((interlocutorlaw6_Text.f k l2 10).bind fun t247 => ((interlocutorref3_Fold.f k t247).bind fun bt248 => ((interlocutorlaw6_within.f a3 6).bind fun t254 => (if 0 ≤ t254 then (if (t254 : Int).toNat ≤ 35184372088832 then (interlocutorlaw6_LexBlanks.l0 k bt248.1 t254 (List.replicate (t254 : Int).toNat 0) 0 bt234.1 bt234.2.1 bt234.2.2.1 bt234.2.2.2.1 bt234.2.2.2.2.1 bt234.2.2.2.2.2) else (none)) else (none)))))) else (some true))) = some r := by rw [if_pos rfl] at H; exact H
    clear H
    have H := H1
    clear H1
    replace H := Option.bind_eq_some_iff.mp H
    obtain ⟨t233, A70, H⟩ := H
    replace H : (if t233 = true then ((interlocutorlaw6_Locale.f k a0_0 a0_1 a0_2 a0_3 l0_4 a0_5 a1).bind fun bt234 => ((interlocutorlaw6_Text.f k l2 10).bind fun t247 => ((interlocutorref3_Fold.f k t247).bind fun bt248 => ((interlocutorlaw6_within.f a3 6).bind fun t254 => (if 0 ≤ t254 then (if (t254 : Int).toNat ≤ 35184372088832 then (interlocutorlaw6_LexBlanks.l0 k bt248.1 t254 (List.replicate (t254 : Int).toNat 0) 0 bt234.1 bt234.2.1 bt234.2.2.1 bt234.2.2.2.1 bt234.2.2.2.2.1 bt234.2.2.2.2.2) else (none)) else (none)))))) else (some true)) = some r := H
    have A7 := Aside0.mk A70
    clear A70
    by_cases c8 : t233 = true
    · subst c8
      have H1 : ((interlocutorlaw6_Locale.f k a0_0 a0_1 a0_2 a0_3 l0_4 a0_5 a1).bind fun bt234 => ((interlocutorlaw6_Text.f k l2 10).bind fun t247 => ((interlocutorref3_Fold.f k t247).bind fun bt248 => ((interlocutorlaw6_within.f a3 6).bind fun t254 => (if 0 ≤ t254 then (if (t254 : Int).toNat ≤ 35184372088832 then (interlocutorlaw6_LexBlanks.l0 k bt248.1 t254 (List.replicate (t254 : Int).toNat 0) 0 bt234.1 bt234.2.1 bt234.2.2.1 bt234.2.2.2.1 bt234.2.2.2.2.1 bt234.2.2.2.2.2) else (none)) else (none)))))) = some r := by rw [if_pos rfl] at H; exact H
      clear H
      have H := H1
      clear H1
      replace H := Option.bind_eq_some_iff.mp H
      obtain ⟨⟨t234, t235, t236, t237, t240, t243⟩, A90, H⟩ := H
      replace H : ((interlocutorlaw6_Text.f k l2 10).bind fun t247 => ((interlocutorref3_Fold.f k t247).bind fun bt248 => ((interlocutorlaw6_within.f a3 6).bind fun t254 => (if 0 ≤ t254 then (if (t254 : Int).toNat ≤ 35184372088832 then (interlocutorlaw6_LexBlanks.l0 k bt248.1 t254 (List.replicate (t254 : Int).toNat 0) 0 t234 t235 t236 t237 t240 t243) else (none)) else (none))))) = some r := H
      have A9 := Aside0.mk A90
      clear A90
      replace H := Option.bind_eq_some_iff.mp H
      obtain ⟨t247, A100, H⟩ := H
      replace H : ((interlocutorref3_Fold.f k t247).bind fun bt248 => ((interlocutorlaw6_within.f a3 6).bind fun t254 => (if 0 ≤ t254 then (if (t254 : Int).toNat ≤ 35184372088832 then (interlocutorlaw6_LexBlanks.l0 k bt248.1 t254 (List.replicate (t254 : Int).toNat 0) 0 t234 t235 t236 t237 t240 t243) else (none)) else (none)))) = some r := H
      have A10 := Aside0.mk A100
      clear A100
      replace H := Option.bind_eq_some_iff.mp H
      obtain ⟨⟨t248, t249⟩, A110, H⟩ := H
      replace H : ((interlocutorlaw6_within.f a3 6).bind fun t254 => (if 0 ≤ t254 then (if (t254 : Int).toNat ≤ 35184372088832 then (interlocutorlaw6_LexBlanks.l0 k t248 t254 (List.replicate (t254 : Int).toNat 0) 0 t234 t235 t236 t237 t240 t243) else (none)) else (none))) = some r := H
      have A11 := Aside0.mk A110
      clear A110
      replace H := Option.bind_eq_some_iff.mp H
      obtain ⟨t254, A120, H⟩ := H
      replace H : (if 0 ≤ t254 then (if (t254 : Int).toNat ≤ 35184372088832 then (interlocutorlaw6_LexBlanks.l0 k t248 t254 (List.replicate (t254 : Int).toNat 0) 0 t234 t235 t236 t237 t240 t243) else (none)) else (none)) = some r := H
      have A12 := Aside0.mk A120
      clear A120
      by_cases c13 : 0 ≤ t254
      · rw [if_pos c13] at H
        have c13b0 := eq_true c13
        have c13b1 : decide (0 ≤ t254) = true := decide_eq_true c13
        clear c13
        by_cases c14 : (t254 : Int).toNat ≤ 35184372088832
        · rw [if_pos c14] at H
          have c14b0 := eq_true c14
          have c14b1 : decide ((t254 : Int).toNat ≤ 35184372088832) = true := decide_eq_true c14
          clear c14
          obtain ⟨y255, hy255⟩ : ∃ y_ : List Int, y_ = (List.replicate (t254 : Int).toNat 0) := ⟨_, rfl⟩
          replace H : (interlocutorlaw6_LexBlanks.l0 k t248 t254 y255 0 t234 t235 t236 t237 t240 t243) = some r := by first | (rw [hy255]; with_reducible exact H) | (have H2_ := (Option.bind_some _ _).symm.trans H; rw [hy255]; with_reducible exact H2_) | (have H2_ := (Option.bind_some _ _).symm.trans H; with_reducible exact H2_) | with_reducible exact H | (rw [hy255]; exact H) | exact H
          have Ny255 := Aside0.mk hy255
          clear hy255
          have H' := Aside0.mk H
          clear H
          go_enter Try.func5, Try.ntmps5
          go_wp2_with (first | ((with_reducible refine gate_dst (N := 4) rfl ?_); refine box_event ?hg (N := 4) ?hd (cs := #[.int .i64 a0_0, .int .i64 a0_1, .int .i64 a0_2, .int .i64 a0_3, .slice A0_4 l0_4.length c0_4, .bool a0_5]) (t := 24) ?hr ?_; (case hd => rfl); (case hg => rfl); (case hr => first | (go_simp; done) | (go_simp; rfl)); intro gb231 hg w15 hbox hb; have n0_ := Aside0.mk (below_step (by exact wU HB.out) hb); have n1_ := Aside0.mk (hbox); have n2_ := Aside0.mk ((by rw [hg]; exact (below_size (by exact wU HB.out)) : w.heap.size ≤ gb231)); have n3_ := Aside0.mk ((by rw [hg]; exact (below_size (by exact wU HB.out)) : w.heap.size ≤ gb231)); clear HB; have HB := n0_; have BK231 := n1_; have GW231 := n2_; have GE231 := n3_; clear n0_ n1_ n2_ n3_; clear hb hbox hg) | ((with_reducible refine gate_callee (f := 14) rfl ?_); refine goesL_ (some 19) rfl rfl Try.func14 (by kernel_rfl) rfl #[] rfl (by (try simp only [List.map_toArray, List.map_cons, List.map_nil]); first | done | rfl | (simp only [List.length_drop, List.length_take]; rfl)) ?_; (with_reducible refine (interlocutorlaw6_known.calls k  true _ A5.out).mono ?_); rintro e w16 ⟨rfl, hb⟩; refine ⟨_, rfl, ?_⟩; have n0_ := Aside0.mk (blk_below (g := gb231) (o := .cells #[.int .i64 a0_0, .int .i64 a0_1, .int .i64 a0_2, .int .i64 a0_3, .slice A0_4 l0_4.length c0_4, .bool a0_5] 24 (0, 0)) (by (with_reducible repeat (first | refine blk_drewN ?_ _ | refine blk_drew ?_ | refine blk_alloc ?_ _)); exact BK231.out) hb); have n1_ := Aside0.mk (below_step (by exact wS HB.out GE231.out) hb); clear BK231; clear HB; have BK231 := n0_; have HB := n1_; clear n0_ n1_; (try clear hb); (try clear hb2); (try clear hk); (try clear hi); have hcz17_0 : w16.cell? ⟨gb231, 0, none⟩ = some (.int .i64 a0_0) := (blk_cell BK231.out 0).trans rfl; have hcz17_1 : w16.cell? ⟨gb231, 1, none⟩ = some (.int .i64 a0_1) := (blk_cell BK231.out 1).trans rfl; have hcz17_2 : w16.cell? ⟨gb231, 2, none⟩ = some (.int .i64 a0_2) := (blk_cell BK231.out 2).trans rfl; have hcz17_3 : w16.cell? ⟨gb231, 3, none⟩ = some (.int .i64 a0_3) := (blk_cell BK231.out 3).trans rfl; have hcz17_4 : w16.cell? ⟨gb231, 4, none⟩ = some (.slice A0_4 l0_4.length c0_4) := (blk_cell BK231.out 4).trans rfl; have hcz17_5 : w16.cell? ⟨gb231, 5, none⟩ = some (.bool a0_5) := (blk_cell BK231.out 5).trans rfl; have hfz17_0 := blk_frozen BK231.out 0; have hfz17_1 := blk_frozen BK231.out 1; have hfz17_2 := blk_frozen BK231.out 2; have hfz17_3 := blk_frozen BK231.out 3; have hfz17_4 := blk_frozen BK231.out 4; have hfz17_5 := blk_frozen BK231.out 5) | ((with_reducible refine gate_callee (f := 15) rfl ?_); refine goesL_ (some 22) rfl rfl Try.func15 (by kernel_rfl) rfl #[.agg #[.int .i64 a0_0, .int .i64 a0_1, .int .i64 a0_2, .int .i64 a0_3, .slice A0_4 l0_4.length c0_4, .bool a0_5]] rfl (by (try simp only [List.map_toArray, List.map_cons, List.map_nil]); first | done | rfl | (simp only [List.length_drop, List.length_take]; rfl)) ?_; (with_reducible refine (interlocutorlaw5_Shape_Few.calls k a0_0 a0_1 a0_2 a0_3 _ _ l0_4 a0_5 true _ ?side1 ?side2 A7.out).mono ?_); (case side1 => repeat (first | exact (Kd.C_below HR0_4.out HB.out) | (with_reducible refine Kd.C_alloc ?_ _) | (with_reducible refine Kd.C_drewN ?_ _) | (with_reducible refine Kd.C_drew ?_))); (case side2 => exact HC0_4.out); rintro e w18 ⟨rfl, hb⟩; refine ⟨_, rfl, ?_⟩; have n0_ := Aside0.mk (blk_below (g := gb231) (o := .cells #[.int .i64 a0_0, .int .i64 a0_1, .int .i64 a0_2, .int .i64 a0_3, .slice A0_4 l0_4.length c0_4, .bool a0_5] 24 (0, 0)) (by (with_reducible repeat (first | refine blk_drewN ?_ _ | refine blk_drew ?_ | refine blk_alloc ?_ _)); exact BK231.out) hb); have n1_ := Aside0.mk (below_step (by exact wS HB.out GE231.out) hb); clear BK231; clear HB; have BK231 := n0_; have HB := n1_; clear n0_ n1_; (try clear hb); (try clear hb2); (try clear hk); (try clear hi); have hcz19_0 : w18.cell? ⟨gb231, 0, none⟩ = some (.int .i64 a0_0) := (blk_cell BK231.out 0).trans rfl; have hcz19_1 : w18.cell? ⟨gb231, 1, none⟩ = some (.int .i64 a0_1) := (blk_cell BK231.out 1).trans rfl; have hcz19_2 : w18.cell? ⟨gb231, 2, none⟩ = some (.int .i64 a0_2) := (blk_cell BK231.out 2).trans rfl; have hcz19_3 : w18.cell? ⟨gb231, 3, none⟩ = some (.int .i64 a0_3) := (blk_cell BK231.out 3).trans rfl; have hcz19_4 : w18.cell? ⟨gb231, 4, none⟩ = some (.slice A0_4 l0_4.length c0_4) := (blk_cell BK231.out 4).trans rfl; have hcz19_5 : w18.cell? ⟨gb231, 5, none⟩ = some (.bool a0_5) := (blk_cell BK231.out 5).trans rfl; have hfz19_0 := blk_frozen BK231.out 0; have hfz19_1 := blk_frozen BK231.out 1; have hfz19_2 := blk_frozen BK231.out 2; have hfz19_3 := blk_frozen BK231.out 3; have hfz19_4 := blk_frozen BK231.out 4; have hfz19_5 := blk_frozen BK231.out 5) | ((with_reducible refine gate_callee (f := 16) rfl ?_); refine goesL_ (some 26) rfl rfl Try.func16 (by kernel_rfl) rfl #[.agg #[.int .i64 a0_0, .int .i64 a0_1, .int .i64 a0_2, .int .i64 a0_3, .slice A0_4 l0_4.length c0_4, .bool a0_5], .int .i64 a1] rfl (by (try simp only [List.map_toArray, List.map_cons, List.map_nil]); first | done | rfl | (simp only [List.length_drop, List.length_take]; rfl)) ?_; (with_reducible refine (interlocutorlaw6_Locale.calls k a0_0 a0_1 a0_2 a0_3 _ _ l0_4 a0_5 a1 t234 t235 t236 t237 t240 t243 _ ?side1 ?side2 A9.out).mono ?_); (case side1 => repeat (first | exact (Kd.C_below HR0_4.out HB.out) | (with_reducible refine Kd.C_alloc ?_ _) | (with_reducible refine Kd.C_drewN ?_ _) | (with_reducible refine Kd.C_drew ?_))); (case side2 => exact HC0_4.out); rintro e w20 ⟨v238, v241, v244, rfl, ho0, ho1, ho2, hb⟩; refine ⟨_, rfl, ?_⟩; have n0_ := Aside0.mk (Kd.V_lower (Kd.V_mono (ok' := fun k_ => k_ ≠ gb231) ho0 (fun k_ hk_ => (Kd.freshB (g := gb231) (o := .cells #[.int .i64 a0_0, .int .i64 a0_1, .int .i64 a0_2, .int .i64 a0_3, .slice A0_4 l0_4.length c0_4, .bool a0_5] 24 (0, 0)) (by (with_reducible repeat (first | refine blk_drewN ?_ _ | refine blk_drew ?_ | refine blk_alloc ?_ _)); exact BK231.out) k_ hk_))) (below_size (by exact wS HB.out GE231.out))); have n1_ := Aside0.mk (Kd.V_lower (Kd.V_mono (ok' := fun k_ => k_ ≠ gb231) ho1 (fun k_ hk_ => (Kd.freshB (g := gb231) (o := .cells #[.int .i64 a0_0, .int .i64 a0_1, .int .i64 a0_2, .int .i64 a0_3, .slice A0_4 l0_4.length c0_4, .bool a0_5] 24 (0, 0)) (by (with_reducible repeat (first | refine blk_drewN ?_ _ | refine blk_drew ?_ | refine blk_alloc ?_ _)); exact BK231.out) k_ hk_))) (below_size (by exact wS HB.out GE231.out))); have n2_ := Aside0.mk (Kd.V_lower (Kd.V_mono (ok' := fun k_ => k_ ≠ gb231) ho2 (fun k_ hk_ => (Kd.freshB (g := gb231) (o := .cells #[.int .i64 a0_0, .int .i64 a0_1, .int .i64 a0_2, .int .i64 a0_3, .slice A0_4 l0_4.length c0_4, .bool a0_5] 24 (0, 0)) (by (with_reducible repeat (first | refine blk_drewN ?_ _ | refine blk_drew ?_ | refine blk_alloc ?_ _)); exact BK231.out) k_ hk_))) (below_size (by exact wS HB.out GE231.out))); have n3_ := Aside0.mk (blk_below (g := gb231) (o := .cells #[.int .i64 a0_0, .int .i64 a0_1, .int .i64 a0_2, .int .i64 a0_3, .slice A0_4 l0_4.length c0_4, .bool a0_5] 24 (0, 0)) (by (with_reducible repeat (first | refine blk_drewN ?_ _ | refine blk_drew ?_ | refine blk_alloc ?_ _)); exact BK231.out) hb); have n4_ := Aside0.mk (below_step (by exact wS HB.out GE231.out) hb); clear BK231; clear HB; have HO239 := n0_; have HO242 := n1_; have HO245 := n2_; have BK231 := n3_; have HB := n4_; clear n0_ n1_ n2_ n3_ n4_; (try clear hb); (try clear hb2); (try clear hk); (try clear hi); (try clear ho0); (try clear ho1); (try clear ho2)) | ((with_reducible refine gate_dst (N := 9) rfl ?_); refine box_event ?hg (N := 9) ?hd (cs := #[.string (⟨#[]⟩ : ByteArray), .int .i64 0, .int .i64 0, .slice none 0 0, .slice none 0 0, .slice none 0 0]) (t := 32) ?hr ?_; (case hd => rfl); (case hg => rfl); (case hr => first | (go_simp; done) | (go_simp; rfl)); intro gb246 hg w21 hbox hb; have n0_ := Aside0.mk (Kd.V_below (Kd.V_elderB (by exact vU HO239.out) gb246 (Nat.le_of_eq hg.symm)) hb); have n1_ := Aside0.mk (Kd.V_below (Kd.V_elderB (by exact vU HO242.out) gb246 (Nat.le_of_eq hg.symm)) hb); have n2_ := Aside0.mk (Kd.V_below (Kd.V_elderB (by exact vU HO245.out) gb246 (Nat.le_of_eq hg.symm)) hb); have n3_ := Aside0.mk (blk_below (g := gb231) (o := .cells #[.int .i64 a0_0, .int .i64 a0_1, .int .i64 a0_2, .int .i64 a0_3, .slice A0_4 l0_4.length c0_4, .bool a0_5] 24 (0, 0)) (by (with_reducible repeat (first | refine blk_drewN ?_ _ | refine blk_drew ?_ | refine blk_alloc ?_ _)); exact BK231.out) hb); have n4_ := Aside0.mk (below_step (by exact wS HB.out GE231.out) hb); have n5_ := Aside0.mk (hbox); have n6_ := Aside0.mk ((by rw [hg]; exact (below_size (by exact wS HB.out GE231.out)) : w.heap.size ≤ gb246)); have n7_ := Aside0.mk ((by rw [hg]; exact (below_size (by exact wS HB.out GE231.out)) : w.heap.size ≤ gb246)); have n8_ := Aside0.mk ((by rw [hg]; exact Nat.ne_of_lt (blk_lt (g := gb231) (o := .cells #[.int .i64 a0_0, .int .i64 a0_1, .int .i64 a0_2, .int .i64 a0_3, .slice A0_4 l0_4.length c0_4, .bool a0_5] 24 (0, 0)) (by (with_reducible repeat (first | refine blk_drewN ?_ _ | refine blk_drew ?_ | refine blk_alloc ?_ _)); exact BK231.out)) : gb231 ≠ gb246)); have n9_ := Aside0.mk ((by rw [hg]; exact Nat.ne_of_gt (blk_lt (g := gb231) (o := .cells #[.int .i64 a0_0, .int .i64 a0_1, .int .i64 a0_2, .int .i64 a0_3, .slice A0_4 l0_4.length c0_4, .bool a0_5] 24 (0, 0)) (by (with_reducible repeat (first | refine blk_drewN ?_ _ | refine blk_drew ?_ | refine blk_alloc ?_ _)); exact BK231.out)) : gb246 ≠ gb231)); clear HO239; clear HO242; clear HO245; clear BK231; clear HB; have HO239 := n0_; have HO242 := n1_; have HO245 := n2_; have BK231 := n3_; have HB := n4_; have BK246 := n5_; have GW246 := n6_; have GE246 := n7_; have NB231_246 := n8_; have NB246_231 := n9_; clear n0_ n1_ n2_ n3_ n4_ n5_ n6_ n7_ n8_ n9_; clear hb hbox hg; have hnb22 := NB246_231.out; have hnc22 := NB231_246.out; have hcz23_0 : w21.cell? ⟨gb246, 0, none⟩ = some (.string (⟨#[]⟩ : ByteArray)) := (blk_cell BK246.out 0).trans rfl; have hcz23_1 : w21.cell? ⟨gb246, 1, none⟩ = some (.int .i64 0) := (blk_cell BK246.out 1).trans rfl; have hcz23_2 : w21.cell? ⟨gb246, 2, none⟩ = some (.int .i64 0) := (blk_cell BK246.out 2).trans rfl; have hcz23_3 : w21.cell? ⟨gb246, 3, none⟩ = some (.slice none 0 0) := (blk_cell BK246.out 3).trans rfl; have hcz23_4 : w21.cell? ⟨gb246, 4, none⟩ = some (.slice none 0 0) := (blk_cell BK246.out 4).trans rfl; have hcz23_5 : w21.cell? ⟨gb246, 5, none⟩ = some (.slice none 0 0) := (blk_cell BK246.out 5).trans rfl; have hfz23_0 := blk_frozen BK246.out 0; have hfz23_1 := blk_frozen BK246.out 1; have hfz23_2 := blk_frozen BK246.out 2; have hfz23_3 := blk_frozen BK246.out 3; have hfz23_4 := blk_frozen BK246.out 4; have hfz23_5 := blk_frozen BK246.out 5; obtain ⟨Ao24, co24, eo24⟩ := Kd.V_slice HO239.out; subst eo24; obtain ⟨Ao25, co25, eo25⟩ := Kd.V_slice HO242.out; subst eo25; obtain ⟨Ao26, co26, eo26⟩ := Kd.V_slice HO245.out; subst eo26) | ((with_reducible refine gate_callee (f := 17) rfl ?_); refine goesL_ (some 29) rfl rfl Try.func17 (by kernel_rfl) rfl #[.slice A2 l2.length c2, .int .i64 10] rfl (by (try simp only [List.map_toArray, List.map_cons, List.map_nil]); first | done | rfl | (simp only [List.length_drop, List.length_take]; rfl)) ?_; (with_reducible refine (interlocutorlaw6_Text.calls k _ _ l2 10 t247 _ ?side1 ?side2 A10.out).mono ?_); (case side1 => exact Kd.C_below HR2.out (by repeat (first | (with_reducible first | exact HB.out | apply below_alloc | apply pw_below_drewN | apply below_drew1 | refine below_set ?_ GE231.out | refine below_set ?_ GE246.out) | exact HB.out))); (case side2 => exact HC2.out); rintro e w27 ⟨rfl, hb⟩; refine ⟨_, rfl, ?_⟩; have n0_ := Aside0.mk (Kd.V_below (by exact vU ((Kd.V_mono (Kd.V_far (p := ⟨gb246, 5, none⟩) (Kd.V_far (p := ⟨gb246, 4, none⟩) (Kd.V_far (p := ⟨gb246, 3, none⟩) (Kd.V_far (p := ⟨gb246, 2, none⟩) (Kd.V_far (p := ⟨gb246, 1, none⟩) (Kd.V_far (p := ⟨gb246, 0, none⟩) (Kd.V_mono HO239.out (fun k_ hk => (⟨hk, hk.2⟩ : _ ∧ k_ ≠ gb246))) (fun _ hk => hk.2) (.string t234)) (fun _ hk => hk.2) (.int .i64 t235)) (fun _ hk => hk.2) (.int .i64 t236)) (fun _ hk => hk.2) (.slice Ao24 t237.length co24)) (fun _ hk => hk.2) (.slice Ao25 t240.length co25)) (fun _ hk => hk.2) (.slice Ao26 t243.length co26)) (fun _ h_ => h_.1)))) hb); have n1_ := Aside0.mk (Kd.V_below (by exact vU ((Kd.V_mono (Kd.V_far (p := ⟨gb246, 5, none⟩) (Kd.V_far (p := ⟨gb246, 4, none⟩) (Kd.V_far (p := ⟨gb246, 3, none⟩) (Kd.V_far (p := ⟨gb246, 2, none⟩) (Kd.V_far (p := ⟨gb246, 1, none⟩) (Kd.V_far (p := ⟨gb246, 0, none⟩) (Kd.V_mono HO242.out (fun k_ hk => (⟨hk, hk.2⟩ : _ ∧ k_ ≠ gb246))) (fun _ hk => hk.2) (.string t234)) (fun _ hk => hk.2) (.int .i64 t235)) (fun _ hk => hk.2) (.int .i64 t236)) (fun _ hk => hk.2) (.slice Ao24 t237.length co24)) (fun _ hk => hk.2) (.slice Ao25 t240.length co25)) (fun _ hk => hk.2) (.slice Ao26 t243.length co26)) (fun _ h_ => h_.1)))) hb); have n2_ := Aside0.mk (Kd.V_below (by exact vU ((Kd.V_mono (Kd.V_far (p := ⟨gb246, 5, none⟩) (Kd.V_far (p := ⟨gb246, 4, none⟩) (Kd.V_far (p := ⟨gb246, 3, none⟩) (Kd.V_far (p := ⟨gb246, 2, none⟩) (Kd.V_far (p := ⟨gb246, 1, none⟩) (Kd.V_far (p := ⟨gb246, 0, none⟩) (Kd.V_mono HO245.out (fun k_ hk => (⟨hk, hk.2⟩ : _ ∧ k_ ≠ gb246))) (fun _ hk => hk.2) (.string t234)) (fun _ hk => hk.2) (.int .i64 t235)) (fun _ hk => hk.2) (.int .i64 t236)) (fun _ hk => hk.2) (.slice Ao24 t237.length co24)) (fun _ hk => hk.2) (.slice Ao25 t240.length co25)) (fun _ hk => hk.2) (.slice Ao26 t243.length co26)) (fun _ h_ => h_.1)))) hb); have n3_ := Aside0.mk (blk_below (g := gb231) (o := .cells #[.int .i64 a0_0, .int .i64 a0_1, .int .i64 a0_2, .int .i64 a0_3, .slice A0_4 l0_4.length c0_4, .bool a0_5] 24 (0, 0)) (by (with_reducible repeat (first | refine blk_drewN ?_ _ | refine blk_drew ?_ | refine blk_alloc ?_ _)); refine blk_far ?_ NB231_246.out _; (with_reducible repeat (first | refine blk_drewN ?_ _ | refine blk_drew ?_ | refine blk_alloc ?_ _)); refine blk_far ?_ NB231_246.out _; (with_reducible repeat (first | refine blk_drewN ?_ _ | refine blk_drew ?_ | refine blk_alloc ?_ _)); refine blk_far ?_ NB231_246.out _; (with_reducible repeat (first | refine blk_drewN ?_ _ | refine blk_drew ?_ | refine blk_alloc ?_ _)); refine blk_far ?_ NB231_246.out _; (with_reducible repeat (first | refine blk_drewN ?_ _ | refine blk_drew ?_ | refine blk_alloc ?_ _)); refine blk_far ?_ NB231_246.out _; (with_reducible repeat (first | refine blk_drewN ?_ _ | refine blk_drew ?_ | refine blk_alloc ?_ _)); refine blk_far ?_ NB231_246.out _; (with_reducible repeat (first | refine blk_drewN ?_ _ | refine blk_drew ?_ | refine blk_alloc ?_ _)); exact BK231.out) hb); have n4_ := Aside0.mk (blk_below (g := gb246) (o := .cells #[.string t234, .int .i64 t235, .int .i64 t236, .slice Ao24 t237.length co24, .slice Ao25 t240.length co25, .slice Ao26 t243.length co26] 32 (0, 0)) (by (with_reducible repeat (first | refine blk_drewN ?_ _ | refine blk_drew ?_ | refine blk_alloc ?_ _)); refine blk_put (cs := #[.string t234, .int .i64 t235, .int .i64 t236, .slice Ao24 t237.length co24, .slice Ao25 t240.length co25, .slice none 0 0]) ?_ 5 _ rfl; (with_reducible repeat (first | refine blk_drewN ?_ _ | refine blk_drew ?_ | refine blk_alloc ?_ _)); refine blk_put (cs := #[.string t234, .int .i64 t235, .int .i64 t236, .slice Ao24 t237.length co24, .slice none 0 0, .slice none 0 0]) ?_ 4 _ rfl; (with_reducible repeat (first | refine blk_drewN ?_ _ | refine blk_drew ?_ | refine blk_alloc ?_ _)); refine blk_put (cs := #[.string t234, .int .i64 t235, .int .i64 t236, .slice none 0 0, .slice none 0 0, .slice none 0 0]) ?_ 3 _ rfl; (with_reducible repeat (first | refine blk_drewN ?_ _ | refine blk_drew ?_ | refine blk_alloc ?_ _)); refine blk_put (cs := #[.string t234, .int .i64 t235, .int .i64 0, .slice none 0 0, .slice none 0 0, .slice none 0 0]) ?_ 2 _ rfl; (with_reducible repeat (first | refine blk_drewN ?_ _ | refine blk_drew ?_ | refine blk_alloc ?_ _)); refine blk_put (cs := #[.string t234, .int .i64 0, .int .i64 0, .slice none 0 0, .slice none 0 0, .slice none 0 0]) ?_ 1 _ rfl; (with_reducible repeat (first | refine blk_drewN ?_ _ | refine blk_drew ?_ | refine blk_alloc ?_ _)); refine blk_put (cs := #[.string (⟨#[]⟩ : ByteArray), .int .i64 0, .int .i64 0, .slice none 0 0, .slice none 0 0, .slice none 0 0]) ?_ 0 _ rfl; (with_reducible repeat (first | refine blk_drewN ?_ _ | refine blk_drew ?_ | refine blk_alloc ?_ _)); exact BK246.out) hb); have n5_ := Aside0.mk (below_step (by repeat (first | (with_reducible first | exact HB.out | apply below_alloc | apply pw_below_drewN | apply below_drew1 | refine below_set ?_ GE231.out | refine below_set ?_ GE246.out) | exact HB.out)) hb); clear HO239; clear HO242; clear HO245; clear BK231; clear BK246; clear HB; have HO239 := n0_; have HO242 := n1_; have HO245 := n2_; have BK231 := n3_; have BK246 := n4_; have HB := n5_; clear n0_ n1_ n2_ n3_ n4_ n5_; (try clear hb); (try clear hb2); (try clear hk); (try clear hi)) | ((with_reducible refine gate_callee (f := 19) rfl ?_); refine goesL_ (some 30) rfl rfl Try.func19 (by kernel_rfl) rfl #[.string t247] rfl (by (try simp only [List.map_toArray, List.map_cons, List.map_nil]); first | done | rfl | (simp only [List.length_drop, List.length_take]; rfl)) ?_; (with_reducible refine (interlocutorref3_Fold.calls k t247 t248 t249 _ A11.out).mono ?_); rintro e w28 ⟨v250, v252, rfl, ho0, ho1, hb⟩; refine ⟨_, rfl, ?_⟩; have n0_ := Aside0.mk (Kd.V_mono (Kd.V_told (Kd.V_told (Kd.V_old (by exact vU HO239.out) hb) (Kd.R_base ho0)) (Kd.R_base ho1)) (fun _ h_ => h_.1)); have n1_ := Aside0.mk (Kd.V_mono (Kd.V_told (Kd.V_told (Kd.V_old (by exact vU HO242.out) hb) (Kd.R_base ho0)) (Kd.R_base ho1)) (fun _ h_ => h_.1)); have n2_ := Aside0.mk (Kd.V_mono (Kd.V_told (Kd.V_told (Kd.V_old (by exact vU HO245.out) hb) (Kd.R_base ho0)) (Kd.R_base ho1)) (fun _ h_ => h_.1)); have n3_ := Aside0.mk (Kd.R_lower ho0 (below_size (by repeat (first | (with_reducible first | exact HB.out | apply below_alloc | apply pw_below_drewN | apply below_drew1 | refine below_set ?_ GE231.out | refine below_set ?_ GE246.out) | exact HB.out)))); have n4_ := Aside0.mk (Kd.R_lower ho1 (below_size (by repeat (first | (with_reducible first | exact HB.out | apply below_alloc | apply pw_below_drewN | apply below_drew1 | refine below_set ?_ GE231.out | refine below_set ?_ GE246.out) | exact HB.out)))); have n5_ := Aside0.mk (blk_below (g := gb231) (o := .cells #[.int .i64 a0_0, .int .i64 a0_1, .int .i64 a0_2, .int .i64 a0_3, .slice A0_4 l0_4.length c0_4, .bool a0_5] 24 (0, 0)) (by (with_reducible repeat (first | refine blk_drewN ?_ _ | refine blk_drew ?_ | refine blk_alloc ?_ _)); exact BK231.out) hb); have n6_ := Aside0.mk (blk_below (g := gb246) (o := .cells #[.string t234, .int .i64 t235, .int .i64 t236, .slice Ao24 t237.length co24, .slice Ao25 t240.length co25, .slice Ao26 t243.length co26] 32 (0, 0)) (by (with_reducible repeat (first | refine blk_drewN ?_ _ | refine blk_drew ?_ | refine blk_alloc ?_ _)); exact BK246.out) hb); have n7_ := Aside0.mk (below_step (by repeat (first | (with_reducible first | exact HB.out | apply below_alloc | apply pw_below_drewN | apply below_drew1 | refine below_set ?_ GE231.out | refine below_set ?_ GE246.out) | exact HB.out)) hb); clear HO239; clear HO242; clear HO245; clear BK231; clear BK246; clear HB; have HO239 := n0_; have HO242 := n1_; have HO245 := n2_; have HO251 := n3_; have HO253 := n4_; have BK231 := n5_; have BK246 := n6_; have HB := n7_; clear n0_ n1_ n2_ n3_ n4_ n5_ n6_ n7_; (try clear hb); (try clear hb2); (try clear hk); (try clear hi); (try clear ho0); (try clear ho1)) | ((with_reducible refine gate_callee (f := 27) rfl ?_); refine goesL_ (some 34) rfl rfl Try.func27 (by kernel_rfl) rfl #[.int .i64 a3, .int .i64 6] rfl (by (try simp only [List.map_toArray, List.map_cons, List.map_nil]); first | done | rfl | (simp only [List.length_drop, List.length_take]; rfl)) ?_; (with_reducible refine (interlocutorlaw6_within.calls a3 6 t254 _ A12.out).mono ?_); rintro e w' ⟨rfl, ⟨nd, rfl⟩⟩; refine ⟨_, rfl, ?_⟩) | ((with_reducible refine gate_dst (N := 36) rfl ?_); refine Kd.R_make (Kd.int .i64) _ 3 rfl (N := 36) rfl 25 _ _ rfl t254 rfl rfl Try.underlying25 (.int .i64 0) 8 info3 rfl (by decide) (by omega) 0 (ok := fun _ => True) (okp := fun _ => True) rfl (fun _ hk => hk) trivial (of_decide_eq_true (by first | (with_reducible assumption) | assumption)) (Nat.le_trans (Nat.mul_le_mul_right _ (of_decide_eq_true (by first | (with_reducible assumption) | assumption) : t254.toNat ≤ 35184372088832)) (by omega)) (Below.refl _ _) (Nat.le_refl _) ?_; intro v256 w29 ho30 hb hg_ hnew_; clear hg_ hnew_; (first | rw [← Ny255.out] at ho30 | (simp only [Int.reduceToNat] at ho30; rw [← Ny255.out] at ho30)); have n0_ := Aside0.mk (Kd.V_elder' (by exact vU HO239.out) (Kd.R_base ho30) hb); have n1_ := Aside0.mk (Kd.V_elder' (by exact vU HO242.out) (Kd.R_base ho30) hb); have n2_ := Aside0.mk (Kd.V_elder' (by exact vU HO245.out) (Kd.R_base ho30) hb); have n3_ := Aside0.mk (Kd.R_elder' (by (with_reducible repeat (first | apply Kd.R_alloc | apply Kd.R_drewN | apply Kd.R_drew)); exact HO251.out) (Kd.R_base ho30) hb); have n4_ := Aside0.mk (Kd.R_elder' (by (with_reducible repeat (first | apply Kd.R_alloc | apply Kd.R_drewN | apply Kd.R_drew)); exact HO253.out) (Kd.R_base ho30) hb); have n5_ := Aside0.mk (Kd.R_lower (Kd.R_new' (Kd.R_new' ho30 (Kd.R_lt (by (with_reducible repeat (first | apply Kd.R_alloc | apply Kd.R_drewN | apply Kd.R_drew)); exact HO251.out))) (Kd.R_lt (by (with_reducible repeat (first | apply Kd.R_alloc | apply Kd.R_drewN | apply Kd.R_drew)); exact HO253.out))) (below_size (by repeat (first | (with_reducible first | exact HB.out | apply below_alloc | apply pw_below_drewN | apply below_drew1 | refine below_set ?_ GE231.out | refine below_set ?_ GE246.out) | exact HB.out)))); have n6_ := Aside0.mk (blk_below (g := gb231) (o := .cells #[.int .i64 a0_0, .int .i64 a0_1, .int .i64 a0_2, .int .i64 a0_3, .slice A0_4 l0_4.length c0_4, .bool a0_5] 24 (0, 0)) (by (with_reducible repeat (first | refine blk_drewN ?_ _ | refine blk_drew ?_ | refine blk_alloc ?_ _)); exact BK231.out) hb); have n7_ := Aside0.mk (blk_below (g := gb246) (o := .cells #[.string t234, .int .i64 t235, .int .i64 t236, .slice Ao24 t237.length co24, .slice Ao25 t240.length co25, .slice Ao26 t243.length co26] 32 (0, 0)) (by (with_reducible repeat (first | refine blk_drewN ?_ _ | refine blk_drew ?_ | refine blk_alloc ?_ _)); exact BK246.out) hb); have n8_ := Aside0.mk (below_step (by repeat (first | (with_reducible first | exact HB.out | apply below_alloc | apply pw_below_drewN | apply below_drew1 | refine below_set ?_ GE231.out | refine below_set ?_ GE246.out) | exact HB.out)) hb); clear HO239; clear HO242; clear HO245; clear HO251; clear HO253; clear BK231; clear BK246; clear HB; have HO239 := n0_; have HO242 := n1_; have HO245 := n2_; have HO251 := n3_; have HO253 := n4_; have HO257 := n5_; have BK231 := n6_; have BK246 := n7_; have HB := n8_; clear n0_ n1_ n2_ n3_ n4_ n5_ n6_ n7_ n8_; clear hb ho30))
          go_loopg [14] k (fun kq v14 w' => ∃ (x13_1 : List Int) (x14_1 : Int), v14 = .int .i64 x14_1 ∧ Aside0 (interlocutorlaw6_LexBlanks.l0 kq t248 t254 x13_1 x14_1 t234 t235 t236 t237 t240 t243 = some r) ∧ Aside0 (kq ≤ k) ∧ Aside0 (Kd.R (Kd.int .i64) 3 w' w.heap.size (fun k_ => some k_ ≠ (v256 : Value).ownBlock) v250 t248) ∧ Aside0 (Kd.R (Kd.int .i64) 3 w' w.heap.size (fun k_ => some k_ ≠ (v250 : Value).ownBlock) v256 x13_1) ∧ Aside0 (Kd.V k53 53 w' w.heap.size (fun k_ => some k_ ≠ (v250 : Value).ownBlock ∧ some k_ ≠ (v256 : Value).ownBlock ∧ k_ ≠ gb231 ∧ k_ ≠ gb246) (.slice Ao24 t237.length co24) t237) ∧ Aside0 (Kd.V k108 108 w' w.heap.size (fun k_ => some k_ ≠ (v250 : Value).ownBlock ∧ some k_ ≠ (v256 : Value).ownBlock ∧ k_ ≠ gb231 ∧ k_ ≠ gb246) (.slice Ao25 t240.length co25) t240) ∧ Aside0 (Kd.V k138 138 w' w.heap.size (fun k_ => some k_ ≠ (v250 : Value).ownBlock ∧ some k_ ≠ (v256 : Value).ownBlock ∧ k_ ≠ gb231 ∧ k_ ≠ gb246) (.slice Ao26 t243.length co26) t243) ∧ Aside0 (w'.heap[gb231]? = some (.cells #[.int .i64 a0_0, .int .i64 a0_1, .int .i64 a0_2, .int .i64 a0_3, (.slice A0_4 l0_4.length c0_4), .bool a0_5] 24 (0, 0))) ∧ Aside0 (w'.heap[gb246]? = some (.cells #[.string t234, .int .i64 t235, .int .i64 t236, (.slice Ao24 t237.length co24), (.slice Ao25 t240.length co25), (.slice Ao26 t243.length co26)] 32 (0, 0))) ∧ Aside0 (Below w.heap.size w w'))
          case atStart => exact ⟨(y255), (0), (by first | rfl | (simp; done) | (simp [*]; done)), H', ⟨Nat.le_refl _⟩, ⟨by (with_reducible repeat (first | apply Kd.R_alloc | apply Kd.R_drewN | apply Kd.R_drew)); exact Kd.R_mono HO251.out (fun _ hk => hk.2)⟩, ⟨by (with_reducible repeat (first | apply Kd.R_alloc | apply Kd.R_drewN | apply Kd.R_drew)); exact Kd.R_mono HO257.out (fun _ hk => hk.1.2)⟩, ⟨by exact vU (Kd.V_mono HO239.out (fun _ hk => ⟨hk.1.1.2, ⟨hk.2, ⟨hk.1.1.1.1, hk.1.1.1.2⟩⟩⟩))⟩, ⟨by exact vU (Kd.V_mono HO242.out (fun _ hk => ⟨hk.1.1.2, ⟨hk.2, ⟨hk.1.1.1.1, hk.1.1.1.2⟩⟩⟩))⟩, ⟨by exact vU (Kd.V_mono HO245.out (fun _ hk => ⟨hk.1.1.2, ⟨hk.2, ⟨hk.1.1.1.1, hk.1.1.1.2⟩⟩⟩))⟩, ⟨by (with_reducible repeat (first | refine blk_drewN ?_ _ | refine blk_drew ?_ | refine blk_alloc ?_ _)); exact BK231.out⟩, ⟨by (with_reducible repeat (first | refine blk_drewN ?_ _ | refine blk_drew ?_ | refine blk_alloc ?_ _)); exact BK246.out⟩, ⟨by repeat (first | (with_reducible first | exact HB.out | apply below_alloc | apply pw_below_drewN | apply below_drew1 | refine below_set ?_ GE231.out | refine below_set ?_ GE246.out) | exact HB.out)⟩⟩
          case round =>
            clear H'
            try clear c1
            try clear c2
            try clear p2
            try clear c5
            try clear c6
            try clear c8
            try clear c13
            try clear c13b0
            try clear c13b1
            try clear c14
            try clear c14b0
            try clear c14b1
            try clear c15
            try clear c16
            try clear c17
            try clear c19
            try clear c22
            try clear c27
            try clear hcz17_0
            try clear hcz17_1
            try clear hcz17_2
            try clear hcz17_3
            try clear hcz17_4
            try clear hcz17_5
            try clear hcz19_0
            try clear hcz19_1
            try clear hcz19_2
            try clear hcz19_3
            try clear hcz19_4
            try clear hcz19_5
            try clear hcz23_0
            try clear hcz23_1
            try clear hcz23_2
            try clear hcz23_3
            try clear hcz23_4
            try clear hcz23_5
            try clear hfz17_0
            try clear hfz17_1
            try clear hfz17_2
            try clear hfz17_3
            try clear hfz17_4
            try clear hfz17_5
            try clear hfz19_0
            try clear hfz19_1
            try clear hfz19_2
            try clear hfz19_3
            try clear hfz19_4
            try clear hfz19_5
            try clear hfz23_0
            try clear hfz23_1
            try clear hfz23_2
            try clear hfz23_3
            try clear hfz23_4
            try clear hfz23_5
            obtain ⟨x13_1, x14_1, rfl, HA, HK1, HO_10, HO_13, HO_247003, HO_247004, HO_247005, BK231, BK246, HB⟩ := hrel
            cases gk with
            | zero => exact absurd HA.out (by simp [interlocutorlaw6_LexBlanks.l0])
            | succ k1 =>
              have H := HA.out
              clear HA
              simp only [interlocutorlaw6_LexBlanks.l0] at H
              by_cases c31 : x14_1 < t254
              · rw [if_pos c31] at H
                have c31b0 : decide (x14_1 < t254) = true := decide_eq_true c31
                clear c31
                by_cases c32 : 0 ≤ x14_1
                · rw [if_pos c32] at H
                  have c32b0 : decide (0 ≤ x14_1) = true := decide_eq_true c32
                  clear c32
                  by_cases c33 : x14_1 < (x13_1.length : Int)
                  · rw [if_pos c33] at H
                    have c33b0 : decide (x14_1 < (x13_1.length : Int)) = true := decide_eq_true c33
                    clear c33
                    obtain ⟨y258, hy258⟩ : ∃ y_ : List Int, y_ = (x13_1.set (x14_1 : Int).toNat 32) := ⟨_, rfl⟩
                    replace H : (interlocutorlaw6_LexBlanks.l0 k1 t248 t254 y258 (wrap64 (x14_1 + 1)) t234 t235 t236 t237 t240 t243) = some r := by first | (rw [hy258]; with_reducible exact H) | (have H2_ := (Option.bind_some _ _).symm.trans H; rw [hy258]; with_reducible exact H2_) | (have H2_ := (Option.bind_some _ _).symm.trans H; with_reducible exact H2_) | with_reducible exact H | (rw [hy258]; exact H) | exact H
                    have Ny258 := Aside0.mk hy258
                    clear hy258
                    have H' := Aside0.mk H
                    clear H
                    have p34 : 0 ≤ (x14_1 : Int) := of_decide_eq_true (by first | (with_reducible assumption) | assumption)
                    have q34 : (x14_1 : Int) < ((x13_1.length : Int) : Int) := of_decide_eq_true (by first | (with_reducible assumption) | assumption)
                    obtain ⟨go34, co34, eo34, gb34, gl34, cl34, HG34⟩ := Kd.R_form HO_13.out (by omega)
                    (first | cases eo34 | (injection eo34 with ea_ en_ ec_; (first | subst ea_ | (injection ea_ with ea_; subst ea_)); subst ec_; clear en_))
                    have GB34 := Aside0.mk gb34
                    have GG34 := Aside0.mk HG34
                    clear gb34 gl34 HG34
                    obtain ⟨hx34_0, hf34_0⟩ := Kd.R_celln 0 HO_13.out (x14_1 : Int) p34 q34
                    replace p34 := eq_true p34
                    replace q34 := eq_true q34
                    have HP35 := Kd.R_putg HO_13.out (x14_1 : Int) 32
                    go_wp2_with (first | ((with_reducible refine gate_store (t := 3) (p := 44) rfl ?_); refine store_event (t := 3) (p := 44) (v := ?vo_w36) (w1 := (wr.setCell ⟨go34, (x14_1 : Int).toNat, none⟩ (.int .i64 32))) ?hg ?ho ?hn ?hr ?_; (case ho => rfl); (case hg => rfl); (case hn => rfl); (case hr => first | (go_simp; done) | (go_simp; rfl)); intro w36 hw; have hg : wr.grownBy w36 (some go34) := (by rw [hw]; exact HP35.2); have hp_ : Kd.R (Kd.int .i64) 3 w36 w.heap.size (fun k_ => some k_ ≠ (v250 : Value).ownBlock) (.slice (some ⟨go34, 0, none⟩) x13_1.length co34) y258 := (by rw [hw, Ny258.out]; exact HP35.1); clear HP35; have n0_ := Aside0.mk (Kd.R_after (v := (.slice (some ⟨go34, 0, none⟩) x13_1.length co34)) (v1 := (.slice (some ⟨go34, 0, none⟩) x13_1.length co34)) (ok := (fun _ => True)) (by (with_reducible repeat (first | apply Kd.R_alloc | apply Kd.R_drewN | apply Kd.R_drew)); exact Kd.R_mono HO_10.out (fun _ hk => ⟨trivial, hk⟩)) hg (.inl rfl)); have n1_ := Aside0.mk (hp_); have n2_ := Aside0.mk (Kd.V_afterv (v := (.slice (some ⟨go34, 0, none⟩) x13_1.length co34)) (v1 := (.slice (some ⟨go34, 0, none⟩) x13_1.length co34)) (ok := (fun k_ => some k_ ≠ (v250 : Value).ownBlock ∧ k_ ≠ gb231 ∧ k_ ≠ gb246)) (by exact vU (Kd.V_mono HO_247003.out (fun _ hk => ⟨⟨hk.1, ⟨hk.2.2.1, hk.2.2.2⟩⟩, hk.2.1⟩))) hg (.inl rfl)); have n3_ := Aside0.mk (Kd.V_afterv (v := (.slice (some ⟨go34, 0, none⟩) x13_1.length co34)) (v1 := (.slice (some ⟨go34, 0, none⟩) x13_1.length co34)) (ok := (fun k_ => some k_ ≠ (v250 : Value).ownBlock ∧ k_ ≠ gb231 ∧ k_ ≠ gb246)) (by exact vU (Kd.V_mono HO_247004.out (fun _ hk => ⟨⟨hk.1, ⟨hk.2.2.1, hk.2.2.2⟩⟩, hk.2.1⟩))) hg (.inl rfl)); have n4_ := Aside0.mk (Kd.V_afterv (v := (.slice (some ⟨go34, 0, none⟩) x13_1.length co34)) (v1 := (.slice (some ⟨go34, 0, none⟩) x13_1.length co34)) (ok := (fun k_ => some k_ ≠ (v250 : Value).ownBlock ∧ k_ ≠ gb231 ∧ k_ ≠ gb246)) (by exact vU (Kd.V_mono HO_247005.out (fun _ hk => ⟨⟨hk.1, ⟨hk.2.2.1, hk.2.2.2⟩⟩, hk.2.1⟩))) hg (.inl rfl)); have n5_ := Aside0.mk (blk_grown (g := gb231) (o := .cells #[.int .i64 a0_0, .int .i64 a0_1, .int .i64 a0_2, .int .i64 a0_3, .slice A0_4 l0_4.length c0_4, .bool a0_5] 24 (0, 0)) (by (with_reducible repeat (first | refine blk_drewN ?_ _ | refine blk_drew ?_ | refine blk_alloc ?_ _)); exact BK231.out) hg (Kd.R_ne HO_13.out BK231.out (by decide))); have n6_ := Aside0.mk (blk_grown (g := gb246) (o := .cells #[.string t234, .int .i64 t235, .int .i64 t236, .slice Ao24 t237.length co24, .slice Ao25 t240.length co25, .slice Ao26 t243.length co26] 32 (0, 0)) (by (with_reducible repeat (first | refine blk_drewN ?_ _ | refine blk_drew ?_ | refine blk_alloc ?_ _)); exact BK246.out) hg (Kd.R_ne HO_13.out BK246.out (by decide))); have n7_ := Aside0.mk ((by rw [hw]; exact below_set (HB.out) GB34.out : Below w.heap.size w w36)); clear HO_10; clear HO_13; clear HO_247003; clear HO_247004; clear HO_247005; clear BK231; clear BK246; clear HB; have HO_10 := n0_; have HO_13 := n1_; have HO_247003 := n2_; have HO_247004 := n3_; have HO_247005 := n4_; have BK231 := n5_; have BK246 := n6_; have HB := n7_; clear n0_ n1_ n2_ n3_ n4_ n5_ n6_ n7_; clear hg hw hp_))
                    go_roundg k1
                    case measure => have := HK1.out; omega
                    case rel => exact ⟨(y258), (wrap64 (x14_1 + 1)), (by first | rfl | (simp; done) | (simp [*]; done)), H', ⟨by have := HK1.out; omega⟩, ⟨by (with_reducible repeat (first | apply Kd.R_alloc | apply Kd.R_drewN | apply Kd.R_drew)); exact Kd.R_mono HO_10.out (fun _ hk => hk.2)⟩, ⟨by (with_reducible repeat (first | apply Kd.R_alloc | apply Kd.R_drewN | apply Kd.R_drew)); exact HO_13.out⟩, ⟨by exact vU (Kd.V_mono HO_247003.out (fun _ hk => ⟨hk.1.1, ⟨hk.2, ⟨hk.1.2.1, hk.1.2.2⟩⟩⟩))⟩, ⟨by exact vU (Kd.V_mono HO_247004.out (fun _ hk => ⟨hk.1.1, ⟨hk.2, ⟨hk.1.2.1, hk.1.2.2⟩⟩⟩))⟩, ⟨by exact vU (Kd.V_mono HO_247005.out (fun _ hk => ⟨hk.1.1, ⟨hk.2, ⟨hk.1.2.1, hk.1.2.2⟩⟩⟩))⟩, ⟨by (with_reducible repeat (first | refine blk_drewN ?_ _ | refine blk_drew ?_ | refine blk_alloc ?_ _)); exact BK231.out⟩, ⟨by (with_reducible repeat (first | refine blk_drewN ?_ _ | refine blk_drew ?_ | refine blk_alloc ?_ _)); exact BK246.out⟩, ⟨by repeat (first | (with_reducible first | exact HB.out | apply below_alloc | apply pw_below_drewN | apply below_drew1 | refine below_set ?_ GE231.out | refine below_set ?_ GE246.out) | exact HB.out)⟩⟩
                  · rw [if_neg c33] at H
                    exact absurd H (by simp)
                · rw [if_neg c32] at H
                  exact absurd H (by simp)
              · rw [if_neg c31] at H
                have c31b0 : decide (x14_1 < t254) = false := decide_eq_false c31
                clear c31
                replace H := Option.bind_eq_some_iff.mp H
                obtain ⟨t259, A370, H⟩ := H
                replace H : ((lex_At.f k1 t259 0).bind fun t262 => (if x13_1.length + t248.length < 17592186044416 then ((lex_Tokens.f t234 t235 t236 t237 t240 t243 (x13_1 ++ t248)).bind fun t268 => ((lex_At.f k1 t268 0).bind fun t271 => (if (t262.length : Int) = (t271.length : Int) then (interlocutorlaw6_LexBlanks.l1 k1 t254 t262 t271 0) else (some false)))) else (none))) = some r := H
                have A37 := Aside0.mk A370
                clear A370
                replace H := Option.bind_eq_some_iff.mp H
                obtain ⟨t262, A380, H⟩ := H
                replace H : (if x13_1.length + t248.length < 17592186044416 then ((lex_Tokens.f t234 t235 t236 t237 t240 t243 (x13_1 ++ t248)).bind fun t268 => ((lex_At.f k1 t268 0).bind fun t271 => (if (t262.length : Int) = (t271.length : Int) then (interlocutorlaw6_LexBlanks.l1 k1 t254 t262 t271 0) else (some false)))) else (none)) = some r := H
                have A38 := Aside0.mk A380
                clear A380
                by_cases c39 : x13_1.length + t248.length < 17592186044416
                · rw [if_pos c39] at H
                  have LMc39 := Aside0.mk c39
                  clear c39
                  obtain ⟨y265, hy265⟩ : ∃ y_ : List Int, y_ = (x13_1 ++ t248) := ⟨_, rfl⟩
                  replace H : ((lex_Tokens.f t234 t235 t236 t237 t240 t243 y265).bind fun t268 => ((lex_At.f k1 t268 0).bind fun t271 => (if (t262.length : Int) = (t271.length : Int) then (interlocutorlaw6_LexBlanks.l1 k1 t254 t262 t271 0) else (some false)))) = some r := by first | (rw [hy265]; with_reducible exact H) | (have H2_ := (Option.bind_some _ _).symm.trans H; rw [hy265]; with_reducible exact H2_) | (have H2_ := (Option.bind_some _ _).symm.trans H; with_reducible exact H2_) | with_reducible exact H | (rw [hy265]; exact H) | exact H
                  have Ny265 := Aside0.mk hy265
                  clear hy265
                  replace H := Option.bind_eq_some_iff.mp H
                  obtain ⟨t268, A400, H⟩ := H
                  replace H : ((lex_At.f k1 t268 0).bind fun t271 => (if (t262.length : Int) = (t271.length : Int) then (interlocutorlaw6_LexBlanks.l1 k1 t254 t262 t271 0) else (some false))) = some r := H
                  have A40 := Aside0.mk A400
                  clear A400
                  replace H := Option.bind_eq_some_iff.mp H
                  obtain ⟨t271, A410, H⟩ := H
                  replace H : (if (t262.length : Int) = (t271.length : Int) then (interlocutorlaw6_LexBlanks.l1 k1 t254 t262 t271 0) else (some false)) = some r := H
                  have A41 := Aside0.mk A410
                  clear A410
                  by_cases c42 : (t262.length : Int) = (t271.length : Int)
                  · rw [if_pos c42] at H
                    have c42b0 : ((t262.length : Int) == (t271.length : Int)) = true := beq_iff_eq.mpr c42
                    have c42b1 : ((t262.length : Int) != (t271.length : Int)) = false := bne_eq_false_iff_eq.mpr c42
                    have c42b2 : (t262.length == t271.length) = true := by first | simpa using c42 | (simp at c42 ⊢; omega)
                    clear c42
                    have H' := Aside0.mk H
                    clear H
                    try go_wp2
                    have n0_ := Aside0.mk (Kd.R_drew HO_10.out)
                    have n1_ := Aside0.mk (Kd.R_drew HO_13.out)
                    have n2_ := Aside0.mk (Kd.V_drew HO_247003.out)
                    have n3_ := Aside0.mk (Kd.V_drew HO_247004.out)
                    have n4_ := Aside0.mk (Kd.V_drew HO_247005.out)
                    have n5_ := Aside0.mk (blk_drew BK231.out)
                    have n6_ := Aside0.mk (blk_drew BK246.out)
                    have n7_ := Aside0.mk (below_drew1 HB.out)
                    clear HO_10 HO_13 HO_247003 HO_247004 HO_247005 BK231 BK246 HB
                    have HO_10 := n0_
                    have HO_13 := n1_
                    have HO_247003 := n2_
                    have HO_247004 := n3_
                    have HO_247005 := n4_
                    have BK231 := n5_
                    have BK246 := n6_
                    have HB := n7_
                    clear n0_ n1_ n2_ n3_ n4_ n5_ n6_ n7_
                    obtain ⟨Ao44, co44, eo44⟩ := Kd.R_slice HO_10.out
                    (first | subst eo44 | (injection eo44 with f1_ f2_ f3_; have f4_ := f1_.symm; have f5_ := f3_.symm; clear f1_ f2_ f3_; subst f4_; subst f5_))
                    refine start_ (n := 12) (S := fun w' => w'.cell? ⟨gb246, 0, none⟩ = some (.string t234) ∧ w'.cell? ⟨gb246, 1, none⟩ = some (.int .i64 t235) ∧ w'.cell? ⟨gb246, 2, none⟩ = some (.int .i64 t236) ∧ w'.cell? ⟨gb246, 3, none⟩ = some (.slice Ao24 t237.length co24) ∧ w'.cell? ⟨gb246, 4, none⟩ = some (.slice Ao25 t240.length co25) ∧ w'.cell? ⟨gb246, 5, none⟩ = some (.slice Ao26 t243.length co26)) (ds := []) #[false, false, false, false, false, false, false, false, false, false, false, false] (by kernel_rfl) rfl rfl ⟨(blk_cell BK246.out 0).trans rfl, (blk_cell BK246.out 1).trans rfl, (blk_cell BK246.out 2).trans rfl, (blk_cell BK246.out 3).trans rfl, (blk_cell BK246.out 4).trans rfl, (blk_cell BK246.out 5).trans rfl⟩ (fun hHeld => ?_); refine with_tabW interlocutorlaw6_LexBlanks.tab13 interlocutorlaw6_LexBlanks.bits13 (fun HT_ HW_ => ?_)
                    generalize wr.drew = w43 at HO_10 HO_13 HO_247003 HO_247004 HO_247005 BK231 BK246 HB hHeld ⊢
                    refine pU HT_ 1 (some 46) (oB 12 2) ?_
                    refine pU HT_ 5 (some 50) (oB 12 34) ?_
                    refine pU HT_ 6 (some 51) (oB 12 98) ?_
                    refine take_ (i := 0) (N := some 45) (v := ?_) (a' := ?_) (oB 12 99) rfl rfl (take_ofW HT_.out HW_.out (by kernel_rfl)) (fun _ _ _ h => h) (Or.inl ⟨by rfl, ?_⟩) hHeld ?_ ?_
                    rotate_left
                    · rintro w' ⟨s0, s1, s2, s3, s4, s5⟩
                      go_simp
                      with_reducible rfl
                    rotate_left
                    · simp only [Act.put, List.setIfInBounds_toArray, List.set_cons_zero, List.set_cons_succ, i64_w, i32_w]
                      rfl
                    refine take_ (i := 4) (N := some 49) (v := ?_) (a' := ?_) (oB 12 115) rfl rfl (take_ofW HT_.out HW_.out (by kernel_rfl)) (fun _ _ _ h => h) (Or.inl ⟨by rfl, ?_⟩) hHeld ?_ ?_
                    rotate_left
                    · rintro w' ⟨s0, s1, s2, s3, s4, s5⟩
                      go_simp
                      with_reducible rfl
                    rotate_left
                    · simp only [Act.put, List.setIfInBounds_toArray, List.set_cons_zero, List.set_cons_succ, i64_w, i32_w]
                      rfl
                    refine one_ (i := 2) (N := some 47) (oB 12 119) rfl rfl (one_of HT_.out (by kernel_rfl)) (by decide) (fun K hK => ?_)
                    refine goes_ Try.func20 (by kernel_rfl) rfl #[.agg #[.string t234, .int .i64 t235, .int .i64 t236, .slice Ao24 t237.length co24, .slice Ao25 t240.length co25, .slice Ao26 t243.length co26], .slice Ao44 t248.length co44] (by rfl) rfl rfl (by (try simp only [List.map_toArray, List.map_cons, List.map_nil]); first | done | rfl | (simp only [List.length_drop, List.length_take]; rfl)) ?_
                    with_reducible refine (lex_Tokens.calls t234 t235 t236 _ _ t237 _ _ t240 _ _ t243 _ _ t248 t259 _ ?side1 ?side2 ?side3 ?side4 ?side5 ?side6 ?side7 ?side8 A37.out).mono ?_
                    (case side1 => repeat (first | exact (Kd.V_reads' HO_247003.out).2.2 | (with_reducible refine Kd.C_alloc ?_ _) | (with_reducible refine Kd.C_drewN ?_ _) | (with_reducible refine Kd.C_drew ?_)))
                    (case side2 => exact (Kd.V_reads' HO_247003.out).2.1)
                    (case side3 => repeat (first | exact (Kd.V_reads' HO_247004.out).2.2 | (with_reducible refine Kd.C_alloc ?_ _) | (with_reducible refine Kd.C_drewN ?_ _) | (with_reducible refine Kd.C_drew ?_)))
                    (case side4 => exact (Kd.V_reads' HO_247004.out).2.1)
                    (case side5 => repeat (first | exact (Kd.V_reads' HO_247005.out).2.2 | (with_reducible refine Kd.C_alloc ?_ _) | (with_reducible refine Kd.C_drewN ?_ _) | (with_reducible refine Kd.C_drew ?_)))
                    (case side6 => exact (Kd.V_reads' HO_247005.out).2.1)
                    (case side7 => repeat (first | exact (Kd.R_reads' HO_10.out).2.2 | (with_reducible refine Kd.C_alloc ?_ _) | (with_reducible refine Kd.C_drewN ?_ _) | (with_reducible refine Kd.C_drew ?_)))
                    (case side8 => exact (Kd.R_reads' HO_10.out).2.1)
                    rintro e w45 ⟨v260, rfl, ho0, hb⟩
                    refine ⟨_, rfl, ?_⟩
                    have n0_ := Aside0.mk (Kd.R_below (by (with_reducible repeat (first | apply Kd.R_alloc | apply Kd.R_drewN | apply Kd.R_drew)); exact HO_10.out) hb)
                    have n1_ := Aside0.mk (Kd.R_below (by (with_reducible repeat (first | apply Kd.R_alloc | apply Kd.R_drewN | apply Kd.R_drew)); exact HO_13.out) hb)
                    have n2_ := Aside0.mk (Kd.V_elder' (by exact vU HO_247003.out) (Kd.R_base ho0) hb)
                    have n3_ := Aside0.mk (Kd.V_elder' (by exact vU HO_247004.out) (Kd.R_base ho0) hb)
                    have n4_ := Aside0.mk (Kd.V_elder' (by exact vU HO_247005.out) (Kd.R_base ho0) hb)
                    have n5_ := Aside0.mk (Kd.R_lower ho0 (below_size (by repeat (first | (with_reducible first | exact HB.out | apply below_alloc | apply pw_below_drewN | apply below_drew1 | refine below_set ?_ GE231.out | refine below_set ?_ GE246.out) | exact HB.out))))
                    have n6_ := Aside0.mk (blk_below (g := gb231) (o := .cells #[.int .i64 a0_0, .int .i64 a0_1, .int .i64 a0_2, .int .i64 a0_3, .slice A0_4 l0_4.length c0_4, .bool a0_5] 24 (0, 0)) (by (with_reducible repeat (first | refine blk_drewN ?_ _ | refine blk_drew ?_ | refine blk_alloc ?_ _)); exact BK231.out) hb)
                    have n7_ := Aside0.mk (blk_below (g := gb246) (o := .cells #[.string t234, .int .i64 t235, .int .i64 t236, .slice Ao24 t237.length co24, .slice Ao25 t240.length co25, .slice Ao26 t243.length co26] 32 (0, 0)) (by (with_reducible repeat (first | refine blk_drewN ?_ _ | refine blk_drew ?_ | refine blk_alloc ?_ _)); exact BK246.out) hb)
                    have n8_ := Aside0.mk (below_step (by repeat (first | (with_reducible first | exact HB.out | apply below_alloc | apply pw_below_drewN | apply below_drew1 | refine below_set ?_ GE231.out | refine below_set ?_ GE246.out) | exact HB.out)) hb)
                    clear HO_10 HO_13 HO_247003 HO_247004 HO_247005 BK231 BK246 HB
                    have HO_10 := n0_
                    have HO_13 := n1_
                    have HO_247003 := n2_
                    have HO_247004 := n3_
                    have HO_247005 := n4_
                    have HO261 := n5_
                    have BK231 := n6_
                    have BK246 := n7_
                    have HB := n8_
                    clear n0_ n1_ n2_ n3_ n4_ n5_ n6_ n7_ n8_
                    (try clear hb)
                    (try clear hb2)
                    (try clear hk)
                    (try clear hi)
                    (try clear ho0)
                    obtain ⟨Ao46, co46, eo46⟩ := Kd.R_slice HO261.out
                    (first | subst eo46 | (injection eo46 with f1_ f2_ f3_; have f4_ := f1_.symm; have f5_ := f3_.symm; clear f1_ f2_ f3_; subst f4_; subst f5_))
                    refine hK.out _ _ ⟨(blk_cell BK246.out 0).trans rfl, (blk_cell BK246.out 1).trans rfl, (blk_cell BK246.out 2).trans rfl, (blk_cell BK246.out 3).trans rfl, (blk_cell BK246.out 4).trans rfl, (blk_cell BK246.out 5).trans rfl⟩ (fun hHeld => ?_)
                    clear hK K
                    refine nM ?_
                    refine one_ (i := 3) (N := some 48) (oB 12 127) rfl rfl (one_of HT_.out (by kernel_rfl)) (by decide) (fun K hK => ?_)
                    refine goes_ Try.func25 (by kernel_rfl) rfl #[.slice Ao46 t259.length co46, .int .i64 0] (by rfl) rfl rfl (by (try simp only [List.map_toArray, List.map_cons, List.map_nil]); first | done | rfl | (simp only [List.length_drop, List.length_take]; rfl)) ?_
                    with_reducible refine (lex_At.calls k1 _ _ t259 0 t262 _ ?side1 ?side2 A38.out).mono ?_
                    (case side1 => repeat (first | exact (Kd.R_reads' HO261.out).2.2 | (with_reducible refine Kd.C_alloc ?_ _) | (with_reducible refine Kd.C_drewN ?_ _) | (with_reducible refine Kd.C_drew ?_)))
                    (case side2 => exact (Kd.R_reads' HO261.out).2.1)
                    rintro e w47 ⟨v263, rfl, ho0, hb⟩
                    refine ⟨_, rfl, ?_⟩
                    have n0_ := Aside0.mk (Kd.R_below (by (with_reducible repeat (first | apply Kd.R_alloc | apply Kd.R_drewN | apply Kd.R_drew)); exact HO_10.out) hb)
                    have n1_ := Aside0.mk (Kd.R_below (by (with_reducible repeat (first | apply Kd.R_alloc | apply Kd.R_drewN | apply Kd.R_drew)); exact HO_13.out) hb)
                    have n2_ := Aside0.mk (Kd.V_elder' (by exact vU HO_247003.out) (Kd.R_base ho0) hb)
                    have n3_ := Aside0.mk (Kd.V_elder' (by exact vU HO_247004.out) (Kd.R_base ho0) hb)
                    have n4_ := Aside0.mk (Kd.V_elder' (by exact vU HO_247005.out) (Kd.R_base ho0) hb)
                    have n5_ := Aside0.mk (Kd.R_elder' (by (with_reducible repeat (first | apply Kd.R_alloc | apply Kd.R_drewN | apply Kd.R_drew)); exact HO261.out) (Kd.R_base ho0) hb)
                    have n6_ := Aside0.mk (Kd.R_lower (Kd.R_new' ho0 (Kd.R_lt (by (with_reducible repeat (first | apply Kd.R_alloc | apply Kd.R_drewN | apply Kd.R_drew)); exact HO261.out))) (below_size (by repeat (first | (with_reducible first | exact HB.out | apply below_alloc | apply pw_below_drewN | apply below_drew1 | refine below_set ?_ GE231.out | refine below_set ?_ GE246.out) | exact HB.out))))
                    have n7_ := Aside0.mk (blk_below (g := gb231) (o := .cells #[.int .i64 a0_0, .int .i64 a0_1, .int .i64 a0_2, .int .i64 a0_3, .slice A0_4 l0_4.length c0_4, .bool a0_5] 24 (0, 0)) (by (with_reducible repeat (first | refine blk_drewN ?_ _ | refine blk_drew ?_ | refine blk_alloc ?_ _)); exact BK231.out) hb)
                    have n8_ := Aside0.mk (blk_below (g := gb246) (o := .cells #[.string t234, .int .i64 t235, .int .i64 t236, .slice Ao24 t237.length co24, .slice Ao25 t240.length co25, .slice Ao26 t243.length co26] 32 (0, 0)) (by (with_reducible repeat (first | refine blk_drewN ?_ _ | refine blk_drew ?_ | refine blk_alloc ?_ _)); exact BK246.out) hb)
                    have n9_ := Aside0.mk (below_step (by repeat (first | (with_reducible first | exact HB.out | apply below_alloc | apply pw_below_drewN | apply below_drew1 | refine below_set ?_ GE231.out | refine below_set ?_ GE246.out) | exact HB.out)) hb)
                    clear HO_10 HO_13 HO_247003 HO_247004 HO_247005 HO261 BK231 BK246 HB
                    have HO_10 := n0_
                    have HO_13 := n1_
                    have HO_247003 := n2_
                    have HO_247004 := n3_
                    have HO_247005 := n4_
                    have HO261 := n5_
                    have HO264 := n6_
                    have BK231 := n7_
                    have BK246 := n8_
                    have HB := n9_
                    clear n0_ n1_ n2_ n3_ n4_ n5_ n6_ n7_ n8_ n9_
                    (try clear hb)
                    (try clear hb2)
                    (try clear hk)
                    (try clear hi)
                    (try clear ho0)
                    refine hK.out _ _ ⟨(blk_cell BK246.out 0).trans rfl, (blk_cell BK246.out 1).trans rfl, (blk_cell BK246.out 2).trans rfl, (blk_cell BK246.out 3).trans rfl, (blk_cell BK246.out 4).trans rfl, (blk_cell BK246.out 5).trans rfl⟩ (fun hHeld => ?_)
                    clear hK K
                    refine nM ?_
                    refine one_ (i := 7) (N := some 52) (oB 12 255) rfl rfl (one_of HT_.out (by kernel_rfl)) (by decide) (fun K hK => ?_)
                    refine Kd.R_append_rows_step (Kd.int .i64) (w0 := w) w.heap.size (by rfl) (.tmp 50) (.tmp 51) 25 3 (.int .i64 0) 8 rfl Try.underlying25 info3 rfl (by decide) (by omega) v256 x13_1 t248 _ _ _ (fun k_ => some k_ ≠ (.slice Ao44 t248.length co44 : Value).ownBlock) (fun _ => False) rfl rfl ?aO ?aR (fun _ _ h => h) (fun _ h => h.elim) ?aF ?aB ?aS ?aL ?_
                    (case aR => repeat (first | exact (Kd.R_reads' HO_10.out).2.2 | (with_reducible refine Kd.C_alloc ?_ _) | (with_reducible refine Kd.C_drewN ?_ _) | (with_reducible refine Kd.C_drew ?_)))
                    (case aB => exact (by repeat (first | (with_reducible first | exact HB.out | apply below_alloc | apply pw_below_drewN | apply below_drew1 | refine below_set ?_ GE231.out | refine below_set ?_ GE246.out) | exact HB.out)))
                    (case aF => exact (fun k_ hk => Kd.fresh' (Kd.R_lt (by (with_reducible repeat (first | apply Kd.R_alloc | apply Kd.R_drewN | apply Kd.R_drew)); exact HO_10.out)) k_ hk))
                    (case aO => exact (by (with_reducible repeat (first | apply Kd.R_alloc | apply Kd.R_drewN | apply Kd.R_drew)); exact HO_13.out))
                    (case aS => exact (below_size (by repeat (first | (with_reducible first | exact HB.out | apply below_alloc | apply pw_below_drewN | apply below_drew1 | refine below_set ?_ GE231.out | refine below_set ?_ GE246.out) | exact HB.out))))
                    (case aL => have := LMc39.out; omega)
                    intro v266 w48 ho hb hg hat
                    rw [← Ny265.out] at ho
                    have n0_ := Aside0.mk (Kd.R_after (ok := (fun _ => True)) (by (with_reducible repeat (first | apply Kd.R_alloc | apply Kd.R_drewN | apply Kd.R_drew)); exact Kd.R_mono HO_10.out (fun _ hk => ⟨trivial, hk⟩)) hg hat)
                    have n1_ := Aside0.mk (Kd.V_afterv (ok := (fun k_ => some k_ ≠ (.slice Ao44 t248.length co44 : Value).ownBlock ∧ some k_ ≠ (.slice Ao46 t259.length co46 : Value).ownBlock ∧ some k_ ≠ (v263 : Value).ownBlock ∧ k_ ≠ gb231 ∧ k_ ≠ gb246)) (by exact vU (Kd.V_mono HO_247003.out (fun _ hk => ⟨⟨hk.1.1.1, ⟨hk.1.2, ⟨hk.2, ⟨hk.1.1.2.2.1, hk.1.1.2.2.2⟩⟩⟩⟩, hk.1.1.2.1⟩))) hg hat)
                    have n2_ := Aside0.mk (Kd.V_afterv (ok := (fun k_ => some k_ ≠ (.slice Ao44 t248.length co44 : Value).ownBlock ∧ some k_ ≠ (.slice Ao46 t259.length co46 : Value).ownBlock ∧ some k_ ≠ (v263 : Value).ownBlock ∧ k_ ≠ gb231 ∧ k_ ≠ gb246)) (by exact vU (Kd.V_mono HO_247004.out (fun _ hk => ⟨⟨hk.1.1.1, ⟨hk.1.2, ⟨hk.2, ⟨hk.1.1.2.2.1, hk.1.1.2.2.2⟩⟩⟩⟩, hk.1.1.2.1⟩))) hg hat)
                    have n3_ := Aside0.mk (Kd.V_afterv (ok := (fun k_ => some k_ ≠ (.slice Ao44 t248.length co44 : Value).ownBlock ∧ some k_ ≠ (.slice Ao46 t259.length co46 : Value).ownBlock ∧ some k_ ≠ (v263 : Value).ownBlock ∧ k_ ≠ gb231 ∧ k_ ≠ gb246)) (by exact vU (Kd.V_mono HO_247005.out (fun _ hk => ⟨⟨hk.1.1.1, ⟨hk.1.2, ⟨hk.2, ⟨hk.1.1.2.2.1, hk.1.1.2.2.2⟩⟩⟩⟩, hk.1.1.2.1⟩))) hg hat)
                    have n4_ := Aside0.mk (blk_grown (g := gb231) (o := .cells #[.int .i64 a0_0, .int .i64 a0_1, .int .i64 a0_2, .int .i64 a0_3, .slice A0_4 l0_4.length c0_4, .bool a0_5] 24 (0, 0)) (by (with_reducible repeat (first | refine blk_drewN ?_ _ | refine blk_drew ?_ | refine blk_alloc ?_ _)); exact BK231.out) hg (Kd.R_ne HO_13.out BK231.out (by decide)))
                    have n5_ := Aside0.mk (blk_grown (g := gb246) (o := .cells #[.string t234, .int .i64 t235, .int .i64 t236, .slice Ao24 t237.length co24, .slice Ao25 t240.length co25, .slice Ao26 t243.length co26] 32 (0, 0)) (by (with_reducible repeat (first | refine blk_drewN ?_ _ | refine blk_drew ?_ | refine blk_alloc ?_ _)); exact BK246.out) hg (Kd.R_ne HO_13.out BK246.out (by decide)))
                    have n6_ := Aside0.mk (Kd.R_over' (by (with_reducible repeat (first | apply Kd.R_alloc | apply Kd.R_drewN | apply Kd.R_drew)); exact HO261.out) (Kd.R_typed (by (with_reducible repeat (first | apply Kd.R_alloc | apply Kd.R_drewN | apply Kd.R_drew)); exact HO_13.out)) (by decide) hg)
                    have n7_ := Aside0.mk (Kd.R_over' (by (with_reducible repeat (first | apply Kd.R_alloc | apply Kd.R_drewN | apply Kd.R_drew)); exact HO264.out) (Kd.R_typed (by (with_reducible repeat (first | apply Kd.R_alloc | apply Kd.R_drewN | apply Kd.R_drew)); exact HO_13.out)) (by decide) hg)
                    have n8_ := Aside0.mk (hb)
                    have n9_ := Aside0.mk (ho)
                    clear HO_10 HO_247003 HO_247004 HO_247005 BK231 BK246 HO261 HO264 HB HO_13
                    have HO_10 := n0_
                    have HO_247003 := n1_
                    have HO_247004 := n2_
                    have HO_247005 := n3_
                    have BK231 := n4_
                    have BK246 := n5_
                    have HO261 := n6_
                    have HO264 := n7_
                    have HB := n8_
                    have HO267 := n9_
                    clear n0_ n1_ n2_ n3_ n4_ n5_ n6_ n7_ n8_ n9_ ho hb hg hat
                    obtain ⟨Ao49, co49, eo49⟩ := Kd.R_slice HO267.out
                    (first | subst eo49 | (injection eo49 with f1_ f2_ f3_; have f4_ := f1_.symm; have f5_ := f3_.symm; clear f1_ f2_ f3_; subst f4_; subst f5_))
                    refine hK.out _ _ ⟨(blk_cell BK246.out 0).trans rfl, (blk_cell BK246.out 1).trans rfl, (blk_cell BK246.out 2).trans rfl, (blk_cell BK246.out 3).trans rfl, (blk_cell BK246.out 4).trans rfl, (blk_cell BK246.out 5).trans rfl⟩ (fun hHeld => ?_)
                    clear hK K
                    refine nM ?_
                    refine one_ (i := 8) (N := some 53) (oB 12 511) rfl rfl (one_of HT_.out (by kernel_rfl)) (by decide) (fun K hK => ?_)
                    refine goes_ Try.func20 (by kernel_rfl) rfl #[.agg #[.string t234, .int .i64 t235, .int .i64 t236, .slice Ao24 t237.length co24, .slice Ao25 t240.length co25, .slice Ao26 t243.length co26], .slice Ao49 y265.length co49] (by rfl) rfl rfl (by (try simp only [List.map_toArray, List.map_cons, List.map_nil]); first | done | rfl | (simp only [List.length_drop, List.length_take]; rfl)) ?_
                    with_reducible refine (lex_Tokens.calls t234 t235 t236 _ _ t237 _ _ t240 _ _ t243 _ _ y265 t268 _ ?side1 ?side2 ?side3 ?side4 ?side5 ?side6 ?side7 ?side8 A40.out).mono ?_
                    (case side1 => repeat (first | exact (Kd.V_reads' HO_247003.out).2.2 | (with_reducible refine Kd.C_alloc ?_ _) | (with_reducible refine Kd.C_drewN ?_ _) | (with_reducible refine Kd.C_drew ?_)))
                    (case side2 => exact (Kd.V_reads' HO_247003.out).2.1)
                    (case side3 => repeat (first | exact (Kd.V_reads' HO_247004.out).2.2 | (with_reducible refine Kd.C_alloc ?_ _) | (with_reducible refine Kd.C_drewN ?_ _) | (with_reducible refine Kd.C_drew ?_)))
                    (case side4 => exact (Kd.V_reads' HO_247004.out).2.1)
                    (case side5 => repeat (first | exact (Kd.V_reads' HO_247005.out).2.2 | (with_reducible refine Kd.C_alloc ?_ _) | (with_reducible refine Kd.C_drewN ?_ _) | (with_reducible refine Kd.C_drew ?_)))
                    (case side6 => exact (Kd.V_reads' HO_247005.out).2.1)
                    (case side7 => repeat (first | exact (Kd.R_reads' HO267.out).2.2 | (with_reducible refine Kd.C_alloc ?_ _) | (with_reducible refine Kd.C_drewN ?_ _) | (with_reducible refine Kd.C_drew ?_)))
                    (case side8 => exact (Kd.R_reads' HO267.out).2.1)
                    rintro e w50 ⟨v269, rfl, ho0, hb⟩
                    refine ⟨_, rfl, ?_⟩
                    have n0_ := Aside0.mk (Kd.R_below (by (with_reducible repeat (first | apply Kd.R_alloc | apply Kd.R_drewN | apply Kd.R_drew)); exact HO_10.out) hb)
                    have n1_ := Aside0.mk (Kd.V_elder' (by exact vU HO_247003.out) (Kd.R_base ho0) hb)
                    have n2_ := Aside0.mk (Kd.V_elder' (by exact vU HO_247004.out) (Kd.R_base ho0) hb)
                    have n3_ := Aside0.mk (Kd.V_elder' (by exact vU HO_247005.out) (Kd.R_base ho0) hb)
                    have n4_ := Aside0.mk (Kd.R_elder' (by (with_reducible repeat (first | apply Kd.R_alloc | apply Kd.R_drewN | apply Kd.R_drew)); exact HO261.out) (Kd.R_base ho0) hb)
                    have n5_ := Aside0.mk (Kd.R_elder' (by (with_reducible repeat (first | apply Kd.R_alloc | apply Kd.R_drewN | apply Kd.R_drew)); exact HO264.out) (Kd.R_base ho0) hb)
                    have n6_ := Aside0.mk (Kd.R_below (by (with_reducible repeat (first | apply Kd.R_alloc | apply Kd.R_drewN | apply Kd.R_drew)); exact HO267.out) hb)
                    have n7_ := Aside0.mk (Kd.R_lower (Kd.R_new' (Kd.R_new' ho0 (Kd.R_lt (by (with_reducible repeat (first | apply Kd.R_alloc | apply Kd.R_drewN | apply Kd.R_drew)); exact HO261.out))) (Kd.R_lt (by (with_reducible repeat (first | apply Kd.R_alloc | apply Kd.R_drewN | apply Kd.R_drew)); exact HO264.out))) (below_size (by repeat (first | (with_reducible first | exact HB.out | apply below_alloc | apply pw_below_drewN | apply below_drew1 | refine below_set ?_ GE231.out | refine below_set ?_ GE246.out) | exact HB.out))))
                    have n8_ := Aside0.mk (blk_below (g := gb231) (o := .cells #[.int .i64 a0_0, .int .i64 a0_1, .int .i64 a0_2, .int .i64 a0_3, .slice A0_4 l0_4.length c0_4, .bool a0_5] 24 (0, 0)) (by (with_reducible repeat (first | refine blk_drewN ?_ _ | refine blk_drew ?_ | refine blk_alloc ?_ _)); exact BK231.out) hb)
                    have n9_ := Aside0.mk (blk_below (g := gb246) (o := .cells #[.string t234, .int .i64 t235, .int .i64 t236, .slice Ao24 t237.length co24, .slice Ao25 t240.length co25, .slice Ao26 t243.length co26] 32 (0, 0)) (by (with_reducible repeat (first | refine blk_drewN ?_ _ | refine blk_drew ?_ | refine blk_alloc ?_ _)); exact BK246.out) hb)
                    have n10_ := Aside0.mk (below_step (by repeat (first | (with_reducible first | exact HB.out | apply below_alloc | apply pw_below_drewN | apply below_drew1 | refine below_set ?_ GE231.out | refine below_set ?_ GE246.out) | exact HB.out)) hb)
                    clear HO_10 HO_247003 HO_247004 HO_247005 HO261 HO264 HO267 BK231 BK246 HB
                    have HO_10 := n0_
                    have HO_247003 := n1_
                    have HO_247004 := n2_
                    have HO_247005 := n3_
                    have HO261 := n4_
                    have HO264 := n5_
                    have HO267 := n6_
                    have HO270 := n7_
                    have BK231 := n8_
                    have BK246 := n9_
                    have HB := n10_
                    clear n0_ n1_ n2_ n3_ n4_ n5_ n6_ n7_ n8_ n9_ n10_
                    (try clear hb)
                    (try clear hb2)
                    (try clear hk)
                    (try clear hi)
                    (try clear ho0)
                    obtain ⟨Ao51, co51, eo51⟩ := Kd.R_slice HO270.out
                    (first | subst eo51 | (injection eo51 with f1_ f2_ f3_; have f4_ := f1_.symm; have f5_ := f3_.symm; clear f1_ f2_ f3_; subst f4_; subst f5_))
                    refine hK.out _ _ ⟨(blk_cell BK246.out 0).trans rfl, (blk_cell BK246.out 1).trans rfl, (blk_cell BK246.out 2).trans rfl, (blk_cell BK246.out 3).trans rfl, (blk_cell BK246.out 4).trans rfl, (blk_cell BK246.out 5).trans rfl⟩ (fun hHeld => ?_)
                    clear hK K
                    refine nM ?_
                    refine one_ (i := 9) (N := some 54) (oB 12 1023) rfl rfl (one_of HT_.out (by kernel_rfl)) (by decide) (fun K hK => ?_)
                    refine goes_ Try.func25 (by kernel_rfl) rfl #[.slice Ao51 t268.length co51, .int .i64 0] (by rfl) rfl rfl (by (try simp only [List.map_toArray, List.map_cons, List.map_nil]); first | done | rfl | (simp only [List.length_drop, List.length_take]; rfl)) ?_
                    with_reducible refine (lex_At.calls k1 _ _ t268 0 t271 _ ?side1 ?side2 A41.out).mono ?_
                    (case side1 => repeat (first | exact (Kd.R_reads' HO270.out).2.2 | (with_reducible refine Kd.C_alloc ?_ _) | (with_reducible refine Kd.C_drewN ?_ _) | (with_reducible refine Kd.C_drew ?_)))
                    (case side2 => exact (Kd.R_reads' HO270.out).2.1)
                    rintro e w52 ⟨v272, rfl, ho0, hb⟩
                    refine ⟨_, rfl, ?_⟩
                    have n0_ := Aside0.mk (Kd.R_below (by (with_reducible repeat (first | apply Kd.R_alloc | apply Kd.R_drewN | apply Kd.R_drew)); exact HO_10.out) hb)
                    have n1_ := Aside0.mk (Kd.V_elder' (by exact vU HO_247003.out) (Kd.R_base ho0) hb)
                    have n2_ := Aside0.mk (Kd.V_elder' (by exact vU HO_247004.out) (Kd.R_base ho0) hb)
                    have n3_ := Aside0.mk (Kd.V_elder' (by exact vU HO_247005.out) (Kd.R_base ho0) hb)
                    have n4_ := Aside0.mk (Kd.R_elder' (by (with_reducible repeat (first | apply Kd.R_alloc | apply Kd.R_drewN | apply Kd.R_drew)); exact HO261.out) (Kd.R_base ho0) hb)
                    have n5_ := Aside0.mk (Kd.R_elder' (by (with_reducible repeat (first | apply Kd.R_alloc | apply Kd.R_drewN | apply Kd.R_drew)); exact HO264.out) (Kd.R_base ho0) hb)
                    have n6_ := Aside0.mk (Kd.R_below (by (with_reducible repeat (first | apply Kd.R_alloc | apply Kd.R_drewN | apply Kd.R_drew)); exact HO267.out) hb)
                    have n7_ := Aside0.mk (Kd.R_elder' (by (with_reducible repeat (first | apply Kd.R_alloc | apply Kd.R_drewN | apply Kd.R_drew)); exact HO270.out) (Kd.R_base ho0) hb)
                    have n8_ := Aside0.mk (Kd.R_lower (Kd.R_new' (Kd.R_new' (Kd.R_new' ho0 (Kd.R_lt (by (with_reducible repeat (first | apply Kd.R_alloc | apply Kd.R_drewN | apply Kd.R_drew)); exact HO261.out))) (Kd.R_lt (by (with_reducible repeat (first | apply Kd.R_alloc | apply Kd.R_drewN | apply Kd.R_drew)); exact HO264.out))) (Kd.R_lt (by (with_reducible repeat (first | apply Kd.R_alloc | apply Kd.R_drewN | apply Kd.R_drew)); exact HO270.out))) (below_size (by repeat (first | (with_reducible first | exact HB.out | apply below_alloc | apply pw_below_drewN | apply below_drew1 | refine below_set ?_ GE231.out | refine below_set ?_ GE246.out) | exact HB.out))))
                    have n9_ := Aside0.mk (blk_below (g := gb231) (o := .cells #[.int .i64 a0_0, .int .i64 a0_1, .int .i64 a0_2, .int .i64 a0_3, .slice A0_4 l0_4.length c0_4, .bool a0_5] 24 (0, 0)) (by (with_reducible repeat (first | refine blk_drewN ?_ _ | refine blk_drew ?_ | refine blk_alloc ?_ _)); exact BK231.out) hb)
                    have n10_ := Aside0.mk (blk_below (g := gb246) (o := .cells #[.string t234, .int .i64 t235, .int .i64 t236, .slice Ao24 t237.length co24, .slice Ao25 t240.length co25, .slice Ao26 t243.length co26] 32 (0, 0)) (by (with_reducible repeat (first | refine blk_drewN ?_ _ | refine blk_drew ?_ | refine blk_alloc ?_ _)); exact BK246.out) hb)
                    have n11_ := Aside0.mk (below_step (by repeat (first | (with_reducible first | exact HB.out | apply below_alloc | apply pw_below_drewN | apply below_drew1 | refine below_set ?_ GE231.out | refine below_set ?_ GE246.out) | exact HB.out)) hb)
                    clear HO_10 HO_247003 HO_247004 HO_247005 HO261 HO264 HO267 HO270 BK231 BK246 HB
                    have HO_10 := n0_
                    have HO_247003 := n1_
                    have HO_247004 := n2_
                    have HO_247005 := n3_
                    have HO261 := n4_
                    have HO264 := n5_
                    have HO267 := n6_
                    have HO270 := n7_
                    have HO273 := n8_
                    have BK231 := n9_
                    have BK246 := n10_
                    have HB := n11_
                    clear n0_ n1_ n2_ n3_ n4_ n5_ n6_ n7_ n8_ n9_ n10_ n11_
                    (try clear hb)
                    (try clear hb2)
                    (try clear hk)
                    (try clear hi)
                    (try clear ho0)
                    refine hK.out _ _ ⟨(blk_cell BK246.out 0).trans rfl, (blk_cell BK246.out 1).trans rfl, (blk_cell BK246.out 2).trans rfl, (blk_cell BK246.out 3).trans rfl, (blk_cell BK246.out 4).trans rfl, (blk_cell BK246.out 5).trans rfl⟩ (fun hHeld => ?_)
                    clear hK K
                    refine nM ?_
                    refine pU HT_ 10 (some 15) (oB 12 2047) ?_
                    refine pU HT_ 11 (some 16) (oB 12 4095) ?_
                    refine done_ (done_of HT_.out (by kernel_rfl)) ?_
                    obtain ⟨Ao53, co53, eo53⟩ := Kd.R_slice HO264.out
                    subst eo53
                    obtain ⟨Ao54, co54, eo54⟩ := Kd.R_slice HO273.out
                    subst eo54
                    try go_wp2
                    go_loopg [17] k1 (fun kq v17 w' => ∃ (x17_2 : Int), v17 = .int .i64 x17_2 ∧ Aside0 (interlocutorlaw6_LexBlanks.l1 kq t254 t262 t271 x17_2 = some r) ∧ Aside0 (kq ≤ k1) ∧ Aside0 (Kd.R k47 47 w' w.heap.size (fun k_ => some k_ ≠ ((.slice Ao54 t271.length co54) : Value).ownBlock) (.slice Ao53 t262.length co53) t262) ∧ Aside0 (Kd.R k47 47 w' w.heap.size (fun k_ => some k_ ≠ ((.slice Ao53 t262.length co53) : Value).ownBlock) (.slice Ao54 t271.length co54) t271) ∧ Aside0 (Kd.V k53 53 w' w.heap.size (fun k_ => some k_ ≠ ((.slice Ao53 t262.length co53) : Value).ownBlock ∧ some k_ ≠ ((.slice Ao54 t271.length co54) : Value).ownBlock ∧ k_ ≠ gb231 ∧ k_ ≠ gb246) (.slice Ao24 t237.length co24) t237) ∧ Aside0 (Kd.V k108 108 w' w.heap.size (fun k_ => some k_ ≠ ((.slice Ao53 t262.length co53) : Value).ownBlock ∧ some k_ ≠ ((.slice Ao54 t271.length co54) : Value).ownBlock ∧ k_ ≠ gb231 ∧ k_ ≠ gb246) (.slice Ao25 t240.length co25) t240) ∧ Aside0 (Kd.V k138 138 w' w.heap.size (fun k_ => some k_ ≠ ((.slice Ao53 t262.length co53) : Value).ownBlock ∧ some k_ ≠ ((.slice Ao54 t271.length co54) : Value).ownBlock ∧ k_ ≠ gb231 ∧ k_ ≠ gb246) (.slice Ao26 t243.length co26) t243) ∧ Aside0 (w'.heap[gb231]? = some (.cells #[.int .i64 a0_0, .int .i64 a0_1, .int .i64 a0_2, .int .i64 a0_3, (.slice A0_4 l0_4.length c0_4), .bool a0_5] 24 (0, 0))) ∧ Aside0 (w'.heap[gb246]? = some (.cells #[.string t234, .int .i64 t235, .int .i64 t236, (.slice Ao24 t237.length co24), (.slice Ao25 t240.length co25), (.slice Ao26 t243.length co26)] 32 (0, 0))) ∧ Aside0 (Below w.heap.size w w'))
                    case atStart => exact ⟨(0), (by first | rfl | (simp; done) | (simp [*]; done)), H', ⟨Nat.le_refl _⟩, ⟨by (with_reducible repeat (first | apply Kd.R_alloc | apply Kd.R_drewN | apply Kd.R_drew)); exact Kd.R_mono HO264.out (fun _ hk => hk.2)⟩, ⟨by (with_reducible repeat (first | apply Kd.R_alloc | apply Kd.R_drewN | apply Kd.R_drew)); exact Kd.R_mono HO273.out (fun _ hk => hk.1.2)⟩, ⟨by exact vU (Kd.V_mono HO_247003.out (fun _ hk => ⟨hk.1.1.1.2.2.1, ⟨hk.2, ⟨hk.1.1.1.2.2.2.1, hk.1.1.1.2.2.2.2⟩⟩⟩))⟩, ⟨by exact vU (Kd.V_mono HO_247004.out (fun _ hk => ⟨hk.1.1.1.2.2.1, ⟨hk.2, ⟨hk.1.1.1.2.2.2.1, hk.1.1.1.2.2.2.2⟩⟩⟩))⟩, ⟨by exact vU (Kd.V_mono HO_247005.out (fun _ hk => ⟨hk.1.1.1.2.2.1, ⟨hk.2, ⟨hk.1.1.1.2.2.2.1, hk.1.1.1.2.2.2.2⟩⟩⟩))⟩, ⟨by (with_reducible repeat (first | refine blk_drewN ?_ _ | refine blk_drew ?_ | refine blk_alloc ?_ _)); exact BK231.out⟩, ⟨by (with_reducible repeat (first | refine blk_drewN ?_ _ | refine blk_drew ?_ | refine blk_alloc ?_ _)); exact BK246.out⟩, ⟨by repeat (first | (with_reducible first | exact HB.out | apply below_alloc | apply pw_below_drewN | apply below_drew1 | refine below_set ?_ GE231.out | refine below_set ?_ GE246.out) | exact HB.out)⟩⟩
                    case round =>
                      clear H'
                      try clear c1
                      try clear c2
                      try clear p2
                      try clear c3
                      try clear p3
                      try clear q3
                      try clear hx3
                      try clear c4
                      try clear c5
                      try clear c6
                      try clear p6
                      try clear c8
                      try clear c13
                      try clear c13b0
                      try clear c13b1
                      try clear c14
                      try clear c14b0
                      try clear c14b1
                      try clear c15
                      try clear c16
                      try clear c17
                      try clear c19
                      try clear c20
                      try clear c22
                      try clear c25
                      try clear c27
                      try clear c31
                      try clear c31b0
                      try clear c32
                      try clear c32b0
                      try clear c33
                      try clear c33b0
                      try clear p34
                      try clear q34
                      try clear hx34
                      try clear hf34
                      try clear c39
                      try clear c42
                      try clear c42b0
                      try clear c42b1
                      try clear c42b2
                      try clear hcz17_0
                      try clear hcz17_1
                      try clear hcz17_2
                      try clear hcz17_3
                      try clear hcz17_4
                      try clear hcz17_5
                      try clear hcz19_0
                      try clear hcz19_1
                      try clear hcz19_2
                      try clear hcz19_3
                      try clear hcz19_4
                      try clear hcz19_5
                      try clear hcz23_0
                      try clear hcz23_1
                      try clear hcz23_2
                      try clear hcz23_3
                      try clear hcz23_4
                      try clear hcz23_5
                      try clear hfz17_0
                      try clear hfz17_1
                      try clear hfz17_2
                      try clear hfz17_3
                      try clear hfz17_4
                      try clear hfz17_5
                      try clear hfz19_0
                      try clear hfz19_1
                      try clear hfz19_2
                      try clear hfz19_3
                      try clear hfz19_4
                      try clear hfz19_5
                      try clear hfz23_0
                      try clear hfz23_1
                      try clear hfz23_2
                      try clear hfz23_3
                      try clear hfz23_4
                      try clear hfz23_5
                      try clear hx34_0
                      try clear p2
                      try clear p34
                      try clear q34
                      obtain ⟨x17_2, rfl, HA, HK2, HO_15, HO_16, HO_247003, HO_247004, HO_247005, BK231, BK246, HB⟩ := hrel
                      cases gk with
                      | zero => exact absurd HA.out (by simp [interlocutorlaw6_LexBlanks.l1])
                      | succ k2 =>
                        have H := HA.out
                        clear HA
                        simp only [interlocutorlaw6_LexBlanks.l1] at H
                        by_cases c55 : x17_2 < (t262.length : Int)
                        · rw [if_pos c55] at H
                          have c55b0 : decide (x17_2 < (t262.length : Int)) = true := decide_eq_true c55
                          clear c55
                          by_cases c56 : 0 ≤ x17_2
                          · rw [if_pos c56] at H
                            have c56b0 : decide (0 ≤ x17_2) = true := decide_eq_true c56
                            clear c56
                            by_cases c57 : x17_2 < (t271.length : Int)
                            · rw [if_pos c57] at H
                              have c57b0 : decide (x17_2 < (t271.length : Int)) = true := decide_eq_true c57
                              clear c57
                              by_cases c58 : (!(((rd_T47 t271 x17_2).f0) == ((rd_T47 t262 x17_2).f0)) || (!(((rd_T47 t271 x17_2).f1) == (wrap64 (((rd_T47 t262 x17_2).f1) + t254))) || (!(((rd_T47 t271 x17_2).f2) == ((rd_T47 t262 x17_2).f2)) || (!(((rd_T47 t271 x17_2).f3) == ((rd_T47 t262 x17_2).f3)) || (!(((rd_T47 t271 x17_2).f4) == ((rd_T47 t262 x17_2).f4))))))) = true
                              · rw [if_pos c58] at H
                                have c58b0 : (!(((rd_T47 t271 x17_2).f0) == ((rd_T47 t262 x17_2).f0)) || (!(((rd_T47 t271 x17_2).f1) == (wrap64 (((rd_T47 t262 x17_2).f1) + t254))) || (!(((rd_T47 t271 x17_2).f2) == ((rd_T47 t262 x17_2).f2)) || (!(((rd_T47 t271 x17_2).f3) == ((rd_T47 t262 x17_2).f3)) || (!(((rd_T47 t271 x17_2).f4) == ((rd_T47 t262 x17_2).f4))))))) = true := c58
                                clear c58
                                obtain rfl := Option.some.inj H
                                have p274 : 0 ≤ (x17_2 : Int) := of_decide_eq_true (by first | (with_reducible assumption) | assumption)
                                have q274 : x17_2 < (t262.length : Int) := of_decide_eq_true (by first | (with_reducible assumption) | assumption)
                                obtain ⟨ad274, e274, hx274_0, hx274_1, hx274_2, hx274_3, hx274_4⟩ := at_T47 (Kd.R_reads' HO_15.out).2.2 x17_2 p274 q274
                                cases e274
                                replace p274 := eq_true p274
                                replace q274 := eq_true q274
                                try go_wp2_with (first | ((with_reducible refine gate_dst (N := 18) rfl ?_); refine box_event ?hg (N := 18) ?hd (cs := #[.int .i64 0, .int .i64 0, .int .i64 0, .int .i64 0, .int .i64 0]) (t := 47) ?hr ?_; (case hd => rfl); (case hg => rfl); (case hr => first | (go_simp; done) | (go_simp; rfl)); intro gb275 hg w59 hbox hb; have n0_ := Aside0.mk (Kd.R_below (Kd.R_elderB (by (with_reducible repeat (first | apply Kd.R_alloc | apply Kd.R_drewN | apply Kd.R_drew)); exact HO_15.out) gb275 (Nat.le_of_eq hg.symm)) hb); have n1_ := Aside0.mk (Kd.R_below (Kd.R_elderB (by (with_reducible repeat (first | apply Kd.R_alloc | apply Kd.R_drewN | apply Kd.R_drew)); exact HO_16.out) gb275 (Nat.le_of_eq hg.symm)) hb); have n2_ := Aside0.mk (Kd.V_below (Kd.V_elderB (by exact vU HO_247003.out) gb275 (Nat.le_of_eq hg.symm)) hb); have n3_ := Aside0.mk (Kd.V_below (Kd.V_elderB (by exact vU HO_247004.out) gb275 (Nat.le_of_eq hg.symm)) hb); have n4_ := Aside0.mk (Kd.V_below (Kd.V_elderB (by exact vU HO_247005.out) gb275 (Nat.le_of_eq hg.symm)) hb); have n5_ := Aside0.mk (blk_below (g := gb231) (o := .cells #[.int .i64 a0_0, .int .i64 a0_1, .int .i64 a0_2, .int .i64 a0_3, .slice A0_4 l0_4.length c0_4, .bool a0_5] 24 (0, 0)) (by (with_reducible repeat (first | refine blk_drewN ?_ _ | refine blk_drew ?_ | refine blk_alloc ?_ _)); exact BK231.out) hb); have n6_ := Aside0.mk (blk_below (g := gb246) (o := .cells #[.string t234, .int .i64 t235, .int .i64 t236, .slice Ao24 t237.length co24, .slice Ao25 t240.length co25, .slice Ao26 t243.length co26] 32 (0, 0)) (by (with_reducible repeat (first | refine blk_drewN ?_ _ | refine blk_drew ?_ | refine blk_alloc ?_ _)); exact BK246.out) hb); have n7_ := Aside0.mk (below_step (by repeat (first | (with_reducible first | exact HB.out | apply below_alloc | apply pw_below_drewN | apply below_drew1 | refine below_set ?_ GE231.out | refine below_set ?_ GE246.out) | exact HB.out)) hb); have n8_ := Aside0.mk (hbox); have n9_ := Aside0.mk ((by rw [hg]; exact (below_size (by repeat (first | (with_reducible first | exact HB.out | apply below_alloc | apply pw_below_drewN | apply below_drew1 | refine below_set ?_ GE231.out | refine below_set ?_ GE246.out) | exact HB.out))) : w.heap.size ≤ gb275)); have n10_ := Aside0.mk ((by rw [hg]; exact (below_size (by repeat (first | (with_reducible first | exact HB.out | apply below_alloc | apply pw_below_drewN | apply below_drew1 | refine below_set ?_ GE231.out | refine below_set ?_ GE246.out) | exact HB.out))) : w.heap.size ≤ gb275)); have n11_ := Aside0.mk ((by rw [hg]; exact Nat.ne_of_lt (blk_lt (g := gb231) (o := .cells #[.int .i64 a0_0, .int .i64 a0_1, .int .i64 a0_2, .int .i64 a0_3, .slice A0_4 l0_4.length c0_4, .bool a0_5] 24 (0, 0)) (by (with_reducible repeat (first | refine blk_drewN ?_ _ | refine blk_drew ?_ | refine blk_alloc ?_ _)); exact BK231.out)) : gb231 ≠ gb275)); have n12_ := Aside0.mk ((by rw [hg]; exact Nat.ne_of_gt (blk_lt (g := gb231) (o := .cells #[.int .i64 a0_0, .int .i64 a0_1, .int .i64 a0_2, .int .i64 a0_3, .slice A0_4 l0_4.length c0_4, .bool a0_5] 24 (0, 0)) (by (with_reducible repeat (first | refine blk_drewN ?_ _ | refine blk_drew ?_ | refine blk_alloc ?_ _)); exact BK231.out)) : gb275 ≠ gb231)); have n13_ := Aside0.mk ((by rw [hg]; exact Nat.ne_of_lt (blk_lt (g := gb246) (o := .cells #[.string t234, .int .i64 t235, .int .i64 t236, .slice Ao24 t237.length co24, .slice Ao25 t240.length co25, .slice Ao26 t243.length co26] 32 (0, 0)) (by (with_reducible repeat (first | refine blk_drewN ?_ _ | refine blk_drew ?_ | refine blk_alloc ?_ _)); exact BK246.out)) : gb246 ≠ gb275)); have n14_ := Aside0.mk ((by rw [hg]; exact Nat.ne_of_gt (blk_lt (g := gb246) (o := .cells #[.string t234, .int .i64 t235, .int .i64 t236, .slice Ao24 t237.length co24, .slice Ao25 t240.length co25, .slice Ao26 t243.length co26] 32 (0, 0)) (by (with_reducible repeat (first | refine blk_drewN ?_ _ | refine blk_drew ?_ | refine blk_alloc ?_ _)); exact BK246.out)) : gb275 ≠ gb246)); clear HO_15; clear HO_16; clear HO_247003; clear HO_247004; clear HO_247005; clear BK231; clear BK246; clear HB; have HO_15 := n0_; have HO_16 := n1_; have HO_247003 := n2_; have HO_247004 := n3_; have HO_247005 := n4_; have BK231 := n5_; have BK246 := n6_; have HB := n7_; have BK275 := n8_; have GW275 := n9_; have GE275 := n10_; have NB231_275 := n11_; have NB275_231 := n12_; have NB246_275 := n13_; have NB275_246 := n14_; clear n0_ n1_ n2_ n3_ n4_ n5_ n6_ n7_ n8_ n9_ n10_ n11_ n12_ n13_ n14_; clear hb hbox hg; have hnb60 := NB275_231.out; have hnc60 := NB231_275.out; have hnb61 := NB275_246.out; have hnc61 := NB246_275.out; have hcz62_0 : w59.cell? ⟨gb275, 0, none⟩ = some (.int .i64 0) := (blk_cell BK275.out 0).trans rfl; have hcz62_1 : w59.cell? ⟨gb275, 1, none⟩ = some (.int .i64 0) := (blk_cell BK275.out 1).trans rfl; have hcz62_2 : w59.cell? ⟨gb275, 2, none⟩ = some (.int .i64 0) := (blk_cell BK275.out 2).trans rfl; have hcz62_3 : w59.cell? ⟨gb275, 3, none⟩ = some (.int .i64 0) := (blk_cell BK275.out 3).trans rfl; have hcz62_4 : w59.cell? ⟨gb275, 4, none⟩ = some (.int .i64 0) := (blk_cell BK275.out 4).trans rfl; have hfz62_0 := blk_frozen BK275.out 0; have hfz62_1 := blk_frozen BK275.out 1; have hfz62_2 := blk_frozen BK275.out 2; have hfz62_3 := blk_frozen BK275.out 3; have hfz62_4 := blk_frozen BK275.out 4))
                                have n0_ : Aside0 (Kd.R k47 47 ((((((w59.setCell ⟨gb275, 0, none⟩ (.int .i64 ((rd_T47 t262 x17_2).f0))).setCell ⟨gb275, 1, none⟩ (.int .i64 ((rd_T47 t262 x17_2).f1))).setCell ⟨gb275, 2, none⟩ (.int .i64 ((rd_T47 t262 x17_2).f2))).setCell ⟨gb275, 3, none⟩ (.int .i64 ((rd_T47 t262 x17_2).f3))).setCell ⟨gb275, 4, none⟩ (.int .i64 ((rd_T47 t262 x17_2).f4))).setCell ⟨gb275, 1, none⟩ (.int .i64 (wrap64 (((rd_T47 t262 x17_2).f1) + t254)))) w.heap.size (fun k_ => some k_ ≠ (.slice Ao54 t271.length co54 : Value).ownBlock ∧ k_ ≠ gb275) (.slice (some ad274) t262.length co53) t262) := ⟨by (with_reducible repeat (first | apply Kd.R_alloc | apply Kd.R_drewN | apply Kd.R_drew)); exact Kd.R_mono (Kd.R_far (p := ⟨gb275, 1, none⟩) (Kd.R_far (p := ⟨gb275, 4, none⟩) (Kd.R_far (p := ⟨gb275, 3, none⟩) (Kd.R_far (p := ⟨gb275, 2, none⟩) (Kd.R_far (p := ⟨gb275, 1, none⟩) (Kd.R_far (p := ⟨gb275, 0, none⟩) (Kd.R_mono HO_15.out (fun k_ hk => (⟨hk, hk.2⟩ : _ ∧ k_ ≠ gb275))) (fun _ hk => hk.2) (.int .i64 ((rd_T47 t262 x17_2).f0))) (fun _ hk => hk.2) (.int .i64 ((rd_T47 t262 x17_2).f1))) (fun _ hk => hk.2) (.int .i64 ((rd_T47 t262 x17_2).f2))) (fun _ hk => hk.2) (.int .i64 ((rd_T47 t262 x17_2).f3))) (fun _ hk => hk.2) (.int .i64 ((rd_T47 t262 x17_2).f4))) (fun _ hk => hk.2) (.int .i64 (wrap64 (((rd_T47 t262 x17_2).f1) + t254)))) (fun _ hk => ⟨hk.1.1, hk.1.2⟩)⟩
                                have n1_ : Aside0 (Kd.R k47 47 ((((((w59.setCell ⟨gb275, 0, none⟩ (.int .i64 ((rd_T47 t262 x17_2).f0))).setCell ⟨gb275, 1, none⟩ (.int .i64 ((rd_T47 t262 x17_2).f1))).setCell ⟨gb275, 2, none⟩ (.int .i64 ((rd_T47 t262 x17_2).f2))).setCell ⟨gb275, 3, none⟩ (.int .i64 ((rd_T47 t262 x17_2).f3))).setCell ⟨gb275, 4, none⟩ (.int .i64 ((rd_T47 t262 x17_2).f4))).setCell ⟨gb275, 1, none⟩ (.int .i64 (wrap64 (((rd_T47 t262 x17_2).f1) + t254)))) w.heap.size (fun k_ => some k_ ≠ (.slice (some ad274) t262.length co53 : Value).ownBlock ∧ k_ ≠ gb275) (.slice Ao54 t271.length co54) t271) := ⟨by (with_reducible repeat (first | apply Kd.R_alloc | apply Kd.R_drewN | apply Kd.R_drew)); exact Kd.R_mono (Kd.R_far (p := ⟨gb275, 1, none⟩) (Kd.R_far (p := ⟨gb275, 4, none⟩) (Kd.R_far (p := ⟨gb275, 3, none⟩) (Kd.R_far (p := ⟨gb275, 2, none⟩) (Kd.R_far (p := ⟨gb275, 1, none⟩) (Kd.R_far (p := ⟨gb275, 0, none⟩) (Kd.R_mono HO_16.out (fun k_ hk => (⟨hk, hk.2⟩ : _ ∧ k_ ≠ gb275))) (fun _ hk => hk.2) (.int .i64 ((rd_T47 t262 x17_2).f0))) (fun _ hk => hk.2) (.int .i64 ((rd_T47 t262 x17_2).f1))) (fun _ hk => hk.2) (.int .i64 ((rd_T47 t262 x17_2).f2))) (fun _ hk => hk.2) (.int .i64 ((rd_T47 t262 x17_2).f3))) (fun _ hk => hk.2) (.int .i64 ((rd_T47 t262 x17_2).f4))) (fun _ hk => hk.2) (.int .i64 (wrap64 (((rd_T47 t262 x17_2).f1) + t254)))) (fun _ hk => ⟨hk.1.1, hk.1.2⟩)⟩
                                have n2_ : Aside0 (Kd.V k53 53 ((((((w59.setCell ⟨gb275, 0, none⟩ (.int .i64 ((rd_T47 t262 x17_2).f0))).setCell ⟨gb275, 1, none⟩ (.int .i64 ((rd_T47 t262 x17_2).f1))).setCell ⟨gb275, 2, none⟩ (.int .i64 ((rd_T47 t262 x17_2).f2))).setCell ⟨gb275, 3, none⟩ (.int .i64 ((rd_T47 t262 x17_2).f3))).setCell ⟨gb275, 4, none⟩ (.int .i64 ((rd_T47 t262 x17_2).f4))).setCell ⟨gb275, 1, none⟩ (.int .i64 (wrap64 (((rd_T47 t262 x17_2).f1) + t254)))) w.heap.size (fun k_ => some k_ ≠ (.slice (some ad274) t262.length co53 : Value).ownBlock ∧ some k_ ≠ (.slice Ao54 t271.length co54 : Value).ownBlock ∧ k_ ≠ gb231 ∧ k_ ≠ gb246 ∧ k_ ≠ gb275) (.slice Ao24 t237.length co24) t237) := ⟨by exact vU (Kd.V_mono (Kd.V_far (p := ⟨gb275, 1, none⟩) (Kd.V_far (p := ⟨gb275, 4, none⟩) (Kd.V_far (p := ⟨gb275, 3, none⟩) (Kd.V_far (p := ⟨gb275, 2, none⟩) (Kd.V_far (p := ⟨gb275, 1, none⟩) (Kd.V_far (p := ⟨gb275, 0, none⟩) (Kd.V_mono HO_247003.out (fun k_ hk => (⟨hk, hk.2⟩ : _ ∧ k_ ≠ gb275))) (fun _ hk => hk.2) (.int .i64 ((rd_T47 t262 x17_2).f0))) (fun _ hk => hk.2) (.int .i64 ((rd_T47 t262 x17_2).f1))) (fun _ hk => hk.2) (.int .i64 ((rd_T47 t262 x17_2).f2))) (fun _ hk => hk.2) (.int .i64 ((rd_T47 t262 x17_2).f3))) (fun _ hk => hk.2) (.int .i64 ((rd_T47 t262 x17_2).f4))) (fun _ hk => hk.2) (.int .i64 (wrap64 (((rd_T47 t262 x17_2).f1) + t254)))) (fun _ hk => ⟨hk.1.1.1, ⟨hk.1.1.2.1, ⟨hk.1.1.2.2.1, ⟨hk.1.1.2.2.2, hk.1.2⟩⟩⟩⟩))⟩
                                have n3_ : Aside0 (Kd.V k108 108 ((((((w59.setCell ⟨gb275, 0, none⟩ (.int .i64 ((rd_T47 t262 x17_2).f0))).setCell ⟨gb275, 1, none⟩ (.int .i64 ((rd_T47 t262 x17_2).f1))).setCell ⟨gb275, 2, none⟩ (.int .i64 ((rd_T47 t262 x17_2).f2))).setCell ⟨gb275, 3, none⟩ (.int .i64 ((rd_T47 t262 x17_2).f3))).setCell ⟨gb275, 4, none⟩ (.int .i64 ((rd_T47 t262 x17_2).f4))).setCell ⟨gb275, 1, none⟩ (.int .i64 (wrap64 (((rd_T47 t262 x17_2).f1) + t254)))) w.heap.size (fun k_ => some k_ ≠ (.slice (some ad274) t262.length co53 : Value).ownBlock ∧ some k_ ≠ (.slice Ao54 t271.length co54 : Value).ownBlock ∧ k_ ≠ gb231 ∧ k_ ≠ gb246 ∧ k_ ≠ gb275) (.slice Ao25 t240.length co25) t240) := ⟨by exact vU (Kd.V_mono (Kd.V_far (p := ⟨gb275, 1, none⟩) (Kd.V_far (p := ⟨gb275, 4, none⟩) (Kd.V_far (p := ⟨gb275, 3, none⟩) (Kd.V_far (p := ⟨gb275, 2, none⟩) (Kd.V_far (p := ⟨gb275, 1, none⟩) (Kd.V_far (p := ⟨gb275, 0, none⟩) (Kd.V_mono HO_247004.out (fun k_ hk => (⟨hk, hk.2⟩ : _ ∧ k_ ≠ gb275))) (fun _ hk => hk.2) (.int .i64 ((rd_T47 t262 x17_2).f0))) (fun _ hk => hk.2) (.int .i64 ((rd_T47 t262 x17_2).f1))) (fun _ hk => hk.2) (.int .i64 ((rd_T47 t262 x17_2).f2))) (fun _ hk => hk.2) (.int .i64 ((rd_T47 t262 x17_2).f3))) (fun _ hk => hk.2) (.int .i64 ((rd_T47 t262 x17_2).f4))) (fun _ hk => hk.2) (.int .i64 (wrap64 (((rd_T47 t262 x17_2).f1) + t254)))) (fun _ hk => ⟨hk.1.1.1, ⟨hk.1.1.2.1, ⟨hk.1.1.2.2.1, ⟨hk.1.1.2.2.2, hk.1.2⟩⟩⟩⟩))⟩
                                have n4_ : Aside0 (Kd.V k138 138 ((((((w59.setCell ⟨gb275, 0, none⟩ (.int .i64 ((rd_T47 t262 x17_2).f0))).setCell ⟨gb275, 1, none⟩ (.int .i64 ((rd_T47 t262 x17_2).f1))).setCell ⟨gb275, 2, none⟩ (.int .i64 ((rd_T47 t262 x17_2).f2))).setCell ⟨gb275, 3, none⟩ (.int .i64 ((rd_T47 t262 x17_2).f3))).setCell ⟨gb275, 4, none⟩ (.int .i64 ((rd_T47 t262 x17_2).f4))).setCell ⟨gb275, 1, none⟩ (.int .i64 (wrap64 (((rd_T47 t262 x17_2).f1) + t254)))) w.heap.size (fun k_ => some k_ ≠ (.slice (some ad274) t262.length co53 : Value).ownBlock ∧ some k_ ≠ (.slice Ao54 t271.length co54 : Value).ownBlock ∧ k_ ≠ gb231 ∧ k_ ≠ gb246 ∧ k_ ≠ gb275) (.slice Ao26 t243.length co26) t243) := ⟨by exact vU (Kd.V_mono (Kd.V_far (p := ⟨gb275, 1, none⟩) (Kd.V_far (p := ⟨gb275, 4, none⟩) (Kd.V_far (p := ⟨gb275, 3, none⟩) (Kd.V_far (p := ⟨gb275, 2, none⟩) (Kd.V_far (p := ⟨gb275, 1, none⟩) (Kd.V_far (p := ⟨gb275, 0, none⟩) (Kd.V_mono HO_247005.out (fun k_ hk => (⟨hk, hk.2⟩ : _ ∧ k_ ≠ gb275))) (fun _ hk => hk.2) (.int .i64 ((rd_T47 t262 x17_2).f0))) (fun _ hk => hk.2) (.int .i64 ((rd_T47 t262 x17_2).f1))) (fun _ hk => hk.2) (.int .i64 ((rd_T47 t262 x17_2).f2))) (fun _ hk => hk.2) (.int .i64 ((rd_T47 t262 x17_2).f3))) (fun _ hk => hk.2) (.int .i64 ((rd_T47 t262 x17_2).f4))) (fun _ hk => hk.2) (.int .i64 (wrap64 (((rd_T47 t262 x17_2).f1) + t254)))) (fun _ hk => ⟨hk.1.1.1, ⟨hk.1.1.2.1, ⟨hk.1.1.2.2.1, ⟨hk.1.1.2.2.2, hk.1.2⟩⟩⟩⟩))⟩
                                have n5_ : Aside0 (((((((w59.setCell ⟨gb275, 0, none⟩ (.int .i64 ((rd_T47 t262 x17_2).f0))).setCell ⟨gb275, 1, none⟩ (.int .i64 ((rd_T47 t262 x17_2).f1))).setCell ⟨gb275, 2, none⟩ (.int .i64 ((rd_T47 t262 x17_2).f2))).setCell ⟨gb275, 3, none⟩ (.int .i64 ((rd_T47 t262 x17_2).f3))).setCell ⟨gb275, 4, none⟩ (.int .i64 ((rd_T47 t262 x17_2).f4))).setCell ⟨gb275, 1, none⟩ (.int .i64 (wrap64 (((rd_T47 t262 x17_2).f1) + t254)))).heap[gb231]? = some (.cells #[.int .i64 a0_0, .int .i64 a0_1, .int .i64 a0_2, .int .i64 a0_3, .slice A0_4 l0_4.length c0_4, .bool a0_5] 24 (0, 0))) := ⟨by (with_reducible repeat (first | refine blk_drewN ?_ _ | refine blk_drew ?_ | refine blk_alloc ?_ _)); refine blk_far ?_ NB231_275.out _; (with_reducible repeat (first | refine blk_drewN ?_ _ | refine blk_drew ?_ | refine blk_alloc ?_ _)); refine blk_far ?_ NB231_275.out _; (with_reducible repeat (first | refine blk_drewN ?_ _ | refine blk_drew ?_ | refine blk_alloc ?_ _)); refine blk_far ?_ NB231_275.out _; (with_reducible repeat (first | refine blk_drewN ?_ _ | refine blk_drew ?_ | refine blk_alloc ?_ _)); refine blk_far ?_ NB231_275.out _; (with_reducible repeat (first | refine blk_drewN ?_ _ | refine blk_drew ?_ | refine blk_alloc ?_ _)); refine blk_far ?_ NB231_275.out _; (with_reducible repeat (first | refine blk_drewN ?_ _ | refine blk_drew ?_ | refine blk_alloc ?_ _)); refine blk_far ?_ NB231_275.out _; (with_reducible repeat (first | refine blk_drewN ?_ _ | refine blk_drew ?_ | refine blk_alloc ?_ _)); exact BK231.out⟩
                                have n6_ : Aside0 (((((((w59.setCell ⟨gb275, 0, none⟩ (.int .i64 ((rd_T47 t262 x17_2).f0))).setCell ⟨gb275, 1, none⟩ (.int .i64 ((rd_T47 t262 x17_2).f1))).setCell ⟨gb275, 2, none⟩ (.int .i64 ((rd_T47 t262 x17_2).f2))).setCell ⟨gb275, 3, none⟩ (.int .i64 ((rd_T47 t262 x17_2).f3))).setCell ⟨gb275, 4, none⟩ (.int .i64 ((rd_T47 t262 x17_2).f4))).setCell ⟨gb275, 1, none⟩ (.int .i64 (wrap64 (((rd_T47 t262 x17_2).f1) + t254)))).heap[gb246]? = some (.cells #[.string t234, .int .i64 t235, .int .i64 t236, .slice Ao24 t237.length co24, .slice Ao25 t240.length co25, .slice Ao26 t243.length co26] 32 (0, 0))) := ⟨by (with_reducible repeat (first | refine blk_drewN ?_ _ | refine blk_drew ?_ | refine blk_alloc ?_ _)); refine blk_far ?_ NB246_275.out _; (with_reducible repeat (first | refine blk_drewN ?_ _ | refine blk_drew ?_ | refine blk_alloc ?_ _)); refine blk_far ?_ NB246_275.out _; (with_reducible repeat (first | refine blk_drewN ?_ _ | refine blk_drew ?_ | refine blk_alloc ?_ _)); refine blk_far ?_ NB246_275.out _; (with_reducible repeat (first | refine blk_drewN ?_ _ | refine blk_drew ?_ | refine blk_alloc ?_ _)); refine blk_far ?_ NB246_275.out _; (with_reducible repeat (first | refine blk_drewN ?_ _ | refine blk_drew ?_ | refine blk_alloc ?_ _)); refine blk_far ?_ NB246_275.out _; (with_reducible repeat (first | refine blk_drewN ?_ _ | refine blk_drew ?_ | refine blk_alloc ?_ _)); refine blk_far ?_ NB246_275.out _; (with_reducible repeat (first | refine blk_drewN ?_ _ | refine blk_drew ?_ | refine blk_alloc ?_ _)); exact BK246.out⟩
                                have n7_ : Aside0 (((((((w59.setCell ⟨gb275, 0, none⟩ (.int .i64 ((rd_T47 t262 x17_2).f0))).setCell ⟨gb275, 1, none⟩ (.int .i64 ((rd_T47 t262 x17_2).f1))).setCell ⟨gb275, 2, none⟩ (.int .i64 ((rd_T47 t262 x17_2).f2))).setCell ⟨gb275, 3, none⟩ (.int .i64 ((rd_T47 t262 x17_2).f3))).setCell ⟨gb275, 4, none⟩ (.int .i64 ((rd_T47 t262 x17_2).f4))).setCell ⟨gb275, 1, none⟩ (.int .i64 (wrap64 (((rd_T47 t262 x17_2).f1) + t254)))).heap[gb275]? = some (.cells #[.int .i64 ((rd_T47 t262 x17_2).f0), .int .i64 (wrap64 (((rd_T47 t262 x17_2).f1) + t254)), .int .i64 ((rd_T47 t262 x17_2).f2), .int .i64 ((rd_T47 t262 x17_2).f3), .int .i64 ((rd_T47 t262 x17_2).f4)] 47 (0, 0))) := ⟨by (with_reducible repeat (first | refine blk_drewN ?_ _ | refine blk_drew ?_ | refine blk_alloc ?_ _)); refine blk_put (cs := #[.int .i64 ((rd_T47 t262 x17_2).f0), .int .i64 ((rd_T47 t262 x17_2).f1), .int .i64 ((rd_T47 t262 x17_2).f2), .int .i64 ((rd_T47 t262 x17_2).f3), .int .i64 ((rd_T47 t262 x17_2).f4)]) ?_ 1 _ rfl; (with_reducible repeat (first | refine blk_drewN ?_ _ | refine blk_drew ?_ | refine blk_alloc ?_ _)); refine blk_put (cs := #[.int .i64 ((rd_T47 t262 x17_2).f0), .int .i64 ((rd_T47 t262 x17_2).f1), .int .i64 ((rd_T47 t262 x17_2).f2), .int .i64 ((rd_T47 t262 x17_2).f3), .int .i64 0]) ?_ 4 _ rfl; (with_reducible repeat (first | refine blk_drewN ?_ _ | refine blk_drew ?_ | refine blk_alloc ?_ _)); refine blk_put (cs := #[.int .i64 ((rd_T47 t262 x17_2).f0), .int .i64 ((rd_T47 t262 x17_2).f1), .int .i64 ((rd_T47 t262 x17_2).f2), .int .i64 0, .int .i64 0]) ?_ 3 _ rfl; (with_reducible repeat (first | refine blk_drewN ?_ _ | refine blk_drew ?_ | refine blk_alloc ?_ _)); refine blk_put (cs := #[.int .i64 ((rd_T47 t262 x17_2).f0), .int .i64 ((rd_T47 t262 x17_2).f1), .int .i64 0, .int .i64 0, .int .i64 0]) ?_ 2 _ rfl; (with_reducible repeat (first | refine blk_drewN ?_ _ | refine blk_drew ?_ | refine blk_alloc ?_ _)); refine blk_put (cs := #[.int .i64 ((rd_T47 t262 x17_2).f0), .int .i64 0, .int .i64 0, .int .i64 0, .int .i64 0]) ?_ 1 _ rfl; (with_reducible repeat (first | refine blk_drewN ?_ _ | refine blk_drew ?_ | refine blk_alloc ?_ _)); refine blk_put (cs := #[.int .i64 0, .int .i64 0, .int .i64 0, .int .i64 0, .int .i64 0]) ?_ 0 _ rfl; (with_reducible repeat (first | refine blk_drewN ?_ _ | refine blk_drew ?_ | refine blk_alloc ?_ _)); exact BK275.out⟩
                                have n8_ : Aside0 (Below w.heap.size w ((((((w59.setCell ⟨gb275, 0, none⟩ (.int .i64 ((rd_T47 t262 x17_2).f0))).setCell ⟨gb275, 1, none⟩ (.int .i64 ((rd_T47 t262 x17_2).f1))).setCell ⟨gb275, 2, none⟩ (.int .i64 ((rd_T47 t262 x17_2).f2))).setCell ⟨gb275, 3, none⟩ (.int .i64 ((rd_T47 t262 x17_2).f3))).setCell ⟨gb275, 4, none⟩ (.int .i64 ((rd_T47 t262 x17_2).f4))).setCell ⟨gb275, 1, none⟩ (.int .i64 (wrap64 (((rd_T47 t262 x17_2).f1) + t254))))) := ⟨by repeat (first | (with_reducible first | exact HB.out | apply below_alloc | apply pw_below_drewN | apply below_drew1 | refine below_set ?_ GE231.out | refine below_set ?_ GE246.out | refine below_set ?_ GE275.out) | exact HB.out)⟩
                                (try clear HO_15)
                                (try clear HO_16)
                                (try clear HO_247003)
                                (try clear HO_247004)
                                (try clear HO_247005)
                                (try clear BK231)
                                (try clear BK246)
                                (try clear BK275)
                                (try clear HB)
                                generalize ((((((w59.setCell ⟨gb275, 0, none⟩ (.int .i64 ((rd_T47 t262 x17_2).f0))).setCell ⟨gb275, 1, none⟩ (.int .i64 ((rd_T47 t262 x17_2).f1))).setCell ⟨gb275, 2, none⟩ (.int .i64 ((rd_T47 t262 x17_2).f2))).setCell ⟨gb275, 3, none⟩ (.int .i64 ((rd_T47 t262 x17_2).f3))).setCell ⟨gb275, 4, none⟩ (.int .i64 ((rd_T47 t262 x17_2).f4))).setCell ⟨gb275, 1, none⟩ (.int .i64 (wrap64 (((rd_T47 t262 x17_2).f1) + t254)))) = w63 at n0_ n1_ n2_ n3_ n4_ n5_ n6_ n7_ n8_ ⊢
                                have HO_15 := n0_
                                have HO_16 := n1_
                                have HO_247003 := n2_
                                have HO_247004 := n3_
                                have HO_247005 := n4_
                                have BK231 := n5_
                                have BK246 := n6_
                                have BK275 := n7_
                                have HB := n8_
                                clear n0_ n1_ n2_ n3_ n4_ n5_ n6_ n7_ n8_
                                have n0_ := Aside0.mk (Kd.R_drew HO_15.out)
                                have n1_ := Aside0.mk (Kd.R_drew HO_16.out)
                                have n2_ := Aside0.mk (Kd.V_drew HO_247003.out)
                                have n3_ := Aside0.mk (Kd.V_drew HO_247004.out)
                                have n4_ := Aside0.mk (Kd.V_drew HO_247005.out)
                                have n5_ := Aside0.mk (blk_drew BK231.out)
                                have n6_ := Aside0.mk (blk_drew BK246.out)
                                have n7_ := Aside0.mk (blk_drew BK275.out)
                                have n8_ := Aside0.mk (below_drew1 HB.out)
                                clear HO_15 HO_16 HO_247003 HO_247004 HO_247005 BK231 BK246 BK275 HB
                                have HO_15 := n0_
                                have HO_16 := n1_
                                have HO_247003 := n2_
                                have HO_247004 := n3_
                                have HO_247005 := n4_
                                have BK231 := n5_
                                have BK246 := n6_
                                have BK275 := n7_
                                have HB := n8_
                                clear n0_ n1_ n2_ n3_ n4_ n5_ n6_ n7_ n8_
                                have p276 : 0 ≤ (x17_2 : Int) := of_decide_eq_true (by first | (with_reducible assumption) | assumption)
                                have q276 : x17_2 < (t271.length : Int) := of_decide_eq_true (by first | (with_reducible assumption) | assumption)
                                obtain ⟨ad276, e276, hx276_0, hx276_1, hx276_2, hx276_3, hx276_4⟩ := at_T47 (Kd.R_reads' HO_16.out).2.2 x17_2 p276 q276
                                cases e276
                                replace p276 := eq_true p276
                                replace q276 := eq_true q276
                                refine start_ (n := 6) (S := fun w' => w'.cell? ⟨gb275, 0, none⟩ = some (.int .i64 ((rd_T47 t262 x17_2).f0)) ∧ w'.cell? ⟨gb275, 1, none⟩ = some (.int .i64 (wrap64 (((rd_T47 t262 x17_2).f1) + t254))) ∧ w'.cell? ⟨gb275, 2, none⟩ = some (.int .i64 ((rd_T47 t262 x17_2).f2)) ∧ w'.cell? ⟨gb275, 3, none⟩ = some (.int .i64 ((rd_T47 t262 x17_2).f3)) ∧ w'.cell? ⟨gb275, 4, none⟩ = some (.int .i64 ((rd_T47 t262 x17_2).f4)) ∧ w'.cell? (ad276.add ((x17_2).toNat * 5)) = some (.int .i64 ((rd_T47 t271 x17_2).f0)) ∧ w'.cell? ⟨(ad276.add ((x17_2).toNat * 5)).block, (ad276.add ((x17_2).toNat * 5)).off + 1, none⟩ = some (.int .i64 ((rd_T47 t271 x17_2).f1)) ∧ w'.cell? ⟨(ad276.add ((x17_2).toNat * 5)).block, (ad276.add ((x17_2).toNat * 5)).off + 2, none⟩ = some (.int .i64 ((rd_T47 t271 x17_2).f2)) ∧ w'.cell? ⟨(ad276.add ((x17_2).toNat * 5)).block, (ad276.add ((x17_2).toNat * 5)).off + 3, none⟩ = some (.int .i64 ((rd_T47 t271 x17_2).f3)) ∧ w'.cell? ⟨(ad276.add ((x17_2).toNat * 5)).block, (ad276.add ((x17_2).toNat * 5)).off + 4, none⟩ = some (.int .i64 ((rd_T47 t271 x17_2).f4))) (ds := []) #[false, false, false, false, false, false] (by kernel_rfl) rfl rfl ⟨(blk_cell BK275.out 0).trans rfl, (blk_cell BK275.out 1).trans rfl, (blk_cell BK275.out 2).trans rfl, (blk_cell BK275.out 3).trans rfl, (blk_cell BK275.out 4).trans rfl, hx276_0, hx276_1, hx276_2, hx276_3, hx276_4⟩ (fun hHeld => ?_)
                                generalize w63.drew = w64 at HO_15 HO_16 HO_247003 HO_247004 HO_247005 BK231 BK246 BK275 HB hx276_0 hx276_1 hx276_2 hx276_3 hx276_4 hHeld ⊢
                                refine pure_ (i := 0) (N := some 75) (v := ?_) (a' := ?_) #[true, false, false, false, false, false] rfl rfl (by kernel_rfl) (fun _ _ _ h => h) (Or.inl ⟨by rfl, ?_⟩) ?_ ?_
                                rotate_left
                                · intro w'
                                  go_simp
                                  with_reducible rfl
                                rotate_left
                                · simp only [Act.put, List.setIfInBounds_toArray, List.set_cons_zero, List.set_cons_succ, i64_w, i32_w]
                                  rfl
                                refine pure_ (i := 1) (N := some 76) (v := ?_) (a' := ?_) #[true, true, false, false, false, false] rfl rfl (by kernel_rfl) (fun _ _ _ h => h) (Or.inl ⟨by rfl, ?_⟩) ?_ ?_
                                rotate_left
                                · intro w'
                                  go_simp
                                  with_reducible rfl
                                rotate_left
                                · simp only [Act.put, List.setIfInBounds_toArray, List.set_cons_zero, List.set_cons_succ, i64_w, i32_w]
                                  rfl
                                refine pure_ (i := 2) (N := some 77) (v := ?_) (a' := ?_) #[true, true, true, false, false, false] rfl rfl (by kernel_rfl) (fun _ _ _ h => h) (Or.inl ⟨by rfl, ?_⟩) ?_ ?_
                                rotate_left
                                · intro w'
                                  go_simp
                                  with_reducible rfl
                                rotate_left
                                · simp only [Act.put, List.setIfInBounds_toArray, List.set_cons_zero, List.set_cons_succ, i64_w, i32_w]
                                  rfl
                                refine take_ (i := 3) (N := some 78) (v := ?_) (a' := ?_) #[true, true, true, true, false, false] rfl rfl (by kernel_rfl) (fun _ _ _ h => h) (Or.inl ⟨by rfl, ?_⟩) hHeld ?_ ?_
                                rotate_left
                                · rintro w' ⟨s0, s1, s2, s3, s4, s5, s6, s7, s8, s9⟩
                                  go_simp
                                  with_reducible rfl
                                rotate_left
                                · simp only [Act.put, List.setIfInBounds_toArray, List.set_cons_zero, List.set_cons_succ, i64_w, i32_w]
                                  rfl
                                refine take_ (i := 4) (N := some 79) (v := ?_) (a' := ?_) #[true, true, true, true, true, false] rfl rfl (by kernel_rfl) (fun _ _ _ h => h) (Or.inl ⟨by rfl, ?_⟩) hHeld ?_ ?_
                                rotate_left
                                · rintro w' ⟨s0, s1, s2, s3, s4, s5, s6, s7, s8, s9⟩
                                  go_simp
                                  with_reducible rfl
                                rotate_left
                                · simp only [Act.put, List.setIfInBounds_toArray, List.set_cons_zero, List.set_cons_succ, i64_w, i32_w]
                                  rfl
                                refine pure_ (i := 5) (N := some 80) (v := ?_) (a' := ?_) #[true, true, true, true, true, true] rfl rfl (by kernel_rfl) (fun _ _ _ h => h) (Or.inl ⟨by rfl, ?_⟩) ?_ ?_
                                rotate_left
                                · intro w'
                                  go_simp
                                  with_reducible rfl
                                rotate_left
                                · simp only [Act.put, List.setIfInBounds_toArray, List.set_cons_zero, List.set_cons_succ, i64_w, i32_w]
                                  rfl
                                refine done_ (by kernel_rfl) ?_
                                try go_wp2
                                go_ret
                                exact ⟨by first | rfl | (simp [errW_none, errW_some] <;> rfl) | (simp [*, errW_none, errW_some] <;> rfl), by repeat (first | (with_reducible first | exact HB.out | apply below_alloc | apply pw_below_drewN | apply below_drew1 | refine below_set ?_ GE231.out | refine below_set ?_ GE246.out | refine below_set ?_ GE275.out) | exact HB.out)⟩
                              · rw [if_neg c58] at H
                                have c58b0 : (!(((rd_T47 t271 x17_2).f0) == ((rd_T47 t262 x17_2).f0)) || (!(((rd_T47 t271 x17_2).f1) == (wrap64 (((rd_T47 t262 x17_2).f1) + t254))) || (!(((rd_T47 t271 x17_2).f2) == ((rd_T47 t262 x17_2).f2)) || (!(((rd_T47 t271 x17_2).f3) == ((rd_T47 t262 x17_2).f3)) || (!(((rd_T47 t271 x17_2).f4) == ((rd_T47 t262 x17_2).f4))))))) = false := by simpa using c58
                                clear c58
                                have H' := Aside0.mk H
                                clear H
                                have p274 : 0 ≤ (x17_2 : Int) := of_decide_eq_true (by first | (with_reducible assumption) | assumption)
                                have q274 : x17_2 < (t262.length : Int) := of_decide_eq_true (by first | (with_reducible assumption) | assumption)
                                obtain ⟨ad274, e274, hx274_0, hx274_1, hx274_2, hx274_3, hx274_4⟩ := at_T47 (Kd.R_reads' HO_15.out).2.2 x17_2 p274 q274
                                cases e274
                                replace p274 := eq_true p274
                                replace q274 := eq_true q274
                                try go_wp2_with (first | ((with_reducible refine gate_dst (N := 18) rfl ?_); refine box_event ?hg (N := 18) ?hd (cs := #[.int .i64 0, .int .i64 0, .int .i64 0, .int .i64 0, .int .i64 0]) (t := 47) ?hr ?_; (case hd => rfl); (case hg => rfl); (case hr => first | (go_simp; done) | (go_simp; rfl)); intro gb275 hg w65 hbox hb; have n0_ := Aside0.mk (Kd.R_below (Kd.R_elderB (by (with_reducible repeat (first | apply Kd.R_alloc | apply Kd.R_drewN | apply Kd.R_drew)); exact HO_15.out) gb275 (Nat.le_of_eq hg.symm)) hb); have n1_ := Aside0.mk (Kd.R_below (Kd.R_elderB (by (with_reducible repeat (first | apply Kd.R_alloc | apply Kd.R_drewN | apply Kd.R_drew)); exact HO_16.out) gb275 (Nat.le_of_eq hg.symm)) hb); have n2_ := Aside0.mk (Kd.V_below (Kd.V_elderB (by exact vU HO_247003.out) gb275 (Nat.le_of_eq hg.symm)) hb); have n3_ := Aside0.mk (Kd.V_below (Kd.V_elderB (by exact vU HO_247004.out) gb275 (Nat.le_of_eq hg.symm)) hb); have n4_ := Aside0.mk (Kd.V_below (Kd.V_elderB (by exact vU HO_247005.out) gb275 (Nat.le_of_eq hg.symm)) hb); have n5_ := Aside0.mk (blk_below (g := gb231) (o := .cells #[.int .i64 a0_0, .int .i64 a0_1, .int .i64 a0_2, .int .i64 a0_3, .slice A0_4 l0_4.length c0_4, .bool a0_5] 24 (0, 0)) (by (with_reducible repeat (first | refine blk_drewN ?_ _ | refine blk_drew ?_ | refine blk_alloc ?_ _)); exact BK231.out) hb); have n6_ := Aside0.mk (blk_below (g := gb246) (o := .cells #[.string t234, .int .i64 t235, .int .i64 t236, .slice Ao24 t237.length co24, .slice Ao25 t240.length co25, .slice Ao26 t243.length co26] 32 (0, 0)) (by (with_reducible repeat (first | refine blk_drewN ?_ _ | refine blk_drew ?_ | refine blk_alloc ?_ _)); exact BK246.out) hb); have n7_ := Aside0.mk (below_step (by repeat (first | (with_reducible first | exact HB.out | apply below_alloc | apply pw_below_drewN | apply below_drew1 | refine below_set ?_ GE231.out | refine below_set ?_ GE246.out) | exact HB.out)) hb); have n8_ := Aside0.mk (hbox); have n9_ := Aside0.mk ((by rw [hg]; exact (below_size (by repeat (first | (with_reducible first | exact HB.out | apply below_alloc | apply pw_below_drewN | apply below_drew1 | refine below_set ?_ GE231.out | refine below_set ?_ GE246.out) | exact HB.out))) : w.heap.size ≤ gb275)); have n10_ := Aside0.mk ((by rw [hg]; exact (below_size (by repeat (first | (with_reducible first | exact HB.out | apply below_alloc | apply pw_below_drewN | apply below_drew1 | refine below_set ?_ GE231.out | refine below_set ?_ GE246.out) | exact HB.out))) : w.heap.size ≤ gb275)); have n11_ := Aside0.mk ((by rw [hg]; exact Nat.ne_of_lt (blk_lt (g := gb231) (o := .cells #[.int .i64 a0_0, .int .i64 a0_1, .int .i64 a0_2, .int .i64 a0_3, .slice A0_4 l0_4.length c0_4, .bool a0_5] 24 (0, 0)) (by (with_reducible repeat (first | refine blk_drewN ?_ _ | refine blk_drew ?_ | refine blk_alloc ?_ _)); exact BK231.out)) : gb231 ≠ gb275)); have n12_ := Aside0.mk ((by rw [hg]; exact Nat.ne_of_gt (blk_lt (g := gb231) (o := .cells #[.int .i64 a0_0, .int .i64 a0_1, .int .i64 a0_2, .int .i64 a0_3, .slice A0_4 l0_4.length c0_4, .bool a0_5] 24 (0, 0)) (by (with_reducible repeat (first | refine blk_drewN ?_ _ | refine blk_drew ?_ | refine blk_alloc ?_ _)); exact BK231.out)) : gb275 ≠ gb231)); have n13_ := Aside0.mk ((by rw [hg]; exact Nat.ne_of_lt (blk_lt (g := gb246) (o := .cells #[.string t234, .int .i64 t235, .int .i64 t236, .slice Ao24 t237.length co24, .slice Ao25 t240.length co25, .slice Ao26 t243.length co26] 32 (0, 0)) (by (with_reducible repeat (first | refine blk_drewN ?_ _ | refine blk_drew ?_ | refine blk_alloc ?_ _)); exact BK246.out)) : gb246 ≠ gb275)); have n14_ := Aside0.mk ((by rw [hg]; exact Nat.ne_of_gt (blk_lt (g := gb246) (o := .cells #[.string t234, .int .i64 t235, .int .i64 t236, .slice Ao24 t237.length co24, .slice Ao25 t240.length co25, .slice Ao26 t243.length co26] 32 (0, 0)) (by (with_reducible repeat (first | refine blk_drewN ?_ _ | refine blk_drew ?_ | refine blk_alloc ?_ _)); exact BK246.out)) : gb275 ≠ gb246)); clear HO_15; clear HO_16; clear HO_247003; clear HO_247004; clear HO_247005; clear BK231; clear BK246; clear HB; have HO_15 := n0_; have HO_16 := n1_; have HO_247003 := n2_; have HO_247004 := n3_; have HO_247005 := n4_; have BK231 := n5_; have BK246 := n6_; have HB := n7_; have BK275 := n8_; have GW275 := n9_; have GE275 := n10_; have NB231_275 := n11_; have NB275_231 := n12_; have NB246_275 := n13_; have NB275_246 := n14_; clear n0_ n1_ n2_ n3_ n4_ n5_ n6_ n7_ n8_ n9_ n10_ n11_ n12_ n13_ n14_; clear hb hbox hg; have hnb66 := NB275_231.out; have hnc66 := NB231_275.out; have hnb67 := NB275_246.out; have hnc67 := NB246_275.out; have hcz68_0 : w65.cell? ⟨gb275, 0, none⟩ = some (.int .i64 0) := (blk_cell BK275.out 0).trans rfl; have hcz68_1 : w65.cell? ⟨gb275, 1, none⟩ = some (.int .i64 0) := (blk_cell BK275.out 1).trans rfl; have hcz68_2 : w65.cell? ⟨gb275, 2, none⟩ = some (.int .i64 0) := (blk_cell BK275.out 2).trans rfl; have hcz68_3 : w65.cell? ⟨gb275, 3, none⟩ = some (.int .i64 0) := (blk_cell BK275.out 3).trans rfl; have hcz68_4 : w65.cell? ⟨gb275, 4, none⟩ = some (.int .i64 0) := (blk_cell BK275.out 4).trans rfl; have hfz68_0 := blk_frozen BK275.out 0; have hfz68_1 := blk_frozen BK275.out 1; have hfz68_2 := blk_frozen BK275.out 2; have hfz68_3 := blk_frozen BK275.out 3; have hfz68_4 := blk_frozen BK275.out 4))
                                have n0_ : Aside0 (Kd.R k47 47 ((((((w65.setCell ⟨gb275, 0, none⟩ (.int .i64 ((rd_T47 t262 x17_2).f0))).setCell ⟨gb275, 1, none⟩ (.int .i64 ((rd_T47 t262 x17_2).f1))).setCell ⟨gb275, 2, none⟩ (.int .i64 ((rd_T47 t262 x17_2).f2))).setCell ⟨gb275, 3, none⟩ (.int .i64 ((rd_T47 t262 x17_2).f3))).setCell ⟨gb275, 4, none⟩ (.int .i64 ((rd_T47 t262 x17_2).f4))).setCell ⟨gb275, 1, none⟩ (.int .i64 (wrap64 (((rd_T47 t262 x17_2).f1) + t254)))) w.heap.size (fun k_ => some k_ ≠ (.slice Ao54 t271.length co54 : Value).ownBlock ∧ k_ ≠ gb275) (.slice (some ad274) t262.length co53) t262) := ⟨by (with_reducible repeat (first | apply Kd.R_alloc | apply Kd.R_drewN | apply Kd.R_drew)); exact Kd.R_mono (Kd.R_far (p := ⟨gb275, 1, none⟩) (Kd.R_far (p := ⟨gb275, 4, none⟩) (Kd.R_far (p := ⟨gb275, 3, none⟩) (Kd.R_far (p := ⟨gb275, 2, none⟩) (Kd.R_far (p := ⟨gb275, 1, none⟩) (Kd.R_far (p := ⟨gb275, 0, none⟩) (Kd.R_mono HO_15.out (fun k_ hk => (⟨hk, hk.2⟩ : _ ∧ k_ ≠ gb275))) (fun _ hk => hk.2) (.int .i64 ((rd_T47 t262 x17_2).f0))) (fun _ hk => hk.2) (.int .i64 ((rd_T47 t262 x17_2).f1))) (fun _ hk => hk.2) (.int .i64 ((rd_T47 t262 x17_2).f2))) (fun _ hk => hk.2) (.int .i64 ((rd_T47 t262 x17_2).f3))) (fun _ hk => hk.2) (.int .i64 ((rd_T47 t262 x17_2).f4))) (fun _ hk => hk.2) (.int .i64 (wrap64 (((rd_T47 t262 x17_2).f1) + t254)))) (fun _ hk => ⟨hk.1.1, hk.1.2⟩)⟩
                                have n1_ : Aside0 (Kd.R k47 47 ((((((w65.setCell ⟨gb275, 0, none⟩ (.int .i64 ((rd_T47 t262 x17_2).f0))).setCell ⟨gb275, 1, none⟩ (.int .i64 ((rd_T47 t262 x17_2).f1))).setCell ⟨gb275, 2, none⟩ (.int .i64 ((rd_T47 t262 x17_2).f2))).setCell ⟨gb275, 3, none⟩ (.int .i64 ((rd_T47 t262 x17_2).f3))).setCell ⟨gb275, 4, none⟩ (.int .i64 ((rd_T47 t262 x17_2).f4))).setCell ⟨gb275, 1, none⟩ (.int .i64 (wrap64 (((rd_T47 t262 x17_2).f1) + t254)))) w.heap.size (fun k_ => some k_ ≠ (.slice (some ad274) t262.length co53 : Value).ownBlock ∧ k_ ≠ gb275) (.slice Ao54 t271.length co54) t271) := ⟨by (with_reducible repeat (first | apply Kd.R_alloc | apply Kd.R_drewN | apply Kd.R_drew)); exact Kd.R_mono (Kd.R_far (p := ⟨gb275, 1, none⟩) (Kd.R_far (p := ⟨gb275, 4, none⟩) (Kd.R_far (p := ⟨gb275, 3, none⟩) (Kd.R_far (p := ⟨gb275, 2, none⟩) (Kd.R_far (p := ⟨gb275, 1, none⟩) (Kd.R_far (p := ⟨gb275, 0, none⟩) (Kd.R_mono HO_16.out (fun k_ hk => (⟨hk, hk.2⟩ : _ ∧ k_ ≠ gb275))) (fun _ hk => hk.2) (.int .i64 ((rd_T47 t262 x17_2).f0))) (fun _ hk => hk.2) (.int .i64 ((rd_T47 t262 x17_2).f1))) (fun _ hk => hk.2) (.int .i64 ((rd_T47 t262 x17_2).f2))) (fun _ hk => hk.2) (.int .i64 ((rd_T47 t262 x17_2).f3))) (fun _ hk => hk.2) (.int .i64 ((rd_T47 t262 x17_2).f4))) (fun _ hk => hk.2) (.int .i64 (wrap64 (((rd_T47 t262 x17_2).f1) + t254)))) (fun _ hk => ⟨hk.1.1, hk.1.2⟩)⟩
                                have n2_ : Aside0 (Kd.V k53 53 ((((((w65.setCell ⟨gb275, 0, none⟩ (.int .i64 ((rd_T47 t262 x17_2).f0))).setCell ⟨gb275, 1, none⟩ (.int .i64 ((rd_T47 t262 x17_2).f1))).setCell ⟨gb275, 2, none⟩ (.int .i64 ((rd_T47 t262 x17_2).f2))).setCell ⟨gb275, 3, none⟩ (.int .i64 ((rd_T47 t262 x17_2).f3))).setCell ⟨gb275, 4, none⟩ (.int .i64 ((rd_T47 t262 x17_2).f4))).setCell ⟨gb275, 1, none⟩ (.int .i64 (wrap64 (((rd_T47 t262 x17_2).f1) + t254)))) w.heap.size (fun k_ => some k_ ≠ (.slice (some ad274) t262.length co53 : Value).ownBlock ∧ some k_ ≠ (.slice Ao54 t271.length co54 : Value).ownBlock ∧ k_ ≠ gb231 ∧ k_ ≠ gb246 ∧ k_ ≠ gb275) (.slice Ao24 t237.length co24) t237) := ⟨by exact vU (Kd.V_mono (Kd.V_far (p := ⟨gb275, 1, none⟩) (Kd.V_far (p := ⟨gb275, 4, none⟩) (Kd.V_far (p := ⟨gb275, 3, none⟩) (Kd.V_far (p := ⟨gb275, 2, none⟩) (Kd.V_far (p := ⟨gb275, 1, none⟩) (Kd.V_far (p := ⟨gb275, 0, none⟩) (Kd.V_mono HO_247003.out (fun k_ hk => (⟨hk, hk.2⟩ : _ ∧ k_ ≠ gb275))) (fun _ hk => hk.2) (.int .i64 ((rd_T47 t262 x17_2).f0))) (fun _ hk => hk.2) (.int .i64 ((rd_T47 t262 x17_2).f1))) (fun _ hk => hk.2) (.int .i64 ((rd_T47 t262 x17_2).f2))) (fun _ hk => hk.2) (.int .i64 ((rd_T47 t262 x17_2).f3))) (fun _ hk => hk.2) (.int .i64 ((rd_T47 t262 x17_2).f4))) (fun _ hk => hk.2) (.int .i64 (wrap64 (((rd_T47 t262 x17_2).f1) + t254)))) (fun _ hk => ⟨hk.1.1.1, ⟨hk.1.1.2.1, ⟨hk.1.1.2.2.1, ⟨hk.1.1.2.2.2, hk.1.2⟩⟩⟩⟩))⟩
                                have n3_ : Aside0 (Kd.V k108 108 ((((((w65.setCell ⟨gb275, 0, none⟩ (.int .i64 ((rd_T47 t262 x17_2).f0))).setCell ⟨gb275, 1, none⟩ (.int .i64 ((rd_T47 t262 x17_2).f1))).setCell ⟨gb275, 2, none⟩ (.int .i64 ((rd_T47 t262 x17_2).f2))).setCell ⟨gb275, 3, none⟩ (.int .i64 ((rd_T47 t262 x17_2).f3))).setCell ⟨gb275, 4, none⟩ (.int .i64 ((rd_T47 t262 x17_2).f4))).setCell ⟨gb275, 1, none⟩ (.int .i64 (wrap64 (((rd_T47 t262 x17_2).f1) + t254)))) w.heap.size (fun k_ => some k_ ≠ (.slice (some ad274) t262.length co53 : Value).ownBlock ∧ some k_ ≠ (.slice Ao54 t271.length co54 : Value).ownBlock ∧ k_ ≠ gb231 ∧ k_ ≠ gb246 ∧ k_ ≠ gb275) (.slice Ao25 t240.length co25) t240) := ⟨by exact vU (Kd.V_mono (Kd.V_far (p := ⟨gb275, 1, none⟩) (Kd.V_far (p := ⟨gb275, 4, none⟩) (Kd.V_far (p := ⟨gb275, 3, none⟩) (Kd.V_far (p := ⟨gb275, 2, none⟩) (Kd.V_far (p := ⟨gb275, 1, none⟩) (Kd.V_far (p := ⟨gb275, 0, none⟩) (Kd.V_mono HO_247004.out (fun k_ hk => (⟨hk, hk.2⟩ : _ ∧ k_ ≠ gb275))) (fun _ hk => hk.2) (.int .i64 ((rd_T47 t262 x17_2).f0))) (fun _ hk => hk.2) (.int .i64 ((rd_T47 t262 x17_2).f1))) (fun _ hk => hk.2) (.int .i64 ((rd_T47 t262 x17_2).f2))) (fun _ hk => hk.2) (.int .i64 ((rd_T47 t262 x17_2).f3))) (fun _ hk => hk.2) (.int .i64 ((rd_T47 t262 x17_2).f4))) (fun _ hk => hk.2) (.int .i64 (wrap64 (((rd_T47 t262 x17_2).f1) + t254)))) (fun _ hk => ⟨hk.1.1.1, ⟨hk.1.1.2.1, ⟨hk.1.1.2.2.1, ⟨hk.1.1.2.2.2, hk.1.2⟩⟩⟩⟩))⟩
                                have n4_ : Aside0 (Kd.V k138 138 ((((((w65.setCell ⟨gb275, 0, none⟩ (.int .i64 ((rd_T47 t262 x17_2).f0))).setCell ⟨gb275, 1, none⟩ (.int .i64 ((rd_T47 t262 x17_2).f1))).setCell ⟨gb275, 2, none⟩ (.int .i64 ((rd_T47 t262 x17_2).f2))).setCell ⟨gb275, 3, none⟩ (.int .i64 ((rd_T47 t262 x17_2).f3))).setCell ⟨gb275, 4, none⟩ (.int .i64 ((rd_T47 t262 x17_2).f4))).setCell ⟨gb275, 1, none⟩ (.int .i64 (wrap64 (((rd_T47 t262 x17_2).f1) + t254)))) w.heap.size (fun k_ => some k_ ≠ (.slice (some ad274) t262.length co53 : Value).ownBlock ∧ some k_ ≠ (.slice Ao54 t271.length co54 : Value).ownBlock ∧ k_ ≠ gb231 ∧ k_ ≠ gb246 ∧ k_ ≠ gb275) (.slice Ao26 t243.length co26) t243) := ⟨by exact vU (Kd.V_mono (Kd.V_far (p := ⟨gb275, 1, none⟩) (Kd.V_far (p := ⟨gb275, 4, none⟩) (Kd.V_far (p := ⟨gb275, 3, none⟩) (Kd.V_far (p := ⟨gb275, 2, none⟩) (Kd.V_far (p := ⟨gb275, 1, none⟩) (Kd.V_far (p := ⟨gb275, 0, none⟩) (Kd.V_mono HO_247005.out (fun k_ hk => (⟨hk, hk.2⟩ : _ ∧ k_ ≠ gb275))) (fun _ hk => hk.2) (.int .i64 ((rd_T47 t262 x17_2).f0))) (fun _ hk => hk.2) (.int .i64 ((rd_T47 t262 x17_2).f1))) (fun _ hk => hk.2) (.int .i64 ((rd_T47 t262 x17_2).f2))) (fun _ hk => hk.2) (.int .i64 ((rd_T47 t262 x17_2).f3))) (fun _ hk => hk.2) (.int .i64 ((rd_T47 t262 x17_2).f4))) (fun _ hk => hk.2) (.int .i64 (wrap64 (((rd_T47 t262 x17_2).f1) + t254)))) (fun _ hk => ⟨hk.1.1.1, ⟨hk.1.1.2.1, ⟨hk.1.1.2.2.1, ⟨hk.1.1.2.2.2, hk.1.2⟩⟩⟩⟩))⟩
                                have n5_ : Aside0 (((((((w65.setCell ⟨gb275, 0, none⟩ (.int .i64 ((rd_T47 t262 x17_2).f0))).setCell ⟨gb275, 1, none⟩ (.int .i64 ((rd_T47 t262 x17_2).f1))).setCell ⟨gb275, 2, none⟩ (.int .i64 ((rd_T47 t262 x17_2).f2))).setCell ⟨gb275, 3, none⟩ (.int .i64 ((rd_T47 t262 x17_2).f3))).setCell ⟨gb275, 4, none⟩ (.int .i64 ((rd_T47 t262 x17_2).f4))).setCell ⟨gb275, 1, none⟩ (.int .i64 (wrap64 (((rd_T47 t262 x17_2).f1) + t254)))).heap[gb231]? = some (.cells #[.int .i64 a0_0, .int .i64 a0_1, .int .i64 a0_2, .int .i64 a0_3, .slice A0_4 l0_4.length c0_4, .bool a0_5] 24 (0, 0))) := ⟨by (with_reducible repeat (first | refine blk_drewN ?_ _ | refine blk_drew ?_ | refine blk_alloc ?_ _)); refine blk_far ?_ NB231_275.out _; (with_reducible repeat (first | refine blk_drewN ?_ _ | refine blk_drew ?_ | refine blk_alloc ?_ _)); refine blk_far ?_ NB231_275.out _; (with_reducible repeat (first | refine blk_drewN ?_ _ | refine blk_drew ?_ | refine blk_alloc ?_ _)); refine blk_far ?_ NB231_275.out _; (with_reducible repeat (first | refine blk_drewN ?_ _ | refine blk_drew ?_ | refine blk_alloc ?_ _)); refine blk_far ?_ NB231_275.out _; (with_reducible repeat (first | refine blk_drewN ?_ _ | refine blk_drew ?_ | refine blk_alloc ?_ _)); refine blk_far ?_ NB231_275.out _; (with_reducible repeat (first | refine blk_drewN ?_ _ | refine blk_drew ?_ | refine blk_alloc ?_ _)); refine blk_far ?_ NB231_275.out _; (with_reducible repeat (first | refine blk_drewN ?_ _ | refine blk_drew ?_ | refine blk_alloc ?_ _)); exact BK231.out⟩
                                have n6_ : Aside0 (((((((w65.setCell ⟨gb275, 0, none⟩ (.int .i64 ((rd_T47 t262 x17_2).f0))).setCell ⟨gb275, 1, none⟩ (.int .i64 ((rd_T47 t262 x17_2).f1))).setCell ⟨gb275, 2, none⟩ (.int .i64 ((rd_T47 t262 x17_2).f2))).setCell ⟨gb275, 3, none⟩ (.int .i64 ((rd_T47 t262 x17_2).f3))).setCell ⟨gb275, 4, none⟩ (.int .i64 ((rd_T47 t262 x17_2).f4))).setCell ⟨gb275, 1, none⟩ (.int .i64 (wrap64 (((rd_T47 t262 x17_2).f1) + t254)))).heap[gb246]? = some (.cells #[.string t234, .int .i64 t235, .int .i64 t236, .slice Ao24 t237.length co24, .slice Ao25 t240.length co25, .slice Ao26 t243.length co26] 32 (0, 0))) := ⟨by (with_reducible repeat (first | refine blk_drewN ?_ _ | refine blk_drew ?_ | refine blk_alloc ?_ _)); refine blk_far ?_ NB246_275.out _; (with_reducible repeat (first | refine blk_drewN ?_ _ | refine blk_drew ?_ | refine blk_alloc ?_ _)); refine blk_far ?_ NB246_275.out _; (with_reducible repeat (first | refine blk_drewN ?_ _ | refine blk_drew ?_ | refine blk_alloc ?_ _)); refine blk_far ?_ NB246_275.out _; (with_reducible repeat (first | refine blk_drewN ?_ _ | refine blk_drew ?_ | refine blk_alloc ?_ _)); refine blk_far ?_ NB246_275.out _; (with_reducible repeat (first | refine blk_drewN ?_ _ | refine blk_drew ?_ | refine blk_alloc ?_ _)); refine blk_far ?_ NB246_275.out _; (with_reducible repeat (first | refine blk_drewN ?_ _ | refine blk_drew ?_ | refine blk_alloc ?_ _)); refine blk_far ?_ NB246_275.out _; (with_reducible repeat (first | refine blk_drewN ?_ _ | refine blk_drew ?_ | refine blk_alloc ?_ _)); exact BK246.out⟩
                                have n7_ : Aside0 (((((((w65.setCell ⟨gb275, 0, none⟩ (.int .i64 ((rd_T47 t262 x17_2).f0))).setCell ⟨gb275, 1, none⟩ (.int .i64 ((rd_T47 t262 x17_2).f1))).setCell ⟨gb275, 2, none⟩ (.int .i64 ((rd_T47 t262 x17_2).f2))).setCell ⟨gb275, 3, none⟩ (.int .i64 ((rd_T47 t262 x17_2).f3))).setCell ⟨gb275, 4, none⟩ (.int .i64 ((rd_T47 t262 x17_2).f4))).setCell ⟨gb275, 1, none⟩ (.int .i64 (wrap64 (((rd_T47 t262 x17_2).f1) + t254)))).heap[gb275]? = some (.cells #[.int .i64 ((rd_T47 t262 x17_2).f0), .int .i64 (wrap64 (((rd_T47 t262 x17_2).f1) + t254)), .int .i64 ((rd_T47 t262 x17_2).f2), .int .i64 ((rd_T47 t262 x17_2).f3), .int .i64 ((rd_T47 t262 x17_2).f4)] 47 (0, 0))) := ⟨by (with_reducible repeat (first | refine blk_drewN ?_ _ | refine blk_drew ?_ | refine blk_alloc ?_ _)); refine blk_put (cs := #[.int .i64 ((rd_T47 t262 x17_2).f0), .int .i64 ((rd_T47 t262 x17_2).f1), .int .i64 ((rd_T47 t262 x17_2).f2), .int .i64 ((rd_T47 t262 x17_2).f3), .int .i64 ((rd_T47 t262 x17_2).f4)]) ?_ 1 _ rfl; (with_reducible repeat (first | refine blk_drewN ?_ _ | refine blk_drew ?_ | refine blk_alloc ?_ _)); refine blk_put (cs := #[.int .i64 ((rd_T47 t262 x17_2).f0), .int .i64 ((rd_T47 t262 x17_2).f1), .int .i64 ((rd_T47 t262 x17_2).f2), .int .i64 ((rd_T47 t262 x17_2).f3), .int .i64 0]) ?_ 4 _ rfl; (with_reducible repeat (first | refine blk_drewN ?_ _ | refine blk_drew ?_ | refine blk_alloc ?_ _)); refine blk_put (cs := #[.int .i64 ((rd_T47 t262 x17_2).f0), .int .i64 ((rd_T47 t262 x17_2).f1), .int .i64 ((rd_T47 t262 x17_2).f2), .int .i64 0, .int .i64 0]) ?_ 3 _ rfl; (with_reducible repeat (first | refine blk_drewN ?_ _ | refine blk_drew ?_ | refine blk_alloc ?_ _)); refine blk_put (cs := #[.int .i64 ((rd_T47 t262 x17_2).f0), .int .i64 ((rd_T47 t262 x17_2).f1), .int .i64 0, .int .i64 0, .int .i64 0]) ?_ 2 _ rfl; (with_reducible repeat (first | refine blk_drewN ?_ _ | refine blk_drew ?_ | refine blk_alloc ?_ _)); refine blk_put (cs := #[.int .i64 ((rd_T47 t262 x17_2).f0), .int .i64 0, .int .i64 0, .int .i64 0, .int .i64 0]) ?_ 1 _ rfl; (with_reducible repeat (first | refine blk_drewN ?_ _ | refine blk_drew ?_ | refine blk_alloc ?_ _)); refine blk_put (cs := #[.int .i64 0, .int .i64 0, .int .i64 0, .int .i64 0, .int .i64 0]) ?_ 0 _ rfl; (with_reducible repeat (first | refine blk_drewN ?_ _ | refine blk_drew ?_ | refine blk_alloc ?_ _)); exact BK275.out⟩
                                have n8_ : Aside0 (Below w.heap.size w ((((((w65.setCell ⟨gb275, 0, none⟩ (.int .i64 ((rd_T47 t262 x17_2).f0))).setCell ⟨gb275, 1, none⟩ (.int .i64 ((rd_T47 t262 x17_2).f1))).setCell ⟨gb275, 2, none⟩ (.int .i64 ((rd_T47 t262 x17_2).f2))).setCell ⟨gb275, 3, none⟩ (.int .i64 ((rd_T47 t262 x17_2).f3))).setCell ⟨gb275, 4, none⟩ (.int .i64 ((rd_T47 t262 x17_2).f4))).setCell ⟨gb275, 1, none⟩ (.int .i64 (wrap64 (((rd_T47 t262 x17_2).f1) + t254))))) := ⟨by repeat (first | (with_reducible first | exact HB.out | apply below_alloc | apply pw_below_drewN | apply below_drew1 | refine below_set ?_ GE231.out | refine below_set ?_ GE246.out | refine below_set ?_ GE275.out) | exact HB.out)⟩
                                (try clear HO_15)
                                (try clear HO_16)
                                (try clear HO_247003)
                                (try clear HO_247004)
                                (try clear HO_247005)
                                (try clear BK231)
                                (try clear BK246)
                                (try clear BK275)
                                (try clear HB)
                                generalize ((((((w65.setCell ⟨gb275, 0, none⟩ (.int .i64 ((rd_T47 t262 x17_2).f0))).setCell ⟨gb275, 1, none⟩ (.int .i64 ((rd_T47 t262 x17_2).f1))).setCell ⟨gb275, 2, none⟩ (.int .i64 ((rd_T47 t262 x17_2).f2))).setCell ⟨gb275, 3, none⟩ (.int .i64 ((rd_T47 t262 x17_2).f3))).setCell ⟨gb275, 4, none⟩ (.int .i64 ((rd_T47 t262 x17_2).f4))).setCell ⟨gb275, 1, none⟩ (.int .i64 (wrap64 (((rd_T47 t262 x17_2).f1) + t254)))) = w69 at n0_ n1_ n2_ n3_ n4_ n5_ n6_ n7_ n8_ ⊢
                                have HO_15 := n0_
                                have HO_16 := n1_
                                have HO_247003 := n2_
                                have HO_247004 := n3_
                                have HO_247005 := n4_
                                have BK231 := n5_
                                have BK246 := n6_
                                have BK275 := n7_
                                have HB := n8_
                                clear n0_ n1_ n2_ n3_ n4_ n5_ n6_ n7_ n8_
                                have n0_ := Aside0.mk (Kd.R_drew HO_15.out)
                                have n1_ := Aside0.mk (Kd.R_drew HO_16.out)
                                have n2_ := Aside0.mk (Kd.V_drew HO_247003.out)
                                have n3_ := Aside0.mk (Kd.V_drew HO_247004.out)
                                have n4_ := Aside0.mk (Kd.V_drew HO_247005.out)
                                have n5_ := Aside0.mk (blk_drew BK231.out)
                                have n6_ := Aside0.mk (blk_drew BK246.out)
                                have n7_ := Aside0.mk (blk_drew BK275.out)
                                have n8_ := Aside0.mk (below_drew1 HB.out)
                                clear HO_15 HO_16 HO_247003 HO_247004 HO_247005 BK231 BK246 BK275 HB
                                have HO_15 := n0_
                                have HO_16 := n1_
                                have HO_247003 := n2_
                                have HO_247004 := n3_
                                have HO_247005 := n4_
                                have BK231 := n5_
                                have BK246 := n6_
                                have BK275 := n7_
                                have HB := n8_
                                clear n0_ n1_ n2_ n3_ n4_ n5_ n6_ n7_ n8_
                                have p276 : 0 ≤ (x17_2 : Int) := of_decide_eq_true (by first | (with_reducible assumption) | assumption)
                                have q276 : x17_2 < (t271.length : Int) := of_decide_eq_true (by first | (with_reducible assumption) | assumption)
                                obtain ⟨ad276, e276, hx276_0, hx276_1, hx276_2, hx276_3, hx276_4⟩ := at_T47 (Kd.R_reads' HO_16.out).2.2 x17_2 p276 q276
                                cases e276
                                replace p276 := eq_true p276
                                replace q276 := eq_true q276
                                refine start_ (n := 6) (S := fun w' => w'.cell? ⟨gb275, 0, none⟩ = some (.int .i64 ((rd_T47 t262 x17_2).f0)) ∧ w'.cell? ⟨gb275, 1, none⟩ = some (.int .i64 (wrap64 (((rd_T47 t262 x17_2).f1) + t254))) ∧ w'.cell? ⟨gb275, 2, none⟩ = some (.int .i64 ((rd_T47 t262 x17_2).f2)) ∧ w'.cell? ⟨gb275, 3, none⟩ = some (.int .i64 ((rd_T47 t262 x17_2).f3)) ∧ w'.cell? ⟨gb275, 4, none⟩ = some (.int .i64 ((rd_T47 t262 x17_2).f4)) ∧ w'.cell? (ad276.add ((x17_2).toNat * 5)) = some (.int .i64 ((rd_T47 t271 x17_2).f0)) ∧ w'.cell? ⟨(ad276.add ((x17_2).toNat * 5)).block, (ad276.add ((x17_2).toNat * 5)).off + 1, none⟩ = some (.int .i64 ((rd_T47 t271 x17_2).f1)) ∧ w'.cell? ⟨(ad276.add ((x17_2).toNat * 5)).block, (ad276.add ((x17_2).toNat * 5)).off + 2, none⟩ = some (.int .i64 ((rd_T47 t271 x17_2).f2)) ∧ w'.cell? ⟨(ad276.add ((x17_2).toNat * 5)).block, (ad276.add ((x17_2).toNat * 5)).off + 3, none⟩ = some (.int .i64 ((rd_T47 t271 x17_2).f3)) ∧ w'.cell? ⟨(ad276.add ((x17_2).toNat * 5)).block, (ad276.add ((x17_2).toNat * 5)).off + 4, none⟩ = some (.int .i64 ((rd_T47 t271 x17_2).f4))) (ds := []) #[false, false, false, false, false, false] (by kernel_rfl) rfl rfl ⟨(blk_cell BK275.out 0).trans rfl, (blk_cell BK275.out 1).trans rfl, (blk_cell BK275.out 2).trans rfl, (blk_cell BK275.out 3).trans rfl, (blk_cell BK275.out 4).trans rfl, hx276_0, hx276_1, hx276_2, hx276_3, hx276_4⟩ (fun hHeld => ?_)
                                generalize w69.drew = w70 at HO_15 HO_16 HO_247003 HO_247004 HO_247005 BK231 BK246 BK275 HB hx276_0 hx276_1 hx276_2 hx276_3 hx276_4 hHeld ⊢
                                refine pure_ (i := 0) (N := some 75) (v := ?_) (a' := ?_) #[true, false, false, false, false, false] rfl rfl (by kernel_rfl) (fun _ _ _ h => h) (Or.inl ⟨by rfl, ?_⟩) ?_ ?_
                                rotate_left
                                · intro w'
                                  go_simp
                                  with_reducible rfl
                                rotate_left
                                · simp only [Act.put, List.setIfInBounds_toArray, List.set_cons_zero, List.set_cons_succ, i64_w, i32_w]
                                  rfl
                                refine pure_ (i := 1) (N := some 76) (v := ?_) (a' := ?_) #[true, true, false, false, false, false] rfl rfl (by kernel_rfl) (fun _ _ _ h => h) (Or.inl ⟨by rfl, ?_⟩) ?_ ?_
                                rotate_left
                                · intro w'
                                  go_simp
                                  with_reducible rfl
                                rotate_left
                                · simp only [Act.put, List.setIfInBounds_toArray, List.set_cons_zero, List.set_cons_succ, i64_w, i32_w]
                                  rfl
                                refine pure_ (i := 2) (N := some 77) (v := ?_) (a' := ?_) #[true, true, true, false, false, false] rfl rfl (by kernel_rfl) (fun _ _ _ h => h) (Or.inl ⟨by rfl, ?_⟩) ?_ ?_
                                rotate_left
                                · intro w'
                                  go_simp
                                  with_reducible rfl
                                rotate_left
                                · simp only [Act.put, List.setIfInBounds_toArray, List.set_cons_zero, List.set_cons_succ, i64_w, i32_w]
                                  rfl
                                refine take_ (i := 3) (N := some 78) (v := ?_) (a' := ?_) #[true, true, true, true, false, false] rfl rfl (by kernel_rfl) (fun _ _ _ h => h) (Or.inl ⟨by rfl, ?_⟩) hHeld ?_ ?_
                                rotate_left
                                · rintro w' ⟨s0, s1, s2, s3, s4, s5, s6, s7, s8, s9⟩
                                  go_simp
                                  with_reducible rfl
                                rotate_left
                                · simp only [Act.put, List.setIfInBounds_toArray, List.set_cons_zero, List.set_cons_succ, i64_w, i32_w]
                                  rfl
                                refine take_ (i := 4) (N := some 79) (v := ?_) (a' := ?_) #[true, true, true, true, true, false] rfl rfl (by kernel_rfl) (fun _ _ _ h => h) (Or.inl ⟨by rfl, ?_⟩) hHeld ?_ ?_
                                rotate_left
                                · rintro w' ⟨s0, s1, s2, s3, s4, s5, s6, s7, s8, s9⟩
                                  go_simp
                                  with_reducible rfl
                                rotate_left
                                · simp only [Act.put, List.setIfInBounds_toArray, List.set_cons_zero, List.set_cons_succ, i64_w, i32_w]
                                  rfl
                                refine pure_ (i := 5) (N := some 80) (v := ?_) (a' := ?_) #[true, true, true, true, true, true] rfl rfl (by kernel_rfl) (fun _ _ _ h => h) (Or.inl ⟨by rfl, ?_⟩) ?_ ?_
                                rotate_left
                                · intro w'
                                  go_simp
                                  with_reducible rfl
                                rotate_left
                                · simp only [Act.put, List.setIfInBounds_toArray, List.set_cons_zero, List.set_cons_succ, i64_w, i32_w]
                                  rfl
                                refine done_ (by kernel_rfl) ?_
                                try go_wp2
                                go_roundg k2
                                case measure => have := HK1.out; have := HK2.out; omega
                                case rel => exact ⟨(wrap64 (x17_2 + 1)), (by first | rfl | (simp; done) | (simp [*]; done)), H', ⟨by have := HK1.out; have := HK2.out; omega⟩, ⟨by (with_reducible repeat (first | apply Kd.R_alloc | apply Kd.R_drewN | apply Kd.R_drew)); exact Kd.R_mono HO_15.out (fun _ hk => hk.1)⟩, ⟨by (with_reducible repeat (first | apply Kd.R_alloc | apply Kd.R_drewN | apply Kd.R_drew)); exact Kd.R_mono HO_16.out (fun _ hk => hk.1)⟩, ⟨by exact vU (Kd.V_mono HO_247003.out (fun _ hk => ⟨hk.1, ⟨hk.2.1, ⟨hk.2.2.1, hk.2.2.2.1⟩⟩⟩))⟩, ⟨by exact vU (Kd.V_mono HO_247004.out (fun _ hk => ⟨hk.1, ⟨hk.2.1, ⟨hk.2.2.1, hk.2.2.2.1⟩⟩⟩))⟩, ⟨by exact vU (Kd.V_mono HO_247005.out (fun _ hk => ⟨hk.1, ⟨hk.2.1, ⟨hk.2.2.1, hk.2.2.2.1⟩⟩⟩))⟩, ⟨by (with_reducible repeat (first | refine blk_drewN ?_ _ | refine blk_drew ?_ | refine blk_alloc ?_ _)); exact BK231.out⟩, ⟨by (with_reducible repeat (first | refine blk_drewN ?_ _ | refine blk_drew ?_ | refine blk_alloc ?_ _)); exact BK246.out⟩, ⟨by repeat (first | (with_reducible first | exact HB.out | apply below_alloc | apply pw_below_drewN | apply below_drew1 | refine below_set ?_ GE231.out | refine below_set ?_ GE246.out | refine below_set ?_ GE275.out) | exact HB.out)⟩⟩
                            · rw [if_neg c57] at H
                              exact absurd H (by simp)
                          · rw [if_neg c56] at H
                            exact absurd H (by simp)
                        · rw [if_neg c55] at H
                          have c55b0 : decide (x17_2 < (t262.length : Int)) = false := decide_eq_false c55
                          clear c55
                          obtain rfl := Option.some.inj H
                          go_wp2
                          go_ret
                          exact ⟨by first | rfl | (simp [errW_none, errW_some] <;> rfl) | (simp [*, errW_none, errW_some] <;> rfl), by repeat (first | (with_reducible first | exact HB.out | apply below_alloc | apply pw_below_drewN | apply below_drew1 | refine below_set ?_ GE231.out | refine below_set ?_ GE246.out) | exact HB.out)⟩
                  · rw [if_neg c42] at H
                    have c42b0 : ((t262.length : Int) == (t271.length : Int)) = false := beq_eq_false_iff_ne.mpr c42
                    have c42b1 : ((t262.length : Int) != (t271.length : Int)) = true := bne_iff_ne.mpr c42
                    have c42b2 : (t262.length == t271.length) = false := by first | simpa using c42 | (simp at c42 ⊢; omega)
                    obtain rfl := Option.some.inj H
                    try go_wp2
                    have n0_ := Aside0.mk (Kd.R_drew HO_10.out)
                    have n1_ := Aside0.mk (Kd.R_drew HO_13.out)
                    have n2_ := Aside0.mk (Kd.V_drew HO_247003.out)
                    have n3_ := Aside0.mk (Kd.V_drew HO_247004.out)
                    have n4_ := Aside0.mk (Kd.V_drew HO_247005.out)
                    have n5_ := Aside0.mk (blk_drew BK231.out)
                    have n6_ := Aside0.mk (blk_drew BK246.out)
                    have n7_ := Aside0.mk (below_drew1 HB.out)
                    clear HO_10 HO_13 HO_247003 HO_247004 HO_247005 BK231 BK246 HB
                    have HO_10 := n0_
                    have HO_13 := n1_
                    have HO_247003 := n2_
                    have HO_247004 := n3_
                    have HO_247005 := n4_
                    have BK231 := n5_
                    have BK246 := n6_
                    have HB := n7_
                    clear n0_ n1_ n2_ n3_ n4_ n5_ n6_ n7_
                    obtain ⟨Ao72, co72, eo72⟩ := Kd.R_slice HO_10.out
                    (first | subst eo72 | (injection eo72 with f1_ f2_ f3_; have f4_ := f1_.symm; have f5_ := f3_.symm; clear f1_ f2_ f3_; subst f4_; subst f5_))
                    refine start_ (n := 12) (S := fun w' => w'.cell? ⟨gb246, 0, none⟩ = some (.string t234) ∧ w'.cell? ⟨gb246, 1, none⟩ = some (.int .i64 t235) ∧ w'.cell? ⟨gb246, 2, none⟩ = some (.int .i64 t236) ∧ w'.cell? ⟨gb246, 3, none⟩ = some (.slice Ao24 t237.length co24) ∧ w'.cell? ⟨gb246, 4, none⟩ = some (.slice Ao25 t240.length co25) ∧ w'.cell? ⟨gb246, 5, none⟩ = some (.slice Ao26 t243.length co26)) (ds := []) #[false, false, false, false, false, false, false, false, false, false, false, false] (by kernel_rfl) rfl rfl ⟨(blk_cell BK246.out 0).trans rfl, (blk_cell BK246.out 1).trans rfl, (blk_cell BK246.out 2).trans rfl, (blk_cell BK246.out 3).trans rfl, (blk_cell BK246.out 4).trans rfl, (blk_cell BK246.out 5).trans rfl⟩ (fun hHeld => ?_); refine with_tabW interlocutorlaw6_LexBlanks.tab13 interlocutorlaw6_LexBlanks.bits13 (fun HT_ HW_ => ?_)
                    generalize wr.drew = w71 at HO_10 HO_13 HO_247003 HO_247004 HO_247005 BK231 BK246 HB hHeld ⊢
                    refine pU HT_ 1 (some 46) (oB 12 2) ?_
                    refine pU HT_ 5 (some 50) (oB 12 34) ?_
                    refine pU HT_ 6 (some 51) (oB 12 98) ?_
                    refine take_ (i := 0) (N := some 45) (v := ?_) (a' := ?_) (oB 12 99) rfl rfl (take_ofW HT_.out HW_.out (by kernel_rfl)) (fun _ _ _ h => h) (Or.inl ⟨by rfl, ?_⟩) hHeld ?_ ?_
                    rotate_left
                    · rintro w' ⟨s0, s1, s2, s3, s4, s5⟩
                      go_simp
                      with_reducible rfl
                    rotate_left
                    · simp only [Act.put, List.setIfInBounds_toArray, List.set_cons_zero, List.set_cons_succ, i64_w, i32_w]
                      rfl
                    refine take_ (i := 4) (N := some 49) (v := ?_) (a' := ?_) (oB 12 115) rfl rfl (take_ofW HT_.out HW_.out (by kernel_rfl)) (fun _ _ _ h => h) (Or.inl ⟨by rfl, ?_⟩) hHeld ?_ ?_
                    rotate_left
                    · rintro w' ⟨s0, s1, s2, s3, s4, s5⟩
                      go_simp
                      with_reducible rfl
                    rotate_left
                    · simp only [Act.put, List.setIfInBounds_toArray, List.set_cons_zero, List.set_cons_succ, i64_w, i32_w]
                      rfl
                    refine one_ (i := 2) (N := some 47) (oB 12 119) rfl rfl (one_of HT_.out (by kernel_rfl)) (by decide) (fun K hK => ?_)
                    refine goes_ Try.func20 (by kernel_rfl) rfl #[.agg #[.string t234, .int .i64 t235, .int .i64 t236, .slice Ao24 t237.length co24, .slice Ao25 t240.length co25, .slice Ao26 t243.length co26], .slice Ao72 t248.length co72] (by rfl) rfl rfl (by (try simp only [List.map_toArray, List.map_cons, List.map_nil]); first | done | rfl | (simp only [List.length_drop, List.length_take]; rfl)) ?_
                    with_reducible refine (lex_Tokens.calls t234 t235 t236 _ _ t237 _ _ t240 _ _ t243 _ _ t248 t259 _ ?side1 ?side2 ?side3 ?side4 ?side5 ?side6 ?side7 ?side8 A37.out).mono ?_
                    (case side1 => repeat (first | exact (Kd.V_reads' HO_247003.out).2.2 | (with_reducible refine Kd.C_alloc ?_ _) | (with_reducible refine Kd.C_drewN ?_ _) | (with_reducible refine Kd.C_drew ?_)))
                    (case side2 => exact (Kd.V_reads' HO_247003.out).2.1)
                    (case side3 => repeat (first | exact (Kd.V_reads' HO_247004.out).2.2 | (with_reducible refine Kd.C_alloc ?_ _) | (with_reducible refine Kd.C_drewN ?_ _) | (with_reducible refine Kd.C_drew ?_)))
                    (case side4 => exact (Kd.V_reads' HO_247004.out).2.1)
                    (case side5 => repeat (first | exact (Kd.V_reads' HO_247005.out).2.2 | (with_reducible refine Kd.C_alloc ?_ _) | (with_reducible refine Kd.C_drewN ?_ _) | (with_reducible refine Kd.C_drew ?_)))
                    (case side6 => exact (Kd.V_reads' HO_247005.out).2.1)
                    (case side7 => repeat (first | exact (Kd.R_reads' HO_10.out).2.2 | (with_reducible refine Kd.C_alloc ?_ _) | (with_reducible refine Kd.C_drewN ?_ _) | (with_reducible refine Kd.C_drew ?_)))
                    (case side8 => exact (Kd.R_reads' HO_10.out).2.1)
                    rintro e w73 ⟨v260, rfl, ho0, hb⟩
                    refine ⟨_, rfl, ?_⟩
                    have n0_ := Aside0.mk (Kd.R_below (by (with_reducible repeat (first | apply Kd.R_alloc | apply Kd.R_drewN | apply Kd.R_drew)); exact HO_10.out) hb)
                    have n1_ := Aside0.mk (Kd.R_below (by (with_reducible repeat (first | apply Kd.R_alloc | apply Kd.R_drewN | apply Kd.R_drew)); exact HO_13.out) hb)
                    have n2_ := Aside0.mk (Kd.V_elder' (by exact vU HO_247003.out) (Kd.R_base ho0) hb)
                    have n3_ := Aside0.mk (Kd.V_elder' (by exact vU HO_247004.out) (Kd.R_base ho0) hb)
                    have n4_ := Aside0.mk (Kd.V_elder' (by exact vU HO_247005.out) (Kd.R_base ho0) hb)
                    have n5_ := Aside0.mk (Kd.R_lower ho0 (below_size (by repeat (first | (with_reducible first | exact HB.out | apply below_alloc | apply pw_below_drewN | apply below_drew1 | refine below_set ?_ GE231.out | refine below_set ?_ GE246.out) | exact HB.out))))
                    have n6_ := Aside0.mk (blk_below (g := gb231) (o := .cells #[.int .i64 a0_0, .int .i64 a0_1, .int .i64 a0_2, .int .i64 a0_3, .slice A0_4 l0_4.length c0_4, .bool a0_5] 24 (0, 0)) (by (with_reducible repeat (first | refine blk_drewN ?_ _ | refine blk_drew ?_ | refine blk_alloc ?_ _)); exact BK231.out) hb)
                    have n7_ := Aside0.mk (blk_below (g := gb246) (o := .cells #[.string t234, .int .i64 t235, .int .i64 t236, .slice Ao24 t237.length co24, .slice Ao25 t240.length co25, .slice Ao26 t243.length co26] 32 (0, 0)) (by (with_reducible repeat (first | refine blk_drewN ?_ _ | refine blk_drew ?_ | refine blk_alloc ?_ _)); exact BK246.out) hb)
                    have n8_ := Aside0.mk (below_step (by repeat (first | (with_reducible first | exact HB.out | apply below_alloc | apply pw_below_drewN | apply below_drew1 | refine below_set ?_ GE231.out | refine below_set ?_ GE246.out) | exact HB.out)) hb)
                    clear HO_10 HO_13 HO_247003 HO_247004 HO_247005 BK231 BK246 HB
                    have HO_10 := n0_
                    have HO_13 := n1_
                    have HO_247003 := n2_
                    have HO_247004 := n3_
                    have HO_247005 := n4_
                    have HO261 := n5_
                    have BK231 := n6_
                    have BK246 := n7_
                    have HB := n8_
                    clear n0_ n1_ n2_ n3_ n4_ n5_ n6_ n7_ n8_
                    (try clear hb)
                    (try clear hb2)
                    (try clear hk)
                    (try clear hi)
                    (try clear ho0)
                    obtain ⟨Ao74, co74, eo74⟩ := Kd.R_slice HO261.out
                    (first | subst eo74 | (injection eo74 with f1_ f2_ f3_; have f4_ := f1_.symm; have f5_ := f3_.symm; clear f1_ f2_ f3_; subst f4_; subst f5_))
                    refine hK.out _ _ ⟨(blk_cell BK246.out 0).trans rfl, (blk_cell BK246.out 1).trans rfl, (blk_cell BK246.out 2).trans rfl, (blk_cell BK246.out 3).trans rfl, (blk_cell BK246.out 4).trans rfl, (blk_cell BK246.out 5).trans rfl⟩ (fun hHeld => ?_)
                    clear hK K
                    refine nM ?_
                    refine one_ (i := 3) (N := some 48) (oB 12 127) rfl rfl (one_of HT_.out (by kernel_rfl)) (by decide) (fun K hK => ?_)
                    refine goes_ Try.func25 (by kernel_rfl) rfl #[.slice Ao74 t259.length co74, .int .i64 0] (by rfl) rfl rfl (by (try simp only [List.map_toArray, List.map_cons, List.map_nil]); first | done | rfl | (simp only [List.length_drop, List.length_take]; rfl)) ?_
                    with_reducible refine (lex_At.calls k1 _ _ t259 0 t262 _ ?side1 ?side2 A38.out).mono ?_
                    (case side1 => repeat (first | exact (Kd.R_reads' HO261.out).2.2 | (with_reducible refine Kd.C_alloc ?_ _) | (with_reducible refine Kd.C_drewN ?_ _) | (with_reducible refine Kd.C_drew ?_)))
                    (case side2 => exact (Kd.R_reads' HO261.out).2.1)
                    rintro e w75 ⟨v263, rfl, ho0, hb⟩
                    refine ⟨_, rfl, ?_⟩
                    have n0_ := Aside0.mk (Kd.R_below (by (with_reducible repeat (first | apply Kd.R_alloc | apply Kd.R_drewN | apply Kd.R_drew)); exact HO_10.out) hb)
                    have n1_ := Aside0.mk (Kd.R_below (by (with_reducible repeat (first | apply Kd.R_alloc | apply Kd.R_drewN | apply Kd.R_drew)); exact HO_13.out) hb)
                    have n2_ := Aside0.mk (Kd.V_elder' (by exact vU HO_247003.out) (Kd.R_base ho0) hb)
                    have n3_ := Aside0.mk (Kd.V_elder' (by exact vU HO_247004.out) (Kd.R_base ho0) hb)
                    have n4_ := Aside0.mk (Kd.V_elder' (by exact vU HO_247005.out) (Kd.R_base ho0) hb)
                    have n5_ := Aside0.mk (Kd.R_elder' (by (with_reducible repeat (first | apply Kd.R_alloc | apply Kd.R_drewN | apply Kd.R_drew)); exact HO261.out) (Kd.R_base ho0) hb)
                    have n6_ := Aside0.mk (Kd.R_lower (Kd.R_new' ho0 (Kd.R_lt (by (with_reducible repeat (first | apply Kd.R_alloc | apply Kd.R_drewN | apply Kd.R_drew)); exact HO261.out))) (below_size (by repeat (first | (with_reducible first | exact HB.out | apply below_alloc | apply pw_below_drewN | apply below_drew1 | refine below_set ?_ GE231.out | refine below_set ?_ GE246.out) | exact HB.out))))
                    have n7_ := Aside0.mk (blk_below (g := gb231) (o := .cells #[.int .i64 a0_0, .int .i64 a0_1, .int .i64 a0_2, .int .i64 a0_3, .slice A0_4 l0_4.length c0_4, .bool a0_5] 24 (0, 0)) (by (with_reducible repeat (first | refine blk_drewN ?_ _ | refine blk_drew ?_ | refine blk_alloc ?_ _)); exact BK231.out) hb)
                    have n8_ := Aside0.mk (blk_below (g := gb246) (o := .cells #[.string t234, .int .i64 t235, .int .i64 t236, .slice Ao24 t237.length co24, .slice Ao25 t240.length co25, .slice Ao26 t243.length co26] 32 (0, 0)) (by (with_reducible repeat (first | refine blk_drewN ?_ _ | refine blk_drew ?_ | refine blk_alloc ?_ _)); exact BK246.out) hb)
                    have n9_ := Aside0.mk (below_step (by repeat (first | (with_reducible first | exact HB.out | apply below_alloc | apply pw_below_drewN | apply below_drew1 | refine below_set ?_ GE231.out | refine below_set ?_ GE246.out) | exact HB.out)) hb)
                    clear HO_10 HO_13 HO_247003 HO_247004 HO_247005 HO261 BK231 BK246 HB
                    have HO_10 := n0_
                    have HO_13 := n1_
                    have HO_247003 := n2_
                    have HO_247004 := n3_
                    have HO_247005 := n4_
                    have HO261 := n5_
                    have HO264 := n6_
                    have BK231 := n7_
                    have BK246 := n8_
                    have HB := n9_
                    clear n0_ n1_ n2_ n3_ n4_ n5_ n6_ n7_ n8_ n9_
                    (try clear hb)
                    (try clear hb2)
                    (try clear hk)
                    (try clear hi)
                    (try clear ho0)
                    refine hK.out _ _ ⟨(blk_cell BK246.out 0).trans rfl, (blk_cell BK246.out 1).trans rfl, (blk_cell BK246.out 2).trans rfl, (blk_cell BK246.out 3).trans rfl, (blk_cell BK246.out 4).trans rfl, (blk_cell BK246.out 5).trans rfl⟩ (fun hHeld => ?_)
                    clear hK K
                    refine nM ?_
                    refine one_ (i := 7) (N := some 52) (oB 12 255) rfl rfl (one_of HT_.out (by kernel_rfl)) (by decide) (fun K hK => ?_)
                    refine Kd.R_append_rows_step (Kd.int .i64) (w0 := w) w.heap.size (by rfl) (.tmp 50) (.tmp 51) 25 3 (.int .i64 0) 8 rfl Try.underlying25 info3 rfl (by decide) (by omega) v256 x13_1 t248 _ _ _ (fun k_ => some k_ ≠ (.slice Ao72 t248.length co72 : Value).ownBlock) (fun _ => False) rfl rfl ?aO ?aR (fun _ _ h => h) (fun _ h => h.elim) ?aF ?aB ?aS ?aL ?_
                    (case aR => repeat (first | exact (Kd.R_reads' HO_10.out).2.2 | (with_reducible refine Kd.C_alloc ?_ _) | (with_reducible refine Kd.C_drewN ?_ _) | (with_reducible refine Kd.C_drew ?_)))
                    (case aB => exact (by repeat (first | (with_reducible first | exact HB.out | apply below_alloc | apply pw_below_drewN | apply below_drew1 | refine below_set ?_ GE231.out | refine below_set ?_ GE246.out) | exact HB.out)))
                    (case aF => exact (fun k_ hk => Kd.fresh' (Kd.R_lt (by (with_reducible repeat (first | apply Kd.R_alloc | apply Kd.R_drewN | apply Kd.R_drew)); exact HO_10.out)) k_ hk))
                    (case aO => exact (by (with_reducible repeat (first | apply Kd.R_alloc | apply Kd.R_drewN | apply Kd.R_drew)); exact HO_13.out))
                    (case aS => exact (below_size (by repeat (first | (with_reducible first | exact HB.out | apply below_alloc | apply pw_below_drewN | apply below_drew1 | refine below_set ?_ GE231.out | refine below_set ?_ GE246.out) | exact HB.out))))
                    (case aL => have := LMc39.out; omega)
                    intro v266 w76 ho hb hg hat
                    rw [← Ny265.out] at ho
                    have n0_ := Aside0.mk (Kd.R_after (ok := (fun _ => True)) (by (with_reducible repeat (first | apply Kd.R_alloc | apply Kd.R_drewN | apply Kd.R_drew)); exact Kd.R_mono HO_10.out (fun _ hk => ⟨trivial, hk⟩)) hg hat)
                    have n1_ := Aside0.mk (Kd.V_afterv (ok := (fun k_ => some k_ ≠ (.slice Ao72 t248.length co72 : Value).ownBlock ∧ some k_ ≠ (.slice Ao74 t259.length co74 : Value).ownBlock ∧ some k_ ≠ (v263 : Value).ownBlock ∧ k_ ≠ gb231 ∧ k_ ≠ gb246)) (by exact vU (Kd.V_mono HO_247003.out (fun _ hk => ⟨⟨hk.1.1.1, ⟨hk.1.2, ⟨hk.2, ⟨hk.1.1.2.2.1, hk.1.1.2.2.2⟩⟩⟩⟩, hk.1.1.2.1⟩))) hg hat)
                    have n2_ := Aside0.mk (Kd.V_afterv (ok := (fun k_ => some k_ ≠ (.slice Ao72 t248.length co72 : Value).ownBlock ∧ some k_ ≠ (.slice Ao74 t259.length co74 : Value).ownBlock ∧ some k_ ≠ (v263 : Value).ownBlock ∧ k_ ≠ gb231 ∧ k_ ≠ gb246)) (by exact vU (Kd.V_mono HO_247004.out (fun _ hk => ⟨⟨hk.1.1.1, ⟨hk.1.2, ⟨hk.2, ⟨hk.1.1.2.2.1, hk.1.1.2.2.2⟩⟩⟩⟩, hk.1.1.2.1⟩))) hg hat)
                    have n3_ := Aside0.mk (Kd.V_afterv (ok := (fun k_ => some k_ ≠ (.slice Ao72 t248.length co72 : Value).ownBlock ∧ some k_ ≠ (.slice Ao74 t259.length co74 : Value).ownBlock ∧ some k_ ≠ (v263 : Value).ownBlock ∧ k_ ≠ gb231 ∧ k_ ≠ gb246)) (by exact vU (Kd.V_mono HO_247005.out (fun _ hk => ⟨⟨hk.1.1.1, ⟨hk.1.2, ⟨hk.2, ⟨hk.1.1.2.2.1, hk.1.1.2.2.2⟩⟩⟩⟩, hk.1.1.2.1⟩))) hg hat)
                    have n4_ := Aside0.mk (blk_grown (g := gb231) (o := .cells #[.int .i64 a0_0, .int .i64 a0_1, .int .i64 a0_2, .int .i64 a0_3, .slice A0_4 l0_4.length c0_4, .bool a0_5] 24 (0, 0)) (by (with_reducible repeat (first | refine blk_drewN ?_ _ | refine blk_drew ?_ | refine blk_alloc ?_ _)); exact BK231.out) hg (Kd.R_ne HO_13.out BK231.out (by decide)))
                    have n5_ := Aside0.mk (blk_grown (g := gb246) (o := .cells #[.string t234, .int .i64 t235, .int .i64 t236, .slice Ao24 t237.length co24, .slice Ao25 t240.length co25, .slice Ao26 t243.length co26] 32 (0, 0)) (by (with_reducible repeat (first | refine blk_drewN ?_ _ | refine blk_drew ?_ | refine blk_alloc ?_ _)); exact BK246.out) hg (Kd.R_ne HO_13.out BK246.out (by decide)))
                    have n6_ := Aside0.mk (Kd.R_over' (by (with_reducible repeat (first | apply Kd.R_alloc | apply Kd.R_drewN | apply Kd.R_drew)); exact HO261.out) (Kd.R_typed (by (with_reducible repeat (first | apply Kd.R_alloc | apply Kd.R_drewN | apply Kd.R_drew)); exact HO_13.out)) (by decide) hg)
                    have n7_ := Aside0.mk (Kd.R_over' (by (with_reducible repeat (first | apply Kd.R_alloc | apply Kd.R_drewN | apply Kd.R_drew)); exact HO264.out) (Kd.R_typed (by (with_reducible repeat (first | apply Kd.R_alloc | apply Kd.R_drewN | apply Kd.R_drew)); exact HO_13.out)) (by decide) hg)
                    have n8_ := Aside0.mk (hb)
                    have n9_ := Aside0.mk (ho)
                    clear HO_10 HO_247003 HO_247004 HO_247005 BK231 BK246 HO261 HO264 HB HO_13
                    have HO_10 := n0_
                    have HO_247003 := n1_
                    have HO_247004 := n2_
                    have HO_247005 := n3_
                    have BK231 := n4_
                    have BK246 := n5_
                    have HO261 := n6_
                    have HO264 := n7_
                    have HB := n8_
                    have HO267 := n9_
                    clear n0_ n1_ n2_ n3_ n4_ n5_ n6_ n7_ n8_ n9_ ho hb hg hat
                    obtain ⟨Ao77, co77, eo77⟩ := Kd.R_slice HO267.out
                    (first | subst eo77 | (injection eo77 with f1_ f2_ f3_; have f4_ := f1_.symm; have f5_ := f3_.symm; clear f1_ f2_ f3_; subst f4_; subst f5_))
                    refine hK.out _ _ ⟨(blk_cell BK246.out 0).trans rfl, (blk_cell BK246.out 1).trans rfl, (blk_cell BK246.out 2).trans rfl, (blk_cell BK246.out 3).trans rfl, (blk_cell BK246.out 4).trans rfl, (blk_cell BK246.out 5).trans rfl⟩ (fun hHeld => ?_)
                    clear hK K
                    refine nM ?_
                    refine one_ (i := 8) (N := some 53) (oB 12 511) rfl rfl (one_of HT_.out (by kernel_rfl)) (by decide) (fun K hK => ?_)
                    refine goes_ Try.func20 (by kernel_rfl) rfl #[.agg #[.string t234, .int .i64 t235, .int .i64 t236, .slice Ao24 t237.length co24, .slice Ao25 t240.length co25, .slice Ao26 t243.length co26], .slice Ao77 y265.length co77] (by rfl) rfl rfl (by (try simp only [List.map_toArray, List.map_cons, List.map_nil]); first | done | rfl | (simp only [List.length_drop, List.length_take]; rfl)) ?_
                    with_reducible refine (lex_Tokens.calls t234 t235 t236 _ _ t237 _ _ t240 _ _ t243 _ _ y265 t268 _ ?side1 ?side2 ?side3 ?side4 ?side5 ?side6 ?side7 ?side8 A40.out).mono ?_
                    (case side1 => repeat (first | exact (Kd.V_reads' HO_247003.out).2.2 | (with_reducible refine Kd.C_alloc ?_ _) | (with_reducible refine Kd.C_drewN ?_ _) | (with_reducible refine Kd.C_drew ?_)))
                    (case side2 => exact (Kd.V_reads' HO_247003.out).2.1)
                    (case side3 => repeat (first | exact (Kd.V_reads' HO_247004.out).2.2 | (with_reducible refine Kd.C_alloc ?_ _) | (with_reducible refine Kd.C_drewN ?_ _) | (with_reducible refine Kd.C_drew ?_)))
                    (case side4 => exact (Kd.V_reads' HO_247004.out).2.1)
                    (case side5 => repeat (first | exact (Kd.V_reads' HO_247005.out).2.2 | (with_reducible refine Kd.C_alloc ?_ _) | (with_reducible refine Kd.C_drewN ?_ _) | (with_reducible refine Kd.C_drew ?_)))
                    (case side6 => exact (Kd.V_reads' HO_247005.out).2.1)
                    (case side7 => repeat (first | exact (Kd.R_reads' HO267.out).2.2 | (with_reducible refine Kd.C_alloc ?_ _) | (with_reducible refine Kd.C_drewN ?_ _) | (with_reducible refine Kd.C_drew ?_)))
                    (case side8 => exact (Kd.R_reads' HO267.out).2.1)
                    rintro e w78 ⟨v269, rfl, ho0, hb⟩
                    refine ⟨_, rfl, ?_⟩
                    have n0_ := Aside0.mk (Kd.R_below (by (with_reducible repeat (first | apply Kd.R_alloc | apply Kd.R_drewN | apply Kd.R_drew)); exact HO_10.out) hb)
                    have n1_ := Aside0.mk (Kd.V_elder' (by exact vU HO_247003.out) (Kd.R_base ho0) hb)
                    have n2_ := Aside0.mk (Kd.V_elder' (by exact vU HO_247004.out) (Kd.R_base ho0) hb)
                    have n3_ := Aside0.mk (Kd.V_elder' (by exact vU HO_247005.out) (Kd.R_base ho0) hb)
                    have n4_ := Aside0.mk (Kd.R_elder' (by (with_reducible repeat (first | apply Kd.R_alloc | apply Kd.R_drewN | apply Kd.R_drew)); exact HO261.out) (Kd.R_base ho0) hb)
                    have n5_ := Aside0.mk (Kd.R_elder' (by (with_reducible repeat (first | apply Kd.R_alloc | apply Kd.R_drewN | apply Kd.R_drew)); exact HO264.out) (Kd.R_base ho0) hb)
                    have n6_ := Aside0.mk (Kd.R_below (by (with_reducible repeat (first | apply Kd.R_alloc | apply Kd.R_drewN | apply Kd.R_drew)); exact HO267.out) hb)
                    have n7_ := Aside0.mk (Kd.R_lower (Kd.R_new' (Kd.R_new' ho0 (Kd.R_lt (by (with_reducible repeat (first | apply Kd.R_alloc | apply Kd.R_drewN | apply Kd.R_drew)); exact HO261.out))) (Kd.R_lt (by (with_reducible repeat (first | apply Kd.R_alloc | apply Kd.R_drewN | apply Kd.R_drew)); exact HO264.out))) (below_size (by repeat (first | (with_reducible first | exact HB.out | apply below_alloc | apply pw_below_drewN | apply below_drew1 | refine below_set ?_ GE231.out | refine below_set ?_ GE246.out) | exact HB.out))))
                    have n8_ := Aside0.mk (blk_below (g := gb231) (o := .cells #[.int .i64 a0_0, .int .i64 a0_1, .int .i64 a0_2, .int .i64 a0_3, .slice A0_4 l0_4.length c0_4, .bool a0_5] 24 (0, 0)) (by (with_reducible repeat (first | refine blk_drewN ?_ _ | refine blk_drew ?_ | refine blk_alloc ?_ _)); exact BK231.out) hb)
                    have n9_ := Aside0.mk (blk_below (g := gb246) (o := .cells #[.string t234, .int .i64 t235, .int .i64 t236, .slice Ao24 t237.length co24, .slice Ao25 t240.length co25, .slice Ao26 t243.length co26] 32 (0, 0)) (by (with_reducible repeat (first | refine blk_drewN ?_ _ | refine blk_drew ?_ | refine blk_alloc ?_ _)); exact BK246.out) hb)
                    have n10_ := Aside0.mk (below_step (by repeat (first | (with_reducible first | exact HB.out | apply below_alloc | apply pw_below_drewN | apply below_drew1 | refine below_set ?_ GE231.out | refine below_set ?_ GE246.out) | exact HB.out)) hb)
                    clear HO_10 HO_247003 HO_247004 HO_247005 HO261 HO264 HO267 BK231 BK246 HB
                    have HO_10 := n0_
                    have HO_247003 := n1_
                    have HO_247004 := n2_
                    have HO_247005 := n3_
                    have HO261 := n4_
                    have HO264 := n5_
                    have HO267 := n6_
                    have HO270 := n7_
                    have BK231 := n8_
                    have BK246 := n9_
                    have HB := n10_
                    clear n0_ n1_ n2_ n3_ n4_ n5_ n6_ n7_ n8_ n9_ n10_
                    (try clear hb)
                    (try clear hb2)
                    (try clear hk)
                    (try clear hi)
                    (try clear ho0)
                    obtain ⟨Ao79, co79, eo79⟩ := Kd.R_slice HO270.out
                    (first | subst eo79 | (injection eo79 with f1_ f2_ f3_; have f4_ := f1_.symm; have f5_ := f3_.symm; clear f1_ f2_ f3_; subst f4_; subst f5_))
                    refine hK.out _ _ ⟨(blk_cell BK246.out 0).trans rfl, (blk_cell BK246.out 1).trans rfl, (blk_cell BK246.out 2).trans rfl, (blk_cell BK246.out 3).trans rfl, (blk_cell BK246.out 4).trans rfl, (blk_cell BK246.out 5).trans rfl⟩ (fun hHeld => ?_)
                    clear hK K
                    refine nM ?_
                    refine one_ (i := 9) (N := some 54) (oB 12 1023) rfl rfl (one_of HT_.out (by kernel_rfl)) (by decide) (fun K hK => ?_)
                    refine goes_ Try.func25 (by kernel_rfl) rfl #[.slice Ao79 t268.length co79, .int .i64 0] (by rfl) rfl rfl (by (try simp only [List.map_toArray, List.map_cons, List.map_nil]); first | done | rfl | (simp only [List.length_drop, List.length_take]; rfl)) ?_
                    with_reducible refine (lex_At.calls k1 _ _ t268 0 t271 _ ?side1 ?side2 A41.out).mono ?_
                    (case side1 => repeat (first | exact (Kd.R_reads' HO270.out).2.2 | (with_reducible refine Kd.C_alloc ?_ _) | (with_reducible refine Kd.C_drewN ?_ _) | (with_reducible refine Kd.C_drew ?_)))
                    (case side2 => exact (Kd.R_reads' HO270.out).2.1)
                    rintro e w80 ⟨v272, rfl, ho0, hb⟩
                    refine ⟨_, rfl, ?_⟩
                    have n0_ := Aside0.mk (Kd.R_below (by (with_reducible repeat (first | apply Kd.R_alloc | apply Kd.R_drewN | apply Kd.R_drew)); exact HO_10.out) hb)
                    have n1_ := Aside0.mk (Kd.V_elder' (by exact vU HO_247003.out) (Kd.R_base ho0) hb)
                    have n2_ := Aside0.mk (Kd.V_elder' (by exact vU HO_247004.out) (Kd.R_base ho0) hb)
                    have n3_ := Aside0.mk (Kd.V_elder' (by exact vU HO_247005.out) (Kd.R_base ho0) hb)
                    have n4_ := Aside0.mk (Kd.R_elder' (by (with_reducible repeat (first | apply Kd.R_alloc | apply Kd.R_drewN | apply Kd.R_drew)); exact HO261.out) (Kd.R_base ho0) hb)
                    have n5_ := Aside0.mk (Kd.R_elder' (by (with_reducible repeat (first | apply Kd.R_alloc | apply Kd.R_drewN | apply Kd.R_drew)); exact HO264.out) (Kd.R_base ho0) hb)
                    have n6_ := Aside0.mk (Kd.R_below (by (with_reducible repeat (first | apply Kd.R_alloc | apply Kd.R_drewN | apply Kd.R_drew)); exact HO267.out) hb)
                    have n7_ := Aside0.mk (Kd.R_elder' (by (with_reducible repeat (first | apply Kd.R_alloc | apply Kd.R_drewN | apply Kd.R_drew)); exact HO270.out) (Kd.R_base ho0) hb)
                    have n8_ := Aside0.mk (Kd.R_lower (Kd.R_new' (Kd.R_new' (Kd.R_new' ho0 (Kd.R_lt (by (with_reducible repeat (first | apply Kd.R_alloc | apply Kd.R_drewN | apply Kd.R_drew)); exact HO261.out))) (Kd.R_lt (by (with_reducible repeat (first | apply Kd.R_alloc | apply Kd.R_drewN | apply Kd.R_drew)); exact HO264.out))) (Kd.R_lt (by (with_reducible repeat (first | apply Kd.R_alloc | apply Kd.R_drewN | apply Kd.R_drew)); exact HO270.out))) (below_size (by repeat (first | (with_reducible first | exact HB.out | apply below_alloc | apply pw_below_drewN | apply below_drew1 | refine below_set ?_ GE231.out | refine below_set ?_ GE246.out) | exact HB.out))))
                    have n9_ := Aside0.mk (blk_below (g := gb231) (o := .cells #[.int .i64 a0_0, .int .i64 a0_1, .int .i64 a0_2, .int .i64 a0_3, .slice A0_4 l0_4.length c0_4, .bool a0_5] 24 (0, 0)) (by (with_reducible repeat (first | refine blk_drewN ?_ _ | refine blk_drew ?_ | refine blk_alloc ?_ _)); exact BK231.out) hb)
                    have n10_ := Aside0.mk (blk_below (g := gb246) (o := .cells #[.string t234, .int .i64 t235, .int .i64 t236, .slice Ao24 t237.length co24, .slice Ao25 t240.length co25, .slice Ao26 t243.length co26] 32 (0, 0)) (by (with_reducible repeat (first | refine blk_drewN ?_ _ | refine blk_drew ?_ | refine blk_alloc ?_ _)); exact BK246.out) hb)
                    have n11_ := Aside0.mk (below_step (by repeat (first | (with_reducible first | exact HB.out | apply below_alloc | apply pw_below_drewN | apply below_drew1 | refine below_set ?_ GE231.out | refine below_set ?_ GE246.out) | exact HB.out)) hb)
                    clear HO_10 HO_247003 HO_247004 HO_247005 HO261 HO264 HO267 HO270 BK231 BK246 HB
                    have HO_10 := n0_
                    have HO_247003 := n1_
                    have HO_247004 := n2_
                    have HO_247005 := n3_
                    have HO261 := n4_
                    have HO264 := n5_
                    have HO267 := n6_
                    have HO270 := n7_
                    have HO273 := n8_
                    have BK231 := n9_
                    have BK246 := n10_
                    have HB := n11_
                    clear n0_ n1_ n2_ n3_ n4_ n5_ n6_ n7_ n8_ n9_ n10_ n11_
                    (try clear hb)
                    (try clear hb2)
                    (try clear hk)
                    (try clear hi)
                    (try clear ho0)
                    refine hK.out _ _ ⟨(blk_cell BK246.out 0).trans rfl, (blk_cell BK246.out 1).trans rfl, (blk_cell BK246.out 2).trans rfl, (blk_cell BK246.out 3).trans rfl, (blk_cell BK246.out 4).trans rfl, (blk_cell BK246.out 5).trans rfl⟩ (fun hHeld => ?_)
                    clear hK K
                    refine nM ?_
                    refine pU HT_ 10 (some 15) (oB 12 2047) ?_
                    refine pU HT_ 11 (some 16) (oB 12 4095) ?_
                    refine done_ (done_of HT_.out (by kernel_rfl)) ?_
                    obtain ⟨Ao81, co81, eo81⟩ := Kd.R_slice HO264.out
                    subst eo81
                    obtain ⟨Ao82, co82, eo82⟩ := Kd.R_slice HO273.out
                    subst eo82
                    try go_wp2
                    go_ret
                    exact ⟨by first | rfl | (simp [errW_none, errW_some] <;> rfl) | (simp [*, errW_none, errW_some] <;> rfl), by repeat (first | (with_reducible first | exact HB.out | apply below_alloc | apply pw_below_drewN | apply below_drew1 | refine below_set ?_ GE231.out | refine below_set ?_ GE246.out) | exact HB.out)⟩
                · rw [if_neg c39] at H
                  exact absurd H (by simp)
        · rw [if_neg c14] at H
          exact absurd H (by simp)
      · rw [if_neg c13] at H
        exact absurd H (by simp)
    · replace c8 := Bool.eq_false_iff.mpr c8
      subst c8
      have H1 : (some true) = some r := by rw [if_neg (show ¬ (false = true) by decide)] at H; exact H
      clear H
      have H := H1
      clear H1
      obtain rfl := Option.some.inj H
      go_enter Try.func5, Try.ntmps5
      go_wp2_with (first | ((with_reducible refine gate_dst (N := 4) rfl ?_); refine box_event ?hg (N := 4) ?hd (cs := #[.int .i64 a0_0, .int .i64 a0_1, .int .i64 a0_2, .int .i64 a0_3, .slice A0_4 l0_4.length c0_4, .bool a0_5]) (t := 24) ?hr ?_; (case hd => rfl); (case hg => rfl); (case hr => first | (go_simp; done) | (go_simp; rfl)); intro gb231 hg w83 hbox hb; have n0_ := Aside0.mk (below_step (by exact wU HB.out) hb); have n1_ := Aside0.mk (hbox); have n2_ := Aside0.mk ((by rw [hg]; exact (below_size (by exact wU HB.out)) : w.heap.size ≤ gb231)); have n3_ := Aside0.mk ((by rw [hg]; exact (below_size (by exact wU HB.out)) : w.heap.size ≤ gb231)); clear HB; have HB := n0_; have BK231 := n1_; have GW231 := n2_; have GE231 := n3_; clear n0_ n1_ n2_ n3_; clear hb hbox hg) | ((with_reducible refine gate_callee (f := 14) rfl ?_); refine goesL_ (some 19) rfl rfl Try.func14 (by kernel_rfl) rfl #[] rfl (by (try simp only [List.map_toArray, List.map_cons, List.map_nil]); first | done | rfl | (simp only [List.length_drop, List.length_take]; rfl)) ?_; (with_reducible refine (interlocutorlaw6_known.calls k  true _ A5.out).mono ?_); rintro e w84 ⟨rfl, hb⟩; refine ⟨_, rfl, ?_⟩; have n0_ := Aside0.mk (blk_below (g := gb231) (o := .cells #[.int .i64 a0_0, .int .i64 a0_1, .int .i64 a0_2, .int .i64 a0_3, .slice A0_4 l0_4.length c0_4, .bool a0_5] 24 (0, 0)) (by (with_reducible repeat (first | refine blk_drewN ?_ _ | refine blk_drew ?_ | refine blk_alloc ?_ _)); exact BK231.out) hb); have n1_ := Aside0.mk (below_step (by exact wS HB.out GE231.out) hb); clear BK231; clear HB; have BK231 := n0_; have HB := n1_; clear n0_ n1_; (try clear hb); (try clear hb2); (try clear hk); (try clear hi); have hcz85_0 : w84.cell? ⟨gb231, 0, none⟩ = some (.int .i64 a0_0) := (blk_cell BK231.out 0).trans rfl; have hcz85_1 : w84.cell? ⟨gb231, 1, none⟩ = some (.int .i64 a0_1) := (blk_cell BK231.out 1).trans rfl; have hcz85_2 : w84.cell? ⟨gb231, 2, none⟩ = some (.int .i64 a0_2) := (blk_cell BK231.out 2).trans rfl; have hcz85_3 : w84.cell? ⟨gb231, 3, none⟩ = some (.int .i64 a0_3) := (blk_cell BK231.out 3).trans rfl; have hcz85_4 : w84.cell? ⟨gb231, 4, none⟩ = some (.slice A0_4 l0_4.length c0_4) := (blk_cell BK231.out 4).trans rfl; have hcz85_5 : w84.cell? ⟨gb231, 5, none⟩ = some (.bool a0_5) := (blk_cell BK231.out 5).trans rfl; have hfz85_0 := blk_frozen BK231.out 0; have hfz85_1 := blk_frozen BK231.out 1; have hfz85_2 := blk_frozen BK231.out 2; have hfz85_3 := blk_frozen BK231.out 3; have hfz85_4 := blk_frozen BK231.out 4; have hfz85_5 := blk_frozen BK231.out 5) | ((with_reducible refine gate_callee (f := 15) rfl ?_); refine goesL_ (some 22) rfl rfl Try.func15 (by kernel_rfl) rfl #[.agg #[.int .i64 a0_0, .int .i64 a0_1, .int .i64 a0_2, .int .i64 a0_3, .slice A0_4 l0_4.length c0_4, .bool a0_5]] rfl (by (try simp only [List.map_toArray, List.map_cons, List.map_nil]); first | done | rfl | (simp only [List.length_drop, List.length_take]; rfl)) ?_; (with_reducible refine (interlocutorlaw5_Shape_Few.calls k a0_0 a0_1 a0_2 a0_3 _ _ l0_4 a0_5 false _ ?side1 ?side2 A7.out).mono ?_); (case side1 => repeat (first | exact (Kd.C_below HR0_4.out HB.out) | (with_reducible refine Kd.C_alloc ?_ _) | (with_reducible refine Kd.C_drewN ?_ _) | (with_reducible refine Kd.C_drew ?_))); (case side2 => exact HC0_4.out); rintro e w86 ⟨rfl, hb⟩; refine ⟨_, rfl, ?_⟩; have n0_ := Aside0.mk (blk_below (g := gb231) (o := .cells #[.int .i64 a0_0, .int .i64 a0_1, .int .i64 a0_2, .int .i64 a0_3, .slice A0_4 l0_4.length c0_4, .bool a0_5] 24 (0, 0)) (by (with_reducible repeat (first | refine blk_drewN ?_ _ | refine blk_drew ?_ | refine blk_alloc ?_ _)); exact BK231.out) hb); have n1_ := Aside0.mk (below_step (by exact wS HB.out GE231.out) hb); clear BK231; clear HB; have BK231 := n0_; have HB := n1_; clear n0_ n1_; (try clear hb); (try clear hb2); (try clear hk); (try clear hi)))
      go_ret
      exact ⟨by first | rfl | (simp [errW_none, errW_some] <;> rfl) | (simp [*, errW_none, errW_some] <;> rfl), by exact wS HB.out GE231.out⟩
  · replace c6 := Bool.eq_false_iff.mpr c6
    subst c6
    have H1 : (some false) = some r := by rw [if_neg (show ¬ (false = true) by decide)] at H; exact H
    clear H
    have H := H1
    clear H1
    obtain rfl := Option.some.inj H
    go_enter Try.func5, Try.ntmps5
    go_wp2_with (first | ((with_reducible refine gate_dst (N := 4) rfl ?_); refine box_event ?hg (N := 4) ?hd (cs := #[.int .i64 a0_0, .int .i64 a0_1, .int .i64 a0_2, .int .i64 a0_3, .slice A0_4 l0_4.length c0_4, .bool a0_5]) (t := 24) ?hr ?_; (case hd => rfl); (case hg => rfl); (case hr => first | (go_simp; done) | (go_simp; rfl)); intro gb231 hg w87 hbox hb; have n0_ := Aside0.mk (below_step (by exact wU HB.out) hb); have n1_ := Aside0.mk (hbox); have n2_ := Aside0.mk ((by rw [hg]; exact (below_size (by exact wU HB.out)) : w.heap.size ≤ gb231)); have n3_ := Aside0.mk ((by rw [hg]; exact (below_size (by exact wU HB.out)) : w.heap.size ≤ gb231)); clear HB; have HB := n0_; have BK231 := n1_; have GW231 := n2_; have GE231 := n3_; clear n0_ n1_ n2_ n3_; clear hb hbox hg) | ((with_reducible refine gate_callee (f := 14) rfl ?_); refine goesL_ (some 19) rfl rfl Try.func14 (by kernel_rfl) rfl #[] rfl (by (try simp only [List.map_toArray, List.map_cons, List.map_nil]); first | done | rfl | (simp only [List.length_drop, List.length_take]; rfl)) ?_; (with_reducible refine (interlocutorlaw6_known.calls k  false _ A5.out).mono ?_); rintro e w88 ⟨rfl, hb⟩; refine ⟨_, rfl, ?_⟩; have n0_ := Aside0.mk (blk_below (g := gb231) (o := .cells #[.int .i64 a0_0, .int .i64 a0_1, .int .i64 a0_2, .int .i64 a0_3, .slice A0_4 l0_4.length c0_4, .bool a0_5] 24 (0, 0)) (by (with_reducible repeat (first | refine blk_drewN ?_ _ | refine blk_drew ?_ | refine blk_alloc ?_ _)); exact BK231.out) hb); have n1_ := Aside0.mk (below_step (by exact wS HB.out GE231.out) hb); clear BK231; clear HB; have BK231 := n0_; have HB := n1_; clear n0_ n1_; (try clear hb); (try clear hb2); (try clear hk); (try clear hi)))
    go_ret
    exact ⟨by first | rfl | (simp [errW_none, errW_some] <;> rfl) | (simp [*, errW_none, errW_some] <;> rfl), by exact wS HB.out GE231.out⟩
end Go.Proofs.Ytgbnfjhmobeloaa.G
