-- printed by wip/tool/gprint.py, a program of this work, out of the translation; Lean checks it
import Derived.Test.YtmpmjghhikdefaaGx0
import Derived.Test.YtmpmjghhikdefaaGx3
import Derived.Test.YtmpmjghhikdefaaGx5
import Derived.Test.YtmpmjghhikdefaaGx6
import Derived.Test.YtmpmjghhikdefaaGx13
namespace Go.Proofs.Ytmpmjghhikdefaa.G
open Go.RowKit Go.Proofs.YtmpmjghhikdefaaW.PrintWords Go.Proofs.YtmpmjghhikdefaaW.PrintLast Go.Proofs.YtmpmjghhikdefaaW.PrintMore Go.Proofs.YtmpmjghhikdefaaW.VWords
attribute [local go_sem] max2_int min2_int max_two min_two max_three min_three max_four min_four   -- for this text's walks alone
set_option linter.unusedVariables false
set_option linter.unusedSimpArgs false

/-! ### interlocutorref3_Digit: function 25 -/
def interlocutorref3_Digit.f (a0 : Int) (a1 : Int) : Option (ByteArray) := (some (([48, 1632, 1776, 2406] : List Int) : List Int)).bind fun y347 => (if 0 ≤ a0 then (if a0 < (y347.length : Int) then ((interlocutorref3_One.f (wrap64 ((rd y347 a0) + a1))).bind fun t351 => (some t351)) else (none)) else (none))
set_option maxHeartbeats 8000000 in
set_option maxRecDepth 100000 in
theorem interlocutorref3_Digit.calls (a0 : Int) (a1 : Int) (r : ByteArray) (w : World) (h : interlocutorref3_Digit.f a0 a1 = some r) :
    Calls Try.prog 25 #[.int .i64 a0, .int .i64 a1] w fun e w' => e = .returned (.string r) ∧ Below w.heap.size w w' := by
  have HB := Aside0.mk (Below.refl w.heap.size w)
  have H : ((some (([48, 1632, 1776, 2406] : List Int) : List Int)).bind fun y347 => (if 0 ≤ a0 then (if a0 < (y347.length : Int) then ((interlocutorref3_One.f (wrap64 ((rd y347 a0) + a1))).bind fun t351 => (some t351)) else (none)) else (none))) = some r := h
  clear h
  obtain ⟨y347, hy347⟩ : ∃ y_ : List Int, y_ = (([48, 1632, 1776, 2406] : List Int)) := ⟨_, rfl⟩
  replace H : (if 0 ≤ a0 then (if a0 < (y347.length : Int) then ((interlocutorref3_One.f (wrap64 ((rd y347 a0) + a1))).bind fun t351 => (some t351)) else (none)) else (none)) = some r := by first | (rw [hy347]; with_reducible exact H) | (have H2_ := (Option.bind_some _ _).symm.trans H; rw [hy347]; with_reducible exact H2_) | (have H2_ := (Option.bind_some _ _).symm.trans H; with_reducible exact H2_) | with_reducible exact H | (rw [hy347]; exact H) | exact H
  have Ny347 := Aside0.mk hy347
  clear hy347
  by_cases c3 : 0 ≤ a0
  · rw [if_pos c3] at H
    have c3b0 : decide (0 ≤ a0) = true := decide_eq_true c3
    clear c3
    by_cases c4 : a0 < (y347.length : Int)
    · rw [if_pos c4] at H
      have c4b0 : decide (a0 < (y347.length : Int)) = true := decide_eq_true c4
      clear c4
      replace H := Option.bind_eq_some_iff.mp H
      obtain ⟨t351, A50, H⟩ := H
      replace H : (some t351) = some r := H
      have A5 := Aside0.mk A50
      clear A50
      obtain rfl := Option.some.inj H
      go_enter Try.func25, Try.ntmps25
      go_wp2_with (first | ((with_reducible refine gate_dst (N := 5) rfl ?_); refine Kd.R_lit (Kd.int .i64) _ 3 ?hg (N := 5) ?hd (xs := ([48, 1632, 1776, 2406] : List Int)) (inner := [.int .i64 48, .int .i64 1632, .int .i64 1776, .int .i64 2406]) (ok := fun _ => True) (okp := fun _ => True) ?hr ?hp (fun _ hk => hk) trivial (Below.refl _ _) (Nat.le_refl _) (by simp) ?_; (case hd => rfl); (case hg => rfl); (case hr => first | (go_simp; done) | (go_simp; rfl)); (case hp => exact (Reps.one (show Kd.M (Kd.int .i64) _ _ _ 48 [.int .i64 48] from rfl) (Reps.one (show Kd.M (Kd.int .i64) _ _ _ 1632 [.int .i64 1632] from rfl) (Reps.one (show Kd.M (Kd.int .i64) _ _ _ 1776 [.int .i64 1776] from rfl) (Reps.one (show Kd.M (Kd.int .i64) _ _ _ 2406 [.int .i64 2406] from rfl) (Reps.none _ _)))))); intro v348 w6 ho7 hb hg_ hnew_; clear hg_ hnew_; (first | rw [← Ny347.out] at ho7 | (simp only [Int.reduceToNat] at ho7; rw [← Ny347.out] at ho7)); have n0_ := Aside0.mk (Kd.R_lower ho7 (below_size (by repeat (first | (with_reducible first | exact HB.out | apply below_alloc | apply pw_below_drewN | apply below_drew1) | exact HB.out)))); have n1_ := Aside0.mk (below_step (by repeat (first | (with_reducible first | exact HB.out | apply below_alloc | apply pw_below_drewN | apply below_drew1) | exact HB.out)) hb); clear HB; have HO349 := n0_; have HB := n1_; clear n0_ n1_; clear hb ho7; obtain ⟨Ao8, co8, eo8⟩ := Kd.R_slice HO349.out; subst eo8; have p350 : 0 ≤ (a0 : Int) := of_decide_eq_true (by first | (with_reducible assumption) | assumption); have q350 : a0 < (y347.length : Int) := of_decide_eq_true (by first | (with_reducible assumption) | assumption); obtain ⟨ad350, e350, hx350_0⟩ := Kd.at_int (Kd.R_reads' HO349.out).2.2 a0 p350 q350; cases e350; replace p350 := eq_true p350; replace q350 := eq_true q350) | ((with_reducible refine gate_callee (f := 26) rfl ?_); refine goesL_ (some 11) rfl rfl Try.func26 (by kernel_rfl) rfl #[.int .i64 (wrap64 ((rd y347 a0) + a1))] rfl (by (try simp only [List.map_toArray, List.map_cons, List.map_nil]); first | done | rfl | (simp only [List.length_drop, List.length_take]; rfl)) ?_; (with_reducible refine (interlocutorref3_One.calls (wrap64 ((rd y347 a0) + a1)) t351 _ A5.out).mono ?_); rintro e w9 ⟨rfl, hb⟩; refine ⟨_, rfl, ?_⟩; have n0_ := Aside0.mk (Kd.R_below (by (with_reducible repeat (first | apply Kd.R_alloc | apply Kd.R_drewN | apply Kd.R_drew)); exact HO349.out) hb); have n1_ := Aside0.mk (below_step (by repeat (first | (with_reducible first | exact HB.out | apply below_alloc | apply pw_below_drewN | apply below_drew1) | exact HB.out)) hb); clear HO349; clear HB; have HO349 := n0_; have HB := n1_; clear n0_ n1_; (try clear hb); (try clear hb2); (try clear hk); (try clear hi)))
      go_ret
      exact ⟨by first | rfl | (simp [errW_none, errW_some] <;> rfl) | (simp [*, errW_none, errW_some] <;> rfl), by repeat (first | (with_reducible first | exact HB.out | apply below_alloc | apply pw_below_drewN | apply below_drew1) | exact HB.out)⟩
    · rw [if_neg c4] at H
      exact absurd H (by simp)
  · rw [if_neg c3] at H
    exact absurd H (by simp)

/-! ### interlocutorlaw3_FoldDigits: function 8 -/
def interlocutorlaw3_FoldDigits.f (k : Nat) (a0 : Int) (a1 : Int) : Option Bool :=
  (interlocutorlaw3_known.f k).bind fun t => (interlocutorlaw3_within.f a0 4).bind fun c => (interlocutorlaw3_within.f a1 10).bind fun n =>
  (fold_Digit.f k c n).bind fun s => (fold_Fold.f s).bind fun p => (interlocutorref3_Digit.f c n).bind fun z => (fold_Text.f s).bind fun u =>
  if t = true ∧ s = z ∧ p.1 = [48 + n] ∧ u = strOfNums [48 + n] ∧ 0 ≤ n ∧ n ≤ 9 then some true else none
theorem held_step {w W W' : World} {ad : Addr} {v : Value} (hS : W.cell? ad = some v ∧ Below w.heap.size w W) (hb : Below W.heap.size W W') : W'.cell? ad = some v ∧ Below w.heap.size w W' := ⟨(hb.cell (World.block_lt_of_cell? _ _ hS.1)).trans hS.1, below_step hS.2 hb⟩
theorem held_alloc {w W : World} {ad : Addr} {v : Value} {o : Obj} (hS : W.cell? ad = some v ∧ Below w.heap.size w W) : (W.alloc o).cell? ad = some v ∧ Below w.heap.size w (W.alloc o) := held_step hS (below_alloc (Below.refl _ _) _)
theorem held_drew {w W : World} {ad : Addr} {v : Value} (hS : W.cell? ad = some v ∧ Below w.heap.size w W) : W.drew.cell? ad = some v ∧ Below w.heap.size w W.drew := held_step hS (below_drew1 (Below.refl _ _))
theorem one_byte (W : World) (c : Int) : Kd.C (Kd.int .u8) (W.alloc (.cells #[.int .u8 c] 5)) (some ⟨W.heap.size, 0, none⟩) 1 [c] := by
  refine Kd.C_of_reads (d := (0 : Int)) (h1 := fun _ => rfl) ⟨by simp, by simp, fun _ => ⟨_, rfl, fun j hj => ?_⟩⟩
  match j, hj with
  | 0, _ => exact World.cell?_alloc_at _ _ _ _ rfl
set_option maxHeartbeats 4000000 in
set_option maxRecDepth 100000 in
theorem FoldDigits_walk (k : Nat) (a0 a1 c n : Int) (s : ByteArray) (o : List Int) (h1 : interlocutorlaw3_known.f k = some true) (h2 : interlocutorlaw3_within.f a0 4 = some c) (h3 : interlocutorlaw3_within.f a1 10 = some n)
    (h4 : fold_Digit.f k c n = some s) (h5 : fold_Fold.f s = some ([48 + n], o)) (h6 : interlocutorref3_Digit.f c n = some s) (h7 : fold_Text.f s = some (strOfNums [48 + n])) (n0 : 0 ≤ n) (n1 : n ≤ 9) (w : World) :
    Calls Try.prog 8 #[.int .i64 a0, .int .i64 a1] w fun e w' => e = .returned (.bool true) ∧ Below w.heap.size w w' := by
  have HB := Aside0.mk (Below.refl w.heap.size w)
  have H1 := Aside0.mk h1
  have H2 := Aside0.mk h2
  have H3 := Aside0.mk h3
  have H4 := Aside0.mk h4
  have H5 := Aside0.mk h5
  have H6 := Aside0.mk h6
  have H7 := Aside0.mk h7
  clear h1 h2 h3 h4 h5 h6 h7
  go_enter Try.func8, Try.ntmps8
  go_wp2_with (first
    | (go_at_call 14; (with_reducible refine (interlocutorlaw3_known.calls k true _ H1.out).mono ?_); rintro e w5 ⟨rfl, hb⟩; have n0_ := Aside0.mk (below_step (by repeat (first | (with_reducible first | exact HB.out | apply below_alloc | apply pw_below_drewN | apply below_drew1) | exact HB.out)) hb); clear HB; have HB := n0_; clear n0_ hb)
    | (go_at_call 21; first
      | ((with_reducible refine (interlocutorlaw3_within.calls a0 4 c _ H2.out).mono ?_); rintro e w' ⟨rfl, ⟨nd, rfl⟩⟩)
      | ((with_reducible refine (interlocutorlaw3_within.calls a1 10 n _ H3.out).mono ?_); rintro e w' ⟨rfl, ⟨nd, rfl⟩⟩))
    | (go_at_call 24; (with_reducible refine (fold_Digit.calls k c n s _ H4.out).mono ?_); rintro e w6 ⟨rfl, hb⟩; have n0_ := Aside0.mk (below_step (by repeat (first | (with_reducible first | exact HB.out | apply below_alloc | apply pw_below_drewN | apply below_drew1) | exact HB.out)) hb); clear HB; have HB := n0_; clear n0_ hb)
    | (go_at_call 16; (with_reducible refine (fold_Fold.calls s [48 + n] o _ H5.out).mono ?_); rintro e w7 ⟨v0, v1, rfl, ho0, ho1, hb⟩; have n0_ := Aside0.mk (below_step (by repeat (first | (with_reducible first | exact HB.out | apply below_alloc | apply pw_below_drewN | apply below_drew1) | exact HB.out)) hb); have HO := Aside0.mk ho0; clear ho0 ho1 HB; have HB := n0_; clear n0_ hb))
  obtain ⟨A', c', hv, hl, hc⟩ := Kd.R_reads HO.out
  subst hv
  obtain ⟨ad, e0, hcell⟩ := ReadsOf.at_ (Kd.reads_of_C (enc := Value.int .i64) (d := (0 : Int)) (h1 := fun _ => rfl) hc) 0 (by decide) (by simp)
  subst e0
  have hcell1 : w7.cell? ad = some (.int .i64 (48 + n)) := by
    have h := hcell
    rw [show (0 : Int).toNat = 0 from rfl, Addr.add_zero'] at h
    exact h
  have hw : wrap64 (48 + n) = 48 + n := by unfold wrap64; omega
  have hm : (48 + n) % 256 = 48 + n := by omega
  have hw2 : IntKind.i64.wrap (48 + n) = 48 + n := by rw [i64_w]; exact hw
  have hw3 : IntKind.u8.wrap (48 + n) = 48 + n := by first | exact hm | (simp [IntKind.wrap]; omega)
  clear hc HO hcell
  rw [show [48 + n].length = 1 from rfl] at hl ⊢
  have hcv1 := fun W : World => Kd.C_string (P := Try.prog) Try.underlying23 Try.underlying5 Try.underlying9 (c := 1) (one_byte W (48 + n))
  have hS0 : w7.cell? ad = some (.int .i64 (48 + n)) ∧ Below w.heap.size w w7 := ⟨hcell1, HB.out⟩
  clear hcell1 HB
  go_region_held (fun w' => w'.cell? ad = some (.int .i64 (48 + n)) ∧ Below w.heap.size w w') (first | assumption | exact held_step (by assumption) (by assumption) | exact held_alloc (by assumption) | exact held_drew (by assumption) | exact held_alloc (held_drew (by assumption)))
    (first
    | (go_at_call 25; (with_reducible refine (interlocutorref3_Digit.calls c n s _ H6.out).mono ?_); rintro e w8 ⟨rfl, hb⟩)
    | (go_at_call 19; (with_reducible refine (fold_Text.calls s (strOfNums [48 + n]) _ H7.out).mono ?_); rintro e w9 ⟨rfl, hb⟩; (try have hcv2 := Kd.C_string Try.underlying23 Try.underlying5 Try.underlying9 (c := 1) (Kd.C_below (one_byte _ (48 + n)) hb))))
  all_goals go_wp2
  all_goals go_ret
  all_goals exact ⟨rfl, by first | exact (by assumption : _ ∧ Below w.heap.size w _).2 | (have hX := (by assumption : _ ∧ Below w.heap.size w _); exact hX.2)⟩
theorem interlocutorlaw3_FoldDigits.calls (k : Nat) (a0 : Int) (a1 : Int) (r : Bool) (w : World) (h : interlocutorlaw3_FoldDigits.f k a0 a1 = some r) :
    Calls Try.prog 8 #[.int .i64 a0, .int .i64 a1] w fun e w' => e = .returned (.bool r) ∧ Below w.heap.size w w' := by
  unfold interlocutorlaw3_FoldDigits.f at h
  obtain ⟨t, h1, g1⟩ := Option.bind_eq_some_iff.mp h
  clear h
  obtain ⟨c, h2, g2⟩ := Option.bind_eq_some_iff.mp g1
  clear g1
  obtain ⟨n, h3, g3⟩ := Option.bind_eq_some_iff.mp g2
  clear g2
  obtain ⟨s, h4, g4⟩ := Option.bind_eq_some_iff.mp g3
  clear g3
  obtain ⟨⟨p, o⟩, h5, g5⟩ := Option.bind_eq_some_iff.mp g4
  clear g4
  obtain ⟨z, h6, g6⟩ := Option.bind_eq_some_iff.mp g5
  clear g5
  obtain ⟨u, h7, g7⟩ := Option.bind_eq_some_iff.mp g6
  clear g6
  by_cases hc : t = true ∧ s = z ∧ (p, o).1 = [48 + n] ∧ u = strOfNums [48 + n] ∧ 0 ≤ n ∧ n ≤ 9
  · rw [if_pos hc] at g7
    obtain ⟨rfl, rfl, hp, rfl, n0, n1⟩ := hc
    simp only at hp
    subst hp
    obtain rfl := Option.some.inj g7
    exact FoldDigits_walk k a0 a1 c n s o h1 h2 h3 h4 h5 h6 h7 n0 n1 w
  · rw [if_neg hc] at g7
    cases g7
/-- THE ONE PURE STATEMENT of FoldDigits. -/
def interlocutorlaw3_FoldDigits.Pure : Prop := ∀ (a0 : Int) (a1 : Int), (Lit.int .i64 a0).wf = true → (Lit.int .i64 a1).wf = true → ∃ k, interlocutorlaw3_FoldDigits.f k a0 a1 = some true
theorem interlocutorlaw3_FoldDigits.walk (P : interlocutorlaw3_FoldDigits.Pure) (a0 : Int) (a1 : Int) (w : World) (w0 : (Lit.int .i64 a0).wf = true) (w1 : (Lit.int .i64 a1).wf = true) :
    Calls Try.prog 8 #[.int .i64 a0, .int .i64 a1] w fun e w' => e = .returned (.bool true) ∧ Below w.heap.size w w' := by
  obtain ⟨k, h⟩ := P a0 a1 w0 w1
  refine (interlocutorlaw3_FoldDigits.calls k a0 a1 true w h).mono ?_
  rintro e w' ⟨rfl, hd⟩
  exact ⟨rfl, hd⟩

end Go.Proofs.Ytmpmjghhikdefaa.G
