import Derived.Test.YtgbnfjhmobeloaaGx0
import Derived.Test.YtgbnfjhmobeloaaGx16
namespace Go.Proofs.Ytgbnfjhmobeloaa.G
open Go.RowKit Go.Proofs.YtgbnfjhmobeloaaW.PrintWords Go.Proofs.YtgbnfjhmobeloaaW.PrintLast Go.Proofs.YtgbnfjhmobeloaaW.PrintMore Go.Proofs.YtgbnfjhmobeloaaW.VWords
attribute [local go_sem] max2_int min2_int max_two min_two max_three min_three max_four min_four
set_option linter.unusedVariables false
set_option linter.unusedSimpArgs false
def interlocutorref6_put.l0 : Nat → List (S47) → Int → Int → Int → Int → Int → Int → Option ((List (S47)))
  | 0, _, _, _, _, _, _, _ => none
  | k + 1, x0, x5, x207000, x207001, x207002, x207003, x207004 => if x5 > 0 then (if 0 ≤ (wrap64 (x5 - 1)) then (if (wrap64 (x5 - 1)) < (x0.length : Int) then ((interlocutorref6_order.f k x207000 x207001 x207002 x207003 x207004 ((rd_T47 x0 (wrap64 (x5 - 1))).f0) ((rd_T47 x0 (wrap64 (x5 - 1))).f1) ((rd_T47 x0 (wrap64 (x5 - 1))).f2) ((rd_T47 x0 (wrap64 (x5 - 1))).f3) ((rd_T47 x0 (wrap64 (x5 - 1))).f4)).bind fun t208 => (if t208 < 0 then (interlocutorref6_put.l0 k x0 (wrap64 (x5 - 1)) x207000 x207001 x207002 x207003 x207004) else ((interlocutorref6_order.f k x207000 x207001 x207002 x207003 x207004 ((rd_T47 x0 (wrap64 (x5 - 1))).f0) ((rd_T47 x0 (wrap64 (x5 - 1))).f1) ((rd_T47 x0 (wrap64 (x5 - 1))).f2) ((rd_T47 x0 (wrap64 (x5 - 1))).f3) ((rd_T47 x0 (wrap64 (x5 - 1))).f4)).bind fun t210 => (if t210 = 0 then (some x0) else ((some (([] : List (S47)) : List (S47))).bind fun y211 => (if 0 ≤ x5 then (if x5 ≤ (x0.length : Int) then ((some (x0.take (x5 : Int).toNat : List (S47))).bind fun y214 => (if y211.length + y214.length < 3518437208883 then ((some (y211 ++ y214 : List (S47))).bind fun y219 => ((some (([(⟨x207000, x207001, x207002, x207003, x207004⟩ : S47)] : List (S47)) : List (S47))).bind fun y222 => (if y219.length + y222.length < 3518437208883 then ((some (y219 ++ y222 : List (S47))).bind fun y225 => ((some (x0.drop (x5 : Int).toNat : List (S47))).bind fun y228 => (if y225.length + y228.length < 3518437208883 then (some (y225 ++ y228)) else (none)))) else (none)))) else (none))) else (none)) else (none))))))) else (none)) else (none)) else ((some (([] : List (S47)) : List (S47))).bind fun y236 => (if 0 ≤ x5 then (if x5 ≤ (x0.length : Int) then ((some (x0.take (x5 : Int).toNat : List (S47))).bind fun y239 => (if y236.length + y239.length < 3518437208883 then ((some (y236 ++ y239 : List (S47))).bind fun y244 => ((some (([(⟨x207000, x207001, x207002, x207003, x207004⟩ : S47)] : List (S47)) : List (S47))).bind fun y247 => (if y244.length + y247.length < 3518437208883 then ((some (y244 ++ y247 : List (S47))).bind fun y250 => ((some (x0.drop (x5 : Int).toNat : List (S47))).bind fun y253 => (if y250.length + y253.length < 3518437208883 then (some (y250 ++ y253)) else (none)))) else (none)))) else (none))) else (none)) else (none)))
def interlocutorref6_put.f (k : Nat) (l0 : List (S47)) (a1_0 : Int) (a1_1 : Int) (a1_2 : Int) (a1_3 : Int) (a1_4 : Int) : Option ((List (S47))) := interlocutorref6_put.l0 k l0 (l0.length : Int) a1_0 a1_1 a1_2 a1_3 a1_4
theorem interlocutorref6_put.mono_l : ∀ k, (∀ y0 y1 y2 y3 y4 y5 y6, LeO (interlocutorref6_put.l0 k y0 y1 y2 y3 y4 y5 y6) (interlocutorref6_put.l0 (k + 1) y0 y1 y2 y3 y4 y5 y6))
  | 0 => fun _ _ _ _ _ _ _ r h => by simp [interlocutorref6_put.l0] at h
  | k + 1 => by
    have ih0 := interlocutorref6_put.mono_l k
    · intro y0 y1 y2 y3 y4 y5 y6
      unfold interlocutorref6_put.l0
      repeat' first
      | (with_reducible exact ih0 _ _ _ _ _ _ _)
      | (with_reducible exact interlocutorref6_order.mono _ _ _ _ _ _ _ _ _ _ _)
      | (with_reducible exact LeO.refl _)
      | (with_reducible exact LeO.none _)
      | (with_reducible refine LeO.ite ?_ ?_)
      | (with_reducible refine LeO.bind ?_ (fun _ => ?_))
      | exact ih0 _ _ _ _ _ _ _
      | exact interlocutorref6_order.mono _ _ _ _ _ _ _ _ _ _ _
      | exact LeO.none _
      | refine LeO.ite ?_ ?_
      | refine LeO.bind ?_ (fun _ => ?_)
theorem interlocutorref6_put.mono : ∀ a0 a1 a2 a3 a4 a5 k, LeO (interlocutorref6_put.f k a0 a1 a2 a3 a4 a5) (interlocutorref6_put.f (k + 1) a0 a1 a2 a3 a4 a5) := by
  intro a0 a1 a2 a3 a4 a5 k
  have ih0 := interlocutorref6_put.mono_l k
  unfold interlocutorref6_put.f
  repeat' first
      | (with_reducible exact ih0 _ _ _ _ _ _ _)
      | (with_reducible exact interlocutorref6_order.mono _ _ _ _ _ _ _ _ _ _ _)
      | (with_reducible exact LeO.refl _)
      | (with_reducible exact LeO.none _)
      | (with_reducible refine LeO.ite ?_ ?_)
      | (with_reducible refine LeO.bind ?_ (fun _ => ?_))
      | exact ih0 _ _ _ _ _ _ _
      | exact interlocutorref6_order.mono _ _ _ _ _ _ _ _ _ _ _
      | exact LeO.none _
      | refine LeO.ite ?_ ?_
      | refine LeO.bind ?_ (fun _ => ?_)
def interlocutorref6_put.T2 : Bool × List (List Nat × List Nat) := (true, [([], []), ([0], [0]), ([1], [1]), ([2], [2]), ([2], [2]), ([2], [2]), ([5, 2], [2, 5]), ([4, 6, 2], [2, 4, 6]), ([7, 2], [2, 7]), ([3, 8, 2, 2], [2, 3, 8]), ([9, 2], [2, 9]), ([2, 10], [2, 10])])
def interlocutorref6_put.B2 : List Nat := [0, 1, 3, 7, 7, 7, 39, 119, 247, 511, 1023, 2047]
theorem interlocutorref6_put.tab2 : rtab .any (opsOf Try.f66 2) = interlocutorref6_put.T2 := by kernel_rfl
theorem interlocutorref6_put.bits2 : waitsOk interlocutorref6_put.T2.2 interlocutorref6_put.B2 = true := by kernel_rfl
def interlocutorref6_put.T4 : Bool × List (List Nat × List Nat) := (true, [([], []), ([0], [0]), ([1], [1]), ([2], [2]), ([2], [2]), ([2], [2]), ([5, 2], [2, 5]), ([4, 6, 2], [2, 4, 6]), ([7, 2], [2, 7]), ([3, 8, 2, 2], [2, 3, 8]), ([9, 2], [2, 9]), ([2, 10], [2, 10])])
def interlocutorref6_put.B4 : List Nat := [0, 1, 3, 7, 7, 7, 39, 119, 247, 511, 1023, 2047]
theorem interlocutorref6_put.tab4 : rtab .any (opsOf Try.f66 4) = interlocutorref6_put.T4 := by kernel_rfl
theorem interlocutorref6_put.bits4 : waitsOk interlocutorref6_put.T4.2 interlocutorref6_put.B4 = true := by kernel_rfl
def interlocutorref6_put.T6 : Bool × List (List Nat × List Nat) := (true, [([], []), ([], []), ([], []), ([1, 2], [1, 2]), ([0, 3], [0, 3]), ([], []), ([5], [5]), ([4, 6, 4], [4, 6]), ([], []), ([], []), ([8, 9], [8, 9]), ([7, 10, 7], [7, 10]), ([11, 11, 0, 1, 2, 3, 4, 5, 6, 7, 8, 9, 10, 11], [11])])
def interlocutorref6_put.B6 : List Nat := [0, 0, 0, 6, 15, 0, 32, 127, 0, 0, 768, 2047, 4095]
theorem interlocutorref6_put.tab6 : rtab .any (opsOf Try.f66 6) = interlocutorref6_put.T6 := by kernel_rfl
theorem interlocutorref6_put.bits6 : waitsOk interlocutorref6_put.T6.2 interlocutorref6_put.B6 = true := by kernel_rfl
set_option maxHeartbeats 8000000 in
set_option maxRecDepth 100000 in
theorem interlocutorref6_put.calls (k : Nat) (P0_ : Nat → Prop) (A0 : Option Addr) (c0 : Nat) (l0 : List (S47)) (a1_0 : Int) (a1_1 : Int) (a1_2 : Int) (a1_3 : Int) (a1_4 : Int) (r : List (S47)) (w : World) (hs0 : Kd.V k47 47 w w.heap.size (fun k_ => P0_ k_) (.slice A0 l0.length c0) l0) (h : interlocutorref6_put.f k l0 a1_0 a1_1 a1_2 a1_3 a1_4 = some r) :
    Calls Try.prog 66 #[.slice A0 l0.length c0, .agg #[.int .i64 a1_0, .int .i64 a1_1, .int .i64 a1_2, .int .i64 a1_3, .int .i64 a1_4]] w fun e w' => ∃ v0_ : Value, e = .returned (v0_) ∧ Kd.V k47 47 w' w.heap.size (fun k_ => (P0_ k_ ∨ w.heap.size ≤ k_)) v0_ r ∧ Below w.heap.size w w' := by
  have hu47 := Try.underlying47
  have HO0 := Aside0.mk (show Kd.V k47 47 w w.heap.size (fun k_ => (P0_ k_ ∨ w.heap.size ≤ k_)) (.slice A0 l0.length c0) l0 from Kd.V_mono hs0 (fun k_ hk => .inl hk))
  have HB := Aside0.mk (Below.refl w.heap.size w)
  have H : (interlocutorref6_put.l0 k l0 (l0.length : Int) a1_0 a1_1 a1_2 a1_3 a1_4) = some r := h
  clear h
  have H' := Aside0.mk H
  clear H
  go_enter Try.func66, Try.ntmps66
  go_wp2_with (first | ((with_reducible refine gate_dst (N := 3) rfl ?_); refine box_event ?hg (N := 3) ?hd (cs := #[.int .i64 a1_0, .int .i64 a1_1, .int .i64 a1_2, .int .i64 a1_3, .int .i64 a1_4]) (t := 47) ?hr ?_; (case hd => rfl); (case hg => rfl); (case hr => first | (go_simp; done) | (go_simp; rfl)); intro gb206 hg w3 hbox hb; have n0_ := Aside0.mk (Kd.V_below (Kd.V_elderB (by exact vU HO0.out) gb206 (Nat.le_of_eq hg.symm)) hb); have n1_ := Aside0.mk (below_step (by exact wU HB.out) hb); have n2_ := Aside0.mk (hbox); have n3_ := Aside0.mk ((by rw [hg]; exact (below_size (by exact wU HB.out)) : w.heap.size ≤ gb206)); have n4_ := Aside0.mk ((by rw [hg]; exact (below_size (by exact wU HB.out)) : w.heap.size ≤ gb206)); clear HO0; clear HB; have HO0 := n0_; have HB := n1_; have BK206 := n2_; have GW206 := n3_; have GE206 := n4_; clear n0_ n1_ n2_ n3_ n4_; clear hb hbox hg))
  go_loopg [5] k (fun kq v5 w' => ∃ (x5_1 : Int), v5 = .int .i64 x5_1 ∧ Aside0 (interlocutorref6_put.l0 kq l0 x5_1 a1_0 a1_1 a1_2 a1_3 a1_4 = some r) ∧ Aside0 (kq ≤ k) ∧ Aside0 (Kd.V k47 47 w' w.heap.size (fun k_ => (P0_ k_ ∨ w.heap.size ≤ k_) ∧ k_ ≠ gb206) (.slice A0 l0.length c0) l0) ∧ Aside0 (w'.heap[gb206]? = some (.cells #[.int .i64 a1_0, .int .i64 a1_1, .int .i64 a1_2, .int .i64 a1_3, .int .i64 a1_4] 47 (0, 0))) ∧ Aside0 (Below w.heap.size w w'))
  case atStart => exact ⟨((l0.length : Int)), (by first | rfl | (simp; done) | (simp [*]; done)), H', ⟨Nat.le_refl _⟩, ⟨by exact vU HO0.out⟩, ⟨by (with_reducible repeat (first | refine blk_drewN ?_ _ | refine blk_drew ?_ | refine blk_alloc ?_ _)); exact BK206.out⟩, ⟨by exact wS HB.out GE206.out⟩⟩
  case round =>
    clear H'
    try clear p2
    obtain ⟨x5_1, rfl, HA, HK1, HO_0, BK206, HB⟩ := hrel
    cases gk with
    | zero => exact absurd HA.out (by simp [interlocutorref6_put.l0])
    | succ k1 =>
      have H := HA.out
      clear HA
      simp only [interlocutorref6_put.l0] at H
      by_cases c4 : x5_1 > 0
      · rw [if_pos c4] at H
        have c4b0 : decide (0 < x5_1) = true := decide_eq_true c4
        clear c4
        obtain ⟨ji5, hji5⟩ : ∃ j_ : Int, (wrap64 (x5_1 - 1)) = j_ := ⟨_, rfl⟩
        replace H : (if 0 ≤ (ji5) then (if (ji5) < (l0.length : Int) then ((interlocutorref6_order.f k1 a1_0 a1_1 a1_2 a1_3 a1_4 ((rd_T47 l0 (ji5)).f0) ((rd_T47 l0 (ji5)).f1) ((rd_T47 l0 (ji5)).f2) ((rd_T47 l0 (ji5)).f3) ((rd_T47 l0 (ji5)).f4)).bind fun t208 => (if t208 < 0 then (interlocutorref6_put.l0 k1 l0 ji5 a1_0 a1_1 a1_2 a1_3 a1_4) else ((interlocutorref6_order.f k1 a1_0 a1_1 a1_2 a1_3 a1_4 ((rd_T47 l0 (ji5)).f0) ((rd_T47 l0 (ji5)).f1) ((rd_T47 l0 (ji5)).f2) ((rd_T47 l0 (ji5)).f3) ((rd_T47 l0 (ji5)).f4)).bind fun t210 => (if t210 = 0 then (some l0) else ((some (([] : List (S47)) : List (S47))).bind fun y211 => (if 0 ≤ x5_1 then (if x5_1 ≤ (l0.length : Int) then ((some (l0.take (x5_1 : Int).toNat : List (S47))).bind fun y214 => (if y211.length + y214.length < 3518437208883 then ((some (y211 ++ y214 : List (S47))).bind fun y219 => ((some (([(⟨a1_0, a1_1, a1_2, a1_3, a1_4⟩ : S47)] : List (S47)) : List (S47))).bind fun y222 => (if y219.length + y222.length < 3518437208883 then ((some (y219 ++ y222 : List (S47))).bind fun y225 => ((some (l0.drop (x5_1 : Int).toNat : List (S47))).bind fun y228 => (if y225.length + y228.length < 3518437208883 then (some (y225 ++ y228)) else (none)))) else (none)))) else (none))) else (none)) else (none))))))) else (none)) else (none)) = some r := by first | (rw [hji5] at H; exact H) | (simp only [hji5] at H ⊢; exact H)
        have hji5w : (IntKind.i64.wrap (x5_1 - 1)) = ji5 := (i64_w _).trans hji5
        by_cases c6 : 0 ≤ (ji5)
        · rw [if_pos c6] at H
          have c6b0 : decide (0 ≤ (ji5)) = true := decide_eq_true c6
          clear c6
          by_cases c7 : (ji5) < (l0.length : Int)
          · rw [if_pos c7] at H
            have c7b0 : decide ((ji5) < (l0.length : Int)) = true := decide_eq_true c7
            clear c7
            replace H := Option.bind_eq_some_iff.mp H
            obtain ⟨t208, A80, H⟩ := H
            replace H : (if t208 < 0 then (interlocutorref6_put.l0 k1 l0 ji5 a1_0 a1_1 a1_2 a1_3 a1_4) else ((interlocutorref6_order.f k1 a1_0 a1_1 a1_2 a1_3 a1_4 ((rd_T47 l0 (ji5)).f0) ((rd_T47 l0 (ji5)).f1) ((rd_T47 l0 (ji5)).f2) ((rd_T47 l0 (ji5)).f3) ((rd_T47 l0 (ji5)).f4)).bind fun t210 => (if t210 = 0 then (some l0) else ((some (([] : List (S47)) : List (S47))).bind fun y211 => (if 0 ≤ x5_1 then (if x5_1 ≤ (l0.length : Int) then ((some (l0.take (x5_1 : Int).toNat : List (S47))).bind fun y214 => (if y211.length + y214.length < 3518437208883 then ((some (y211 ++ y214 : List (S47))).bind fun y219 => ((some (([(⟨a1_0, a1_1, a1_2, a1_3, a1_4⟩ : S47)] : List (S47)) : List (S47))).bind fun y222 => (if y219.length + y222.length < 3518437208883 then ((some (y219 ++ y222 : List (S47))).bind fun y225 => ((some (l0.drop (x5_1 : Int).toNat : List (S47))).bind fun y228 => (if y225.length + y228.length < 3518437208883 then (some (y225 ++ y228)) else (none)))) else (none)))) else (none))) else (none)) else (none)))))) = some r := H
            have A8 := Aside0.mk A80
            clear A80
            by_cases c9 : t208 < 0
            · rw [if_pos c9] at H
              have c9b0 : decide (t208 < 0) = true := decide_eq_true c9
              have c9b7 : t208 < 0 := of_decide_eq_true c9b0
              clear c9
              have H' := Aside0.mk H
              clear H
              try go_wp2
              have n0_ := Aside0.mk (Kd.V_drew HO_0.out)
              have n1_ := Aside0.mk (blk_drew BK206.out)
              have n2_ := Aside0.mk (below_drew1 HB.out)
              clear HO_0 BK206 HB
              have HO_0 := n0_
              have BK206 := n1_
              have HB := n2_
              clear n0_ n1_ n2_
              have p207 : 0 ≤ ((ji5) : Int) := of_decide_eq_true (by first | (with_reducible assumption) | assumption)
              have q207 : (ji5) < (l0.length : Int) := of_decide_eq_true (by first | (with_reducible assumption) | assumption)
              obtain ⟨ad207, e207, hx207_0, hx207_1, hx207_2, hx207_3, hx207_4⟩ := at_T47 (Kd.V_reads' HO_0.out).2.2 (ji5) p207 q207
              cases e207
              replace p207 := eq_true p207
              replace q207 := eq_true q207
              refine start_ (n := 12) (S := fun w' => w'.cell? ⟨gb206, 0, none⟩ = some (.int .i64 a1_0) ∧ w'.cell? ⟨gb206, 1, none⟩ = some (.int .i64 a1_1) ∧ w'.cell? ⟨gb206, 2, none⟩ = some (.int .i64 a1_2) ∧ w'.cell? ⟨gb206, 3, none⟩ = some (.int .i64 a1_3) ∧ w'.cell? ⟨gb206, 4, none⟩ = some (.int .i64 a1_4) ∧ w'.cell? (ad207.add (((ji5)).toNat * 5)) = some (.int .i64 ((rd_T47 l0 (ji5)).f0)) ∧ w'.cell? ⟨(ad207.add (((ji5)).toNat * 5)).block, (ad207.add (((ji5)).toNat * 5)).off + 1, none⟩ = some (.int .i64 ((rd_T47 l0 (ji5)).f1)) ∧ w'.cell? ⟨(ad207.add (((ji5)).toNat * 5)).block, (ad207.add (((ji5)).toNat * 5)).off + 2, none⟩ = some (.int .i64 ((rd_T47 l0 (ji5)).f2)) ∧ w'.cell? ⟨(ad207.add (((ji5)).toNat * 5)).block, (ad207.add (((ji5)).toNat * 5)).off + 3, none⟩ = some (.int .i64 ((rd_T47 l0 (ji5)).f3)) ∧ w'.cell? ⟨(ad207.add (((ji5)).toNat * 5)).block, (ad207.add (((ji5)).toNat * 5)).off + 4, none⟩ = some (.int .i64 ((rd_T47 l0 (ji5)).f4))) (ds := []) #[false, false, false, false, false, false, false, false, false, false, false, false] (by kernel_rfl) rfl rfl ⟨(blk_cell BK206.out 0).trans rfl, (blk_cell BK206.out 1).trans rfl, (blk_cell BK206.out 2).trans rfl, (blk_cell BK206.out 3).trans rfl, (blk_cell BK206.out 4).trans rfl, hx207_0, hx207_1, hx207_2, hx207_3, hx207_4⟩ (fun hHeld => ?_); refine with_tabW interlocutorref6_put.tab2 interlocutorref6_put.bits2 (fun HT_ HW_ => ?_)
              generalize wr.drew = w10 at HO_0 BK206 HB hx207_0 hx207_1 hx207_2 hx207_3 hx207_4 hHeld ⊢
              refine pure_ (i := 0) (N := some 8) (v := ?_) (a' := ?_) #[true, false, false, false, false, false, false, false, false, false, false, false] rfl rfl (any_of HT_.out (by kernel_rfl)) (fun _ _ _ h => h) (Or.inl ⟨by rfl, ?_⟩) ?_ ?_
              rotate_left
              · intro w'
                go_simp
                with_reducible rfl
              rotate_left
              · simp only [Act.put, List.setIfInBounds_toArray, List.set_cons_zero, List.set_cons_succ, i64_w, i32_w]
                rfl
              refine pure_ (i := 1) (N := some 9) (v := ?_) (a' := ?_) #[true, true, false, false, false, false, false, false, false, false, false, false] rfl rfl (any_of HT_.out (by kernel_rfl)) (fun _ _ _ h => h) (Or.inl ⟨by rfl, ?_⟩) ?_ ?_
              rotate_left
              · intro w'
                go_simp
                with_reducible rfl
              rotate_left
              · simp only [Act.put, List.setIfInBounds_toArray, List.set_cons_zero, List.set_cons_succ, i64_w, i32_w]
                rfl
              refine pure_ (i := 2) (N := some 10) (v := ?_) (a' := ?_) #[true, true, true, false, false, false, false, false, false, false, false, false] rfl rfl (any_of HT_.out (by kernel_rfl)) (fun _ _ _ h => h) (Or.inl ⟨by rfl, ?_⟩) ?_ ?_
              rotate_left
              · intro w'
                go_simp
                with_reducible rfl
              rotate_left
              · simp only [Act.put, List.setIfInBounds_toArray, List.set_cons_zero, List.set_cons_succ, i64_w, i32_w]
                rfl
              refine pure_ (i := 4) (N := some 12) (v := ?_) (a' := ?_) #[true, true, true, false, true, false, false, false, false, false, false, false] rfl rfl (any_of HT_.out (by kernel_rfl)) (fun _ _ _ h => h) (Or.inl ⟨by rfl, ?_⟩) ?_ ?_
              rotate_left
              · intro w'
                go_simp
                with_reducible rfl
              rotate_left
              · simp only [Act.put, List.setIfInBounds_toArray, List.set_cons_zero, List.set_cons_succ, i64_w, i32_w]
                rfl
              refine pure_ (i := 5) (N := some 13) (v := ?_) (a' := ?_) #[true, true, true, false, true, true, false, false, false, false, false, false] rfl rfl (any_of HT_.out (by kernel_rfl)) (fun _ _ _ h => h) (Or.inl ⟨by rfl, ?_⟩) ?_ ?_
              rotate_left
              · intro w'
                go_simp
                with_reducible rfl
              rotate_left
              · simp only [Act.put, List.setIfInBounds_toArray, List.set_cons_zero, List.set_cons_succ, i64_w, i32_w]
                rfl
              refine pure_ (i := 6) (N := some 14) (v := ?_) (a' := ?_) #[true, true, true, false, true, true, true, false, false, false, false, false] rfl rfl (any_of HT_.out (by kernel_rfl)) (fun _ _ _ h => h) (Or.inl ⟨by rfl, ?_⟩) ?_ ?_
              rotate_left
              · intro w'
                go_simp
                with_reducible rfl
              rotate_left
              · simp only [Act.put, List.setIfInBounds_toArray, List.set_cons_zero, List.set_cons_succ, i64_w, i32_w]
                rfl
              refine pure_ (i := 7) (N := some 15) (v := ?_) (a' := ?_) #[true, true, true, false, true, true, true, true, false, false, false, false] rfl rfl (any_of HT_.out (by kernel_rfl)) (fun _ _ _ h => h) (Or.inl ⟨by rfl, ?_⟩) ?_ ?_
              rotate_left
              · intro w'
                go_simp
                with_reducible rfl
              rotate_left
              · simp only [Act.put, List.setIfInBounds_toArray, List.set_cons_zero, List.set_cons_succ, i64_w, i32_w]
                rfl
              refine take_ (i := 3) (N := some 11) (v := ?_) (a' := ?_) #[true, true, true, true, true, true, true, true, false, false, false, false] rfl rfl (take_ofW HT_.out HW_.out (by kernel_rfl)) (fun _ _ _ h => h) (Or.inl ⟨by rfl, ?_⟩) hHeld ?_ ?_
              rotate_left
              · rintro w' ⟨s0, s1, s2, s3, s4, s5, s6, s7, s8, s9⟩
                go_simp
                with_reducible rfl
              rotate_left
              · simp only [Act.put, List.setIfInBounds_toArray, List.set_cons_zero, List.set_cons_succ, i64_w, i32_w]
                rfl
              refine take_ (i := 8) (N := some 16) (v := ?_) (a' := ?_) #[true, true, true, true, true, true, true, true, true, false, false, false] rfl rfl (take_ofW HT_.out HW_.out (by kernel_rfl)) (fun _ _ _ h => h) (Or.inl ⟨by rfl, ?_⟩) hHeld ?_ ?_
              rotate_left
              · rintro w' ⟨s0, s1, s2, s3, s4, s5, s6, s7, s8, s9⟩
                go_simp
                with_reducible rfl
              rotate_left
              · simp only [Act.put, List.setIfInBounds_toArray, List.set_cons_zero, List.set_cons_succ, i64_w, i32_w]
                rfl
              refine one_ (i := 9) (N := some 17) #[true, true, true, true, true, true, true, true, true, true, false, false] rfl rfl (one_of HT_.out (by kernel_rfl)) (by decide) (fun K hK => ?_)
              refine goes_ Try.func90 (by kernel_rfl) rfl #[.agg #[.int .i64 a1_0, .int .i64 a1_1, .int .i64 a1_2, .int .i64 a1_3, .int .i64 a1_4], .agg #[.int .i64 ((rd_T47 l0 (ji5)).f0), .int .i64 ((rd_T47 l0 (ji5)).f1), .int .i64 ((rd_T47 l0 (ji5)).f2), .int .i64 ((rd_T47 l0 (ji5)).f3), .int .i64 ((rd_T47 l0 (ji5)).f4)]] (by rfl) rfl rfl (by (try simp only [List.map_toArray, List.map_cons, List.map_nil]); first | done | (simp only [hji5]; rfl) | rfl | (simp only [List.length_drop, List.length_take]; rfl)) ?_
              with_reducible refine (interlocutorref6_order.calls k1 a1_0 a1_1 a1_2 a1_3 a1_4 ((rd_T47 l0 (ji5)).f0) ((rd_T47 l0 (ji5)).f1) ((rd_T47 l0 (ji5)).f2) ((rd_T47 l0 (ji5)).f3) ((rd_T47 l0 (ji5)).f4) t208 _ A8.out).mono ?_
              rintro e w11 ⟨rfl, hb⟩
              have HS5_ := (hb.cell (World.block_lt_of_cell? _ _ (hHeld.2.2.2.2.2.1))).trans (hHeld.2.2.2.2.2.1)
              have HS6_ := (hb.cell (World.block_lt_of_cell? _ _ (hHeld.2.2.2.2.2.2.1))).trans (hHeld.2.2.2.2.2.2.1)
              have HS7_ := (hb.cell (World.block_lt_of_cell? _ _ (hHeld.2.2.2.2.2.2.2.1))).trans (hHeld.2.2.2.2.2.2.2.1)
              have HS8_ := (hb.cell (World.block_lt_of_cell? _ _ (hHeld.2.2.2.2.2.2.2.2.1))).trans (hHeld.2.2.2.2.2.2.2.2.1)
              have HS9_ := (hb.cell (World.block_lt_of_cell? _ _ (hHeld.2.2.2.2.2.2.2.2.2))).trans (hHeld.2.2.2.2.2.2.2.2.2)
              refine ⟨_, rfl, ?_⟩
              have n0_ := Aside0.mk (Kd.V_below (by exact vU HO_0.out) hb)
              have n1_ := Aside0.mk (blk_below (g := gb206) (o := .cells #[.int .i64 a1_0, .int .i64 a1_1, .int .i64 a1_2, .int .i64 a1_3, .int .i64 a1_4] 47 (0, 0)) (by (with_reducible repeat (first | refine blk_drewN ?_ _ | refine blk_drew ?_ | refine blk_alloc ?_ _)); exact BK206.out) hb)
              have n2_ := Aside0.mk (below_step (by exact wS HB.out GE206.out) hb)
              clear HO_0 BK206 HB
              have HO_0 := n0_
              have BK206 := n1_
              have HB := n2_
              clear n0_ n1_ n2_
              (try clear hb)
              (try clear hb2)
              (try clear hk)
              (try clear hi)
              refine hK.out _ _ ⟨(blk_cell BK206.out 0).trans rfl, (blk_cell BK206.out 1).trans rfl, (blk_cell BK206.out 2).trans rfl, (blk_cell BK206.out 3).trans rfl, (blk_cell BK206.out 4).trans rfl, HS5_, HS6_, HS7_, HS8_, HS9_⟩ (fun hHeld => ?_)
              clear hK K
              refine norm_ (a' := ?_) ?_ ?_
              rotate_left
              · show Act.put _ (some 17) _ = _
                simp only [Act.put, List.setIfInBounds_toArray, List.set_cons_zero, List.set_cons_succ, i64_w, i32_w]
                rfl
              refine pure_ (i := 10) (N := some 18) (v := ?_) (a' := ?_) #[true, true, true, true, true, true, true, true, true, true, true, false] rfl rfl (any_of HT_.out (by kernel_rfl)) (fun _ _ _ h => h) (Or.inl ⟨by rfl, ?_⟩) ?_ ?_
              rotate_left
              · intro w'
                go_simp
                with_reducible rfl
              rotate_left
              · simp only [Act.put, List.setIfInBounds_toArray, List.set_cons_zero, List.set_cons_succ, i64_w, i32_w]
                rfl
              refine pure_ (i := 11) (N := some 19) (v := ?_) (a' := ?_) #[true, true, true, true, true, true, true, true, true, true, true, true] rfl rfl (any_of HT_.out (by kernel_rfl)) (fun _ _ _ h => h) (Or.inl ⟨by rfl, ?_⟩) ?_ ?_
              rotate_left
              · intro w'
                go_simp
                with_reducible rfl
              rotate_left
              · simp only [Act.put, List.setIfInBounds_toArray, List.set_cons_zero, List.set_cons_succ, i64_w, i32_w]
                rfl
              refine done_ (done_of HT_.out (by kernel_rfl)) ?_
              try go_wp2
              go_roundg k1
              case measure => have := HK1.out; omega
              case rel => exact ⟨(ji5), (by first | rfl | (simp; done) | (simp only [← hji5] <;> (first | rfl | simp)) | (simp [*]; done)), H', ⟨by have := HK1.out; omega⟩, ⟨by exact vU HO_0.out⟩, ⟨by (with_reducible repeat (first | refine blk_drewN ?_ _ | refine blk_drew ?_ | refine blk_alloc ?_ _)); exact BK206.out⟩, ⟨by exact wS HB.out GE206.out⟩⟩
            · rw [if_neg c9] at H
              have c9b0 : decide (t208 < 0) = false := decide_eq_false c9
              have c9b7 : ¬ t208 < 0 := of_decide_eq_false c9b0
              have c9b8 : 0 ≤ t208 := by omega
              clear c9
              replace H := Option.bind_eq_some_iff.mp H
              obtain ⟨t210, A120, H⟩ := H
              replace H : (if t210 = 0 then (some l0) else ((some (([] : List (S47)) : List (S47))).bind fun y211 => (if 0 ≤ x5_1 then (if x5_1 ≤ (l0.length : Int) then ((some (l0.take (x5_1 : Int).toNat : List (S47))).bind fun y214 => (if y211.length + y214.length < 3518437208883 then ((some (y211 ++ y214 : List (S47))).bind fun y219 => ((some (([(⟨a1_0, a1_1, a1_2, a1_3, a1_4⟩ : S47)] : List (S47)) : List (S47))).bind fun y222 => (if y219.length + y222.length < 3518437208883 then ((some (y219 ++ y222 : List (S47))).bind fun y225 => ((some (l0.drop (x5_1 : Int).toNat : List (S47))).bind fun y228 => (if y225.length + y228.length < 3518437208883 then (some (y225 ++ y228)) else (none)))) else (none)))) else (none))) else (none)) else (none)))) = some r := H
              have A12 := Aside0.mk A120
              clear A120
              by_cases c13 : t210 = 0
              · rw [if_pos c13] at H
                have c13b0 : (t210 == 0) = true := beq_iff_eq.mpr c13
                have c13b1 : (t210 != 0) = false := bne_eq_false_iff_eq.mpr c13
                clear c13
                obtain rfl := Option.some.inj H
                try go_wp2
                have n0_ := Aside0.mk (Kd.V_drew HO_0.out)
                have n1_ := Aside0.mk (blk_drew BK206.out)
                have n2_ := Aside0.mk (below_drew1 HB.out)
                clear HO_0 BK206 HB
                have HO_0 := n0_
                have BK206 := n1_
                have HB := n2_
                clear n0_ n1_ n2_
                have p207 : 0 ≤ ((ji5) : Int) := of_decide_eq_true (by first | (with_reducible assumption) | assumption)
                have q207 : (ji5) < (l0.length : Int) := of_decide_eq_true (by first | (with_reducible assumption) | assumption)
                obtain ⟨ad207, e207, hx207_0, hx207_1, hx207_2, hx207_3, hx207_4⟩ := at_T47 (Kd.V_reads' HO_0.out).2.2 (ji5) p207 q207
                cases e207
                replace p207 := eq_true p207
                replace q207 := eq_true q207
                refine start_ (n := 12) (S := fun w' => w'.cell? ⟨gb206, 0, none⟩ = some (.int .i64 a1_0) ∧ w'.cell? ⟨gb206, 1, none⟩ = some (.int .i64 a1_1) ∧ w'.cell? ⟨gb206, 2, none⟩ = some (.int .i64 a1_2) ∧ w'.cell? ⟨gb206, 3, none⟩ = some (.int .i64 a1_3) ∧ w'.cell? ⟨gb206, 4, none⟩ = some (.int .i64 a1_4) ∧ w'.cell? (ad207.add (((ji5)).toNat * 5)) = some (.int .i64 ((rd_T47 l0 (ji5)).f0)) ∧ w'.cell? ⟨(ad207.add (((ji5)).toNat * 5)).block, (ad207.add (((ji5)).toNat * 5)).off + 1, none⟩ = some (.int .i64 ((rd_T47 l0 (ji5)).f1)) ∧ w'.cell? ⟨(ad207.add (((ji5)).toNat * 5)).block, (ad207.add (((ji5)).toNat * 5)).off + 2, none⟩ = some (.int .i64 ((rd_T47 l0 (ji5)).f2)) ∧ w'.cell? ⟨(ad207.add (((ji5)).toNat * 5)).block, (ad207.add (((ji5)).toNat * 5)).off + 3, none⟩ = some (.int .i64 ((rd_T47 l0 (ji5)).f3)) ∧ w'.cell? ⟨(ad207.add (((ji5)).toNat * 5)).block, (ad207.add (((ji5)).toNat * 5)).off + 4, none⟩ = some (.int .i64 ((rd_T47 l0 (ji5)).f4))) (ds := []) #[false, false, false, false, false, false, false, false, false, false, false, false] (by kernel_rfl) rfl rfl ⟨(blk_cell BK206.out 0).trans rfl, (blk_cell BK206.out 1).trans rfl, (blk_cell BK206.out 2).trans rfl, (blk_cell BK206.out 3).trans rfl, (blk_cell BK206.out 4).trans rfl, hx207_0, hx207_1, hx207_2, hx207_3, hx207_4⟩ (fun hHeld => ?_); refine with_tabW interlocutorref6_put.tab2 interlocutorref6_put.bits2 (fun HT_ HW_ => ?_)
                generalize wr.drew = w14 at HO_0 BK206 HB hx207_0 hx207_1 hx207_2 hx207_3 hx207_4 hHeld ⊢
                refine pure_ (i := 0) (N := some 8) (v := ?_) (a' := ?_) #[true, false, false, false, false, false, false, false, false, false, false, false] rfl rfl (any_of HT_.out (by kernel_rfl)) (fun _ _ _ h => h) (Or.inl ⟨by rfl, ?_⟩) ?_ ?_
                rotate_left
                · intro w'
                  go_simp
                  with_reducible rfl
                rotate_left
                · simp only [Act.put, List.setIfInBounds_toArray, List.set_cons_zero, List.set_cons_succ, i64_w, i32_w]
                  rfl
                refine pure_ (i := 1) (N := some 9) (v := ?_) (a' := ?_) #[true, true, false, false, false, false, false, false, false, false, false, false] rfl rfl (any_of HT_.out (by kernel_rfl)) (fun _ _ _ h => h) (Or.inl ⟨by rfl, ?_⟩) ?_ ?_
                rotate_left
                · intro w'
                  go_simp
                  with_reducible rfl
                rotate_left
                · simp only [Act.put, List.setIfInBounds_toArray, List.set_cons_zero, List.set_cons_succ, i64_w, i32_w]
                  rfl
                refine pure_ (i := 2) (N := some 10) (v := ?_) (a' := ?_) #[true, true, true, false, false, false, false, false, false, false, false, false] rfl rfl (any_of HT_.out (by kernel_rfl)) (fun _ _ _ h => h) (Or.inl ⟨by rfl, ?_⟩) ?_ ?_
                rotate_left
                · intro w'
                  go_simp
                  with_reducible rfl
                rotate_left
                · simp only [Act.put, List.setIfInBounds_toArray, List.set_cons_zero, List.set_cons_succ, i64_w, i32_w]
                  rfl
                refine pure_ (i := 4) (N := some 12) (v := ?_) (a' := ?_) #[true, true, true, false, true, false, false, false, false, false, false, false] rfl rfl (any_of HT_.out (by kernel_rfl)) (fun _ _ _ h => h) (Or.inl ⟨by rfl, ?_⟩) ?_ ?_
                rotate_left
                · intro w'
                  go_simp
                  with_reducible rfl
                rotate_left
                · simp only [Act.put, List.setIfInBounds_toArray, List.set_cons_zero, List.set_cons_succ, i64_w, i32_w]
                  rfl
                refine pure_ (i := 5) (N := some 13) (v := ?_) (a' := ?_) #[true, true, true, false, true, true, false, false, false, false, false, false] rfl rfl (any_of HT_.out (by kernel_rfl)) (fun _ _ _ h => h) (Or.inl ⟨by rfl, ?_⟩) ?_ ?_
                rotate_left
                · intro w'
                  go_simp
                  with_reducible rfl
                rotate_left
                · simp only [Act.put, List.setIfInBounds_toArray, List.set_cons_zero, List.set_cons_succ, i64_w, i32_w]
                  rfl
                refine pure_ (i := 6) (N := some 14) (v := ?_) (a' := ?_) #[true, true, true, false, true, true, true, false, false, false, false, false] rfl rfl (any_of HT_.out (by kernel_rfl)) (fun _ _ _ h => h) (Or.inl ⟨by rfl, ?_⟩) ?_ ?_
                rotate_left
                · intro w'
                  go_simp
                  with_reducible rfl
                rotate_left
                · simp only [Act.put, List.setIfInBounds_toArray, List.set_cons_zero, List.set_cons_succ, i64_w, i32_w]
                  rfl
                refine pure_ (i := 7) (N := some 15) (v := ?_) (a' := ?_) #[true, true, true, false, true, true, true, true, false, false, false, false] rfl rfl (any_of HT_.out (by kernel_rfl)) (fun _ _ _ h => h) (Or.inl ⟨by rfl, ?_⟩) ?_ ?_
                rotate_left
                · intro w'
                  go_simp
                  with_reducible rfl
                rotate_left
                · simp only [Act.put, List.setIfInBounds_toArray, List.set_cons_zero, List.set_cons_succ, i64_w, i32_w]
                  rfl
                refine take_ (i := 3) (N := some 11) (v := ?_) (a' := ?_) #[true, true, true, true, true, true, true, true, false, false, false, false] rfl rfl (take_ofW HT_.out HW_.out (by kernel_rfl)) (fun _ _ _ h => h) (Or.inl ⟨by rfl, ?_⟩) hHeld ?_ ?_
                rotate_left
                · rintro w' ⟨s0, s1, s2, s3, s4, s5, s6, s7, s8, s9⟩
                  go_simp
                  with_reducible rfl
                rotate_left
                · simp only [Act.put, List.setIfInBounds_toArray, List.set_cons_zero, List.set_cons_succ, i64_w, i32_w]
                  rfl
                refine take_ (i := 8) (N := some 16) (v := ?_) (a' := ?_) #[true, true, true, true, true, true, true, true, true, false, false, false] rfl rfl (take_ofW HT_.out HW_.out (by kernel_rfl)) (fun _ _ _ h => h) (Or.inl ⟨by rfl, ?_⟩) hHeld ?_ ?_
                rotate_left
                · rintro w' ⟨s0, s1, s2, s3, s4, s5, s6, s7, s8, s9⟩
                  go_simp
                  with_reducible rfl
                rotate_left
                · simp only [Act.put, List.setIfInBounds_toArray, List.set_cons_zero, List.set_cons_succ, i64_w, i32_w]
                  rfl
                refine one_ (i := 9) (N := some 17) #[true, true, true, true, true, true, true, true, true, true, false, false] rfl rfl (one_of HT_.out (by kernel_rfl)) (by decide) (fun K hK => ?_)
                refine goes_ Try.func90 (by kernel_rfl) rfl #[.agg #[.int .i64 a1_0, .int .i64 a1_1, .int .i64 a1_2, .int .i64 a1_3, .int .i64 a1_4], .agg #[.int .i64 ((rd_T47 l0 (ji5)).f0), .int .i64 ((rd_T47 l0 (ji5)).f1), .int .i64 ((rd_T47 l0 (ji5)).f2), .int .i64 ((rd_T47 l0 (ji5)).f3), .int .i64 ((rd_T47 l0 (ji5)).f4)]] (by rfl) rfl rfl (by (try simp only [List.map_toArray, List.map_cons, List.map_nil]); first | done | (simp only [hji5]; rfl) | rfl | (simp only [List.length_drop, List.length_take]; rfl)) ?_
                with_reducible refine (interlocutorref6_order.calls k1 a1_0 a1_1 a1_2 a1_3 a1_4 ((rd_T47 l0 (ji5)).f0) ((rd_T47 l0 (ji5)).f1) ((rd_T47 l0 (ji5)).f2) ((rd_T47 l0 (ji5)).f3) ((rd_T47 l0 (ji5)).f4) t208 _ A8.out).mono ?_
                rintro e w15 ⟨rfl, hb⟩
                have HS5_ := (hb.cell (World.block_lt_of_cell? _ _ (hHeld.2.2.2.2.2.1))).trans (hHeld.2.2.2.2.2.1)
                have HS6_ := (hb.cell (World.block_lt_of_cell? _ _ (hHeld.2.2.2.2.2.2.1))).trans (hHeld.2.2.2.2.2.2.1)
                have HS7_ := (hb.cell (World.block_lt_of_cell? _ _ (hHeld.2.2.2.2.2.2.2.1))).trans (hHeld.2.2.2.2.2.2.2.1)
                have HS8_ := (hb.cell (World.block_lt_of_cell? _ _ (hHeld.2.2.2.2.2.2.2.2.1))).trans (hHeld.2.2.2.2.2.2.2.2.1)
                have HS9_ := (hb.cell (World.block_lt_of_cell? _ _ (hHeld.2.2.2.2.2.2.2.2.2))).trans (hHeld.2.2.2.2.2.2.2.2.2)
                refine ⟨_, rfl, ?_⟩
                have n0_ := Aside0.mk (Kd.V_below (by exact vU HO_0.out) hb)
                have n1_ := Aside0.mk (blk_below (g := gb206) (o := .cells #[.int .i64 a1_0, .int .i64 a1_1, .int .i64 a1_2, .int .i64 a1_3, .int .i64 a1_4] 47 (0, 0)) (by (with_reducible repeat (first | refine blk_drewN ?_ _ | refine blk_drew ?_ | refine blk_alloc ?_ _)); exact BK206.out) hb)
                have n2_ := Aside0.mk (below_step (by exact wS HB.out GE206.out) hb)
                clear HO_0 BK206 HB
                have HO_0 := n0_
                have BK206 := n1_
                have HB := n2_
                clear n0_ n1_ n2_
                (try clear hb)
                (try clear hb2)
                (try clear hk)
                (try clear hi)
                refine hK.out _ _ ⟨(blk_cell BK206.out 0).trans rfl, (blk_cell BK206.out 1).trans rfl, (blk_cell BK206.out 2).trans rfl, (blk_cell BK206.out 3).trans rfl, (blk_cell BK206.out 4).trans rfl, HS5_, HS6_, HS7_, HS8_, HS9_⟩ (fun hHeld => ?_)
                clear hK K
                refine norm_ (a' := ?_) ?_ ?_
                rotate_left
                · show Act.put _ (some 17) _ = _
                  simp only [Act.put, List.setIfInBounds_toArray, List.set_cons_zero, List.set_cons_succ, i64_w, i32_w]
                  rfl
                refine pure_ (i := 10) (N := some 18) (v := ?_) (a' := ?_) #[true, true, true, true, true, true, true, true, true, true, true, false] rfl rfl (any_of HT_.out (by kernel_rfl)) (fun _ _ _ h => h) (Or.inl ⟨by rfl, ?_⟩) ?_ ?_
                rotate_left
                · intro w'
                  go_simp
                  with_reducible rfl
                rotate_left
                · simp only [Act.put, List.setIfInBounds_toArray, List.set_cons_zero, List.set_cons_succ, i64_w, i32_w]
                  rfl
                refine pure_ (i := 11) (N := some 19) (v := ?_) (a' := ?_) #[true, true, true, true, true, true, true, true, true, true, true, true] rfl rfl (any_of HT_.out (by kernel_rfl)) (fun _ _ _ h => h) (Or.inl ⟨by rfl, ?_⟩) ?_ ?_
                rotate_left
                · intro w'
                  go_simp
                  with_reducible rfl
                rotate_left
                · simp only [Act.put, List.setIfInBounds_toArray, List.set_cons_zero, List.set_cons_succ, i64_w, i32_w]
                  rfl
                refine done_ (done_of HT_.out (by kernel_rfl)) ?_
                try go_wp2
                have n0_ := Aside0.mk (Kd.V_drew HO_0.out)
                have n1_ := Aside0.mk (blk_drew BK206.out)
                have n2_ := Aside0.mk (below_drew1 HB.out)
                clear HO_0 BK206 HB
                have HO_0 := n0_
                have BK206 := n1_
                have HB := n2_
                clear n0_ n1_ n2_
                have p209 : 0 ≤ ((ji5) : Int) := of_decide_eq_true (by first | (with_reducible assumption) | assumption)
                have q209 : (ji5) < (l0.length : Int) := of_decide_eq_true (by first | (with_reducible assumption) | assumption)
                obtain ⟨ad209, e209, hx209_0, hx209_1, hx209_2, hx209_3, hx209_4⟩ := at_T47 (Kd.V_reads' HO_0.out).2.2 (ji5) p209 q209
                obtain rfl : ad207 = ad209 := (by injection e209)
                replace p209 := eq_true p209
                replace q209 := eq_true q209
                refine start_ (n := 12) (S := fun w' => w'.cell? ⟨gb206, 0, none⟩ = some (.int .i64 a1_0) ∧ w'.cell? ⟨gb206, 1, none⟩ = some (.int .i64 a1_1) ∧ w'.cell? ⟨gb206, 2, none⟩ = some (.int .i64 a1_2) ∧ w'.cell? ⟨gb206, 3, none⟩ = some (.int .i64 a1_3) ∧ w'.cell? ⟨gb206, 4, none⟩ = some (.int .i64 a1_4) ∧ w'.cell? (ad207.add (((ji5)).toNat * 5)) = some (.int .i64 ((rd_T47 l0 (ji5)).f0)) ∧ w'.cell? ⟨(ad207.add (((ji5)).toNat * 5)).block, (ad207.add (((ji5)).toNat * 5)).off + 1, none⟩ = some (.int .i64 ((rd_T47 l0 (ji5)).f1)) ∧ w'.cell? ⟨(ad207.add (((ji5)).toNat * 5)).block, (ad207.add (((ji5)).toNat * 5)).off + 2, none⟩ = some (.int .i64 ((rd_T47 l0 (ji5)).f2)) ∧ w'.cell? ⟨(ad207.add (((ji5)).toNat * 5)).block, (ad207.add (((ji5)).toNat * 5)).off + 3, none⟩ = some (.int .i64 ((rd_T47 l0 (ji5)).f3)) ∧ w'.cell? ⟨(ad207.add (((ji5)).toNat * 5)).block, (ad207.add (((ji5)).toNat * 5)).off + 4, none⟩ = some (.int .i64 ((rd_T47 l0 (ji5)).f4))) (ds := []) #[false, false, false, false, false, false, false, false, false, false, false, false] (by kernel_rfl) rfl rfl ⟨(blk_cell BK206.out 0).trans rfl, (blk_cell BK206.out 1).trans rfl, (blk_cell BK206.out 2).trans rfl, (blk_cell BK206.out 3).trans rfl, (blk_cell BK206.out 4).trans rfl, hx209_0, hx209_1, hx209_2, hx209_3, hx209_4⟩ (fun hHeld => ?_); refine with_tabW interlocutorref6_put.tab4 interlocutorref6_put.bits4 (fun HT_ HW_ => ?_)
                generalize w15.drew = w16 at HO_0 BK206 HB hx209_0 hx209_1 hx209_2 hx209_3 hx209_4 hHeld ⊢
                refine pure_ (i := 0) (N := some 22) (v := ?_) (a' := ?_) #[true, false, false, false, false, false, false, false, false, false, false, false] rfl rfl (any_of HT_.out (by kernel_rfl)) (fun _ _ _ h => h) (Or.inl ⟨by rfl, ?_⟩) ?_ ?_
                rotate_left
                · intro w'
                  go_simp
                  with_reducible rfl
                rotate_left
                · simp only [Act.put, List.setIfInBounds_toArray, List.set_cons_zero, List.set_cons_succ, i64_w, i32_w]
                  rfl
                refine pure_ (i := 1) (N := some 23) (v := ?_) (a' := ?_) #[true, true, false, false, false, false, false, false, false, false, false, false] rfl rfl (any_of HT_.out (by kernel_rfl)) (fun _ _ _ h => h) (Or.inl ⟨by rfl, ?_⟩) ?_ ?_
                rotate_left
                · intro w'
                  go_simp
                  with_reducible rfl
                rotate_left
                · simp only [Act.put, List.setIfInBounds_toArray, List.set_cons_zero, List.set_cons_succ, i64_w, i32_w]
                  rfl
                refine pure_ (i := 2) (N := some 24) (v := ?_) (a' := ?_) #[true, true, true, false, false, false, false, false, false, false, false, false] rfl rfl (any_of HT_.out (by kernel_rfl)) (fun _ _ _ h => h) (Or.inl ⟨by rfl, ?_⟩) ?_ ?_
                rotate_left
                · intro w'
                  go_simp
                  with_reducible rfl
                rotate_left
                · simp only [Act.put, List.setIfInBounds_toArray, List.set_cons_zero, List.set_cons_succ, i64_w, i32_w]
                  rfl
                refine pure_ (i := 4) (N := some 26) (v := ?_) (a' := ?_) #[true, true, true, false, true, false, false, false, false, false, false, false] rfl rfl (any_of HT_.out (by kernel_rfl)) (fun _ _ _ h => h) (Or.inl ⟨by rfl, ?_⟩) ?_ ?_
                rotate_left
                · intro w'
                  go_simp
                  with_reducible rfl
                rotate_left
                · simp only [Act.put, List.setIfInBounds_toArray, List.set_cons_zero, List.set_cons_succ, i64_w, i32_w]
                  rfl
                refine pure_ (i := 5) (N := some 27) (v := ?_) (a' := ?_) #[true, true, true, false, true, true, false, false, false, false, false, false] rfl rfl (any_of HT_.out (by kernel_rfl)) (fun _ _ _ h => h) (Or.inl ⟨by rfl, ?_⟩) ?_ ?_
                rotate_left
                · intro w'
                  go_simp
                  with_reducible rfl
                rotate_left
                · simp only [Act.put, List.setIfInBounds_toArray, List.set_cons_zero, List.set_cons_succ, i64_w, i32_w]
                  rfl
                refine pure_ (i := 6) (N := some 28) (v := ?_) (a' := ?_) #[true, true, true, false, true, true, true, false, false, false, false, false] rfl rfl (any_of HT_.out (by kernel_rfl)) (fun _ _ _ h => h) (Or.inl ⟨by rfl, ?_⟩) ?_ ?_
                rotate_left
                · intro w'
                  go_simp
                  with_reducible rfl
                rotate_left
                · simp only [Act.put, List.setIfInBounds_toArray, List.set_cons_zero, List.set_cons_succ, i64_w, i32_w]
                  rfl
                refine pure_ (i := 7) (N := some 29) (v := ?_) (a' := ?_) #[true, true, true, false, true, true, true, true, false, false, false, false] rfl rfl (any_of HT_.out (by kernel_rfl)) (fun _ _ _ h => h) (Or.inl ⟨by rfl, ?_⟩) ?_ ?_
                rotate_left
                · intro w'
                  go_simp
                  with_reducible rfl
                rotate_left
                · simp only [Act.put, List.setIfInBounds_toArray, List.set_cons_zero, List.set_cons_succ, i64_w, i32_w]
                  rfl
                refine take_ (i := 3) (N := some 25) (v := ?_) (a' := ?_) #[true, true, true, true, true, true, true, true, false, false, false, false] rfl rfl (take_ofW HT_.out HW_.out (by kernel_rfl)) (fun _ _ _ h => h) (Or.inl ⟨by rfl, ?_⟩) hHeld ?_ ?_
                rotate_left
                · rintro w' ⟨s0, s1, s2, s3, s4, s5, s6, s7, s8, s9⟩
                  go_simp
                  with_reducible rfl
                rotate_left
                · simp only [Act.put, List.setIfInBounds_toArray, List.set_cons_zero, List.set_cons_succ, i64_w, i32_w]
                  rfl
                refine take_ (i := 8) (N := some 30) (v := ?_) (a' := ?_) #[true, true, true, true, true, true, true, true, true, false, false, false] rfl rfl (take_ofW HT_.out HW_.out (by kernel_rfl)) (fun _ _ _ h => h) (Or.inl ⟨by rfl, ?_⟩) hHeld ?_ ?_
                rotate_left
                · rintro w' ⟨s0, s1, s2, s3, s4, s5, s6, s7, s8, s9⟩
                  go_simp
                  with_reducible rfl
                rotate_left
                · simp only [Act.put, List.setIfInBounds_toArray, List.set_cons_zero, List.set_cons_succ, i64_w, i32_w]
                  rfl
                refine one_ (i := 9) (N := some 31) #[true, true, true, true, true, true, true, true, true, true, false, false] rfl rfl (one_of HT_.out (by kernel_rfl)) (by decide) (fun K hK => ?_)
                refine goes_ Try.func90 (by kernel_rfl) rfl #[.agg #[.int .i64 a1_0, .int .i64 a1_1, .int .i64 a1_2, .int .i64 a1_3, .int .i64 a1_4], .agg #[.int .i64 ((rd_T47 l0 (ji5)).f0), .int .i64 ((rd_T47 l0 (ji5)).f1), .int .i64 ((rd_T47 l0 (ji5)).f2), .int .i64 ((rd_T47 l0 (ji5)).f3), .int .i64 ((rd_T47 l0 (ji5)).f4)]] (by rfl) rfl rfl (by (try simp only [List.map_toArray, List.map_cons, List.map_nil]); first | done | (simp only [hji5]; rfl) | rfl | (simp only [List.length_drop, List.length_take]; rfl)) ?_
                with_reducible refine (interlocutorref6_order.calls k1 a1_0 a1_1 a1_2 a1_3 a1_4 ((rd_T47 l0 (ji5)).f0) ((rd_T47 l0 (ji5)).f1) ((rd_T47 l0 (ji5)).f2) ((rd_T47 l0 (ji5)).f3) ((rd_T47 l0 (ji5)).f4) t210 _ A12.out).mono ?_
                rintro e w17 ⟨rfl, hb⟩
                have HS5_ := (hb.cell (World.block_lt_of_cell? _ _ (hHeld.2.2.2.2.2.1))).trans (hHeld.2.2.2.2.2.1)
                have HS6_ := (hb.cell (World.block_lt_of_cell? _ _ (hHeld.2.2.2.2.2.2.1))).trans (hHeld.2.2.2.2.2.2.1)
                have HS7_ := (hb.cell (World.block_lt_of_cell? _ _ (hHeld.2.2.2.2.2.2.2.1))).trans (hHeld.2.2.2.2.2.2.2.1)
                have HS8_ := (hb.cell (World.block_lt_of_cell? _ _ (hHeld.2.2.2.2.2.2.2.2.1))).trans (hHeld.2.2.2.2.2.2.2.2.1)
                have HS9_ := (hb.cell (World.block_lt_of_cell? _ _ (hHeld.2.2.2.2.2.2.2.2.2))).trans (hHeld.2.2.2.2.2.2.2.2.2)
                refine ⟨_, rfl, ?_⟩
                have n0_ := Aside0.mk (Kd.V_below (by exact vU HO_0.out) hb)
                have n1_ := Aside0.mk (blk_below (g := gb206) (o := .cells #[.int .i64 a1_0, .int .i64 a1_1, .int .i64 a1_2, .int .i64 a1_3, .int .i64 a1_4] 47 (0, 0)) (by (with_reducible repeat (first | refine blk_drewN ?_ _ | refine blk_drew ?_ | refine blk_alloc ?_ _)); exact BK206.out) hb)
                have n2_ := Aside0.mk (below_step (by exact wS HB.out GE206.out) hb)
                clear HO_0 BK206 HB
                have HO_0 := n0_
                have BK206 := n1_
                have HB := n2_
                clear n0_ n1_ n2_
                (try clear hb)
                (try clear hb2)
                (try clear hk)
                (try clear hi)
                refine hK.out _ _ ⟨(blk_cell BK206.out 0).trans rfl, (blk_cell BK206.out 1).trans rfl, (blk_cell BK206.out 2).trans rfl, (blk_cell BK206.out 3).trans rfl, (blk_cell BK206.out 4).trans rfl, HS5_, HS6_, HS7_, HS8_, HS9_⟩ (fun hHeld => ?_)
                clear hK K
                refine norm_ (a' := ?_) ?_ ?_
                rotate_left
                · show Act.put _ (some 31) _ = _
                  simp only [Act.put, List.setIfInBounds_toArray, List.set_cons_zero, List.set_cons_succ, i64_w, i32_w]
                  rfl
                refine pure_ (i := 10) (N := some 32) (v := ?_) (a' := ?_) #[true, true, true, true, true, true, true, true, true, true, true, false] rfl rfl (any_of HT_.out (by kernel_rfl)) (fun _ _ _ h => h) (Or.inl ⟨by rfl, ?_⟩) ?_ ?_
                rotate_left
                · intro w'
                  go_simp
                  with_reducible rfl
                rotate_left
                · simp only [Act.put, List.setIfInBounds_toArray, List.set_cons_zero, List.set_cons_succ, i64_w, i32_w]
                  rfl
                refine pure_ (i := 11) (N := some 33) (v := ?_) (a' := ?_) #[true, true, true, true, true, true, true, true, true, true, true, true] rfl rfl (any_of HT_.out (by kernel_rfl)) (fun _ _ _ h => h) (Or.inl ⟨by rfl, ?_⟩) ?_ ?_
                rotate_left
                · intro w'
                  go_simp
                  with_reducible rfl
                rotate_left
                · simp only [Act.put, List.setIfInBounds_toArray, List.set_cons_zero, List.set_cons_succ, i64_w, i32_w]
                  rfl
                refine done_ (done_of HT_.out (by kernel_rfl)) ?_
                try go_wp2
                go_ret
                exact ⟨_, by first | rfl | (simp [errW_none, errW_some] <;> rfl) | (simp only [← hji5]; first | rfl | (simp [errW_none, errW_some] <;> rfl)) | (simp [*, errW_none, errW_some] <;> rfl), by exact vU (Kd.V_mono HO_0.out (fun _ hk => hk.1)), by exact wS HB.out GE206.out⟩
              · rw [if_neg c13] at H
                have c13b0 : (t210 == 0) = false := beq_eq_false_iff_ne.mpr c13
                have c13b1 : (t210 != 0) = true := bne_iff_ne.mpr c13
                obtain ⟨y211, hy211⟩ : ∃ y_ : List (S47), y_ = (([] : List (S47))) := ⟨_, rfl⟩
                replace H : (if 0 ≤ x5_1 then (if x5_1 ≤ (l0.length : Int) then ((some (l0.take (x5_1 : Int).toNat : List (S47))).bind fun y214 => (if y211.length + y214.length < 3518437208883 then ((some (y211 ++ y214 : List (S47))).bind fun y219 => ((some (([(⟨a1_0, a1_1, a1_2, a1_3, a1_4⟩ : S47)] : List (S47)) : List (S47))).bind fun y222 => (if y219.length + y222.length < 3518437208883 then ((some (y219 ++ y222 : List (S47))).bind fun y225 => ((some (l0.drop (x5_1 : Int).toNat : List (S47))).bind fun y228 => (if y225.length + y228.length < 3518437208883 then (some (y225 ++ y228)) else (none)))) else (none)))) else (none))) else (none)) else (none)) = some r := by first | (rw [hy211]; with_reducible exact H) | (have H2_ := (Option.bind_some _ _).symm.trans H; rw [hy211]; with_reducible exact H2_) | (have H2_ := (Option.bind_some _ _).symm.trans H; with_reducible exact H2_) | with_reducible exact H | (rw [hy211]; exact H) | exact H
                have Ny211 := Aside0.mk hy211
                clear hy211
                by_cases c18 : 0 ≤ x5_1
                · rw [if_pos c18] at H
                  have c18b0 := eq_true c18
                  have c18b1 : decide (0 ≤ x5_1) = true := decide_eq_true c18
                  clear c18
                  by_cases c19 : x5_1 ≤ (l0.length : Int)
                  · rw [if_pos c19] at H
                    have c19b0 := eq_true c19
                    have c19b1 : decide (x5_1 ≤ (l0.length : Int)) = true := decide_eq_true c19
                    clear c19
                    obtain ⟨y214, hy214⟩ : ∃ y_ : List (S47), y_ = (l0.take (x5_1 : Int).toNat) := ⟨_, rfl⟩
                    replace H : (if y211.length + y214.length < 3518437208883 then ((some (y211 ++ y214 : List (S47))).bind fun y219 => ((some (([(⟨a1_0, a1_1, a1_2, a1_3, a1_4⟩ : S47)] : List (S47)) : List (S47))).bind fun y222 => (if y219.length + y222.length < 3518437208883 then ((some (y219 ++ y222 : List (S47))).bind fun y225 => ((some (l0.drop (x5_1 : Int).toNat : List (S47))).bind fun y228 => (if y225.length + y228.length < 3518437208883 then (some (y225 ++ y228)) else (none)))) else (none)))) else (none)) = some r := by first | (rw [hy214]; with_reducible exact H) | (have H2_ := (Option.bind_some _ _).symm.trans H; rw [hy214]; with_reducible exact H2_) | (have H2_ := (Option.bind_some _ _).symm.trans H; with_reducible exact H2_) | with_reducible exact H | (rw [hy214]; exact H) | exact H
                    have Ny214 := Aside0.mk hy214
                    clear hy214
                    by_cases c20 : y211.length + y214.length < 3518437208883
                    · rw [if_pos c20] at H
                      have LMc20 := Aside0.mk c20
                      clear c20
                      obtain ⟨y219, hy219⟩ : ∃ y_ : List (S47), y_ = (y211 ++ y214) := ⟨_, rfl⟩
                      replace H : ((some (([(⟨a1_0, a1_1, a1_2, a1_3, a1_4⟩ : S47)] : List (S47)) : List (S47))).bind fun y222 => (if y219.length + y222.length < 3518437208883 then ((some (y219 ++ y222 : List (S47))).bind fun y225 => ((some (l0.drop (x5_1 : Int).toNat : List (S47))).bind fun y228 => (if y225.length + y228.length < 3518437208883 then (some (y225 ++ y228)) else (none)))) else (none))) = some r := by first | (rw [hy219]; with_reducible exact H) | (have H2_ := (Option.bind_some _ _).symm.trans H; rw [hy219]; with_reducible exact H2_) | (have H2_ := (Option.bind_some _ _).symm.trans H; with_reducible exact H2_) | with_reducible exact H | (rw [hy219]; exact H) | exact H
                      have Ny219 := Aside0.mk hy219
                      clear hy219
                      obtain ⟨y222, hy222⟩ : ∃ y_ : List (S47), y_ = (([(⟨a1_0, a1_1, a1_2, a1_3, a1_4⟩ : S47)] : List (S47))) := ⟨_, rfl⟩
                      replace H : (if y219.length + y222.length < 3518437208883 then ((some (y219 ++ y222 : List (S47))).bind fun y225 => ((some (l0.drop (x5_1 : Int).toNat : List (S47))).bind fun y228 => (if y225.length + y228.length < 3518437208883 then (some (y225 ++ y228)) else (none)))) else (none)) = some r := by first | (rw [hy222]; with_reducible exact H) | (have H2_ := (Option.bind_some _ _).symm.trans H; rw [hy222]; with_reducible exact H2_) | (have H2_ := (Option.bind_some _ _).symm.trans H; with_reducible exact H2_) | with_reducible exact H | (rw [hy222]; exact H) | exact H
                      have Ny222 := Aside0.mk hy222
                      clear hy222
                      by_cases c21 : y219.length + y222.length < 3518437208883
                      · rw [if_pos c21] at H
                        have LMc21 := Aside0.mk c21
                        clear c21
                        obtain ⟨y225, hy225⟩ : ∃ y_ : List (S47), y_ = (y219 ++ y222) := ⟨_, rfl⟩
                        replace H : ((some (l0.drop (x5_1 : Int).toNat : List (S47))).bind fun y228 => (if y225.length + y228.length < 3518437208883 then (some (y225 ++ y228)) else (none))) = some r := by first | (rw [hy225]; with_reducible exact H) | (have H2_ := (Option.bind_some _ _).symm.trans H; rw [hy225]; with_reducible exact H2_) | (have H2_ := (Option.bind_some _ _).symm.trans H; with_reducible exact H2_) | with_reducible exact H | (rw [hy225]; exact H) | exact H
                        have Ny225 := Aside0.mk hy225
                        clear hy225
                        have c22b0 := eq_true (of_decide_eq_true (by first | (with_reducible assumption) | assumption) : 0 ≤ x5_1)
                        have c23b0 := eq_true (of_decide_eq_true (by first | (with_reducible assumption) | assumption) : x5_1 ≤ (l0.length : Int))
                        obtain ⟨y228, hy228⟩ : ∃ y_ : List (S47), y_ = (l0.drop (x5_1 : Int).toNat) := ⟨_, rfl⟩
                        replace H : (if y225.length + y228.length < 3518437208883 then (some (y225 ++ y228)) else (none)) = some r := by first | (rw [hy228]; with_reducible exact H) | (have H2_ := (Option.bind_some _ _).symm.trans H; rw [hy228]; with_reducible exact H2_) | (have H2_ := (Option.bind_some _ _).symm.trans H; with_reducible exact H2_) | with_reducible exact H | (rw [hy228]; exact H) | exact H
                        have Ny228 := Aside0.mk hy228
                        clear hy228
                        by_cases c24 : y225.length + y228.length < 3518437208883
                        · rw [if_pos c24] at H
                          have LMc24 := Aside0.mk c24
                          clear c24
                          obtain ⟨y233, hy233⟩ : ∃ y_ : List (S47), y_ = (y225 ++ y228) := ⟨_, rfl⟩
                          replace H : (some y233) = some r := by first | (rw [hy233]; with_reducible exact H) | (have H2_ := (Option.bind_some _ _).symm.trans H; rw [hy233]; with_reducible exact H2_) | (have H2_ := (Option.bind_some _ _).symm.trans H; with_reducible exact H2_) | with_reducible exact H | (rw [hy233]; exact H) | exact H
                          have Ny233 := Aside0.mk hy233
                          clear hy233
                          obtain rfl := Option.some.inj H
                          try go_wp2
                          have n0_ := Aside0.mk (Kd.V_drew HO_0.out)
                          have n1_ := Aside0.mk (blk_drew BK206.out)
                          have n2_ := Aside0.mk (below_drew1 HB.out)
                          clear HO_0 BK206 HB
                          have HO_0 := n0_
                          have BK206 := n1_
                          have HB := n2_
                          clear n0_ n1_ n2_
                          have p207 : 0 ≤ ((ji5) : Int) := of_decide_eq_true (by first | (with_reducible assumption) | assumption)
                          have q207 : (ji5) < (l0.length : Int) := of_decide_eq_true (by first | (with_reducible assumption) | assumption)
                          obtain ⟨ad207, e207, hx207_0, hx207_1, hx207_2, hx207_3, hx207_4⟩ := at_T47 (Kd.V_reads' HO_0.out).2.2 (ji5) p207 q207
                          cases e207
                          replace p207 := eq_true p207
                          replace q207 := eq_true q207
                          refine start_ (n := 12) (S := fun w' => w'.cell? ⟨gb206, 0, none⟩ = some (.int .i64 a1_0) ∧ w'.cell? ⟨gb206, 1, none⟩ = some (.int .i64 a1_1) ∧ w'.cell? ⟨gb206, 2, none⟩ = some (.int .i64 a1_2) ∧ w'.cell? ⟨gb206, 3, none⟩ = some (.int .i64 a1_3) ∧ w'.cell? ⟨gb206, 4, none⟩ = some (.int .i64 a1_4) ∧ w'.cell? (ad207.add (((ji5)).toNat * 5)) = some (.int .i64 ((rd_T47 l0 (ji5)).f0)) ∧ w'.cell? ⟨(ad207.add (((ji5)).toNat * 5)).block, (ad207.add (((ji5)).toNat * 5)).off + 1, none⟩ = some (.int .i64 ((rd_T47 l0 (ji5)).f1)) ∧ w'.cell? ⟨(ad207.add (((ji5)).toNat * 5)).block, (ad207.add (((ji5)).toNat * 5)).off + 2, none⟩ = some (.int .i64 ((rd_T47 l0 (ji5)).f2)) ∧ w'.cell? ⟨(ad207.add (((ji5)).toNat * 5)).block, (ad207.add (((ji5)).toNat * 5)).off + 3, none⟩ = some (.int .i64 ((rd_T47 l0 (ji5)).f3)) ∧ w'.cell? ⟨(ad207.add (((ji5)).toNat * 5)).block, (ad207.add (((ji5)).toNat * 5)).off + 4, none⟩ = some (.int .i64 ((rd_T47 l0 (ji5)).f4))) (ds := []) #[false, false, false, false, false, false, false, false, false, false, false, false] (by kernel_rfl) rfl rfl ⟨(blk_cell BK206.out 0).trans rfl, (blk_cell BK206.out 1).trans rfl, (blk_cell BK206.out 2).trans rfl, (blk_cell BK206.out 3).trans rfl, (blk_cell BK206.out 4).trans rfl, hx207_0, hx207_1, hx207_2, hx207_3, hx207_4⟩ (fun hHeld => ?_); refine with_tabW interlocutorref6_put.tab2 interlocutorref6_put.bits2 (fun HT_ HW_ => ?_)
                          generalize wr.drew = w25 at HO_0 BK206 HB hx207_0 hx207_1 hx207_2 hx207_3 hx207_4 hHeld ⊢
                          refine pure_ (i := 0) (N := some 8) (v := ?_) (a' := ?_) #[true, false, false, false, false, false, false, false, false, false, false, false] rfl rfl (any_of HT_.out (by kernel_rfl)) (fun _ _ _ h => h) (Or.inl ⟨by rfl, ?_⟩) ?_ ?_
                          rotate_left
                          · intro w'
                            go_simp
                            with_reducible rfl
                          rotate_left
                          · simp only [Act.put, List.setIfInBounds_toArray, List.set_cons_zero, List.set_cons_succ, i64_w, i32_w]
                            rfl
                          refine pure_ (i := 1) (N := some 9) (v := ?_) (a' := ?_) #[true, true, false, false, false, false, false, false, false, false, false, false] rfl rfl (any_of HT_.out (by kernel_rfl)) (fun _ _ _ h => h) (Or.inl ⟨by rfl, ?_⟩) ?_ ?_
                          rotate_left
                          · intro w'
                            go_simp
                            with_reducible rfl
                          rotate_left
                          · simp only [Act.put, List.setIfInBounds_toArray, List.set_cons_zero, List.set_cons_succ, i64_w, i32_w]
                            rfl
                          refine pure_ (i := 2) (N := some 10) (v := ?_) (a' := ?_) #[true, true, true, false, false, false, false, false, false, false, false, false] rfl rfl (any_of HT_.out (by kernel_rfl)) (fun _ _ _ h => h) (Or.inl ⟨by rfl, ?_⟩) ?_ ?_
                          rotate_left
                          · intro w'
                            go_simp
                            with_reducible rfl
                          rotate_left
                          · simp only [Act.put, List.setIfInBounds_toArray, List.set_cons_zero, List.set_cons_succ, i64_w, i32_w]
                            rfl
                          refine pure_ (i := 4) (N := some 12) (v := ?_) (a' := ?_) #[true, true, true, false, true, false, false, false, false, false, false, false] rfl rfl (any_of HT_.out (by kernel_rfl)) (fun _ _ _ h => h) (Or.inl ⟨by rfl, ?_⟩) ?_ ?_
                          rotate_left
                          · intro w'
                            go_simp
                            with_reducible rfl
                          rotate_left
                          · simp only [Act.put, List.setIfInBounds_toArray, List.set_cons_zero, List.set_cons_succ, i64_w, i32_w]
                            rfl
                          refine pure_ (i := 5) (N := some 13) (v := ?_) (a' := ?_) #[true, true, true, false, true, true, false, false, false, false, false, false] rfl rfl (any_of HT_.out (by kernel_rfl)) (fun _ _ _ h => h) (Or.inl ⟨by rfl, ?_⟩) ?_ ?_
                          rotate_left
                          · intro w'
                            go_simp
                            with_reducible rfl
                          rotate_left
                          · simp only [Act.put, List.setIfInBounds_toArray, List.set_cons_zero, List.set_cons_succ, i64_w, i32_w]
                            rfl
                          refine pure_ (i := 6) (N := some 14) (v := ?_) (a' := ?_) #[true, true, true, false, true, true, true, false, false, false, false, false] rfl rfl (any_of HT_.out (by kernel_rfl)) (fun _ _ _ h => h) (Or.inl ⟨by rfl, ?_⟩) ?_ ?_
                          rotate_left
                          · intro w'
                            go_simp
                            with_reducible rfl
                          rotate_left
                          · simp only [Act.put, List.setIfInBounds_toArray, List.set_cons_zero, List.set_cons_succ, i64_w, i32_w]
                            rfl
                          refine pure_ (i := 7) (N := some 15) (v := ?_) (a' := ?_) #[true, true, true, false, true, true, true, true, false, false, false, false] rfl rfl (any_of HT_.out (by kernel_rfl)) (fun _ _ _ h => h) (Or.inl ⟨by rfl, ?_⟩) ?_ ?_
                          rotate_left
                          · intro w'
                            go_simp
                            with_reducible rfl
                          rotate_left
                          · simp only [Act.put, List.setIfInBounds_toArray, List.set_cons_zero, List.set_cons_succ, i64_w, i32_w]
                            rfl
                          refine take_ (i := 3) (N := some 11) (v := ?_) (a' := ?_) #[true, true, true, true, true, true, true, true, false, false, false, false] rfl rfl (take_ofW HT_.out HW_.out (by kernel_rfl)) (fun _ _ _ h => h) (Or.inl ⟨by rfl, ?_⟩) hHeld ?_ ?_
                          rotate_left
                          · rintro w' ⟨s0, s1, s2, s3, s4, s5, s6, s7, s8, s9⟩
                            go_simp
                            with_reducible rfl
                          rotate_left
                          · simp only [Act.put, List.setIfInBounds_toArray, List.set_cons_zero, List.set_cons_succ, i64_w, i32_w]
                            rfl
                          refine take_ (i := 8) (N := some 16) (v := ?_) (a' := ?_) #[true, true, true, true, true, true, true, true, true, false, false, false] rfl rfl (take_ofW HT_.out HW_.out (by kernel_rfl)) (fun _ _ _ h => h) (Or.inl ⟨by rfl, ?_⟩) hHeld ?_ ?_
                          rotate_left
                          · rintro w' ⟨s0, s1, s2, s3, s4, s5, s6, s7, s8, s9⟩
                            go_simp
                            with_reducible rfl
                          rotate_left
                          · simp only [Act.put, List.setIfInBounds_toArray, List.set_cons_zero, List.set_cons_succ, i64_w, i32_w]
                            rfl
                          refine one_ (i := 9) (N := some 17) #[true, true, true, true, true, true, true, true, true, true, false, false] rfl rfl (one_of HT_.out (by kernel_rfl)) (by decide) (fun K hK => ?_)
                          refine goes_ Try.func90 (by kernel_rfl) rfl #[.agg #[.int .i64 a1_0, .int .i64 a1_1, .int .i64 a1_2, .int .i64 a1_3, .int .i64 a1_4], .agg #[.int .i64 ((rd_T47 l0 (ji5)).f0), .int .i64 ((rd_T47 l0 (ji5)).f1), .int .i64 ((rd_T47 l0 (ji5)).f2), .int .i64 ((rd_T47 l0 (ji5)).f3), .int .i64 ((rd_T47 l0 (ji5)).f4)]] (by rfl) rfl rfl (by (try simp only [List.map_toArray, List.map_cons, List.map_nil]); first | done | (simp only [hji5]; rfl) | rfl | (simp only [List.length_drop, List.length_take]; rfl)) ?_
                          with_reducible refine (interlocutorref6_order.calls k1 a1_0 a1_1 a1_2 a1_3 a1_4 ((rd_T47 l0 (ji5)).f0) ((rd_T47 l0 (ji5)).f1) ((rd_T47 l0 (ji5)).f2) ((rd_T47 l0 (ji5)).f3) ((rd_T47 l0 (ji5)).f4) t208 _ A8.out).mono ?_
                          rintro e w26 ⟨rfl, hb⟩
                          have HS5_ := (hb.cell (World.block_lt_of_cell? _ _ (hHeld.2.2.2.2.2.1))).trans (hHeld.2.2.2.2.2.1)
                          have HS6_ := (hb.cell (World.block_lt_of_cell? _ _ (hHeld.2.2.2.2.2.2.1))).trans (hHeld.2.2.2.2.2.2.1)
                          have HS7_ := (hb.cell (World.block_lt_of_cell? _ _ (hHeld.2.2.2.2.2.2.2.1))).trans (hHeld.2.2.2.2.2.2.2.1)
                          have HS8_ := (hb.cell (World.block_lt_of_cell? _ _ (hHeld.2.2.2.2.2.2.2.2.1))).trans (hHeld.2.2.2.2.2.2.2.2.1)
                          have HS9_ := (hb.cell (World.block_lt_of_cell? _ _ (hHeld.2.2.2.2.2.2.2.2.2))).trans (hHeld.2.2.2.2.2.2.2.2.2)
                          refine ⟨_, rfl, ?_⟩
                          have n0_ := Aside0.mk (Kd.V_below (by exact vU HO_0.out) hb)
                          have n1_ := Aside0.mk (blk_below (g := gb206) (o := .cells #[.int .i64 a1_0, .int .i64 a1_1, .int .i64 a1_2, .int .i64 a1_3, .int .i64 a1_4] 47 (0, 0)) (by (with_reducible repeat (first | refine blk_drewN ?_ _ | refine blk_drew ?_ | refine blk_alloc ?_ _)); exact BK206.out) hb)
                          have n2_ := Aside0.mk (below_step (by exact wS HB.out GE206.out) hb)
                          clear HO_0 BK206 HB
                          have HO_0 := n0_
                          have BK206 := n1_
                          have HB := n2_
                          clear n0_ n1_ n2_
                          (try clear hb)
                          (try clear hb2)
                          (try clear hk)
                          (try clear hi)
                          refine hK.out _ _ ⟨(blk_cell BK206.out 0).trans rfl, (blk_cell BK206.out 1).trans rfl, (blk_cell BK206.out 2).trans rfl, (blk_cell BK206.out 3).trans rfl, (blk_cell BK206.out 4).trans rfl, HS5_, HS6_, HS7_, HS8_, HS9_⟩ (fun hHeld => ?_)
                          clear hK K
                          refine norm_ (a' := ?_) ?_ ?_
                          rotate_left
                          · show Act.put _ (some 17) _ = _
                            simp only [Act.put, List.setIfInBounds_toArray, List.set_cons_zero, List.set_cons_succ, i64_w, i32_w]
                            rfl
                          refine pure_ (i := 10) (N := some 18) (v := ?_) (a' := ?_) #[true, true, true, true, true, true, true, true, true, true, true, false] rfl rfl (any_of HT_.out (by kernel_rfl)) (fun _ _ _ h => h) (Or.inl ⟨by rfl, ?_⟩) ?_ ?_
                          rotate_left
                          · intro w'
                            go_simp
                            with_reducible rfl
                          rotate_left
                          · simp only [Act.put, List.setIfInBounds_toArray, List.set_cons_zero, List.set_cons_succ, i64_w, i32_w]
                            rfl
                          refine pure_ (i := 11) (N := some 19) (v := ?_) (a' := ?_) #[true, true, true, true, true, true, true, true, true, true, true, true] rfl rfl (any_of HT_.out (by kernel_rfl)) (fun _ _ _ h => h) (Or.inl ⟨by rfl, ?_⟩) ?_ ?_
                          rotate_left
                          · intro w'
                            go_simp
                            with_reducible rfl
                          rotate_left
                          · simp only [Act.put, List.setIfInBounds_toArray, List.set_cons_zero, List.set_cons_succ, i64_w, i32_w]
                            rfl
                          refine done_ (done_of HT_.out (by kernel_rfl)) ?_
                          try go_wp2
                          have n0_ := Aside0.mk (Kd.V_drew HO_0.out)
                          have n1_ := Aside0.mk (blk_drew BK206.out)
                          have n2_ := Aside0.mk (below_drew1 HB.out)
                          clear HO_0 BK206 HB
                          have HO_0 := n0_
                          have BK206 := n1_
                          have HB := n2_
                          clear n0_ n1_ n2_
                          have p209 : 0 ≤ ((ji5) : Int) := of_decide_eq_true (by first | (with_reducible assumption) | assumption)
                          have q209 : (ji5) < (l0.length : Int) := of_decide_eq_true (by first | (with_reducible assumption) | assumption)
                          obtain ⟨ad209, e209, hx209_0, hx209_1, hx209_2, hx209_3, hx209_4⟩ := at_T47 (Kd.V_reads' HO_0.out).2.2 (ji5) p209 q209
                          obtain rfl : ad207 = ad209 := (by injection e209)
                          replace p209 := eq_true p209
                          replace q209 := eq_true q209
                          refine start_ (n := 12) (S := fun w' => w'.cell? ⟨gb206, 0, none⟩ = some (.int .i64 a1_0) ∧ w'.cell? ⟨gb206, 1, none⟩ = some (.int .i64 a1_1) ∧ w'.cell? ⟨gb206, 2, none⟩ = some (.int .i64 a1_2) ∧ w'.cell? ⟨gb206, 3, none⟩ = some (.int .i64 a1_3) ∧ w'.cell? ⟨gb206, 4, none⟩ = some (.int .i64 a1_4) ∧ w'.cell? (ad207.add (((ji5)).toNat * 5)) = some (.int .i64 ((rd_T47 l0 (ji5)).f0)) ∧ w'.cell? ⟨(ad207.add (((ji5)).toNat * 5)).block, (ad207.add (((ji5)).toNat * 5)).off + 1, none⟩ = some (.int .i64 ((rd_T47 l0 (ji5)).f1)) ∧ w'.cell? ⟨(ad207.add (((ji5)).toNat * 5)).block, (ad207.add (((ji5)).toNat * 5)).off + 2, none⟩ = some (.int .i64 ((rd_T47 l0 (ji5)).f2)) ∧ w'.cell? ⟨(ad207.add (((ji5)).toNat * 5)).block, (ad207.add (((ji5)).toNat * 5)).off + 3, none⟩ = some (.int .i64 ((rd_T47 l0 (ji5)).f3)) ∧ w'.cell? ⟨(ad207.add (((ji5)).toNat * 5)).block, (ad207.add (((ji5)).toNat * 5)).off + 4, none⟩ = some (.int .i64 ((rd_T47 l0 (ji5)).f4))) (ds := []) #[false, false, false, false, false, false, false, false, false, false, false, false] (by kernel_rfl) rfl rfl ⟨(blk_cell BK206.out 0).trans rfl, (blk_cell BK206.out 1).trans rfl, (blk_cell BK206.out 2).trans rfl, (blk_cell BK206.out 3).trans rfl, (blk_cell BK206.out 4).trans rfl, hx209_0, hx209_1, hx209_2, hx209_3, hx209_4⟩ (fun hHeld => ?_); refine with_tabW interlocutorref6_put.tab4 interlocutorref6_put.bits4 (fun HT_ HW_ => ?_)
                          generalize w26.drew = w27 at HO_0 BK206 HB hx209_0 hx209_1 hx209_2 hx209_3 hx209_4 hHeld ⊢
                          refine pure_ (i := 0) (N := some 22) (v := ?_) (a' := ?_) #[true, false, false, false, false, false, false, false, false, false, false, false] rfl rfl (any_of HT_.out (by kernel_rfl)) (fun _ _ _ h => h) (Or.inl ⟨by rfl, ?_⟩) ?_ ?_
                          rotate_left
                          · intro w'
                            go_simp
                            with_reducible rfl
                          rotate_left
                          · simp only [Act.put, List.setIfInBounds_toArray, List.set_cons_zero, List.set_cons_succ, i64_w, i32_w]
                            rfl
                          refine pure_ (i := 1) (N := some 23) (v := ?_) (a' := ?_) #[true, true, false, false, false, false, false, false, false, false, false, false] rfl rfl (any_of HT_.out (by kernel_rfl)) (fun _ _ _ h => h) (Or.inl ⟨by rfl, ?_⟩) ?_ ?_
                          rotate_left
                          · intro w'
                            go_simp
                            with_reducible rfl
                          rotate_left
                          · simp only [Act.put, List.setIfInBounds_toArray, List.set_cons_zero, List.set_cons_succ, i64_w, i32_w]
                            rfl
                          refine pure_ (i := 2) (N := some 24) (v := ?_) (a' := ?_) #[true, true, true, false, false, false, false, false, false, false, false, false] rfl rfl (any_of HT_.out (by kernel_rfl)) (fun _ _ _ h => h) (Or.inl ⟨by rfl, ?_⟩) ?_ ?_
                          rotate_left
                          · intro w'
                            go_simp
                            with_reducible rfl
                          rotate_left
                          · simp only [Act.put, List.setIfInBounds_toArray, List.set_cons_zero, List.set_cons_succ, i64_w, i32_w]
                            rfl
                          refine pure_ (i := 4) (N := some 26) (v := ?_) (a' := ?_) #[true, true, true, false, true, false, false, false, false, false, false, false] rfl rfl (any_of HT_.out (by kernel_rfl)) (fun _ _ _ h => h) (Or.inl ⟨by rfl, ?_⟩) ?_ ?_
                          rotate_left
                          · intro w'
                            go_simp
                            with_reducible rfl
                          rotate_left
                          · simp only [Act.put, List.setIfInBounds_toArray, List.set_cons_zero, List.set_cons_succ, i64_w, i32_w]
                            rfl
                          refine pure_ (i := 5) (N := some 27) (v := ?_) (a' := ?_) #[true, true, true, false, true, true, false, false, false, false, false, false] rfl rfl (any_of HT_.out (by kernel_rfl)) (fun _ _ _ h => h) (Or.inl ⟨by rfl, ?_⟩) ?_ ?_
                          rotate_left
                          · intro w'
                            go_simp
                            with_reducible rfl
                          rotate_left
                          · simp only [Act.put, List.setIfInBounds_toArray, List.set_cons_zero, List.set_cons_succ, i64_w, i32_w]
                            rfl
                          refine pure_ (i := 6) (N := some 28) (v := ?_) (a' := ?_) #[true, true, true, false, true, true, true, false, false, false, false, false] rfl rfl (any_of HT_.out (by kernel_rfl)) (fun _ _ _ h => h) (Or.inl ⟨by rfl, ?_⟩) ?_ ?_
                          rotate_left
                          · intro w'
                            go_simp
                            with_reducible rfl
                          rotate_left
                          · simp only [Act.put, List.setIfInBounds_toArray, List.set_cons_zero, List.set_cons_succ, i64_w, i32_w]
                            rfl
                          refine pure_ (i := 7) (N := some 29) (v := ?_) (a' := ?_) #[true, true, true, false, true, true, true, true, false, false, false, false] rfl rfl (any_of HT_.out (by kernel_rfl)) (fun _ _ _ h => h) (Or.inl ⟨by rfl, ?_⟩) ?_ ?_
                          rotate_left
                          · intro w'
                            go_simp
                            with_reducible rfl
                          rotate_left
                          · simp only [Act.put, List.setIfInBounds_toArray, List.set_cons_zero, List.set_cons_succ, i64_w, i32_w]
                            rfl
                          refine take_ (i := 3) (N := some 25) (v := ?_) (a' := ?_) #[true, true, true, true, true, true, true, true, false, false, false, false] rfl rfl (take_ofW HT_.out HW_.out (by kernel_rfl)) (fun _ _ _ h => h) (Or.inl ⟨by rfl, ?_⟩) hHeld ?_ ?_
                          rotate_left
                          · rintro w' ⟨s0, s1, s2, s3, s4, s5, s6, s7, s8, s9⟩
                            go_simp
                            with_reducible rfl
                          rotate_left
                          · simp only [Act.put, List.setIfInBounds_toArray, List.set_cons_zero, List.set_cons_succ, i64_w, i32_w]
                            rfl
                          refine take_ (i := 8) (N := some 30) (v := ?_) (a' := ?_) #[true, true, true, true, true, true, true, true, true, false, false, false] rfl rfl (take_ofW HT_.out HW_.out (by kernel_rfl)) (fun _ _ _ h => h) (Or.inl ⟨by rfl, ?_⟩) hHeld ?_ ?_
                          rotate_left
                          · rintro w' ⟨s0, s1, s2, s3, s4, s5, s6, s7, s8, s9⟩
                            go_simp
                            with_reducible rfl
                          rotate_left
                          · simp only [Act.put, List.setIfInBounds_toArray, List.set_cons_zero, List.set_cons_succ, i64_w, i32_w]
                            rfl
                          refine one_ (i := 9) (N := some 31) #[true, true, true, true, true, true, true, true, true, true, false, false] rfl rfl (one_of HT_.out (by kernel_rfl)) (by decide) (fun K hK => ?_)
                          refine goes_ Try.func90 (by kernel_rfl) rfl #[.agg #[.int .i64 a1_0, .int .i64 a1_1, .int .i64 a1_2, .int .i64 a1_3, .int .i64 a1_4], .agg #[.int .i64 ((rd_T47 l0 (ji5)).f0), .int .i64 ((rd_T47 l0 (ji5)).f1), .int .i64 ((rd_T47 l0 (ji5)).f2), .int .i64 ((rd_T47 l0 (ji5)).f3), .int .i64 ((rd_T47 l0 (ji5)).f4)]] (by rfl) rfl rfl (by (try simp only [List.map_toArray, List.map_cons, List.map_nil]); first | done | (simp only [hji5]; rfl) | rfl | (simp only [List.length_drop, List.length_take]; rfl)) ?_
                          with_reducible refine (interlocutorref6_order.calls k1 a1_0 a1_1 a1_2 a1_3 a1_4 ((rd_T47 l0 (ji5)).f0) ((rd_T47 l0 (ji5)).f1) ((rd_T47 l0 (ji5)).f2) ((rd_T47 l0 (ji5)).f3) ((rd_T47 l0 (ji5)).f4) t210 _ A12.out).mono ?_
                          rintro e w28 ⟨rfl, hb⟩
                          have HS5_ := (hb.cell (World.block_lt_of_cell? _ _ (hHeld.2.2.2.2.2.1))).trans (hHeld.2.2.2.2.2.1)
                          have HS6_ := (hb.cell (World.block_lt_of_cell? _ _ (hHeld.2.2.2.2.2.2.1))).trans (hHeld.2.2.2.2.2.2.1)
                          have HS7_ := (hb.cell (World.block_lt_of_cell? _ _ (hHeld.2.2.2.2.2.2.2.1))).trans (hHeld.2.2.2.2.2.2.2.1)
                          have HS8_ := (hb.cell (World.block_lt_of_cell? _ _ (hHeld.2.2.2.2.2.2.2.2.1))).trans (hHeld.2.2.2.2.2.2.2.2.1)
                          have HS9_ := (hb.cell (World.block_lt_of_cell? _ _ (hHeld.2.2.2.2.2.2.2.2.2))).trans (hHeld.2.2.2.2.2.2.2.2.2)
                          refine ⟨_, rfl, ?_⟩
                          have n0_ := Aside0.mk (Kd.V_below (by exact vU HO_0.out) hb)
                          have n1_ := Aside0.mk (blk_below (g := gb206) (o := .cells #[.int .i64 a1_0, .int .i64 a1_1, .int .i64 a1_2, .int .i64 a1_3, .int .i64 a1_4] 47 (0, 0)) (by (with_reducible repeat (first | refine blk_drewN ?_ _ | refine blk_drew ?_ | refine blk_alloc ?_ _)); exact BK206.out) hb)
                          have n2_ := Aside0.mk (below_step (by exact wS HB.out GE206.out) hb)
                          clear HO_0 BK206 HB
                          have HO_0 := n0_
                          have BK206 := n1_
                          have HB := n2_
                          clear n0_ n1_ n2_
                          (try clear hb)
                          (try clear hb2)
                          (try clear hk)
                          (try clear hi)
                          refine hK.out _ _ ⟨(blk_cell BK206.out 0).trans rfl, (blk_cell BK206.out 1).trans rfl, (blk_cell BK206.out 2).trans rfl, (blk_cell BK206.out 3).trans rfl, (blk_cell BK206.out 4).trans rfl, HS5_, HS6_, HS7_, HS8_, HS9_⟩ (fun hHeld => ?_)
                          clear hK K
                          refine norm_ (a' := ?_) ?_ ?_
                          rotate_left
                          · show Act.put _ (some 31) _ = _
                            simp only [Act.put, List.setIfInBounds_toArray, List.set_cons_zero, List.set_cons_succ, i64_w, i32_w]
                            rfl
                          refine pure_ (i := 10) (N := some 32) (v := ?_) (a' := ?_) #[true, true, true, true, true, true, true, true, true, true, true, false] rfl rfl (any_of HT_.out (by kernel_rfl)) (fun _ _ _ h => h) (Or.inl ⟨by rfl, ?_⟩) ?_ ?_
                          rotate_left
                          · intro w'
                            go_simp
                            with_reducible rfl
                          rotate_left
                          · simp only [Act.put, List.setIfInBounds_toArray, List.set_cons_zero, List.set_cons_succ, i64_w, i32_w]
                            rfl
                          refine pure_ (i := 11) (N := some 33) (v := ?_) (a' := ?_) #[true, true, true, true, true, true, true, true, true, true, true, true] rfl rfl (any_of HT_.out (by kernel_rfl)) (fun _ _ _ h => h) (Or.inl ⟨by rfl, ?_⟩) ?_ ?_
                          rotate_left
                          · intro w'
                            go_simp
                            with_reducible rfl
                          rotate_left
                          · simp only [Act.put, List.setIfInBounds_toArray, List.set_cons_zero, List.set_cons_succ, i64_w, i32_w]
                            rfl
                          refine done_ (done_of HT_.out (by kernel_rfl)) ?_
                          try go_wp2
                          have n0_ := Aside0.mk (Kd.V_drew HO_0.out)
                          have n1_ := Aside0.mk (blk_drew BK206.out)
                          have n2_ := Aside0.mk (below_drew1 HB.out)
                          clear HO_0 BK206 HB
                          have HO_0 := n0_
                          have BK206 := n1_
                          have HB := n2_
                          clear n0_ n1_ n2_
                          have q30 : (x5_1 : Int) ≤ ((l0.length : Int) : Int) := of_decide_eq_true (by first | (with_reducible assumption) | assumption)
                          obtain ⟨i030, hi030, _, hsz30, _⟩ := info_parts info47
                          have hroom30 : l0.length ≤ c0 := (Kd.V_reads' HO_0.out).2.1
                          have hC30 : Kd.F k47 _ _ (some ad207) l0.length l0 := (Kd.V_at (base := w.heap.size) HO_0.out).2.2
                          have hcut30 := cut_to (P := Try.prog) 39 47 .i64 Try.underlying39 hi030 (some ad207) l0.length c0 x5_1 (of_decide_eq_true (by first | (with_reducible assumption) | assumption)) q30 hroom30
                          have hr30 := Kd.F_take (m := (x5_1 : Int).toNat) hC30 (by omega)
                          have hy30 : y214.length = (x5_1 : Int).toNat := (by rw [Ny214.out, List.length_take]; omega)
                          rw [← Ny214.out] at hr30
                          rw [← hy30] at hcut30
                          have HO218 := Aside0.mk (show Kd.V k47 47 _ w.heap.size _ (.slice (some ad207) y214.length c0) y214 from Kd.V_mk (by omega) hr30)
                          have HC218 := Aside0.mk (show y214.length ≤ c0 from by omega)
                          clear hr30 hC30 hroom30 hi030 hsz30
                          have KY30 := Aside0.mk hy30
                          clear hy30
                          replace q30 := eq_true q30
                          have q31 : (x5_1 : Int) ≤ ((l0.length : Int) : Int) := of_decide_eq_true (by first | (with_reducible assumption) | assumption)
                          obtain ⟨i031, hi031, _, hsz31, _⟩ := info_parts info47
                          have hroom31 : l0.length ≤ c0 := (Kd.V_reads' HO_0.out).2.1
                          have hC31 : Kd.F k47 _ _ (some ad207) l0.length l0 := (Kd.V_at (base := w.heap.size) HO_0.out).2.2
                          have q031 : (0 : Int) ≤ (x5_1 : Int) := of_decide_eq_true (by first | (with_reducible assumption) | assumption)
                          have hcut31 := cut_from (P := Try.prog) 39 47 .i64 Try.underlying39 hi031 5 hsz31 (some ad207) l0.length c0 x5_1 q031 q31
                          have hr31 := Kd.F_cut (m := (x5_1 : Int).toNat) (c := c0) hC31 (by omega) hroom31
                          obtain ⟨A31, hA31⟩ : ∃ A1, A1 = (if c0 = (x5_1 : Int).toNat then (some ad207) else ((some ad207) : Option Addr).map (·.add ((x5_1 : Int).toNat * 5))) := ⟨_, rfl⟩
                          obtain ⟨c31, hc31⟩ : ∃ c1, c1 = c0 - (x5_1 : Int).toNat := ⟨_, rfl⟩
                          have hy31 : y228.length = l0.length - (x5_1 : Int).toNat := (by rw [Ny228.out, List.length_drop] <;> omega)
                          rw [show (l0).drop (x5_1 : Int).toNat = y228 from Ny228.out.symm] at hr31
                          replace hr31 : Kd.F k47 _ _ A31 y228.length y228 := (by rw [hA31]; exact hr31)
                          rw [← hy31, ← hA31, ← hc31] at hcut31
                          have HO232 := Aside0.mk (show Kd.V k47 47 _ w.heap.size _ (.slice A31 y228.length c31) y228 from Kd.V_mk (by rw [hy31, hc31]; exact Nat.sub_le_sub_right hroom31 _) hr31)
                          have HC232 := Aside0.mk (show y228.length ≤ c31 from by rw [hy31, hc31]; exact Nat.sub_le_sub_right hroom31 _)
                          clear hr31 hC31 hroom31 hi031 hsz31 hc31
                          have KY31 := Aside0.mk hy31
                          have KA31 := Aside0.mk hA31
                          clear hy31 hA31
                          replace q31 := eq_true q31
                          refine start_ (n := 13) (S := fun w' => w'.cell? ⟨gb206, 0, none⟩ = some (.int .i64 a1_0) ∧ w'.cell? ⟨gb206, 1, none⟩ = some (.int .i64 a1_1) ∧ w'.cell? ⟨gb206, 2, none⟩ = some (.int .i64 a1_2) ∧ w'.cell? ⟨gb206, 3, none⟩ = some (.int .i64 a1_3) ∧ w'.cell? ⟨gb206, 4, none⟩ = some (.int .i64 a1_4)) (ds := []) #[false, false, false, false, false, false, false, false, false, false, false, false, false] (by kernel_rfl) rfl rfl ⟨(blk_cell BK206.out 0).trans rfl, (blk_cell BK206.out 1).trans rfl, (blk_cell BK206.out 2).trans rfl, (blk_cell BK206.out 3).trans rfl, (blk_cell BK206.out 4).trans rfl⟩ (fun hHeld => ?_); refine with_tabW interlocutorref6_put.tab6 interlocutorref6_put.bits6 (fun HT_ HW_ => ?_)
                          generalize w28.drew = w29 at HO_0 BK206 HB HO218 HO232 hHeld ⊢
                          refine pure_ (i := 1) (N := some 36) (v := ?_) (a' := ?_) #[false, true, false, false, false, false, false, false, false, false, false, false, false] rfl rfl (any_of HT_.out (by kernel_rfl)) (fun _ _ _ h => h) (Or.inl ⟨by rfl, ?_⟩) ?_ ?_
                          rotate_left
                          · intro w'
                            go_simp
                            with_reducible rfl
                          rotate_left
                          · simp only [Act.put, List.setIfInBounds_toArray, List.set_cons_zero, List.set_cons_succ, i64_w, i32_w]
                            rfl
                          refine pure_ (i := 2) (N := some 37) (v := ?_) (a' := ?_) #[false, true, true, false, false, false, false, false, false, false, false, false, false] rfl rfl (any_of HT_.out (by kernel_rfl)) (fun _ _ _ h => h) (Or.inl ⟨by rfl, ?_⟩) ?_ ?_
                          rotate_left
                          · intro w'
                            go_simp
                            with_reducible rfl
                          rotate_left
                          · simp only [Act.put, List.setIfInBounds_toArray, List.set_cons_zero, List.set_cons_succ, i64_w, i32_w]
                            rfl
                          refine pure_ (i := 3) (N := some 38) (v := ?_) (a' := ?_) #[false, true, true, true, false, false, false, false, false, false, false, false, false] rfl rfl (any_of HT_.out (by kernel_rfl)) (fun _ _ _ h => h) (Or.inl ⟨by rfl, ?_⟩) ?_ ?_
                          rotate_left
                          · intro w'
                            go_simp
                            with_reducible rfl
                          rotate_left
                          · simp only [Act.put, List.setIfInBounds_toArray, List.set_cons_zero, List.set_cons_succ, i64_w, i32_w]
                            rfl
                          refine pure_ (i := 8) (N := some 43) (v := ?_) (a' := ?_) #[false, true, true, true, false, false, false, false, true, false, false, false, false] rfl rfl (any_of HT_.out (by kernel_rfl)) (fun _ _ _ h => h) (Or.inl ⟨by rfl, ?_⟩) ?_ ?_
                          rotate_left
                          · intro w'
                            go_simp
                            with_reducible rfl
                          rotate_left
                          · simp only [Act.put, List.setIfInBounds_toArray, List.set_cons_zero, List.set_cons_succ, i64_w, i32_w]
                            rfl
                          refine pure_ (i := 9) (N := some 44) (v := ?_) (a' := ?_) #[false, true, true, true, false, false, false, false, true, true, false, false, false] rfl rfl (any_of HT_.out (by kernel_rfl)) (fun _ _ _ h => h) (Or.inl ⟨by rfl, ?_⟩) ?_ ?_
                          rotate_left
                          · intro w'
                            go_simp
                            with_reducible rfl
                          rotate_left
                          · simp only [Act.put, List.setIfInBounds_toArray, List.set_cons_zero, List.set_cons_succ, i64_w, i32_w]
                            rfl
                          refine pure_ (i := 10) (N := some 45) (v := ?_) (a' := ?_) #[false, true, true, true, false, false, false, false, true, true, true, false, false] rfl rfl (any_of HT_.out (by kernel_rfl)) (fun _ _ _ h => h) (Or.inl ⟨by rfl, ?_⟩) ?_ ?_
                          rotate_left
                          · intro w'
                            go_simp
                            with_reducible rfl
                          rotate_left
                          · simp only [Act.put, List.setIfInBounds_toArray, List.set_cons_zero, List.set_cons_succ, i64_w, i32_w]
                            rfl
                          refine take_ (i := 5) (N := some 40) (v := ?_) (a' := ?_) #[false, true, true, true, false, true, false, false, true, true, true, false, false] rfl rfl (take_ofW HT_.out HW_.out (by kernel_rfl)) (fun _ _ _ h => h) (Or.inl ⟨by rfl, ?_⟩) hHeld ?_ ?_
                          rotate_left
                          · rintro w' ⟨s0, s1, s2, s3, s4⟩
                            go_simp
                            with_reducible rfl
                          rotate_left
                          · simp only [Act.put, List.setIfInBounds_toArray, List.set_cons_zero, List.set_cons_succ, i64_w, i32_w]
                            rfl
                          refine join_ (σ := Value × Value × Value) 3 #[true, true, true, true, true, true, true, false, true, true, true, false, false] (fun s_ => [(35, s_.1), (39, s_.2.1), (41, s_.2.2)]) (fun s_ w' => (w'.cell? ⟨gb206, 0, none⟩ = some (.int .i64 a1_0) ∧ w'.cell? ⟨gb206, 1, none⟩ = some (.int .i64 a1_1) ∧ w'.cell? ⟨gb206, 2, none⟩ = some (.int .i64 a1_2) ∧ w'.cell? ⟨gb206, 3, none⟩ = some (.int .i64 a1_3) ∧ w'.cell? ⟨gb206, 4, none⟩ = some (.int .i64 a1_4)) ∧ (Kd.V k47 47 w' w.heap.size (fun k_ => (P0_ k_ ∨ w.heap.size ≤ k_) ∧ some k_ ≠ (s_.2.1 : Value).ownBlock ∧ some k_ ≠ (s_.2.2 : Value).ownBlock ∧ k_ ≠ gb206) (.slice (some ad207) y214.length c0) y214) ∧ (Kd.R k47 47 w' w.heap.size (fun k_ => (w.heap.size ≤ k_) ∧ some k_ ≠ (s_.2.2 : Value).ownBlock ∧ k_ ≠ gb206) s_.2.1 y219) ∧ (Kd.R k47 47 w' w.heap.size (fun k_ => (w.heap.size ≤ k_) ∧ some k_ ≠ (s_.2.1 : Value).ownBlock ∧ k_ ≠ gb206) s_.2.2 y222) ∧ (Kd.V k47 47 w' w.heap.size (fun k_ => (P0_ k_ ∨ w.heap.size ≤ k_) ∧ some k_ ≠ (s_.2.1 : Value).ownBlock ∧ some k_ ≠ (s_.2.2 : Value).ownBlock ∧ k_ ≠ gb206) (.slice A31 y228.length c31) y228) ∧ (Kd.V k47 47 w' w.heap.size (fun k_ => (P0_ k_ ∨ w.heap.size ≤ k_) ∧ some k_ ≠ (s_.2.1 : Value).ownBlock ∧ some k_ ≠ (s_.2.2 : Value).ownBlock ∧ k_ ≠ gb206) (.slice (some ad207) l0.length c0) l0) ∧ (w'.heap[gb206]? = some (.cells #[.int .i64 a1_0, .int .i64 a1_1, .int .i64 a1_2, .int .i64 a1_3, .int .i64 a1_4] 47 (0, 0))) ∧ (Below w.heap.size w w')) ?_ ?_
                          rotate_left
                          · intro hCont
                            refine two_ (i := 0) (j := 6) (Ni := some 35) (Nj := some 41) #[true, true, true, true, false, true, false, false, true, true, true, false, false] #[false, true, true, true, false, true, true, false, true, true, true, false, false] rfl rfl rfl rfl (two_of HT_.out (by kernel_rfl)) (by decide) (by decide) (fun K hK => ?_) (fun K hK => ?_)
                            · skip
                              refine Kd.R_lit_step k47 _ 47 ?hg (N := 35) ?hd (xs := ([] : List (S47))) (inner := []) (ok := fun _ => True) (okp := fun _ => True) ?hr ?hp (fun _ hk => hk) trivial (Below.refl _ _) (Nat.le_refl _) (by simp) ?_; (case hd => rfl); (case hg => rfl); (case hr => first | (go_simp; done) | (go_simp; rfl)); (case hp => exact (Reps.none _ _))
                              intro v212 w32 ho33 hb hg_ hnew_
                              clear hg_ hnew_
                              (first | rw [← Ny211.out] at ho33 | (simp only [Int.reduceToNat] at ho33; rw [← Ny211.out] at ho33))
                              have n0_ := Aside0.mk (Kd.V_elder' (by exact vU HO_0.out) (Kd.R_base ho33) hb)
                              have n1_ := Aside0.mk (Kd.V_elder' (by exact vU HO218.out) (Kd.R_base ho33) hb)
                              have n2_ := Aside0.mk (Kd.V_elder' (by exact vU HO232.out) (Kd.R_base ho33) hb)
                              have n3_ := Aside0.mk (Kd.R_lower (Kd.R_newB (Kd.R_newM (M := fun k_ => (w.heap.size ≤ k_)) ho33 (below_size (by exact wS HB.out GE206.out)) (fun k_ h_ => h_)) (g := gb206) (o := .cells #[.int .i64 a1_0, .int .i64 a1_1, .int .i64 a1_2, .int .i64 a1_3, .int .i64 a1_4] 47 (0, 0)) (by (with_reducible repeat (first | refine blk_drewN ?_ _ | refine blk_drew ?_ | refine blk_alloc ?_ _)); exact BK206.out)) (below_size (by exact wS HB.out GE206.out)))
                              have n4_ := Aside0.mk (blk_below (g := gb206) (o := .cells #[.int .i64 a1_0, .int .i64 a1_1, .int .i64 a1_2, .int .i64 a1_3, .int .i64 a1_4] 47 (0, 0)) (by (with_reducible repeat (first | refine blk_drewN ?_ _ | refine blk_drew ?_ | refine blk_alloc ?_ _)); exact BK206.out) hb)
                              have n5_ := Aside0.mk (below_step (by exact wS HB.out GE206.out) hb)
                              clear HO_0 HO218 HO232 BK206 HB
                              have HO_0 := n0_
                              have HO218 := n1_
                              have HO232 := n2_
                              have HO213 := n3_
                              have BK206 := n4_
                              have HB := n5_
                              clear n0_ n1_ n2_ n3_ n4_ n5_ hb ho33
                              refine hK.out _ _ ⟨(blk_cell BK206.out 0).trans rfl, (blk_cell BK206.out 1).trans rfl, (blk_cell BK206.out 2).trans rfl, (blk_cell BK206.out 3).trans rfl, (blk_cell BK206.out 4).trans rfl⟩ (fun hHeld => ?_)
                              clear hK K
                              refine norm_ (a' := ?_) ?_ ?_
                              rotate_left
                              · show Act.put _ (some 35) _ = _
                                simp only [Act.put, List.setIfInBounds_toArray, List.set_cons_zero, List.set_cons_succ, i64_w, i32_w]
                                rfl
                              refine two_ (i := 4) (j := 6) (Ni := some 39) (Nj := some 41) #[true, true, true, true, true, true, false, false, true, true, true, false, false] #[true, true, true, true, false, true, true, false, true, true, true, false, false] rfl rfl rfl rfl (two_of HT_.out (by kernel_rfl)) (by decide) (by decide) (fun K hK => ?_) (fun K hK => ?_)
                              · skip
                                refine Kd.R_append_rows_step k47 (w0 := w) w.heap.size (by rfl) (.tmp 35) (.tmp 38) 39 47 (.agg #[(.int .i64 0), (.int .i64 0), (.int .i64 0), (.int .i64 0), (.int .i64 0)]) 40 rfl Try.underlying39 info47 rfl (by decide) (by omega) v212 y211 y214 _ _ _ (fun k_ => (w.heap.size ≤ k_) ∧ k_ ≠ gb206) (fun _ => False) rfl rfl ?aO ?aR (fun _ _ h => h) (fun _ h => h.elim) ?aF ?aB ?aS ?aL ?_
                                (case aR => repeat (first | exact (Kd.V_reads' HO218.out).2.2 | (with_reducible refine Kd.C_alloc ?_ _) | (with_reducible refine Kd.C_drewN ?_ _) | (with_reducible refine Kd.C_drew ?_)))
                                (case aB => exact (by exact wS HB.out GE206.out))
                                (case aF => exact (fun k_ hk => ⟨(Nat.le_trans (below_size (by exact wS HB.out GE206.out)) hk), Kd.freshB (g := gb206) (o := .cells #[.int .i64 a1_0, .int .i64 a1_1, .int .i64 a1_2, .int .i64 a1_3, .int .i64 a1_4] 47 (0, 0)) (by (with_reducible repeat (first | refine blk_drewN ?_ _ | refine blk_drew ?_ | refine blk_alloc ?_ _)); exact BK206.out) k_ hk⟩))
                                (case aO => exact (by (with_reducible repeat (first | apply Kd.R_alloc | apply Kd.R_drewN | apply Kd.R_drew)); exact Kd.R_mono HO213.out (fun _ hk => ⟨hk.1.1, hk.2⟩)))
                                (case aS => exact (below_size (by exact wS HB.out GE206.out)))
                                (case aL => have := LMc20.out; omega)
                                intro v220 w34 ho hb hg hat
                                rw [← Ny219.out] at ho
                                have n0_ := Aside0.mk (Kd.V_afterv (ok := (fun k_ => (P0_ k_ ∨ w.heap.size ≤ k_) ∧ k_ ≠ gb206)) (by exact vU HO_0.out) hg hat)
                                have n1_ := Aside0.mk (blk_grown (g := gb206) (o := .cells #[.int .i64 a1_0, .int .i64 a1_1, .int .i64 a1_2, .int .i64 a1_3, .int .i64 a1_4] 47 (0, 0)) (by (with_reducible repeat (first | refine blk_drewN ?_ _ | refine blk_drew ?_ | refine blk_alloc ?_ _)); exact BK206.out) hg (Kd.R_away HO213.out (fun _ hk => hk.2)))
                                have n2_ := Aside0.mk (Kd.V_afterv (ok := (fun k_ => (P0_ k_ ∨ w.heap.size ≤ k_) ∧ k_ ≠ gb206)) (by exact vU HO218.out) hg hat)
                                have n3_ := Aside0.mk (Kd.V_afterv (ok := (fun k_ => (P0_ k_ ∨ w.heap.size ≤ k_) ∧ k_ ≠ gb206)) (by exact vU HO232.out) hg hat)
                                have n4_ := Aside0.mk (hb)
                                have n5_ := Aside0.mk (ho)
                                clear HO_0 BK206 HO218 HO232 HB HO213
                                have HO_0 := n0_
                                have BK206 := n1_
                                have HO218 := n2_
                                have HO232 := n3_
                                have HB := n4_
                                have HO221 := n5_
                                clear n0_ n1_ n2_ n3_ n4_ n5_ ho hb hg hat
                                refine hK.out _ _ ⟨(blk_cell BK206.out 0).trans rfl, (blk_cell BK206.out 1).trans rfl, (blk_cell BK206.out 2).trans rfl, (blk_cell BK206.out 3).trans rfl, (blk_cell BK206.out 4).trans rfl⟩ (fun hHeld => ?_)
                                clear hK K
                                refine norm_ (a' := ?_) ?_ ?_
                                rotate_left
                                · show Act.put _ (some 39) _ = _
                                  simp only [Act.put, List.setIfInBounds_toArray, List.set_cons_zero, List.set_cons_succ, i64_w, i32_w]
                                  rfl
                                refine one_ (i := 6) (N := some 41) #[true, true, true, true, true, true, true, false, true, true, true, false, false] rfl rfl (one_of HT_.out (by kernel_rfl)) (by decide) (fun K hK => ?_)
                                refine Kd.R_lit_step k47 _ 47 ?hg (N := 41) ?hd (xs := ([(⟨a1_0, a1_1, a1_2, a1_3, a1_4⟩ : S47)] : List (S47))) (inner := [.int .i64 a1_0, .int .i64 a1_1, .int .i64 a1_2, .int .i64 a1_3, .int .i64 a1_4]) (ok := fun _ => True) (okp := fun _ => True) ?hr ?hp (fun _ hk => hk) trivial (Below.refl _ _) (Nat.le_refl _) (by simp) ?_; (case hd => rfl); (case hg => rfl); (case hr => first | (go_simp; done) | (go_simp; rfl)); (case hp => exact (Reps.c5 (show Kd.M k47 _ _ _ (⟨a1_0, a1_1, a1_2, a1_3, a1_4⟩ : S47) [.int .i64 a1_0, .int .i64 a1_1, .int .i64 a1_2, .int .i64 a1_3, .int .i64 a1_4] from (k47_mkM _ _ _ (⟨a1_0, a1_1, a1_2, a1_3, a1_4⟩ : S47) )) (Reps.none _ _)))
                                intro v223 w35 ho36 hb hg_ hnew_
                                clear hg_ hnew_
                                (first | rw [← Ny222.out] at ho36 | (simp only [Int.reduceToNat] at ho36; rw [← Ny222.out] at ho36))
                                have n0_ := Aside0.mk (Kd.V_elder' (by exact vU HO_0.out) (Kd.R_base ho36) hb)
                                have n1_ := Aside0.mk (Kd.V_elder' (by exact vU HO218.out) (Kd.R_base ho36) hb)
                                have n2_ := Aside0.mk (Kd.V_elder' (by exact vU HO232.out) (Kd.R_base ho36) hb)
                                have n3_ := Aside0.mk (Kd.R_elder' (by (with_reducible repeat (first | apply Kd.R_alloc | apply Kd.R_drewN | apply Kd.R_drew)); exact HO221.out) (Kd.R_base ho36) hb)
                                have n4_ := Aside0.mk (Kd.R_lower (Kd.R_newB (Kd.R_new' (Kd.R_newM (M := fun k_ => (w.heap.size ≤ k_)) ho36 (below_size (by exact wS HB.out GE206.out)) (fun k_ h_ => h_)) (Kd.R_lt (by (with_reducible repeat (first | apply Kd.R_alloc | apply Kd.R_drewN | apply Kd.R_drew)); exact HO221.out))) (g := gb206) (o := .cells #[.int .i64 a1_0, .int .i64 a1_1, .int .i64 a1_2, .int .i64 a1_3, .int .i64 a1_4] 47 (0, 0)) (by (with_reducible repeat (first | refine blk_drewN ?_ _ | refine blk_drew ?_ | refine blk_alloc ?_ _)); exact BK206.out)) (below_size (by exact wS HB.out GE206.out)))
                                have n5_ := Aside0.mk (blk_below (g := gb206) (o := .cells #[.int .i64 a1_0, .int .i64 a1_1, .int .i64 a1_2, .int .i64 a1_3, .int .i64 a1_4] 47 (0, 0)) (by (with_reducible repeat (first | refine blk_drewN ?_ _ | refine blk_drew ?_ | refine blk_alloc ?_ _)); exact BK206.out) hb)
                                have n6_ := Aside0.mk (below_step (by exact wS HB.out GE206.out) hb)
                                clear HO_0 HO218 HO232 HO221 BK206 HB
                                have HO_0 := n0_
                                have HO218 := n1_
                                have HO232 := n2_
                                have HO221 := n3_
                                have HO224 := n4_
                                have BK206 := n5_
                                have HB := n6_
                                clear n0_ n1_ n2_ n3_ n4_ n5_ n6_ hb ho36
                                refine hK.out _ _ ⟨(blk_cell BK206.out 0).trans rfl, (blk_cell BK206.out 1).trans rfl, (blk_cell BK206.out 2).trans rfl, (blk_cell BK206.out 3).trans rfl, (blk_cell BK206.out 4).trans rfl⟩ (fun hHeld => ?_)
                                clear hK K
                                refine norm_ (a' := ?_) ?_ ?_
                                rotate_left
                                · show Act.put _ (some 41) _ = _
                                  simp only [Act.put, List.setIfInBounds_toArray, List.set_cons_zero, List.set_cons_succ, i64_w, i32_w]
                                  rfl
                                exact norm_ (by simp only [putAll, Act.put, List.setIfInBounds_toArray, List.set_cons_zero, List.set_cons_succ]) (hCont (v212, v220, v223) _ ⟨hHeld, (by exact vU (Kd.V_mono HO218.out (fun _ hk => ⟨hk.1.1.1, ⟨hk.1.2, ⟨hk.2, hk.1.1.2⟩⟩⟩))), (by (with_reducible repeat (first | apply Kd.R_alloc | apply Kd.R_drewN | apply Kd.R_drew)); exact Kd.R_mono HO221.out (fun _ hk => ⟨hk.1.1, ⟨hk.2, hk.1.2⟩⟩)), (by (with_reducible repeat (first | apply Kd.R_alloc | apply Kd.R_drewN | apply Kd.R_drew)); exact Kd.R_mono HO224.out (fun _ hk => ⟨hk.1.1.1, ⟨hk.1.2, hk.2⟩⟩)), (by exact vU (Kd.V_mono HO232.out (fun _ hk => ⟨hk.1.1.1, ⟨hk.1.2, ⟨hk.2, hk.1.1.2⟩⟩⟩))), (by exact vU (Kd.V_mono HO_0.out (fun _ hk => ⟨hk.1.1.1, ⟨hk.1.2, ⟨hk.2, hk.1.1.2⟩⟩⟩))), (by (with_reducible repeat (first | refine blk_drewN ?_ _ | refine blk_drew ?_ | refine blk_alloc ?_ _)); exact BK206.out), (by exact wS HB.out GE206.out)⟩)
                              · skip
                                refine Kd.R_lit_step k47 _ 47 ?hg (N := 41) ?hd (xs := ([(⟨a1_0, a1_1, a1_2, a1_3, a1_4⟩ : S47)] : List (S47))) (inner := [.int .i64 a1_0, .int .i64 a1_1, .int .i64 a1_2, .int .i64 a1_3, .int .i64 a1_4]) (ok := fun _ => True) (okp := fun _ => True) ?hr ?hp (fun _ hk => hk) trivial (Below.refl _ _) (Nat.le_refl _) (by simp) ?_; (case hd => rfl); (case hg => rfl); (case hr => first | (go_simp; done) | (go_simp; rfl)); (case hp => exact (Reps.c5 (show Kd.M k47 _ _ _ (⟨a1_0, a1_1, a1_2, a1_3, a1_4⟩ : S47) [.int .i64 a1_0, .int .i64 a1_1, .int .i64 a1_2, .int .i64 a1_3, .int .i64 a1_4] from (k47_mkM _ _ _ (⟨a1_0, a1_1, a1_2, a1_3, a1_4⟩ : S47) )) (Reps.none _ _)))
                                intro v223 w34 ho35 hb hg_ hnew_
                                clear hg_ hnew_
                                (first | rw [← Ny222.out] at ho35 | (simp only [Int.reduceToNat] at ho35; rw [← Ny222.out] at ho35))
                                have n0_ := Aside0.mk (Kd.V_elder' (by exact vU HO_0.out) (Kd.R_base ho35) hb)
                                have n1_ := Aside0.mk (Kd.V_elder' (by exact vU HO218.out) (Kd.R_base ho35) hb)
                                have n2_ := Aside0.mk (Kd.V_elder' (by exact vU HO232.out) (Kd.R_base ho35) hb)
                                have n3_ := Aside0.mk (Kd.R_elder' (by (with_reducible repeat (first | apply Kd.R_alloc | apply Kd.R_drewN | apply Kd.R_drew)); exact HO213.out) (Kd.R_base ho35) hb)
                                have n4_ := Aside0.mk (Kd.R_lower (Kd.R_newB (Kd.R_new' (Kd.R_newM (M := fun k_ => (w.heap.size ≤ k_)) ho35 (below_size (by exact wS HB.out GE206.out)) (fun k_ h_ => h_)) (Kd.R_lt (by (with_reducible repeat (first | apply Kd.R_alloc | apply Kd.R_drewN | apply Kd.R_drew)); exact HO213.out))) (g := gb206) (o := .cells #[.int .i64 a1_0, .int .i64 a1_1, .int .i64 a1_2, .int .i64 a1_3, .int .i64 a1_4] 47 (0, 0)) (by (with_reducible repeat (first | refine blk_drewN ?_ _ | refine blk_drew ?_ | refine blk_alloc ?_ _)); exact BK206.out)) (below_size (by exact wS HB.out GE206.out)))
                                have n5_ := Aside0.mk (blk_below (g := gb206) (o := .cells #[.int .i64 a1_0, .int .i64 a1_1, .int .i64 a1_2, .int .i64 a1_3, .int .i64 a1_4] 47 (0, 0)) (by (with_reducible repeat (first | refine blk_drewN ?_ _ | refine blk_drew ?_ | refine blk_alloc ?_ _)); exact BK206.out) hb)
                                have n6_ := Aside0.mk (below_step (by exact wS HB.out GE206.out) hb)
                                clear HO_0 HO218 HO232 HO213 BK206 HB
                                have HO_0 := n0_
                                have HO218 := n1_
                                have HO232 := n2_
                                have HO213 := n3_
                                have HO224 := n4_
                                have BK206 := n5_
                                have HB := n6_
                                clear n0_ n1_ n2_ n3_ n4_ n5_ n6_ hb ho35
                                refine hK.out _ _ ⟨(blk_cell BK206.out 0).trans rfl, (blk_cell BK206.out 1).trans rfl, (blk_cell BK206.out 2).trans rfl, (blk_cell BK206.out 3).trans rfl, (blk_cell BK206.out 4).trans rfl⟩ (fun hHeld => ?_)
                                clear hK K
                                refine norm_ (a' := ?_) ?_ ?_
                                rotate_left
                                · show Act.put _ (some 41) _ = _
                                  simp only [Act.put, List.setIfInBounds_toArray, List.set_cons_zero, List.set_cons_succ, i64_w, i32_w]
                                  rfl
                                refine one_ (i := 4) (N := some 39) #[true, true, true, true, true, true, true, false, true, true, true, false, false] rfl rfl (one_of HT_.out (by kernel_rfl)) (by decide) (fun K hK => ?_)
                                refine Kd.R_append_rows_step k47 (w0 := w) w.heap.size (by rfl) (.tmp 35) (.tmp 38) 39 47 (.agg #[(.int .i64 0), (.int .i64 0), (.int .i64 0), (.int .i64 0), (.int .i64 0)]) 40 rfl Try.underlying39 info47 rfl (by decide) (by omega) v212 y211 y214 _ _ _ (fun k_ => (w.heap.size ≤ k_) ∧ some k_ ≠ (v223 : Value).ownBlock ∧ k_ ≠ gb206) (fun _ => False) rfl rfl ?aO ?aR (fun _ _ h => h) (fun _ h => h.elim) ?aF ?aB ?aS ?aL ?_
                                (case aR => repeat (first | exact (Kd.V_reads' HO218.out).2.2 | (with_reducible refine Kd.C_alloc ?_ _) | (with_reducible refine Kd.C_drewN ?_ _) | (with_reducible refine Kd.C_drew ?_)))
                                (case aB => exact (by exact wS HB.out GE206.out))
                                (case aF => exact (fun k_ hk => ⟨(Nat.le_trans (below_size (by exact wS HB.out GE206.out)) hk), Kd.fresh' (Kd.R_lt (by (with_reducible repeat (first | apply Kd.R_alloc | apply Kd.R_drewN | apply Kd.R_drew)); exact HO224.out)) k_ hk, Kd.freshB (g := gb206) (o := .cells #[.int .i64 a1_0, .int .i64 a1_1, .int .i64 a1_2, .int .i64 a1_3, .int .i64 a1_4] 47 (0, 0)) (by (with_reducible repeat (first | refine blk_drewN ?_ _ | refine blk_drew ?_ | refine blk_alloc ?_ _)); exact BK206.out) k_ hk⟩))
                                (case aO => exact (by (with_reducible repeat (first | apply Kd.R_alloc | apply Kd.R_drewN | apply Kd.R_drew)); exact Kd.R_mono HO213.out (fun _ hk => ⟨hk.1.1.1, ⟨hk.2, hk.1.2⟩⟩)))
                                (case aS => exact (below_size (by exact wS HB.out GE206.out)))
                                (case aL => have := LMc20.out; omega)
                                intro v220 w36 ho hb hg hat
                                rw [← Ny219.out] at ho
                                have n0_ := Aside0.mk (Kd.V_afterv (ok := (fun k_ => (P0_ k_ ∨ w.heap.size ≤ k_) ∧ some k_ ≠ (v223 : Value).ownBlock ∧ k_ ≠ gb206)) (by exact vU (Kd.V_mono HO_0.out (fun _ hk => ⟨⟨hk.1.1.1, ⟨hk.2, hk.1.1.2⟩⟩, hk.1.2⟩))) hg hat)
                                have n1_ := Aside0.mk (blk_grown (g := gb206) (o := .cells #[.int .i64 a1_0, .int .i64 a1_1, .int .i64 a1_2, .int .i64 a1_3, .int .i64 a1_4] 47 (0, 0)) (by (with_reducible repeat (first | refine blk_drewN ?_ _ | refine blk_drew ?_ | refine blk_alloc ?_ _)); exact BK206.out) hg (Kd.R_away HO213.out (fun _ hk => hk.1.2)))
                                have n2_ := Aside0.mk (Kd.V_afterv (ok := (fun k_ => (P0_ k_ ∨ w.heap.size ≤ k_) ∧ some k_ ≠ (v223 : Value).ownBlock ∧ k_ ≠ gb206)) (by exact vU (Kd.V_mono HO218.out (fun _ hk => ⟨⟨hk.1.1.1, ⟨hk.2, hk.1.1.2⟩⟩, hk.1.2⟩))) hg hat)
                                have n3_ := Aside0.mk (Kd.V_afterv (ok := (fun k_ => (P0_ k_ ∨ w.heap.size ≤ k_) ∧ some k_ ≠ (v223 : Value).ownBlock ∧ k_ ≠ gb206)) (by exact vU (Kd.V_mono HO232.out (fun _ hk => ⟨⟨hk.1.1.1, ⟨hk.2, hk.1.1.2⟩⟩, hk.1.2⟩))) hg hat)
                                have n4_ := Aside0.mk (Kd.R_after (ok := (fun k_ => (w.heap.size ≤ k_) ∧ k_ ≠ gb206)) (by (with_reducible repeat (first | apply Kd.R_alloc | apply Kd.R_drewN | apply Kd.R_drew)); exact Kd.R_mono HO224.out (fun _ hk => ⟨⟨hk.1.1.1, hk.2⟩, hk.1.2⟩)) hg hat)
                                have n5_ := Aside0.mk (hb)
                                have n6_ := Aside0.mk (ho)
                                clear HO_0 BK206 HO218 HO232 HO224 HB HO213
                                have HO_0 := n0_
                                have BK206 := n1_
                                have HO218 := n2_
                                have HO232 := n3_
                                have HO224 := n4_
                                have HB := n5_
                                have HO221 := n6_
                                clear n0_ n1_ n2_ n3_ n4_ n5_ n6_ ho hb hg hat
                                refine hK.out _ _ ⟨(blk_cell BK206.out 0).trans rfl, (blk_cell BK206.out 1).trans rfl, (blk_cell BK206.out 2).trans rfl, (blk_cell BK206.out 3).trans rfl, (blk_cell BK206.out 4).trans rfl⟩ (fun hHeld => ?_)
                                clear hK K
                                refine norm_ (a' := ?_) ?_ ?_
                                rotate_left
                                · show Act.put _ (some 39) _ = _
                                  simp only [Act.put, List.setIfInBounds_toArray, List.set_cons_zero, List.set_cons_succ, i64_w, i32_w]
                                  rfl
                                exact norm_ (by simp only [putAll, Act.put, List.setIfInBounds_toArray, List.set_cons_zero, List.set_cons_succ]) (hCont (v212, v220, v223) _ ⟨hHeld, (by exact vU (Kd.V_mono HO218.out (fun _ hk => ⟨hk.1.1, ⟨hk.2, ⟨hk.1.2.1, hk.1.2.2⟩⟩⟩))), (by (with_reducible repeat (first | apply Kd.R_alloc | apply Kd.R_drewN | apply Kd.R_drew)); exact HO221.out), (by (with_reducible repeat (first | apply Kd.R_alloc | apply Kd.R_drewN | apply Kd.R_drew)); exact Kd.R_mono HO224.out (fun _ hk => ⟨hk.1.1, ⟨hk.2, hk.1.2⟩⟩)), (by exact vU (Kd.V_mono HO232.out (fun _ hk => ⟨hk.1.1, ⟨hk.2, ⟨hk.1.2.1, hk.1.2.2⟩⟩⟩))), (by exact vU (Kd.V_mono HO_0.out (fun _ hk => ⟨hk.1.1, ⟨hk.2, ⟨hk.1.2.1, hk.1.2.2⟩⟩⟩))), (by (with_reducible repeat (first | refine blk_drewN ?_ _ | refine blk_drew ?_ | refine blk_alloc ?_ _)); exact BK206.out), (by exact wS HB.out GE206.out)⟩)
                            · skip
                              refine Kd.R_lit_step k47 _ 47 ?hg (N := 41) ?hd (xs := ([(⟨a1_0, a1_1, a1_2, a1_3, a1_4⟩ : S47)] : List (S47))) (inner := [.int .i64 a1_0, .int .i64 a1_1, .int .i64 a1_2, .int .i64 a1_3, .int .i64 a1_4]) (ok := fun _ => True) (okp := fun _ => True) ?hr ?hp (fun _ hk => hk) trivial (Below.refl _ _) (Nat.le_refl _) (by simp) ?_; (case hd => rfl); (case hg => rfl); (case hr => first | (go_simp; done) | (go_simp; rfl)); (case hp => exact (Reps.c5 (show Kd.M k47 _ _ _ (⟨a1_0, a1_1, a1_2, a1_3, a1_4⟩ : S47) [.int .i64 a1_0, .int .i64 a1_1, .int .i64 a1_2, .int .i64 a1_3, .int .i64 a1_4] from (k47_mkM _ _ _ (⟨a1_0, a1_1, a1_2, a1_3, a1_4⟩ : S47) )) (Reps.none _ _)))
                              intro v223 w32 ho33 hb hg_ hnew_
                              clear hg_ hnew_
                              (first | rw [← Ny222.out] at ho33 | (simp only [Int.reduceToNat] at ho33; rw [← Ny222.out] at ho33))
                              have n0_ := Aside0.mk (Kd.V_elder' (by exact vU HO_0.out) (Kd.R_base ho33) hb)
                              have n1_ := Aside0.mk (Kd.V_elder' (by exact vU HO218.out) (Kd.R_base ho33) hb)
                              have n2_ := Aside0.mk (Kd.V_elder' (by exact vU HO232.out) (Kd.R_base ho33) hb)
                              have n3_ := Aside0.mk (Kd.R_lower (Kd.R_newB (Kd.R_newM (M := fun k_ => (w.heap.size ≤ k_)) ho33 (below_size (by exact wS HB.out GE206.out)) (fun k_ h_ => h_)) (g := gb206) (o := .cells #[.int .i64 a1_0, .int .i64 a1_1, .int .i64 a1_2, .int .i64 a1_3, .int .i64 a1_4] 47 (0, 0)) (by (with_reducible repeat (first | refine blk_drewN ?_ _ | refine blk_drew ?_ | refine blk_alloc ?_ _)); exact BK206.out)) (below_size (by exact wS HB.out GE206.out)))
                              have n4_ := Aside0.mk (blk_below (g := gb206) (o := .cells #[.int .i64 a1_0, .int .i64 a1_1, .int .i64 a1_2, .int .i64 a1_3, .int .i64 a1_4] 47 (0, 0)) (by (with_reducible repeat (first | refine blk_drewN ?_ _ | refine blk_drew ?_ | refine blk_alloc ?_ _)); exact BK206.out) hb)
                              have n5_ := Aside0.mk (below_step (by exact wS HB.out GE206.out) hb)
                              clear HO_0 HO218 HO232 BK206 HB
                              have HO_0 := n0_
                              have HO218 := n1_
                              have HO232 := n2_
                              have HO224 := n3_
                              have BK206 := n4_
                              have HB := n5_
                              clear n0_ n1_ n2_ n3_ n4_ n5_ hb ho33
                              refine hK.out _ _ ⟨(blk_cell BK206.out 0).trans rfl, (blk_cell BK206.out 1).trans rfl, (blk_cell BK206.out 2).trans rfl, (blk_cell BK206.out 3).trans rfl, (blk_cell BK206.out 4).trans rfl⟩ (fun hHeld => ?_)
                              clear hK K
                              refine norm_ (a' := ?_) ?_ ?_
                              rotate_left
                              · show Act.put _ (some 41) _ = _
                                simp only [Act.put, List.setIfInBounds_toArray, List.set_cons_zero, List.set_cons_succ, i64_w, i32_w]
                                rfl
                              refine one_ (i := 0) (N := some 35) #[true, true, true, true, false, true, true, false, true, true, true, false, false] rfl rfl (one_of HT_.out (by kernel_rfl)) (by decide) (fun K hK => ?_)
                              refine Kd.R_lit_step k47 _ 47 ?hg (N := 35) ?hd (xs := ([] : List (S47))) (inner := []) (ok := fun _ => True) (okp := fun _ => True) ?hr ?hp (fun _ hk => hk) trivial (Below.refl _ _) (Nat.le_refl _) (by simp) ?_; (case hd => rfl); (case hg => rfl); (case hr => first | (go_simp; done) | (go_simp; rfl)); (case hp => exact (Reps.none _ _))
                              intro v212 w34 ho35 hb hg_ hnew_
                              clear hg_ hnew_
                              (first | rw [← Ny211.out] at ho35 | (simp only [Int.reduceToNat] at ho35; rw [← Ny211.out] at ho35))
                              have n0_ := Aside0.mk (Kd.V_elder' (by exact vU HO_0.out) (Kd.R_base ho35) hb)
                              have n1_ := Aside0.mk (Kd.V_elder' (by exact vU HO218.out) (Kd.R_base ho35) hb)
                              have n2_ := Aside0.mk (Kd.V_elder' (by exact vU HO232.out) (Kd.R_base ho35) hb)
                              have n3_ := Aside0.mk (Kd.R_elder' (by (with_reducible repeat (first | apply Kd.R_alloc | apply Kd.R_drewN | apply Kd.R_drew)); exact HO224.out) (Kd.R_base ho35) hb)
                              have n4_ := Aside0.mk (Kd.R_lower (Kd.R_newB (Kd.R_new' (Kd.R_newM (M := fun k_ => (w.heap.size ≤ k_)) ho35 (below_size (by exact wS HB.out GE206.out)) (fun k_ h_ => h_)) (Kd.R_lt (by (with_reducible repeat (first | apply Kd.R_alloc | apply Kd.R_drewN | apply Kd.R_drew)); exact HO224.out))) (g := gb206) (o := .cells #[.int .i64 a1_0, .int .i64 a1_1, .int .i64 a1_2, .int .i64 a1_3, .int .i64 a1_4] 47 (0, 0)) (by (with_reducible repeat (first | refine blk_drewN ?_ _ | refine blk_drew ?_ | refine blk_alloc ?_ _)); exact BK206.out)) (below_size (by exact wS HB.out GE206.out)))
                              have n5_ := Aside0.mk (blk_below (g := gb206) (o := .cells #[.int .i64 a1_0, .int .i64 a1_1, .int .i64 a1_2, .int .i64 a1_3, .int .i64 a1_4] 47 (0, 0)) (by (with_reducible repeat (first | refine blk_drewN ?_ _ | refine blk_drew ?_ | refine blk_alloc ?_ _)); exact BK206.out) hb)
                              have n6_ := Aside0.mk (below_step (by exact wS HB.out GE206.out) hb)
                              clear HO_0 HO218 HO232 HO224 BK206 HB
                              have HO_0 := n0_
                              have HO218 := n1_
                              have HO232 := n2_
                              have HO224 := n3_
                              have HO213 := n4_
                              have BK206 := n5_
                              have HB := n6_
                              clear n0_ n1_ n2_ n3_ n4_ n5_ n6_ hb ho35
                              refine hK.out _ _ ⟨(blk_cell BK206.out 0).trans rfl, (blk_cell BK206.out 1).trans rfl, (blk_cell BK206.out 2).trans rfl, (blk_cell BK206.out 3).trans rfl, (blk_cell BK206.out 4).trans rfl⟩ (fun hHeld => ?_)
                              clear hK K
                              refine norm_ (a' := ?_) ?_ ?_
                              rotate_left
                              · show Act.put _ (some 35) _ = _
                                simp only [Act.put, List.setIfInBounds_toArray, List.set_cons_zero, List.set_cons_succ, i64_w, i32_w]
                                rfl
                              refine one_ (i := 4) (N := some 39) #[true, true, true, true, true, true, true, false, true, true, true, false, false] rfl rfl (one_of HT_.out (by kernel_rfl)) (by decide) (fun K hK => ?_)
                              refine Kd.R_append_rows_step k47 (w0 := w) w.heap.size (by rfl) (.tmp 35) (.tmp 38) 39 47 (.agg #[(.int .i64 0), (.int .i64 0), (.int .i64 0), (.int .i64 0), (.int .i64 0)]) 40 rfl Try.underlying39 info47 rfl (by decide) (by omega) v212 y211 y214 _ _ _ (fun k_ => (w.heap.size ≤ k_) ∧ some k_ ≠ (v223 : Value).ownBlock ∧ k_ ≠ gb206) (fun _ => False) rfl rfl ?aO ?aR (fun _ _ h => h) (fun _ h => h.elim) ?aF ?aB ?aS ?aL ?_
                              (case aR => repeat (first | exact (Kd.V_reads' HO218.out).2.2 | (with_reducible refine Kd.C_alloc ?_ _) | (with_reducible refine Kd.C_drewN ?_ _) | (with_reducible refine Kd.C_drew ?_)))
                              (case aB => exact (by exact wS HB.out GE206.out))
                              (case aF => exact (fun k_ hk => ⟨(Nat.le_trans (below_size (by exact wS HB.out GE206.out)) hk), Kd.fresh' (Kd.R_lt (by (with_reducible repeat (first | apply Kd.R_alloc | apply Kd.R_drewN | apply Kd.R_drew)); exact HO224.out)) k_ hk, Kd.freshB (g := gb206) (o := .cells #[.int .i64 a1_0, .int .i64 a1_1, .int .i64 a1_2, .int .i64 a1_3, .int .i64 a1_4] 47 (0, 0)) (by (with_reducible repeat (first | refine blk_drewN ?_ _ | refine blk_drew ?_ | refine blk_alloc ?_ _)); exact BK206.out) k_ hk⟩))
                              (case aO => exact (by (with_reducible repeat (first | apply Kd.R_alloc | apply Kd.R_drewN | apply Kd.R_drew)); exact Kd.R_mono HO213.out (fun _ hk => ⟨hk.1.1.1, ⟨hk.1.2, hk.2⟩⟩)))
                              (case aS => exact (below_size (by exact wS HB.out GE206.out)))
                              (case aL => have := LMc20.out; omega)
                              intro v220 w36 ho hb hg hat
                              rw [← Ny219.out] at ho
                              have n0_ := Aside0.mk (Kd.V_afterv (ok := (fun k_ => (P0_ k_ ∨ w.heap.size ≤ k_) ∧ some k_ ≠ (v223 : Value).ownBlock ∧ k_ ≠ gb206)) (by exact vU (Kd.V_mono HO_0.out (fun _ hk => ⟨⟨hk.1.1.1, ⟨hk.1.2, hk.1.1.2⟩⟩, hk.2⟩))) hg hat)
                              have n1_ := Aside0.mk (blk_grown (g := gb206) (o := .cells #[.int .i64 a1_0, .int .i64 a1_1, .int .i64 a1_2, .int .i64 a1_3, .int .i64 a1_4] 47 (0, 0)) (by (with_reducible repeat (first | refine blk_drewN ?_ _ | refine blk_drew ?_ | refine blk_alloc ?_ _)); exact BK206.out) hg (Kd.R_away HO213.out (fun _ hk => hk.2)))
                              have n2_ := Aside0.mk (Kd.V_afterv (ok := (fun k_ => (P0_ k_ ∨ w.heap.size ≤ k_) ∧ some k_ ≠ (v223 : Value).ownBlock ∧ k_ ≠ gb206)) (by exact vU (Kd.V_mono HO218.out (fun _ hk => ⟨⟨hk.1.1.1, ⟨hk.1.2, hk.1.1.2⟩⟩, hk.2⟩))) hg hat)
                              have n3_ := Aside0.mk (Kd.V_afterv (ok := (fun k_ => (P0_ k_ ∨ w.heap.size ≤ k_) ∧ some k_ ≠ (v223 : Value).ownBlock ∧ k_ ≠ gb206)) (by exact vU (Kd.V_mono HO232.out (fun _ hk => ⟨⟨hk.1.1.1, ⟨hk.1.2, hk.1.1.2⟩⟩, hk.2⟩))) hg hat)
                              have n4_ := Aside0.mk (Kd.R_after (ok := (fun k_ => (w.heap.size ≤ k_) ∧ k_ ≠ gb206)) (by (with_reducible repeat (first | apply Kd.R_alloc | apply Kd.R_drewN | apply Kd.R_drew)); exact Kd.R_mono HO224.out (fun _ hk => ⟨⟨hk.1.1.1, hk.1.2⟩, hk.2⟩)) hg hat)
                              have n5_ := Aside0.mk (hb)
                              have n6_ := Aside0.mk (ho)
                              clear HO_0 BK206 HO218 HO232 HO224 HB HO213
                              have HO_0 := n0_
                              have BK206 := n1_
                              have HO218 := n2_
                              have HO232 := n3_
                              have HO224 := n4_
                              have HB := n5_
                              have HO221 := n6_
                              clear n0_ n1_ n2_ n3_ n4_ n5_ n6_ ho hb hg hat
                              refine hK.out _ _ ⟨(blk_cell BK206.out 0).trans rfl, (blk_cell BK206.out 1).trans rfl, (blk_cell BK206.out 2).trans rfl, (blk_cell BK206.out 3).trans rfl, (blk_cell BK206.out 4).trans rfl⟩ (fun hHeld => ?_)
                              clear hK K
                              refine norm_ (a' := ?_) ?_ ?_
                              rotate_left
                              · show Act.put _ (some 39) _ = _
                                simp only [Act.put, List.setIfInBounds_toArray, List.set_cons_zero, List.set_cons_succ, i64_w, i32_w]
                                rfl
                              exact norm_ (by simp only [putAll, Act.put, List.setIfInBounds_toArray, List.set_cons_zero, List.set_cons_succ]) (hCont (v212, v220, v223) _ ⟨hHeld, (by exact vU (Kd.V_mono HO218.out (fun _ hk => ⟨hk.1.1, ⟨hk.2, ⟨hk.1.2.1, hk.1.2.2⟩⟩⟩))), (by (with_reducible repeat (first | apply Kd.R_alloc | apply Kd.R_drewN | apply Kd.R_drew)); exact HO221.out), (by (with_reducible repeat (first | apply Kd.R_alloc | apply Kd.R_drewN | apply Kd.R_drew)); exact Kd.R_mono HO224.out (fun _ hk => ⟨hk.1.1, ⟨hk.2, hk.1.2⟩⟩)), (by exact vU (Kd.V_mono HO232.out (fun _ hk => ⟨hk.1.1, ⟨hk.2, ⟨hk.1.2.1, hk.1.2.2⟩⟩⟩))), (by exact vU (Kd.V_mono HO_0.out (fun _ hk => ⟨hk.1.1, ⟨hk.2, ⟨hk.1.2.1, hk.1.2.2⟩⟩⟩))), (by (with_reducible repeat (first | refine blk_drewN ?_ _ | refine blk_drew ?_ | refine blk_alloc ?_ _)); exact BK206.out), (by exact wS HB.out GE206.out)⟩)
                          rintro ⟨v212, v220, v223⟩ w37 ⟨hS_, h0_, h1_, h2_, h3_, h4_, h5_, h6_⟩
                          have n0_ : Aside0 (Kd.V k47 47 w37 w.heap.size (fun k_ => (P0_ k_ ∨ w.heap.size ≤ k_) ∧ some k_ ≠ (v220 : Value).ownBlock ∧ some k_ ≠ (v223 : Value).ownBlock ∧ k_ ≠ gb206) (.slice (some ad207) y214.length c0) y214) := ⟨h0_⟩
                          have n1_ : Aside0 (Kd.R k47 47 w37 w.heap.size (fun k_ => (w.heap.size ≤ k_) ∧ some k_ ≠ (v223 : Value).ownBlock ∧ k_ ≠ gb206) v220 y219) := ⟨h1_⟩
                          have n2_ : Aside0 (Kd.R k47 47 w37 w.heap.size (fun k_ => (w.heap.size ≤ k_) ∧ some k_ ≠ (v220 : Value).ownBlock ∧ k_ ≠ gb206) v223 y222) := ⟨h2_⟩
                          have n3_ : Aside0 (Kd.V k47 47 w37 w.heap.size (fun k_ => (P0_ k_ ∨ w.heap.size ≤ k_) ∧ some k_ ≠ (v220 : Value).ownBlock ∧ some k_ ≠ (v223 : Value).ownBlock ∧ k_ ≠ gb206) (.slice A31 y228.length c31) y228) := ⟨h3_⟩
                          have n4_ : Aside0 (Kd.V k47 47 w37 w.heap.size (fun k_ => (P0_ k_ ∨ w.heap.size ≤ k_) ∧ some k_ ≠ (v220 : Value).ownBlock ∧ some k_ ≠ (v223 : Value).ownBlock ∧ k_ ≠ gb206) (.slice (some ad207) l0.length c0) l0) := ⟨h4_⟩
                          have n5_ : Aside0 (w37.heap[gb206]? = some (.cells #[.int .i64 a1_0, .int .i64 a1_1, .int .i64 a1_2, .int .i64 a1_3, .int .i64 a1_4] 47 (0, 0))) := ⟨h5_⟩
                          have n6_ : Aside0 (Below w.heap.size w w37) := ⟨h6_⟩
                          clear HO_0 BK206 HB h0_ h1_ h2_ h3_ h4_ h5_ h6_
                          have HO218 := n0_
                          have HO221 := n1_
                          have HO224 := n2_
                          have HO232 := n3_
                          have HO_0 := n4_
                          have BK206 := n5_
                          have HB := n6_
                          clear n0_ n1_ n2_ n3_ n4_ n5_ n6_
                          have hHeld : w37.cell? ⟨gb206, 0, none⟩ = some (.int .i64 a1_0) ∧ w37.cell? ⟨gb206, 1, none⟩ = some (.int .i64 a1_1) ∧ w37.cell? ⟨gb206, 2, none⟩ = some (.int .i64 a1_2) ∧ w37.cell? ⟨gb206, 3, none⟩ = some (.int .i64 a1_3) ∧ w37.cell? ⟨gb206, 4, none⟩ = some (.int .i64 a1_4) := hS_
                          obtain ⟨Ao39, co39, eo39⟩ := Kd.R_slice HO224.out
                          (first | subst eo39 | (injection eo39 with f1_ f2_ f3_; have f4_ := f1_.symm; have f5_ := f3_.symm; clear f1_ f2_ f3_; subst f4_; subst f5_))
                          refine norm_ (a' := ?_) ?_ ?_
                          rotate_left
                          · simp only [putAll, Act.put, List.setIfInBounds_toArray, List.set_cons_zero, List.set_cons_succ]
                            rfl
                          refine one_ (i := 7) (N := some 42) #[true, true, true, true, true, true, true, true, true, true, true, false, false] rfl rfl (one_of HT_.out (by kernel_rfl)) (by decide) (fun K hK => ?_)
                          refine Kd.R_append_rows_step k47 (w0 := w) w.heap.size (by rfl) (.tmp 39) (.tmp 41) 39 47 (.agg #[(.int .i64 0), (.int .i64 0), (.int .i64 0), (.int .i64 0), (.int .i64 0)]) 40 rfl Try.underlying39 info47 rfl (by decide) (by omega) v220 y219 y222 _ _ _ (fun k_ => (w.heap.size ≤ k_) ∧ some k_ ≠ (.slice Ao39 y222.length co39 : Value).ownBlock ∧ k_ ≠ gb206) (fun _ => False) rfl rfl ?aO ?aR (fun _ _ h => h) (fun _ h => h.elim) ?aF ?aB ?aS ?aL ?_
                          (case aR => repeat (first | exact (Kd.R_reads' HO224.out).2.2 | (with_reducible refine Kd.C_alloc ?_ _) | (with_reducible refine Kd.C_drewN ?_ _) | (with_reducible refine Kd.C_drew ?_)))
                          (case aB => exact (by exact wS HB.out GE206.out))
                          (case aF => exact (fun k_ hk => ⟨(Nat.le_trans (below_size (by exact wS HB.out GE206.out)) hk), Kd.fresh' (Kd.R_lt (by (with_reducible repeat (first | apply Kd.R_alloc | apply Kd.R_drewN | apply Kd.R_drew)); exact HO224.out)) k_ hk, Kd.freshB (g := gb206) (o := .cells #[.int .i64 a1_0, .int .i64 a1_1, .int .i64 a1_2, .int .i64 a1_3, .int .i64 a1_4] 47 (0, 0)) (by (with_reducible repeat (first | refine blk_drewN ?_ _ | refine blk_drew ?_ | refine blk_alloc ?_ _)); exact BK206.out) k_ hk⟩))
                          (case aO => exact (by (with_reducible repeat (first | apply Kd.R_alloc | apply Kd.R_drewN | apply Kd.R_drew)); exact HO221.out))
                          (case aS => exact (below_size (by exact wS HB.out GE206.out)))
                          (case aL => have := LMc21.out; omega)
                          intro v226 w38 ho hb hg hat
                          rw [← Ny225.out] at ho
                          have n0_ := Aside0.mk (Kd.V_afterv (ok := (fun k_ => (P0_ k_ ∨ w.heap.size ≤ k_) ∧ some k_ ≠ (.slice Ao39 y222.length co39 : Value).ownBlock ∧ k_ ≠ gb206)) (by exact vU (Kd.V_mono HO_0.out (fun _ hk => ⟨⟨hk.1, ⟨hk.2.2.1, hk.2.2.2⟩⟩, hk.2.1⟩))) hg hat)
                          have n1_ := Aside0.mk (blk_grown (g := gb206) (o := .cells #[.int .i64 a1_0, .int .i64 a1_1, .int .i64 a1_2, .int .i64 a1_3, .int .i64 a1_4] 47 (0, 0)) (by (with_reducible repeat (first | refine blk_drewN ?_ _ | refine blk_drew ?_ | refine blk_alloc ?_ _)); exact BK206.out) hg (Kd.R_away HO221.out (fun _ hk => hk.2.2)))
                          have n2_ := Aside0.mk (Kd.V_afterv (ok := (fun k_ => (P0_ k_ ∨ w.heap.size ≤ k_) ∧ some k_ ≠ (.slice Ao39 y222.length co39 : Value).ownBlock ∧ k_ ≠ gb206)) (by exact vU (Kd.V_mono HO218.out (fun _ hk => ⟨⟨hk.1, ⟨hk.2.2.1, hk.2.2.2⟩⟩, hk.2.1⟩))) hg hat)
                          have n3_ := Aside0.mk (Kd.V_afterv (ok := (fun k_ => (P0_ k_ ∨ w.heap.size ≤ k_) ∧ some k_ ≠ (.slice Ao39 y222.length co39 : Value).ownBlock ∧ k_ ≠ gb206)) (by exact vU (Kd.V_mono HO232.out (fun _ hk => ⟨⟨hk.1, ⟨hk.2.2.1, hk.2.2.2⟩⟩, hk.2.1⟩))) hg hat)
                          have n4_ := Aside0.mk (Kd.R_after (ok := (fun k_ => (w.heap.size ≤ k_) ∧ k_ ≠ gb206)) (by (with_reducible repeat (first | apply Kd.R_alloc | apply Kd.R_drewN | apply Kd.R_drew)); exact Kd.R_mono HO224.out (fun _ hk => ⟨⟨hk.1, hk.2.2⟩, hk.2.1⟩)) hg hat)
                          have n5_ := Aside0.mk (hb)
                          have n6_ := Aside0.mk (ho)
                          clear HO_0 BK206 HO218 HO232 HO224 HB HO221
                          have HO_0 := n0_
                          have BK206 := n1_
                          have HO218 := n2_
                          have HO232 := n3_
                          have HO224 := n4_
                          have HB := n5_
                          have HO227 := n6_
                          clear n0_ n1_ n2_ n3_ n4_ n5_ n6_ ho hb hg hat
                          refine hK.out _ _ ⟨(blk_cell BK206.out 0).trans rfl, (blk_cell BK206.out 1).trans rfl, (blk_cell BK206.out 2).trans rfl, (blk_cell BK206.out 3).trans rfl, (blk_cell BK206.out 4).trans rfl⟩ (fun hHeld => ?_)
                          clear hK K
                          refine norm_ (a' := ?_) ?_ ?_
                          rotate_left
                          · show Act.put _ (some 42) _ = _
                            simp only [Act.put, List.setIfInBounds_toArray, List.set_cons_zero, List.set_cons_succ, i64_w, i32_w]
                            rfl
                          refine one_ (i := 11) (N := some 46) #[true, true, true, true, true, true, true, true, true, true, true, true, false] rfl rfl (one_of HT_.out (by kernel_rfl)) (by decide) (fun K hK => ?_)
                          refine Kd.R_append_rows_step k47 (w0 := w) w.heap.size (by rfl) (.tmp 42) (.tmp 45) 39 47 (.agg #[(.int .i64 0), (.int .i64 0), (.int .i64 0), (.int .i64 0), (.int .i64 0)]) 40 rfl Try.underlying39 info47 rfl (by decide) (by omega) v226 y225 y228 _ _ _ (fun k_ => (w.heap.size ≤ k_) ∧ some k_ ≠ (.slice Ao39 y222.length co39 : Value).ownBlock ∧ k_ ≠ gb206) (fun _ => False) rfl rfl ?aO ?aR (fun _ _ h => h) (fun _ h => h.elim) ?aF ?aB ?aS ?aL ?_
                          (case aR => repeat (first | exact (Kd.V_reads' HO232.out).2.2 | (with_reducible refine Kd.C_alloc ?_ _) | (with_reducible refine Kd.C_drewN ?_ _) | (with_reducible refine Kd.C_drew ?_)))
                          (case aB => exact (by exact wS HB.out GE206.out))
                          (case aF => exact (fun k_ hk => ⟨(Nat.le_trans (below_size (by exact wS HB.out GE206.out)) hk), Kd.fresh' (Kd.R_lt (by (with_reducible repeat (first | apply Kd.R_alloc | apply Kd.R_drewN | apply Kd.R_drew)); exact HO224.out)) k_ hk, Kd.freshB (g := gb206) (o := .cells #[.int .i64 a1_0, .int .i64 a1_1, .int .i64 a1_2, .int .i64 a1_3, .int .i64 a1_4] 47 (0, 0)) (by (with_reducible repeat (first | refine blk_drewN ?_ _ | refine blk_drew ?_ | refine blk_alloc ?_ _)); exact BK206.out) k_ hk⟩))
                          (case aO => exact (by (with_reducible repeat (first | apply Kd.R_alloc | apply Kd.R_drewN | apply Kd.R_drew)); exact HO227.out))
                          (case aS => exact (below_size (by exact wS HB.out GE206.out)))
                          (case aL => have := LMc24.out; omega)
                          intro v234 w40 ho hb hg hat
                          rw [← Ny233.out] at ho
                          have n0_ := Aside0.mk (Kd.V_afterv (ok := (fun k_ => (P0_ k_ ∨ w.heap.size ≤ k_) ∧ some k_ ≠ (.slice Ao39 y222.length co39 : Value).ownBlock ∧ k_ ≠ gb206)) (by exact vU HO_0.out) hg hat)
                          have n1_ := Aside0.mk (blk_grown (g := gb206) (o := .cells #[.int .i64 a1_0, .int .i64 a1_1, .int .i64 a1_2, .int .i64 a1_3, .int .i64 a1_4] 47 (0, 0)) (by (with_reducible repeat (first | refine blk_drewN ?_ _ | refine blk_drew ?_ | refine blk_alloc ?_ _)); exact BK206.out) hg (Kd.R_away HO227.out (fun _ hk => hk.2.2)))
                          have n2_ := Aside0.mk (Kd.V_afterv (ok := (fun k_ => (P0_ k_ ∨ w.heap.size ≤ k_) ∧ some k_ ≠ (.slice Ao39 y222.length co39 : Value).ownBlock ∧ k_ ≠ gb206)) (by exact vU HO218.out) hg hat)
                          have n3_ := Aside0.mk (Kd.V_afterv (ok := (fun k_ => (P0_ k_ ∨ w.heap.size ≤ k_) ∧ some k_ ≠ (.slice Ao39 y222.length co39 : Value).ownBlock ∧ k_ ≠ gb206)) (by exact vU HO232.out) hg hat)
                          have n4_ := Aside0.mk (Kd.R_after (ok := (fun k_ => (w.heap.size ≤ k_) ∧ k_ ≠ gb206)) (by (with_reducible repeat (first | apply Kd.R_alloc | apply Kd.R_drewN | apply Kd.R_drew)); exact HO224.out) hg hat)
                          have n5_ := Aside0.mk (hb)
                          have n6_ := Aside0.mk (ho)
                          clear HO_0 BK206 HO218 HO232 HO224 HB HO227
                          have HO_0 := n0_
                          have BK206 := n1_
                          have HO218 := n2_
                          have HO232 := n3_
                          have HO224 := n4_
                          have HB := n5_
                          have HO235 := n6_
                          clear n0_ n1_ n2_ n3_ n4_ n5_ n6_ ho hb hg hat
                          refine hK.out _ _ ⟨(blk_cell BK206.out 0).trans rfl, (blk_cell BK206.out 1).trans rfl, (blk_cell BK206.out 2).trans rfl, (blk_cell BK206.out 3).trans rfl, (blk_cell BK206.out 4).trans rfl⟩ (fun hHeld => ?_)
                          clear hK K
                          refine norm_ (a' := ?_) ?_ ?_
                          rotate_left
                          · show Act.put _ (some 46) _ = _
                            simp only [Act.put, List.setIfInBounds_toArray, List.set_cons_zero, List.set_cons_succ, i64_w, i32_w]
                            rfl
                          refine pure_ (i := 12) (N := some 4) (v := ?_) (a' := ?_) #[true, true, true, true, true, true, true, true, true, true, true, true, true] rfl rfl (any_of HT_.out (by kernel_rfl)) (fun _ _ _ h => h) (Or.inl ⟨by rfl, ?_⟩) ?_ ?_
                          rotate_left
                          · intro w'
                            go_simp
                            with_reducible rfl
                          rotate_left
                          · simp only [Act.put, List.setIfInBounds_toArray, List.set_cons_zero, List.set_cons_succ, i64_w, i32_w]
                            rfl
                          refine done_ (done_of HT_.out (by kernel_rfl)) ?_
                          try go_wp2
                          go_ret
                          exact ⟨_, by first | rfl | (simp [errW_none, errW_some] <;> rfl) | (simp only [← hji5]; first | rfl | (simp [errW_none, errW_some] <;> rfl)) | (simp [*, errW_none, errW_some] <;> rfl), Kd.V_mono (Kd.R_V (by (with_reducible repeat (first | apply Kd.R_alloc | apply Kd.R_drewN | apply Kd.R_drew)); exact Kd.R_mono HO235.out (fun _ hk => hk.1))) (fun k_ hk => by first | exact ⟨(.inr (hk.1)), hk.2⟩ | exact (.inr (hk))), by exact wS HB.out GE206.out⟩
                        · rw [if_neg c24] at H
                          exact absurd H (by simp)
                      · rw [if_neg c21] at H
                        exact absurd H (by simp)
                    · rw [if_neg c20] at H
                      exact absurd H (by simp)
                  · rw [if_neg c19] at H
                    exact absurd H (by simp)
                · rw [if_neg c18] at H
                  exact absurd H (by simp)
          · rw [if_neg c7] at H
            exact absurd H (by simp)
        · rw [if_neg c6] at H
          exact absurd H (by simp)
      · rw [if_neg c4] at H
        have c4b0 : decide (0 < x5_1) = false := decide_eq_false c4
        clear c4
        obtain ⟨y236, hy236⟩ : ∃ y_ : List (S47), y_ = (([] : List (S47))) := ⟨_, rfl⟩
        replace H : (if 0 ≤ x5_1 then (if x5_1 ≤ (l0.length : Int) then ((some (l0.take (x5_1 : Int).toNat : List (S47))).bind fun y239 => (if y236.length + y239.length < 3518437208883 then ((some (y236 ++ y239 : List (S47))).bind fun y244 => ((some (([(⟨a1_0, a1_1, a1_2, a1_3, a1_4⟩ : S47)] : List (S47)) : List (S47))).bind fun y247 => (if y244.length + y247.length < 3518437208883 then ((some (y244 ++ y247 : List (S47))).bind fun y250 => ((some (l0.drop (x5_1 : Int).toNat : List (S47))).bind fun y253 => (if y250.length + y253.length < 3518437208883 then (some (y250 ++ y253)) else (none)))) else (none)))) else (none))) else (none)) else (none)) = some r := by first | (rw [hy236]; with_reducible exact H) | (have H2_ := (Option.bind_some _ _).symm.trans H; rw [hy236]; with_reducible exact H2_) | (have H2_ := (Option.bind_some _ _).symm.trans H; with_reducible exact H2_) | with_reducible exact H | (rw [hy236]; exact H) | exact H
        have Ny236 := Aside0.mk hy236
        clear hy236
        by_cases c41 : 0 ≤ x5_1
        · rw [if_pos c41] at H
          have c41b0 := eq_true c41
          have c41b1 : decide (0 ≤ x5_1) = true := decide_eq_true c41
          clear c41
          by_cases c42 : x5_1 ≤ (l0.length : Int)
          · rw [if_pos c42] at H
            have c42b0 := eq_true c42
            have c42b1 : decide (x5_1 ≤ (l0.length : Int)) = true := decide_eq_true c42
            clear c42
            obtain ⟨y239, hy239⟩ : ∃ y_ : List (S47), y_ = (l0.take (x5_1 : Int).toNat) := ⟨_, rfl⟩
            replace H : (if y236.length + y239.length < 3518437208883 then ((some (y236 ++ y239 : List (S47))).bind fun y244 => ((some (([(⟨a1_0, a1_1, a1_2, a1_3, a1_4⟩ : S47)] : List (S47)) : List (S47))).bind fun y247 => (if y244.length + y247.length < 3518437208883 then ((some (y244 ++ y247 : List (S47))).bind fun y250 => ((some (l0.drop (x5_1 : Int).toNat : List (S47))).bind fun y253 => (if y250.length + y253.length < 3518437208883 then (some (y250 ++ y253)) else (none)))) else (none)))) else (none)) = some r := by first | (rw [hy239]; with_reducible exact H) | (have H2_ := (Option.bind_some _ _).symm.trans H; rw [hy239]; with_reducible exact H2_) | (have H2_ := (Option.bind_some _ _).symm.trans H; with_reducible exact H2_) | with_reducible exact H | (rw [hy239]; exact H) | exact H
            have Ny239 := Aside0.mk hy239
            clear hy239
            by_cases c43 : y236.length + y239.length < 3518437208883
            · rw [if_pos c43] at H
              have LMc43 := Aside0.mk c43
              clear c43
              obtain ⟨y244, hy244⟩ : ∃ y_ : List (S47), y_ = (y236 ++ y239) := ⟨_, rfl⟩
              replace H : ((some (([(⟨a1_0, a1_1, a1_2, a1_3, a1_4⟩ : S47)] : List (S47)) : List (S47))).bind fun y247 => (if y244.length + y247.length < 3518437208883 then ((some (y244 ++ y247 : List (S47))).bind fun y250 => ((some (l0.drop (x5_1 : Int).toNat : List (S47))).bind fun y253 => (if y250.length + y253.length < 3518437208883 then (some (y250 ++ y253)) else (none)))) else (none))) = some r := by first | (rw [hy244]; with_reducible exact H) | (have H2_ := (Option.bind_some _ _).symm.trans H; rw [hy244]; with_reducible exact H2_) | (have H2_ := (Option.bind_some _ _).symm.trans H; with_reducible exact H2_) | with_reducible exact H | (rw [hy244]; exact H) | exact H
              have Ny244 := Aside0.mk hy244
              clear hy244
              obtain ⟨y247, hy247⟩ : ∃ y_ : List (S47), y_ = (([(⟨a1_0, a1_1, a1_2, a1_3, a1_4⟩ : S47)] : List (S47))) := ⟨_, rfl⟩
              replace H : (if y244.length + y247.length < 3518437208883 then ((some (y244 ++ y247 : List (S47))).bind fun y250 => ((some (l0.drop (x5_1 : Int).toNat : List (S47))).bind fun y253 => (if y250.length + y253.length < 3518437208883 then (some (y250 ++ y253)) else (none)))) else (none)) = some r := by first | (rw [hy247]; with_reducible exact H) | (have H2_ := (Option.bind_some _ _).symm.trans H; rw [hy247]; with_reducible exact H2_) | (have H2_ := (Option.bind_some _ _).symm.trans H; with_reducible exact H2_) | with_reducible exact H | (rw [hy247]; exact H) | exact H
              have Ny247 := Aside0.mk hy247
              clear hy247
              by_cases c44 : y244.length + y247.length < 3518437208883
              · rw [if_pos c44] at H
                have LMc44 := Aside0.mk c44
                clear c44
                obtain ⟨y250, hy250⟩ : ∃ y_ : List (S47), y_ = (y244 ++ y247) := ⟨_, rfl⟩
                replace H : ((some (l0.drop (x5_1 : Int).toNat : List (S47))).bind fun y253 => (if y250.length + y253.length < 3518437208883 then (some (y250 ++ y253)) else (none))) = some r := by first | (rw [hy250]; with_reducible exact H) | (have H2_ := (Option.bind_some _ _).symm.trans H; rw [hy250]; with_reducible exact H2_) | (have H2_ := (Option.bind_some _ _).symm.trans H; with_reducible exact H2_) | with_reducible exact H | (rw [hy250]; exact H) | exact H
                have Ny250 := Aside0.mk hy250
                clear hy250
                have c45b0 := eq_true (of_decide_eq_true (by first | (with_reducible assumption) | assumption) : 0 ≤ x5_1)
                have c46b0 := eq_true (of_decide_eq_true (by first | (with_reducible assumption) | assumption) : x5_1 ≤ (l0.length : Int))
                obtain ⟨y253, hy253⟩ : ∃ y_ : List (S47), y_ = (l0.drop (x5_1 : Int).toNat) := ⟨_, rfl⟩
                replace H : (if y250.length + y253.length < 3518437208883 then (some (y250 ++ y253)) else (none)) = some r := by first | (rw [hy253]; with_reducible exact H) | (have H2_ := (Option.bind_some _ _).symm.trans H; rw [hy253]; with_reducible exact H2_) | (have H2_ := (Option.bind_some _ _).symm.trans H; with_reducible exact H2_) | with_reducible exact H | (rw [hy253]; exact H) | exact H
                have Ny253 := Aside0.mk hy253
                clear hy253
                by_cases c47 : y250.length + y253.length < 3518437208883
                · rw [if_pos c47] at H
                  have LMc47 := Aside0.mk c47
                  clear c47
                  obtain ⟨y258, hy258⟩ : ∃ y_ : List (S47), y_ = (y250 ++ y253) := ⟨_, rfl⟩
                  replace H : (some y258) = some r := by first | (rw [hy258]; with_reducible exact H) | (have H2_ := (Option.bind_some _ _).symm.trans H; rw [hy258]; with_reducible exact H2_) | (have H2_ := (Option.bind_some _ _).symm.trans H; with_reducible exact H2_) | with_reducible exact H | (rw [hy258]; exact H) | exact H
                  have Ny258 := Aside0.mk hy258
                  clear hy258
                  obtain rfl := Option.some.inj H
                  try go_wp2
                  have n0_ := Aside0.mk (Kd.V_drew HO_0.out)
                  have n1_ := Aside0.mk (blk_drew BK206.out)
                  have n2_ := Aside0.mk (below_drew1 HB.out)
                  clear HO_0 BK206 HB
                  have HO_0 := n0_
                  have BK206 := n1_
                  have HB := n2_
                  clear n0_ n1_ n2_
                  refine start_ (n := 12) (S := fun w' => True) (ds := []) #[false, false, false, false, false, false, false, false, false, false, false, false] (by kernel_rfl) rfl rfl trivial (fun hHeld => ?_); refine with_tabW interlocutorref6_put.tab2 interlocutorref6_put.bits2 (fun HT_ HW_ => ?_)
                  generalize wr.drew = w48 at HO_0 BK206 HB hHeld ⊢
                  refine pure_ (i := 0) (N := some 8) (v := ?_) (a' := ?_) #[true, false, false, false, false, false, false, false, false, false, false, false] rfl rfl (any_of HT_.out (by kernel_rfl)) (fun _ _ _ h => h) (Or.inl ⟨by rfl, ?_⟩) ?_ ?_
                  rotate_left
                  · intro w'
                    go_simp
                    with_reducible rfl
                  rotate_left
                  · simp only [Act.put, List.setIfInBounds_toArray, List.set_cons_zero, List.set_cons_succ, i64_w, i32_w]
                    rfl
                  refine pure_ (i := 1) (N := some 9) (v := ?_) (a' := ?_) #[true, true, false, false, false, false, false, false, false, false, false, false] rfl rfl (any_of HT_.out (by kernel_rfl)) (fun _ _ _ h => h) (Or.inl ⟨by rfl, ?_⟩) ?_ ?_
                  rotate_left
                  · intro w'
                    go_simp
                    with_reducible rfl
                  rotate_left
                  · simp only [Act.put, List.setIfInBounds_toArray, List.set_cons_zero, List.set_cons_succ, i64_w, i32_w]
                    rfl
                  refine pure_ (i := 2) (N := some 10) (v := ?_) (a' := ?_) #[true, true, true, false, false, false, false, false, false, false, false, false] rfl rfl (any_of HT_.out (by kernel_rfl)) (fun _ _ _ h => h) (Or.inl ⟨by rfl, ?_⟩) ?_ ?_
                  rotate_left
                  · intro w'
                    go_simp
                    with_reducible rfl
                  rotate_left
                  · simp only [Act.put, List.setIfInBounds_toArray, List.set_cons_zero, List.set_cons_succ, i64_w, i32_w]
                    rfl
                  refine pure_ (i := 3) (N := some 11) (v := undef) (a' := ?_) #[true, true, true, true, false, false, false, false, false, false, false, false] rfl rfl (any_of HT_.out (by kernel_rfl)) (fun _ _ _ h => h) (Or.inr ⟨by rfl, rfl⟩) ?_ ?_
                  rotate_left
                  · simp only [Act.put, List.setIfInBounds_toArray, List.set_cons_zero, List.set_cons_succ, i64_w, i32_w]
                    rfl
                  refine pure_ (i := 4) (N := some 12) (v := undef) (a' := ?_) #[true, true, true, true, true, false, false, false, false, false, false, false] rfl rfl (any_of HT_.out (by kernel_rfl)) (fun _ _ _ h => h) (Or.inr ⟨by rfl, rfl⟩) ?_ ?_
                  rotate_left
                  · simp only [Act.put, List.setIfInBounds_toArray, List.set_cons_zero, List.set_cons_succ, i64_w, i32_w]
                    rfl
                  refine pure_ (i := 5) (N := some 13) (v := undef) (a' := ?_) #[true, true, true, true, true, true, false, false, false, false, false, false] rfl rfl (any_of HT_.out (by kernel_rfl)) (fun _ _ _ h => h) (Or.inr ⟨by rfl, rfl⟩) ?_ ?_
                  rotate_left
                  · simp only [Act.put, List.setIfInBounds_toArray, List.set_cons_zero, List.set_cons_succ, i64_w, i32_w]
                    rfl
                  refine pure_ (i := 6) (N := some 14) (v := undef) (a' := ?_) #[true, true, true, true, true, true, true, false, false, false, false, false] rfl rfl (any_of HT_.out (by kernel_rfl)) (fun _ _ _ h => h) (Or.inr ⟨by rfl, rfl⟩) ?_ ?_
                  rotate_left
                  · simp only [Act.put, List.setIfInBounds_toArray, List.set_cons_zero, List.set_cons_succ, i64_w, i32_w]
                    rfl
                  refine pure_ (i := 7) (N := some 15) (v := undef) (a' := ?_) #[true, true, true, true, true, true, true, true, false, false, false, false] rfl rfl (any_of HT_.out (by kernel_rfl)) (fun _ _ _ h => h) (Or.inr ⟨by rfl, rfl⟩) ?_ ?_
                  rotate_left
                  · simp only [Act.put, List.setIfInBounds_toArray, List.set_cons_zero, List.set_cons_succ, i64_w, i32_w]
                    rfl
                  refine pure_ (i := 8) (N := some 16) (v := undef) (a' := ?_) #[true, true, true, true, true, true, true, true, true, false, false, false] rfl rfl (any_of HT_.out (by kernel_rfl)) (fun _ _ _ h => h) (Or.inr ⟨by rfl, rfl⟩) ?_ ?_
                  rotate_left
                  · simp only [Act.put, List.setIfInBounds_toArray, List.set_cons_zero, List.set_cons_succ, i64_w, i32_w]
                    rfl
                  refine pure_ (i := 9) (N := some 17) (v := undef) (a' := ?_) #[true, true, true, true, true, true, true, true, true, true, false, false] rfl rfl (any_of HT_.out (by kernel_rfl)) (fun _ _ _ h => h) (Or.inr ⟨by rfl, rfl⟩) ?_ ?_
                  rotate_left
                  · simp only [Act.put, List.setIfInBounds_toArray, List.set_cons_zero, List.set_cons_succ, i64_w, i32_w]
                    rfl
                  refine pure_ (i := 10) (N := some 18) (v := undef) (a' := ?_) #[true, true, true, true, true, true, true, true, true, true, true, false] rfl rfl (any_of HT_.out (by kernel_rfl)) (fun _ _ _ h => h) (Or.inr ⟨by rfl, rfl⟩) ?_ ?_
                  rotate_left
                  · simp only [Act.put, List.setIfInBounds_toArray, List.set_cons_zero, List.set_cons_succ, i64_w, i32_w]
                    rfl
                  refine pure_ (i := 11) (N := some 19) (v := ?_) (a' := ?_) #[true, true, true, true, true, true, true, true, true, true, true, true] rfl rfl (any_of HT_.out (by kernel_rfl)) (fun _ _ _ h => h) (Or.inl ⟨by rfl, ?_⟩) ?_ ?_
                  rotate_left
                  · intro w'
                    go_simp
                    with_reducible rfl
                  rotate_left
                  · simp only [Act.put, List.setIfInBounds_toArray, List.set_cons_zero, List.set_cons_succ, i64_w, i32_w]
                    rfl
                  refine done_ (done_of HT_.out (by kernel_rfl)) ?_
                  try go_wp2
                  have n0_ := Aside0.mk (Kd.V_drew HO_0.out)
                  have n1_ := Aside0.mk (blk_drew BK206.out)
                  have n2_ := Aside0.mk (below_drew1 HB.out)
                  clear HO_0 BK206 HB
                  have HO_0 := n0_
                  have BK206 := n1_
                  have HB := n2_
                  clear n0_ n1_ n2_
                  refine start_ (n := 12) (S := fun w' => True) (ds := []) #[false, false, false, false, false, false, false, false, false, false, false, false] (by kernel_rfl) rfl rfl trivial (fun hHeld => ?_); refine with_tabW interlocutorref6_put.tab4 interlocutorref6_put.bits4 (fun HT_ HW_ => ?_)
                  generalize w48.drew = w49 at HO_0 BK206 HB hHeld ⊢
                  refine pure_ (i := 0) (N := some 22) (v := ?_) (a' := ?_) #[true, false, false, false, false, false, false, false, false, false, false, false] rfl rfl (any_of HT_.out (by kernel_rfl)) (fun _ _ _ h => h) (Or.inl ⟨by rfl, ?_⟩) ?_ ?_
                  rotate_left
                  · intro w'
                    go_simp
                    with_reducible rfl
                  rotate_left
                  · simp only [Act.put, List.setIfInBounds_toArray, List.set_cons_zero, List.set_cons_succ, i64_w, i32_w]
                    rfl
                  refine pure_ (i := 1) (N := some 23) (v := ?_) (a' := ?_) #[true, true, false, false, false, false, false, false, false, false, false, false] rfl rfl (any_of HT_.out (by kernel_rfl)) (fun _ _ _ h => h) (Or.inl ⟨by rfl, ?_⟩) ?_ ?_
                  rotate_left
                  · intro w'
                    go_simp
                    with_reducible rfl
                  rotate_left
                  · simp only [Act.put, List.setIfInBounds_toArray, List.set_cons_zero, List.set_cons_succ, i64_w, i32_w]
                    rfl
                  refine pure_ (i := 2) (N := some 24) (v := ?_) (a' := ?_) #[true, true, true, false, false, false, false, false, false, false, false, false] rfl rfl (any_of HT_.out (by kernel_rfl)) (fun _ _ _ h => h) (Or.inl ⟨by rfl, ?_⟩) ?_ ?_
                  rotate_left
                  · intro w'
                    go_simp
                    with_reducible rfl
                  rotate_left
                  · simp only [Act.put, List.setIfInBounds_toArray, List.set_cons_zero, List.set_cons_succ, i64_w, i32_w]
                    rfl
                  refine pure_ (i := 3) (N := some 25) (v := undef) (a' := ?_) #[true, true, true, true, false, false, false, false, false, false, false, false] rfl rfl (any_of HT_.out (by kernel_rfl)) (fun _ _ _ h => h) (Or.inr ⟨by rfl, rfl⟩) ?_ ?_
                  rotate_left
                  · simp only [Act.put, List.setIfInBounds_toArray, List.set_cons_zero, List.set_cons_succ, i64_w, i32_w]
                    rfl
                  refine pure_ (i := 4) (N := some 26) (v := undef) (a' := ?_) #[true, true, true, true, true, false, false, false, false, false, false, false] rfl rfl (any_of HT_.out (by kernel_rfl)) (fun _ _ _ h => h) (Or.inr ⟨by rfl, rfl⟩) ?_ ?_
                  rotate_left
                  · simp only [Act.put, List.setIfInBounds_toArray, List.set_cons_zero, List.set_cons_succ, i64_w, i32_w]
                    rfl
                  refine pure_ (i := 5) (N := some 27) (v := undef) (a' := ?_) #[true, true, true, true, true, true, false, false, false, false, false, false] rfl rfl (any_of HT_.out (by kernel_rfl)) (fun _ _ _ h => h) (Or.inr ⟨by rfl, rfl⟩) ?_ ?_
                  rotate_left
                  · simp only [Act.put, List.setIfInBounds_toArray, List.set_cons_zero, List.set_cons_succ, i64_w, i32_w]
                    rfl
                  refine pure_ (i := 6) (N := some 28) (v := undef) (a' := ?_) #[true, true, true, true, true, true, true, false, false, false, false, false] rfl rfl (any_of HT_.out (by kernel_rfl)) (fun _ _ _ h => h) (Or.inr ⟨by rfl, rfl⟩) ?_ ?_
                  rotate_left
                  · simp only [Act.put, List.setIfInBounds_toArray, List.set_cons_zero, List.set_cons_succ, i64_w, i32_w]
                    rfl
                  refine pure_ (i := 7) (N := some 29) (v := undef) (a' := ?_) #[true, true, true, true, true, true, true, true, false, false, false, false] rfl rfl (any_of HT_.out (by kernel_rfl)) (fun _ _ _ h => h) (Or.inr ⟨by rfl, rfl⟩) ?_ ?_
                  rotate_left
                  · simp only [Act.put, List.setIfInBounds_toArray, List.set_cons_zero, List.set_cons_succ, i64_w, i32_w]
                    rfl
                  refine pure_ (i := 8) (N := some 30) (v := undef) (a' := ?_) #[true, true, true, true, true, true, true, true, true, false, false, false] rfl rfl (any_of HT_.out (by kernel_rfl)) (fun _ _ _ h => h) (Or.inr ⟨by rfl, rfl⟩) ?_ ?_
                  rotate_left
                  · simp only [Act.put, List.setIfInBounds_toArray, List.set_cons_zero, List.set_cons_succ, i64_w, i32_w]
                    rfl
                  refine pure_ (i := 9) (N := some 31) (v := undef) (a' := ?_) #[true, true, true, true, true, true, true, true, true, true, false, false] rfl rfl (any_of HT_.out (by kernel_rfl)) (fun _ _ _ h => h) (Or.inr ⟨by rfl, rfl⟩) ?_ ?_
                  rotate_left
                  · simp only [Act.put, List.setIfInBounds_toArray, List.set_cons_zero, List.set_cons_succ, i64_w, i32_w]
                    rfl
                  refine pure_ (i := 10) (N := some 32) (v := undef) (a' := ?_) #[true, true, true, true, true, true, true, true, true, true, true, false] rfl rfl (any_of HT_.out (by kernel_rfl)) (fun _ _ _ h => h) (Or.inr ⟨by rfl, rfl⟩) ?_ ?_
                  rotate_left
                  · simp only [Act.put, List.setIfInBounds_toArray, List.set_cons_zero, List.set_cons_succ, i64_w, i32_w]
                    rfl
                  refine pure_ (i := 11) (N := some 33) (v := ?_) (a' := ?_) #[true, true, true, true, true, true, true, true, true, true, true, true] rfl rfl (any_of HT_.out (by kernel_rfl)) (fun _ _ _ h => h) (Or.inl ⟨by rfl, ?_⟩) ?_ ?_
                  rotate_left
                  · intro w'
                    go_simp
                    with_reducible rfl
                  rotate_left
                  · simp only [Act.put, List.setIfInBounds_toArray, List.set_cons_zero, List.set_cons_succ, i64_w, i32_w]
                    rfl
                  refine done_ (done_of HT_.out (by kernel_rfl)) ?_
                  try go_wp2
                  have n0_ := Aside0.mk (Kd.V_drew HO_0.out)
                  have n1_ := Aside0.mk (blk_drew BK206.out)
                  have n2_ := Aside0.mk (below_drew1 HB.out)
                  clear HO_0 BK206 HB
                  have HO_0 := n0_
                  have BK206 := n1_
                  have HB := n2_
                  clear n0_ n1_ n2_
                  have q51 : (x5_1 : Int) ≤ ((l0.length : Int) : Int) := of_decide_eq_true (by first | (with_reducible assumption) | assumption)
                  obtain ⟨i051, hi051, _, hsz51, _⟩ := info_parts info47
                  have hroom51 : l0.length ≤ c0 := (Kd.V_reads' HO_0.out).2.1
                  have hC51 : Kd.F k47 _ _ A0 l0.length l0 := (Kd.V_at (base := w.heap.size) HO_0.out).2.2
                  have hcut51 := cut_to (P := Try.prog) 39 47 .i64 Try.underlying39 hi051 A0 l0.length c0 x5_1 (of_decide_eq_true (by first | (with_reducible assumption) | assumption)) q51 hroom51
                  have hr51 := Kd.F_take (m := (x5_1 : Int).toNat) hC51 (by omega)
                  have hy51 : y239.length = (x5_1 : Int).toNat := (by rw [Ny239.out, List.length_take]; omega)
                  rw [← Ny239.out] at hr51
                  rw [← hy51] at hcut51
                  have HO243 := Aside0.mk (show Kd.V k47 47 _ w.heap.size _ (.slice A0 y239.length c0) y239 from Kd.V_mk (by omega) hr51)
                  have HC243 := Aside0.mk (show y239.length ≤ c0 from by omega)
                  clear hr51 hC51 hroom51 hi051 hsz51
                  have KY51 := Aside0.mk hy51
                  clear hy51
                  replace q51 := eq_true q51
                  have q52 : (x5_1 : Int) ≤ ((l0.length : Int) : Int) := of_decide_eq_true (by first | (with_reducible assumption) | assumption)
                  obtain ⟨i052, hi052, _, hsz52, _⟩ := info_parts info47
                  have hroom52 : l0.length ≤ c0 := (Kd.V_reads' HO_0.out).2.1
                  have hC52 : Kd.F k47 _ _ A0 l0.length l0 := (Kd.V_at (base := w.heap.size) HO_0.out).2.2
                  have q052 : (0 : Int) ≤ (x5_1 : Int) := of_decide_eq_true (by first | (with_reducible assumption) | assumption)
                  have hcut52 := cut_from (P := Try.prog) 39 47 .i64 Try.underlying39 hi052 5 hsz52 A0 l0.length c0 x5_1 q052 q52
                  have hr52 := Kd.F_cut (m := (x5_1 : Int).toNat) (c := c0) hC52 (by omega) hroom52
                  obtain ⟨A52, hA52⟩ : ∃ A1, A1 = (if c0 = (x5_1 : Int).toNat then A0 else (A0 : Option Addr).map (·.add ((x5_1 : Int).toNat * 5))) := ⟨_, rfl⟩
                  obtain ⟨c52, hc52⟩ : ∃ c1, c1 = c0 - (x5_1 : Int).toNat := ⟨_, rfl⟩
                  have hy52 : y253.length = l0.length - (x5_1 : Int).toNat := (by rw [Ny253.out, List.length_drop] <;> omega)
                  rw [show (l0).drop (x5_1 : Int).toNat = y253 from Ny253.out.symm] at hr52
                  replace hr52 : Kd.F k47 _ _ A52 y253.length y253 := (by rw [hA52]; exact hr52)
                  rw [← hy52, ← hA52, ← hc52] at hcut52
                  have HO257 := Aside0.mk (show Kd.V k47 47 _ w.heap.size _ (.slice A52 y253.length c52) y253 from Kd.V_mk (by rw [hy52, hc52]; exact Nat.sub_le_sub_right hroom52 _) hr52)
                  have HC257 := Aside0.mk (show y253.length ≤ c52 from by rw [hy52, hc52]; exact Nat.sub_le_sub_right hroom52 _)
                  clear hr52 hC52 hroom52 hi052 hsz52 hc52
                  have KY52 := Aside0.mk hy52
                  have KA52 := Aside0.mk hA52
                  clear hy52 hA52
                  replace q52 := eq_true q52
                  refine start_ (n := 13) (S := fun w' => w'.cell? ⟨gb206, 0, none⟩ = some (.int .i64 a1_0) ∧ w'.cell? ⟨gb206, 1, none⟩ = some (.int .i64 a1_1) ∧ w'.cell? ⟨gb206, 2, none⟩ = some (.int .i64 a1_2) ∧ w'.cell? ⟨gb206, 3, none⟩ = some (.int .i64 a1_3) ∧ w'.cell? ⟨gb206, 4, none⟩ = some (.int .i64 a1_4)) (ds := []) #[false, false, false, false, false, false, false, false, false, false, false, false, false] (by kernel_rfl) rfl rfl ⟨(blk_cell BK206.out 0).trans rfl, (blk_cell BK206.out 1).trans rfl, (blk_cell BK206.out 2).trans rfl, (blk_cell BK206.out 3).trans rfl, (blk_cell BK206.out 4).trans rfl⟩ (fun hHeld => ?_); refine with_tabW interlocutorref6_put.tab6 interlocutorref6_put.bits6 (fun HT_ HW_ => ?_)
                  generalize w49.drew = w50 at HO_0 BK206 HB HO243 HO257 hHeld ⊢
                  refine pure_ (i := 1) (N := some 36) (v := ?_) (a' := ?_) #[false, true, false, false, false, false, false, false, false, false, false, false, false] rfl rfl (any_of HT_.out (by kernel_rfl)) (fun _ _ _ h => h) (Or.inl ⟨by rfl, ?_⟩) ?_ ?_
                  rotate_left
                  · intro w'
                    go_simp
                    with_reducible rfl
                  rotate_left
                  · simp only [Act.put, List.setIfInBounds_toArray, List.set_cons_zero, List.set_cons_succ, i64_w, i32_w]
                    rfl
                  refine pure_ (i := 2) (N := some 37) (v := ?_) (a' := ?_) #[false, true, true, false, false, false, false, false, false, false, false, false, false] rfl rfl (any_of HT_.out (by kernel_rfl)) (fun _ _ _ h => h) (Or.inl ⟨by rfl, ?_⟩) ?_ ?_
                  rotate_left
                  · intro w'
                    go_simp
                    with_reducible rfl
                  rotate_left
                  · simp only [Act.put, List.setIfInBounds_toArray, List.set_cons_zero, List.set_cons_succ, i64_w, i32_w]
                    rfl
                  refine pure_ (i := 3) (N := some 38) (v := ?_) (a' := ?_) #[false, true, true, true, false, false, false, false, false, false, false, false, false] rfl rfl (any_of HT_.out (by kernel_rfl)) (fun _ _ _ h => h) (Or.inl ⟨by rfl, ?_⟩) ?_ ?_
                  rotate_left
                  · intro w'
                    go_simp
                    with_reducible rfl
                  rotate_left
                  · simp only [Act.put, List.setIfInBounds_toArray, List.set_cons_zero, List.set_cons_succ, i64_w, i32_w]
                    rfl
                  refine pure_ (i := 8) (N := some 43) (v := ?_) (a' := ?_) #[false, true, true, true, false, false, false, false, true, false, false, false, false] rfl rfl (any_of HT_.out (by kernel_rfl)) (fun _ _ _ h => h) (Or.inl ⟨by rfl, ?_⟩) ?_ ?_
                  rotate_left
                  · intro w'
                    go_simp
                    with_reducible rfl
                  rotate_left
                  · simp only [Act.put, List.setIfInBounds_toArray, List.set_cons_zero, List.set_cons_succ, i64_w, i32_w]
                    rfl
                  refine pure_ (i := 9) (N := some 44) (v := ?_) (a' := ?_) #[false, true, true, true, false, false, false, false, true, true, false, false, false] rfl rfl (any_of HT_.out (by kernel_rfl)) (fun _ _ _ h => h) (Or.inl ⟨by rfl, ?_⟩) ?_ ?_
                  rotate_left
                  · intro w'
                    go_simp
                    with_reducible rfl
                  rotate_left
                  · simp only [Act.put, List.setIfInBounds_toArray, List.set_cons_zero, List.set_cons_succ, i64_w, i32_w]
                    rfl
                  refine pure_ (i := 10) (N := some 45) (v := ?_) (a' := ?_) #[false, true, true, true, false, false, false, false, true, true, true, false, false] rfl rfl (any_of HT_.out (by kernel_rfl)) (fun _ _ _ h => h) (Or.inl ⟨by rfl, ?_⟩) ?_ ?_
                  rotate_left
                  · intro w'
                    go_simp
                    with_reducible rfl
                  rotate_left
                  · simp only [Act.put, List.setIfInBounds_toArray, List.set_cons_zero, List.set_cons_succ, i64_w, i32_w]
                    rfl
                  refine take_ (i := 5) (N := some 40) (v := ?_) (a' := ?_) #[false, true, true, true, false, true, false, false, true, true, true, false, false] rfl rfl (take_ofW HT_.out HW_.out (by kernel_rfl)) (fun _ _ _ h => h) (Or.inl ⟨by rfl, ?_⟩) hHeld ?_ ?_
                  rotate_left
                  · rintro w' ⟨s0, s1, s2, s3, s4⟩
                    go_simp
                    with_reducible rfl
                  rotate_left
                  · simp only [Act.put, List.setIfInBounds_toArray, List.set_cons_zero, List.set_cons_succ, i64_w, i32_w]
                    rfl
                  refine join_ (σ := Value × Value × Value) 3 #[true, true, true, true, true, true, true, false, true, true, true, false, false] (fun s_ => [(35, s_.1), (39, s_.2.1), (41, s_.2.2)]) (fun s_ w' => (w'.cell? ⟨gb206, 0, none⟩ = some (.int .i64 a1_0) ∧ w'.cell? ⟨gb206, 1, none⟩ = some (.int .i64 a1_1) ∧ w'.cell? ⟨gb206, 2, none⟩ = some (.int .i64 a1_2) ∧ w'.cell? ⟨gb206, 3, none⟩ = some (.int .i64 a1_3) ∧ w'.cell? ⟨gb206, 4, none⟩ = some (.int .i64 a1_4)) ∧ (Kd.V k47 47 w' w.heap.size (fun k_ => (P0_ k_ ∨ w.heap.size ≤ k_) ∧ some k_ ≠ (s_.2.1 : Value).ownBlock ∧ some k_ ≠ (s_.2.2 : Value).ownBlock ∧ k_ ≠ gb206) (.slice A0 y239.length c0) y239) ∧ (Kd.R k47 47 w' w.heap.size (fun k_ => (w.heap.size ≤ k_) ∧ some k_ ≠ (s_.2.2 : Value).ownBlock ∧ k_ ≠ gb206) s_.2.1 y244) ∧ (Kd.R k47 47 w' w.heap.size (fun k_ => (w.heap.size ≤ k_) ∧ some k_ ≠ (s_.2.1 : Value).ownBlock ∧ k_ ≠ gb206) s_.2.2 y247) ∧ (Kd.V k47 47 w' w.heap.size (fun k_ => (P0_ k_ ∨ w.heap.size ≤ k_) ∧ some k_ ≠ (s_.2.1 : Value).ownBlock ∧ some k_ ≠ (s_.2.2 : Value).ownBlock ∧ k_ ≠ gb206) (.slice A52 y253.length c52) y253) ∧ (Kd.V k47 47 w' w.heap.size (fun k_ => (P0_ k_ ∨ w.heap.size ≤ k_) ∧ some k_ ≠ (s_.2.1 : Value).ownBlock ∧ some k_ ≠ (s_.2.2 : Value).ownBlock ∧ k_ ≠ gb206) (.slice A0 l0.length c0) l0) ∧ (w'.heap[gb206]? = some (.cells #[.int .i64 a1_0, .int .i64 a1_1, .int .i64 a1_2, .int .i64 a1_3, .int .i64 a1_4] 47 (0, 0))) ∧ (Below w.heap.size w w')) ?_ ?_
                  rotate_left
                  · intro hCont
                    refine two_ (i := 0) (j := 6) (Ni := some 35) (Nj := some 41) #[true, true, true, true, false, true, false, false, true, true, true, false, false] #[false, true, true, true, false, true, true, false, true, true, true, false, false] rfl rfl rfl rfl (two_of HT_.out (by kernel_rfl)) (by decide) (by decide) (fun K hK => ?_) (fun K hK => ?_)
                    · skip
                      refine Kd.R_lit_step k47 _ 47 ?hg (N := 35) ?hd (xs := ([] : List (S47))) (inner := []) (ok := fun _ => True) (okp := fun _ => True) ?hr ?hp (fun _ hk => hk) trivial (Below.refl _ _) (Nat.le_refl _) (by simp) ?_; (case hd => rfl); (case hg => rfl); (case hr => first | (go_simp; done) | (go_simp; rfl)); (case hp => exact (Reps.none _ _))
                      intro v237 w53 ho54 hb hg_ hnew_
                      clear hg_ hnew_
                      (first | rw [← Ny236.out] at ho54 | (simp only [Int.reduceToNat] at ho54; rw [← Ny236.out] at ho54))
                      have n0_ := Aside0.mk (Kd.V_elder' (by exact vU HO_0.out) (Kd.R_base ho54) hb)
                      have n1_ := Aside0.mk (Kd.V_elder' (by exact vU HO243.out) (Kd.R_base ho54) hb)
                      have n2_ := Aside0.mk (Kd.V_elder' (by exact vU HO257.out) (Kd.R_base ho54) hb)
                      have n3_ := Aside0.mk (Kd.R_lower (Kd.R_newB (Kd.R_newM (M := fun k_ => (w.heap.size ≤ k_)) ho54 (below_size (by exact wS HB.out GE206.out)) (fun k_ h_ => h_)) (g := gb206) (o := .cells #[.int .i64 a1_0, .int .i64 a1_1, .int .i64 a1_2, .int .i64 a1_3, .int .i64 a1_4] 47 (0, 0)) (by (with_reducible repeat (first | refine blk_drewN ?_ _ | refine blk_drew ?_ | refine blk_alloc ?_ _)); exact BK206.out)) (below_size (by exact wS HB.out GE206.out)))
                      have n4_ := Aside0.mk (blk_below (g := gb206) (o := .cells #[.int .i64 a1_0, .int .i64 a1_1, .int .i64 a1_2, .int .i64 a1_3, .int .i64 a1_4] 47 (0, 0)) (by (with_reducible repeat (first | refine blk_drewN ?_ _ | refine blk_drew ?_ | refine blk_alloc ?_ _)); exact BK206.out) hb)
                      have n5_ := Aside0.mk (below_step (by exact wS HB.out GE206.out) hb)
                      clear HO_0 HO243 HO257 BK206 HB
                      have HO_0 := n0_
                      have HO243 := n1_
                      have HO257 := n2_
                      have HO238 := n3_
                      have BK206 := n4_
                      have HB := n5_
                      clear n0_ n1_ n2_ n3_ n4_ n5_ hb ho54
                      refine hK.out _ _ ⟨(blk_cell BK206.out 0).trans rfl, (blk_cell BK206.out 1).trans rfl, (blk_cell BK206.out 2).trans rfl, (blk_cell BK206.out 3).trans rfl, (blk_cell BK206.out 4).trans rfl⟩ (fun hHeld => ?_)
                      clear hK K
                      refine norm_ (a' := ?_) ?_ ?_
                      rotate_left
                      · show Act.put _ (some 35) _ = _
                        simp only [Act.put, List.setIfInBounds_toArray, List.set_cons_zero, List.set_cons_succ, i64_w, i32_w]
                        rfl
                      refine two_ (i := 4) (j := 6) (Ni := some 39) (Nj := some 41) #[true, true, true, true, true, true, false, false, true, true, true, false, false] #[true, true, true, true, false, true, true, false, true, true, true, false, false] rfl rfl rfl rfl (two_of HT_.out (by kernel_rfl)) (by decide) (by decide) (fun K hK => ?_) (fun K hK => ?_)
                      · skip
                        refine Kd.R_append_rows_step k47 (w0 := w) w.heap.size (by rfl) (.tmp 35) (.tmp 38) 39 47 (.agg #[(.int .i64 0), (.int .i64 0), (.int .i64 0), (.int .i64 0), (.int .i64 0)]) 40 rfl Try.underlying39 info47 rfl (by decide) (by omega) v237 y236 y239 _ _ _ (fun k_ => (w.heap.size ≤ k_) ∧ k_ ≠ gb206) (fun _ => False) rfl rfl ?aO ?aR (fun _ _ h => h) (fun _ h => h.elim) ?aF ?aB ?aS ?aL ?_
                        (case aR => repeat (first | exact (Kd.V_reads' HO243.out).2.2 | (with_reducible refine Kd.C_alloc ?_ _) | (with_reducible refine Kd.C_drewN ?_ _) | (with_reducible refine Kd.C_drew ?_)))
                        (case aB => exact (by exact wS HB.out GE206.out))
                        (case aF => exact (fun k_ hk => ⟨(Nat.le_trans (below_size (by exact wS HB.out GE206.out)) hk), Kd.freshB (g := gb206) (o := .cells #[.int .i64 a1_0, .int .i64 a1_1, .int .i64 a1_2, .int .i64 a1_3, .int .i64 a1_4] 47 (0, 0)) (by (with_reducible repeat (first | refine blk_drewN ?_ _ | refine blk_drew ?_ | refine blk_alloc ?_ _)); exact BK206.out) k_ hk⟩))
                        (case aO => exact (by (with_reducible repeat (first | apply Kd.R_alloc | apply Kd.R_drewN | apply Kd.R_drew)); exact Kd.R_mono HO238.out (fun _ hk => ⟨hk.1.1, hk.2⟩)))
                        (case aS => exact (below_size (by exact wS HB.out GE206.out)))
                        (case aL => have := LMc43.out; omega)
                        intro v245 w55 ho hb hg hat
                        rw [← Ny244.out] at ho
                        have n0_ := Aside0.mk (Kd.V_afterv (ok := (fun k_ => (P0_ k_ ∨ w.heap.size ≤ k_) ∧ k_ ≠ gb206)) (by exact vU HO_0.out) hg hat)
                        have n1_ := Aside0.mk (blk_grown (g := gb206) (o := .cells #[.int .i64 a1_0, .int .i64 a1_1, .int .i64 a1_2, .int .i64 a1_3, .int .i64 a1_4] 47 (0, 0)) (by (with_reducible repeat (first | refine blk_drewN ?_ _ | refine blk_drew ?_ | refine blk_alloc ?_ _)); exact BK206.out) hg (Kd.R_away HO238.out (fun _ hk => hk.2)))
                        have n2_ := Aside0.mk (Kd.V_afterv (ok := (fun k_ => (P0_ k_ ∨ w.heap.size ≤ k_) ∧ k_ ≠ gb206)) (by exact vU HO243.out) hg hat)
                        have n3_ := Aside0.mk (Kd.V_afterv (ok := (fun k_ => (P0_ k_ ∨ w.heap.size ≤ k_) ∧ k_ ≠ gb206)) (by exact vU HO257.out) hg hat)
                        have n4_ := Aside0.mk (hb)
                        have n5_ := Aside0.mk (ho)
                        clear HO_0 BK206 HO243 HO257 HB HO238
                        have HO_0 := n0_
                        have BK206 := n1_
                        have HO243 := n2_
                        have HO257 := n3_
                        have HB := n4_
                        have HO246 := n5_
                        clear n0_ n1_ n2_ n3_ n4_ n5_ ho hb hg hat
                        refine hK.out _ _ ⟨(blk_cell BK206.out 0).trans rfl, (blk_cell BK206.out 1).trans rfl, (blk_cell BK206.out 2).trans rfl, (blk_cell BK206.out 3).trans rfl, (blk_cell BK206.out 4).trans rfl⟩ (fun hHeld => ?_)
                        clear hK K
                        refine norm_ (a' := ?_) ?_ ?_
                        rotate_left
                        · show Act.put _ (some 39) _ = _
                          simp only [Act.put, List.setIfInBounds_toArray, List.set_cons_zero, List.set_cons_succ, i64_w, i32_w]
                          rfl
                        refine one_ (i := 6) (N := some 41) #[true, true, true, true, true, true, true, false, true, true, true, false, false] rfl rfl (one_of HT_.out (by kernel_rfl)) (by decide) (fun K hK => ?_)
                        refine Kd.R_lit_step k47 _ 47 ?hg (N := 41) ?hd (xs := ([(⟨a1_0, a1_1, a1_2, a1_3, a1_4⟩ : S47)] : List (S47))) (inner := [.int .i64 a1_0, .int .i64 a1_1, .int .i64 a1_2, .int .i64 a1_3, .int .i64 a1_4]) (ok := fun _ => True) (okp := fun _ => True) ?hr ?hp (fun _ hk => hk) trivial (Below.refl _ _) (Nat.le_refl _) (by simp) ?_; (case hd => rfl); (case hg => rfl); (case hr => first | (go_simp; done) | (go_simp; rfl)); (case hp => exact (Reps.c5 (show Kd.M k47 _ _ _ (⟨a1_0, a1_1, a1_2, a1_3, a1_4⟩ : S47) [.int .i64 a1_0, .int .i64 a1_1, .int .i64 a1_2, .int .i64 a1_3, .int .i64 a1_4] from (k47_mkM _ _ _ (⟨a1_0, a1_1, a1_2, a1_3, a1_4⟩ : S47) )) (Reps.none _ _)))
                        intro v248 w56 ho57 hb hg_ hnew_
                        clear hg_ hnew_
                        (first | rw [← Ny247.out] at ho57 | (simp only [Int.reduceToNat] at ho57; rw [← Ny247.out] at ho57))
                        have n0_ := Aside0.mk (Kd.V_elder' (by exact vU HO_0.out) (Kd.R_base ho57) hb)
                        have n1_ := Aside0.mk (Kd.V_elder' (by exact vU HO243.out) (Kd.R_base ho57) hb)
                        have n2_ := Aside0.mk (Kd.V_elder' (by exact vU HO257.out) (Kd.R_base ho57) hb)
                        have n3_ := Aside0.mk (Kd.R_elder' (by (with_reducible repeat (first | apply Kd.R_alloc | apply Kd.R_drewN | apply Kd.R_drew)); exact HO246.out) (Kd.R_base ho57) hb)
                        have n4_ := Aside0.mk (Kd.R_lower (Kd.R_newB (Kd.R_new' (Kd.R_newM (M := fun k_ => (w.heap.size ≤ k_)) ho57 (below_size (by exact wS HB.out GE206.out)) (fun k_ h_ => h_)) (Kd.R_lt (by (with_reducible repeat (first | apply Kd.R_alloc | apply Kd.R_drewN | apply Kd.R_drew)); exact HO246.out))) (g := gb206) (o := .cells #[.int .i64 a1_0, .int .i64 a1_1, .int .i64 a1_2, .int .i64 a1_3, .int .i64 a1_4] 47 (0, 0)) (by (with_reducible repeat (first | refine blk_drewN ?_ _ | refine blk_drew ?_ | refine blk_alloc ?_ _)); exact BK206.out)) (below_size (by exact wS HB.out GE206.out)))
                        have n5_ := Aside0.mk (blk_below (g := gb206) (o := .cells #[.int .i64 a1_0, .int .i64 a1_1, .int .i64 a1_2, .int .i64 a1_3, .int .i64 a1_4] 47 (0, 0)) (by (with_reducible repeat (first | refine blk_drewN ?_ _ | refine blk_drew ?_ | refine blk_alloc ?_ _)); exact BK206.out) hb)
                        have n6_ := Aside0.mk (below_step (by exact wS HB.out GE206.out) hb)
                        clear HO_0 HO243 HO257 HO246 BK206 HB
                        have HO_0 := n0_
                        have HO243 := n1_
                        have HO257 := n2_
                        have HO246 := n3_
                        have HO249 := n4_
                        have BK206 := n5_
                        have HB := n6_
                        clear n0_ n1_ n2_ n3_ n4_ n5_ n6_ hb ho57
                        refine hK.out _ _ ⟨(blk_cell BK206.out 0).trans rfl, (blk_cell BK206.out 1).trans rfl, (blk_cell BK206.out 2).trans rfl, (blk_cell BK206.out 3).trans rfl, (blk_cell BK206.out 4).trans rfl⟩ (fun hHeld => ?_)
                        clear hK K
                        refine norm_ (a' := ?_) ?_ ?_
                        rotate_left
                        · show Act.put _ (some 41) _ = _
                          simp only [Act.put, List.setIfInBounds_toArray, List.set_cons_zero, List.set_cons_succ, i64_w, i32_w]
                          rfl
                        exact norm_ (by simp only [putAll, Act.put, List.setIfInBounds_toArray, List.set_cons_zero, List.set_cons_succ]) (hCont (v237, v245, v248) _ ⟨hHeld, (by exact vU (Kd.V_mono HO243.out (fun _ hk => ⟨hk.1.1.1, ⟨hk.1.2, ⟨hk.2, hk.1.1.2⟩⟩⟩))), (by (with_reducible repeat (first | apply Kd.R_alloc | apply Kd.R_drewN | apply Kd.R_drew)); exact Kd.R_mono HO246.out (fun _ hk => ⟨hk.1.1, ⟨hk.2, hk.1.2⟩⟩)), (by (with_reducible repeat (first | apply Kd.R_alloc | apply Kd.R_drewN | apply Kd.R_drew)); exact Kd.R_mono HO249.out (fun _ hk => ⟨hk.1.1.1, ⟨hk.1.2, hk.2⟩⟩)), (by exact vU (Kd.V_mono HO257.out (fun _ hk => ⟨hk.1.1.1, ⟨hk.1.2, ⟨hk.2, hk.1.1.2⟩⟩⟩))), (by exact vU (Kd.V_mono HO_0.out (fun _ hk => ⟨hk.1.1.1, ⟨hk.1.2, ⟨hk.2, hk.1.1.2⟩⟩⟩))), (by (with_reducible repeat (first | refine blk_drewN ?_ _ | refine blk_drew ?_ | refine blk_alloc ?_ _)); exact BK206.out), (by exact wS HB.out GE206.out)⟩)
                      · skip
                        refine Kd.R_lit_step k47 _ 47 ?hg (N := 41) ?hd (xs := ([(⟨a1_0, a1_1, a1_2, a1_3, a1_4⟩ : S47)] : List (S47))) (inner := [.int .i64 a1_0, .int .i64 a1_1, .int .i64 a1_2, .int .i64 a1_3, .int .i64 a1_4]) (ok := fun _ => True) (okp := fun _ => True) ?hr ?hp (fun _ hk => hk) trivial (Below.refl _ _) (Nat.le_refl _) (by simp) ?_; (case hd => rfl); (case hg => rfl); (case hr => first | (go_simp; done) | (go_simp; rfl)); (case hp => exact (Reps.c5 (show Kd.M k47 _ _ _ (⟨a1_0, a1_1, a1_2, a1_3, a1_4⟩ : S47) [.int .i64 a1_0, .int .i64 a1_1, .int .i64 a1_2, .int .i64 a1_3, .int .i64 a1_4] from (k47_mkM _ _ _ (⟨a1_0, a1_1, a1_2, a1_3, a1_4⟩ : S47) )) (Reps.none _ _)))
                        intro v248 w55 ho56 hb hg_ hnew_
                        clear hg_ hnew_
                        (first | rw [← Ny247.out] at ho56 | (simp only [Int.reduceToNat] at ho56; rw [← Ny247.out] at ho56))
                        have n0_ := Aside0.mk (Kd.V_elder' (by exact vU HO_0.out) (Kd.R_base ho56) hb)
                        have n1_ := Aside0.mk (Kd.V_elder' (by exact vU HO243.out) (Kd.R_base ho56) hb)
                        have n2_ := Aside0.mk (Kd.V_elder' (by exact vU HO257.out) (Kd.R_base ho56) hb)
                        have n3_ := Aside0.mk (Kd.R_elder' (by (with_reducible repeat (first | apply Kd.R_alloc | apply Kd.R_drewN | apply Kd.R_drew)); exact HO238.out) (Kd.R_base ho56) hb)
                        have n4_ := Aside0.mk (Kd.R_lower (Kd.R_newB (Kd.R_new' (Kd.R_newM (M := fun k_ => (w.heap.size ≤ k_)) ho56 (below_size (by exact wS HB.out GE206.out)) (fun k_ h_ => h_)) (Kd.R_lt (by (with_reducible repeat (first | apply Kd.R_alloc | apply Kd.R_drewN | apply Kd.R_drew)); exact HO238.out))) (g := gb206) (o := .cells #[.int .i64 a1_0, .int .i64 a1_1, .int .i64 a1_2, .int .i64 a1_3, .int .i64 a1_4] 47 (0, 0)) (by (with_reducible repeat (first | refine blk_drewN ?_ _ | refine blk_drew ?_ | refine blk_alloc ?_ _)); exact BK206.out)) (below_size (by exact wS HB.out GE206.out)))
                        have n5_ := Aside0.mk (blk_below (g := gb206) (o := .cells #[.int .i64 a1_0, .int .i64 a1_1, .int .i64 a1_2, .int .i64 a1_3, .int .i64 a1_4] 47 (0, 0)) (by (with_reducible repeat (first | refine blk_drewN ?_ _ | refine blk_drew ?_ | refine blk_alloc ?_ _)); exact BK206.out) hb)
                        have n6_ := Aside0.mk (below_step (by exact wS HB.out GE206.out) hb)
                        clear HO_0 HO243 HO257 HO238 BK206 HB
                        have HO_0 := n0_
                        have HO243 := n1_
                        have HO257 := n2_
                        have HO238 := n3_
                        have HO249 := n4_
                        have BK206 := n5_
                        have HB := n6_
                        clear n0_ n1_ n2_ n3_ n4_ n5_ n6_ hb ho56
                        refine hK.out _ _ ⟨(blk_cell BK206.out 0).trans rfl, (blk_cell BK206.out 1).trans rfl, (blk_cell BK206.out 2).trans rfl, (blk_cell BK206.out 3).trans rfl, (blk_cell BK206.out 4).trans rfl⟩ (fun hHeld => ?_)
                        clear hK K
                        refine norm_ (a' := ?_) ?_ ?_
                        rotate_left
                        · show Act.put _ (some 41) _ = _
                          simp only [Act.put, List.setIfInBounds_toArray, List.set_cons_zero, List.set_cons_succ, i64_w, i32_w]
                          rfl
                        refine one_ (i := 4) (N := some 39) #[true, true, true, true, true, true, true, false, true, true, true, false, false] rfl rfl (one_of HT_.out (by kernel_rfl)) (by decide) (fun K hK => ?_)
                        refine Kd.R_append_rows_step k47 (w0 := w) w.heap.size (by rfl) (.tmp 35) (.tmp 38) 39 47 (.agg #[(.int .i64 0), (.int .i64 0), (.int .i64 0), (.int .i64 0), (.int .i64 0)]) 40 rfl Try.underlying39 info47 rfl (by decide) (by omega) v237 y236 y239 _ _ _ (fun k_ => (w.heap.size ≤ k_) ∧ some k_ ≠ (v248 : Value).ownBlock ∧ k_ ≠ gb206) (fun _ => False) rfl rfl ?aO ?aR (fun _ _ h => h) (fun _ h => h.elim) ?aF ?aB ?aS ?aL ?_
                        (case aR => repeat (first | exact (Kd.V_reads' HO243.out).2.2 | (with_reducible refine Kd.C_alloc ?_ _) | (with_reducible refine Kd.C_drewN ?_ _) | (with_reducible refine Kd.C_drew ?_)))
                        (case aB => exact (by exact wS HB.out GE206.out))
                        (case aF => exact (fun k_ hk => ⟨(Nat.le_trans (below_size (by exact wS HB.out GE206.out)) hk), Kd.fresh' (Kd.R_lt (by (with_reducible repeat (first | apply Kd.R_alloc | apply Kd.R_drewN | apply Kd.R_drew)); exact HO249.out)) k_ hk, Kd.freshB (g := gb206) (o := .cells #[.int .i64 a1_0, .int .i64 a1_1, .int .i64 a1_2, .int .i64 a1_3, .int .i64 a1_4] 47 (0, 0)) (by (with_reducible repeat (first | refine blk_drewN ?_ _ | refine blk_drew ?_ | refine blk_alloc ?_ _)); exact BK206.out) k_ hk⟩))
                        (case aO => exact (by (with_reducible repeat (first | apply Kd.R_alloc | apply Kd.R_drewN | apply Kd.R_drew)); exact Kd.R_mono HO238.out (fun _ hk => ⟨hk.1.1.1, ⟨hk.2, hk.1.2⟩⟩)))
                        (case aS => exact (below_size (by exact wS HB.out GE206.out)))
                        (case aL => have := LMc43.out; omega)
                        intro v245 w57 ho hb hg hat
                        rw [← Ny244.out] at ho
                        have n0_ := Aside0.mk (Kd.V_afterv (ok := (fun k_ => (P0_ k_ ∨ w.heap.size ≤ k_) ∧ some k_ ≠ (v248 : Value).ownBlock ∧ k_ ≠ gb206)) (by exact vU (Kd.V_mono HO_0.out (fun _ hk => ⟨⟨hk.1.1.1, ⟨hk.2, hk.1.1.2⟩⟩, hk.1.2⟩))) hg hat)
                        have n1_ := Aside0.mk (blk_grown (g := gb206) (o := .cells #[.int .i64 a1_0, .int .i64 a1_1, .int .i64 a1_2, .int .i64 a1_3, .int .i64 a1_4] 47 (0, 0)) (by (with_reducible repeat (first | refine blk_drewN ?_ _ | refine blk_drew ?_ | refine blk_alloc ?_ _)); exact BK206.out) hg (Kd.R_away HO238.out (fun _ hk => hk.1.2)))
                        have n2_ := Aside0.mk (Kd.V_afterv (ok := (fun k_ => (P0_ k_ ∨ w.heap.size ≤ k_) ∧ some k_ ≠ (v248 : Value).ownBlock ∧ k_ ≠ gb206)) (by exact vU (Kd.V_mono HO243.out (fun _ hk => ⟨⟨hk.1.1.1, ⟨hk.2, hk.1.1.2⟩⟩, hk.1.2⟩))) hg hat)
                        have n3_ := Aside0.mk (Kd.V_afterv (ok := (fun k_ => (P0_ k_ ∨ w.heap.size ≤ k_) ∧ some k_ ≠ (v248 : Value).ownBlock ∧ k_ ≠ gb206)) (by exact vU (Kd.V_mono HO257.out (fun _ hk => ⟨⟨hk.1.1.1, ⟨hk.2, hk.1.1.2⟩⟩, hk.1.2⟩))) hg hat)
                        have n4_ := Aside0.mk (Kd.R_after (ok := (fun k_ => (w.heap.size ≤ k_) ∧ k_ ≠ gb206)) (by (with_reducible repeat (first | apply Kd.R_alloc | apply Kd.R_drewN | apply Kd.R_drew)); exact Kd.R_mono HO249.out (fun _ hk => ⟨⟨hk.1.1.1, hk.2⟩, hk.1.2⟩)) hg hat)
                        have n5_ := Aside0.mk (hb)
                        have n6_ := Aside0.mk (ho)
                        clear HO_0 BK206 HO243 HO257 HO249 HB HO238
                        have HO_0 := n0_
                        have BK206 := n1_
                        have HO243 := n2_
                        have HO257 := n3_
                        have HO249 := n4_
                        have HB := n5_
                        have HO246 := n6_
                        clear n0_ n1_ n2_ n3_ n4_ n5_ n6_ ho hb hg hat
                        refine hK.out _ _ ⟨(blk_cell BK206.out 0).trans rfl, (blk_cell BK206.out 1).trans rfl, (blk_cell BK206.out 2).trans rfl, (blk_cell BK206.out 3).trans rfl, (blk_cell BK206.out 4).trans rfl⟩ (fun hHeld => ?_)
                        clear hK K
                        refine norm_ (a' := ?_) ?_ ?_
                        rotate_left
                        · show Act.put _ (some 39) _ = _
                          simp only [Act.put, List.setIfInBounds_toArray, List.set_cons_zero, List.set_cons_succ, i64_w, i32_w]
                          rfl
                        exact norm_ (by simp only [putAll, Act.put, List.setIfInBounds_toArray, List.set_cons_zero, List.set_cons_succ]) (hCont (v237, v245, v248) _ ⟨hHeld, (by exact vU (Kd.V_mono HO243.out (fun _ hk => ⟨hk.1.1, ⟨hk.2, ⟨hk.1.2.1, hk.1.2.2⟩⟩⟩))), (by (with_reducible repeat (first | apply Kd.R_alloc | apply Kd.R_drewN | apply Kd.R_drew)); exact HO246.out), (by (with_reducible repeat (first | apply Kd.R_alloc | apply Kd.R_drewN | apply Kd.R_drew)); exact Kd.R_mono HO249.out (fun _ hk => ⟨hk.1.1, ⟨hk.2, hk.1.2⟩⟩)), (by exact vU (Kd.V_mono HO257.out (fun _ hk => ⟨hk.1.1, ⟨hk.2, ⟨hk.1.2.1, hk.1.2.2⟩⟩⟩))), (by exact vU (Kd.V_mono HO_0.out (fun _ hk => ⟨hk.1.1, ⟨hk.2, ⟨hk.1.2.1, hk.1.2.2⟩⟩⟩))), (by (with_reducible repeat (first | refine blk_drewN ?_ _ | refine blk_drew ?_ | refine blk_alloc ?_ _)); exact BK206.out), (by exact wS HB.out GE206.out)⟩)
                    · skip
                      refine Kd.R_lit_step k47 _ 47 ?hg (N := 41) ?hd (xs := ([(⟨a1_0, a1_1, a1_2, a1_3, a1_4⟩ : S47)] : List (S47))) (inner := [.int .i64 a1_0, .int .i64 a1_1, .int .i64 a1_2, .int .i64 a1_3, .int .i64 a1_4]) (ok := fun _ => True) (okp := fun _ => True) ?hr ?hp (fun _ hk => hk) trivial (Below.refl _ _) (Nat.le_refl _) (by simp) ?_; (case hd => rfl); (case hg => rfl); (case hr => first | (go_simp; done) | (go_simp; rfl)); (case hp => exact (Reps.c5 (show Kd.M k47 _ _ _ (⟨a1_0, a1_1, a1_2, a1_3, a1_4⟩ : S47) [.int .i64 a1_0, .int .i64 a1_1, .int .i64 a1_2, .int .i64 a1_3, .int .i64 a1_4] from (k47_mkM _ _ _ (⟨a1_0, a1_1, a1_2, a1_3, a1_4⟩ : S47) )) (Reps.none _ _)))
                      intro v248 w53 ho54 hb hg_ hnew_
                      clear hg_ hnew_
                      (first | rw [← Ny247.out] at ho54 | (simp only [Int.reduceToNat] at ho54; rw [← Ny247.out] at ho54))
                      have n0_ := Aside0.mk (Kd.V_elder' (by exact vU HO_0.out) (Kd.R_base ho54) hb)
                      have n1_ := Aside0.mk (Kd.V_elder' (by exact vU HO243.out) (Kd.R_base ho54) hb)
                      have n2_ := Aside0.mk (Kd.V_elder' (by exact vU HO257.out) (Kd.R_base ho54) hb)
                      have n3_ := Aside0.mk (Kd.R_lower (Kd.R_newB (Kd.R_newM (M := fun k_ => (w.heap.size ≤ k_)) ho54 (below_size (by exact wS HB.out GE206.out)) (fun k_ h_ => h_)) (g := gb206) (o := .cells #[.int .i64 a1_0, .int .i64 a1_1, .int .i64 a1_2, .int .i64 a1_3, .int .i64 a1_4] 47 (0, 0)) (by (with_reducible repeat (first | refine blk_drewN ?_ _ | refine blk_drew ?_ | refine blk_alloc ?_ _)); exact BK206.out)) (below_size (by exact wS HB.out GE206.out)))
                      have n4_ := Aside0.mk (blk_below (g := gb206) (o := .cells #[.int .i64 a1_0, .int .i64 a1_1, .int .i64 a1_2, .int .i64 a1_3, .int .i64 a1_4] 47 (0, 0)) (by (with_reducible repeat (first | refine blk_drewN ?_ _ | refine blk_drew ?_ | refine blk_alloc ?_ _)); exact BK206.out) hb)
                      have n5_ := Aside0.mk (below_step (by exact wS HB.out GE206.out) hb)
                      clear HO_0 HO243 HO257 BK206 HB
                      have HO_0 := n0_
                      have HO243 := n1_
                      have HO257 := n2_
                      have HO249 := n3_
                      have BK206 := n4_
                      have HB := n5_
                      clear n0_ n1_ n2_ n3_ n4_ n5_ hb ho54
                      refine hK.out _ _ ⟨(blk_cell BK206.out 0).trans rfl, (blk_cell BK206.out 1).trans rfl, (blk_cell BK206.out 2).trans rfl, (blk_cell BK206.out 3).trans rfl, (blk_cell BK206.out 4).trans rfl⟩ (fun hHeld => ?_)
                      clear hK K
                      refine norm_ (a' := ?_) ?_ ?_
                      rotate_left
                      · show Act.put _ (some 41) _ = _
                        simp only [Act.put, List.setIfInBounds_toArray, List.set_cons_zero, List.set_cons_succ, i64_w, i32_w]
                        rfl
                      refine one_ (i := 0) (N := some 35) #[true, true, true, true, false, true, true, false, true, true, true, false, false] rfl rfl (one_of HT_.out (by kernel_rfl)) (by decide) (fun K hK => ?_)
                      refine Kd.R_lit_step k47 _ 47 ?hg (N := 35) ?hd (xs := ([] : List (S47))) (inner := []) (ok := fun _ => True) (okp := fun _ => True) ?hr ?hp (fun _ hk => hk) trivial (Below.refl _ _) (Nat.le_refl _) (by simp) ?_; (case hd => rfl); (case hg => rfl); (case hr => first | (go_simp; done) | (go_simp; rfl)); (case hp => exact (Reps.none _ _))
                      intro v237 w55 ho56 hb hg_ hnew_
                      clear hg_ hnew_
                      (first | rw [← Ny236.out] at ho56 | (simp only [Int.reduceToNat] at ho56; rw [← Ny236.out] at ho56))
                      have n0_ := Aside0.mk (Kd.V_elder' (by exact vU HO_0.out) (Kd.R_base ho56) hb)
                      have n1_ := Aside0.mk (Kd.V_elder' (by exact vU HO243.out) (Kd.R_base ho56) hb)
                      have n2_ := Aside0.mk (Kd.V_elder' (by exact vU HO257.out) (Kd.R_base ho56) hb)
                      have n3_ := Aside0.mk (Kd.R_elder' (by (with_reducible repeat (first | apply Kd.R_alloc | apply Kd.R_drewN | apply Kd.R_drew)); exact HO249.out) (Kd.R_base ho56) hb)
                      have n4_ := Aside0.mk (Kd.R_lower (Kd.R_newB (Kd.R_new' (Kd.R_newM (M := fun k_ => (w.heap.size ≤ k_)) ho56 (below_size (by exact wS HB.out GE206.out)) (fun k_ h_ => h_)) (Kd.R_lt (by (with_reducible repeat (first | apply Kd.R_alloc | apply Kd.R_drewN | apply Kd.R_drew)); exact HO249.out))) (g := gb206) (o := .cells #[.int .i64 a1_0, .int .i64 a1_1, .int .i64 a1_2, .int .i64 a1_3, .int .i64 a1_4] 47 (0, 0)) (by (with_reducible repeat (first | refine blk_drewN ?_ _ | refine blk_drew ?_ | refine blk_alloc ?_ _)); exact BK206.out)) (below_size (by exact wS HB.out GE206.out)))
                      have n5_ := Aside0.mk (blk_below (g := gb206) (o := .cells #[.int .i64 a1_0, .int .i64 a1_1, .int .i64 a1_2, .int .i64 a1_3, .int .i64 a1_4] 47 (0, 0)) (by (with_reducible repeat (first | refine blk_drewN ?_ _ | refine blk_drew ?_ | refine blk_alloc ?_ _)); exact BK206.out) hb)
                      have n6_ := Aside0.mk (below_step (by exact wS HB.out GE206.out) hb)
                      clear HO_0 HO243 HO257 HO249 BK206 HB
                      have HO_0 := n0_
                      have HO243 := n1_
                      have HO257 := n2_
                      have HO249 := n3_
                      have HO238 := n4_
                      have BK206 := n5_
                      have HB := n6_
                      clear n0_ n1_ n2_ n3_ n4_ n5_ n6_ hb ho56
                      refine hK.out _ _ ⟨(blk_cell BK206.out 0).trans rfl, (blk_cell BK206.out 1).trans rfl, (blk_cell BK206.out 2).trans rfl, (blk_cell BK206.out 3).trans rfl, (blk_cell BK206.out 4).trans rfl⟩ (fun hHeld => ?_)
                      clear hK K
                      refine norm_ (a' := ?_) ?_ ?_
                      rotate_left
                      · show Act.put _ (some 35) _ = _
                        simp only [Act.put, List.setIfInBounds_toArray, List.set_cons_zero, List.set_cons_succ, i64_w, i32_w]
                        rfl
                      refine one_ (i := 4) (N := some 39) #[true, true, true, true, true, true, true, false, true, true, true, false, false] rfl rfl (one_of HT_.out (by kernel_rfl)) (by decide) (fun K hK => ?_)
                      refine Kd.R_append_rows_step k47 (w0 := w) w.heap.size (by rfl) (.tmp 35) (.tmp 38) 39 47 (.agg #[(.int .i64 0), (.int .i64 0), (.int .i64 0), (.int .i64 0), (.int .i64 0)]) 40 rfl Try.underlying39 info47 rfl (by decide) (by omega) v237 y236 y239 _ _ _ (fun k_ => (w.heap.size ≤ k_) ∧ some k_ ≠ (v248 : Value).ownBlock ∧ k_ ≠ gb206) (fun _ => False) rfl rfl ?aO ?aR (fun _ _ h => h) (fun _ h => h.elim) ?aF ?aB ?aS ?aL ?_
                      (case aR => repeat (first | exact (Kd.V_reads' HO243.out).2.2 | (with_reducible refine Kd.C_alloc ?_ _) | (with_reducible refine Kd.C_drewN ?_ _) | (with_reducible refine Kd.C_drew ?_)))
                      (case aB => exact (by exact wS HB.out GE206.out))
                      (case aF => exact (fun k_ hk => ⟨(Nat.le_trans (below_size (by exact wS HB.out GE206.out)) hk), Kd.fresh' (Kd.R_lt (by (with_reducible repeat (first | apply Kd.R_alloc | apply Kd.R_drewN | apply Kd.R_drew)); exact HO249.out)) k_ hk, Kd.freshB (g := gb206) (o := .cells #[.int .i64 a1_0, .int .i64 a1_1, .int .i64 a1_2, .int .i64 a1_3, .int .i64 a1_4] 47 (0, 0)) (by (with_reducible repeat (first | refine blk_drewN ?_ _ | refine blk_drew ?_ | refine blk_alloc ?_ _)); exact BK206.out) k_ hk⟩))
                      (case aO => exact (by (with_reducible repeat (first | apply Kd.R_alloc | apply Kd.R_drewN | apply Kd.R_drew)); exact Kd.R_mono HO238.out (fun _ hk => ⟨hk.1.1.1, ⟨hk.1.2, hk.2⟩⟩)))
                      (case aS => exact (below_size (by exact wS HB.out GE206.out)))
                      (case aL => have := LMc43.out; omega)
                      intro v245 w57 ho hb hg hat
                      rw [← Ny244.out] at ho
                      have n0_ := Aside0.mk (Kd.V_afterv (ok := (fun k_ => (P0_ k_ ∨ w.heap.size ≤ k_) ∧ some k_ ≠ (v248 : Value).ownBlock ∧ k_ ≠ gb206)) (by exact vU (Kd.V_mono HO_0.out (fun _ hk => ⟨⟨hk.1.1.1, ⟨hk.1.2, hk.1.1.2⟩⟩, hk.2⟩))) hg hat)
                      have n1_ := Aside0.mk (blk_grown (g := gb206) (o := .cells #[.int .i64 a1_0, .int .i64 a1_1, .int .i64 a1_2, .int .i64 a1_3, .int .i64 a1_4] 47 (0, 0)) (by (with_reducible repeat (first | refine blk_drewN ?_ _ | refine blk_drew ?_ | refine blk_alloc ?_ _)); exact BK206.out) hg (Kd.R_away HO238.out (fun _ hk => hk.2)))
                      have n2_ := Aside0.mk (Kd.V_afterv (ok := (fun k_ => (P0_ k_ ∨ w.heap.size ≤ k_) ∧ some k_ ≠ (v248 : Value).ownBlock ∧ k_ ≠ gb206)) (by exact vU (Kd.V_mono HO243.out (fun _ hk => ⟨⟨hk.1.1.1, ⟨hk.1.2, hk.1.1.2⟩⟩, hk.2⟩))) hg hat)
                      have n3_ := Aside0.mk (Kd.V_afterv (ok := (fun k_ => (P0_ k_ ∨ w.heap.size ≤ k_) ∧ some k_ ≠ (v248 : Value).ownBlock ∧ k_ ≠ gb206)) (by exact vU (Kd.V_mono HO257.out (fun _ hk => ⟨⟨hk.1.1.1, ⟨hk.1.2, hk.1.1.2⟩⟩, hk.2⟩))) hg hat)
                      have n4_ := Aside0.mk (Kd.R_after (ok := (fun k_ => (w.heap.size ≤ k_) ∧ k_ ≠ gb206)) (by (with_reducible repeat (first | apply Kd.R_alloc | apply Kd.R_drewN | apply Kd.R_drew)); exact Kd.R_mono HO249.out (fun _ hk => ⟨⟨hk.1.1.1, hk.1.2⟩, hk.2⟩)) hg hat)
                      have n5_ := Aside0.mk (hb)
                      have n6_ := Aside0.mk (ho)
                      clear HO_0 BK206 HO243 HO257 HO249 HB HO238
                      have HO_0 := n0_
                      have BK206 := n1_
                      have HO243 := n2_
                      have HO257 := n3_
                      have HO249 := n4_
                      have HB := n5_
                      have HO246 := n6_
                      clear n0_ n1_ n2_ n3_ n4_ n5_ n6_ ho hb hg hat
                      refine hK.out _ _ ⟨(blk_cell BK206.out 0).trans rfl, (blk_cell BK206.out 1).trans rfl, (blk_cell BK206.out 2).trans rfl, (blk_cell BK206.out 3).trans rfl, (blk_cell BK206.out 4).trans rfl⟩ (fun hHeld => ?_)
                      clear hK K
                      refine norm_ (a' := ?_) ?_ ?_
                      rotate_left
                      · show Act.put _ (some 39) _ = _
                        simp only [Act.put, List.setIfInBounds_toArray, List.set_cons_zero, List.set_cons_succ, i64_w, i32_w]
                        rfl
                      exact norm_ (by simp only [putAll, Act.put, List.setIfInBounds_toArray, List.set_cons_zero, List.set_cons_succ]) (hCont (v237, v245, v248) _ ⟨hHeld, (by exact vU (Kd.V_mono HO243.out (fun _ hk => ⟨hk.1.1, ⟨hk.2, ⟨hk.1.2.1, hk.1.2.2⟩⟩⟩))), (by (with_reducible repeat (first | apply Kd.R_alloc | apply Kd.R_drewN | apply Kd.R_drew)); exact HO246.out), (by (with_reducible repeat (first | apply Kd.R_alloc | apply Kd.R_drewN | apply Kd.R_drew)); exact Kd.R_mono HO249.out (fun _ hk => ⟨hk.1.1, ⟨hk.2, hk.1.2⟩⟩)), (by exact vU (Kd.V_mono HO257.out (fun _ hk => ⟨hk.1.1, ⟨hk.2, ⟨hk.1.2.1, hk.1.2.2⟩⟩⟩))), (by exact vU (Kd.V_mono HO_0.out (fun _ hk => ⟨hk.1.1, ⟨hk.2, ⟨hk.1.2.1, hk.1.2.2⟩⟩⟩))), (by (with_reducible repeat (first | refine blk_drewN ?_ _ | refine blk_drew ?_ | refine blk_alloc ?_ _)); exact BK206.out), (by exact wS HB.out GE206.out)⟩)
                  rintro ⟨v237, v245, v248⟩ w58 ⟨hS_, h0_, h1_, h2_, h3_, h4_, h5_, h6_⟩
                  have n0_ : Aside0 (Kd.V k47 47 w58 w.heap.size (fun k_ => (P0_ k_ ∨ w.heap.size ≤ k_) ∧ some k_ ≠ (v245 : Value).ownBlock ∧ some k_ ≠ (v248 : Value).ownBlock ∧ k_ ≠ gb206) (.slice A0 y239.length c0) y239) := ⟨h0_⟩
                  have n1_ : Aside0 (Kd.R k47 47 w58 w.heap.size (fun k_ => (w.heap.size ≤ k_) ∧ some k_ ≠ (v248 : Value).ownBlock ∧ k_ ≠ gb206) v245 y244) := ⟨h1_⟩
                  have n2_ : Aside0 (Kd.R k47 47 w58 w.heap.size (fun k_ => (w.heap.size ≤ k_) ∧ some k_ ≠ (v245 : Value).ownBlock ∧ k_ ≠ gb206) v248 y247) := ⟨h2_⟩
                  have n3_ : Aside0 (Kd.V k47 47 w58 w.heap.size (fun k_ => (P0_ k_ ∨ w.heap.size ≤ k_) ∧ some k_ ≠ (v245 : Value).ownBlock ∧ some k_ ≠ (v248 : Value).ownBlock ∧ k_ ≠ gb206) (.slice A52 y253.length c52) y253) := ⟨h3_⟩
                  have n4_ : Aside0 (Kd.V k47 47 w58 w.heap.size (fun k_ => (P0_ k_ ∨ w.heap.size ≤ k_) ∧ some k_ ≠ (v245 : Value).ownBlock ∧ some k_ ≠ (v248 : Value).ownBlock ∧ k_ ≠ gb206) (.slice A0 l0.length c0) l0) := ⟨h4_⟩
                  have n5_ : Aside0 (w58.heap[gb206]? = some (.cells #[.int .i64 a1_0, .int .i64 a1_1, .int .i64 a1_2, .int .i64 a1_3, .int .i64 a1_4] 47 (0, 0))) := ⟨h5_⟩
                  have n6_ : Aside0 (Below w.heap.size w w58) := ⟨h6_⟩
                  clear HO_0 BK206 HB h0_ h1_ h2_ h3_ h4_ h5_ h6_
                  have HO243 := n0_
                  have HO246 := n1_
                  have HO249 := n2_
                  have HO257 := n3_
                  have HO_0 := n4_
                  have BK206 := n5_
                  have HB := n6_
                  clear n0_ n1_ n2_ n3_ n4_ n5_ n6_
                  have hHeld : w58.cell? ⟨gb206, 0, none⟩ = some (.int .i64 a1_0) ∧ w58.cell? ⟨gb206, 1, none⟩ = some (.int .i64 a1_1) ∧ w58.cell? ⟨gb206, 2, none⟩ = some (.int .i64 a1_2) ∧ w58.cell? ⟨gb206, 3, none⟩ = some (.int .i64 a1_3) ∧ w58.cell? ⟨gb206, 4, none⟩ = some (.int .i64 a1_4) := hS_
                  obtain ⟨Ao60, co60, eo60⟩ := Kd.R_slice HO249.out
                  (first | subst eo60 | (injection eo60 with f1_ f2_ f3_; have f4_ := f1_.symm; have f5_ := f3_.symm; clear f1_ f2_ f3_; subst f4_; subst f5_))
                  refine norm_ (a' := ?_) ?_ ?_
                  rotate_left
                  · simp only [putAll, Act.put, List.setIfInBounds_toArray, List.set_cons_zero, List.set_cons_succ]
                    rfl
                  refine one_ (i := 7) (N := some 42) #[true, true, true, true, true, true, true, true, true, true, true, false, false] rfl rfl (one_of HT_.out (by kernel_rfl)) (by decide) (fun K hK => ?_)
                  refine Kd.R_append_rows_step k47 (w0 := w) w.heap.size (by rfl) (.tmp 39) (.tmp 41) 39 47 (.agg #[(.int .i64 0), (.int .i64 0), (.int .i64 0), (.int .i64 0), (.int .i64 0)]) 40 rfl Try.underlying39 info47 rfl (by decide) (by omega) v245 y244 y247 _ _ _ (fun k_ => (w.heap.size ≤ k_) ∧ some k_ ≠ (.slice Ao60 y247.length co60 : Value).ownBlock ∧ k_ ≠ gb206) (fun _ => False) rfl rfl ?aO ?aR (fun _ _ h => h) (fun _ h => h.elim) ?aF ?aB ?aS ?aL ?_
                  (case aR => repeat (first | exact (Kd.R_reads' HO249.out).2.2 | (with_reducible refine Kd.C_alloc ?_ _) | (with_reducible refine Kd.C_drewN ?_ _) | (with_reducible refine Kd.C_drew ?_)))
                  (case aB => exact (by exact wS HB.out GE206.out))
                  (case aF => exact (fun k_ hk => ⟨(Nat.le_trans (below_size (by exact wS HB.out GE206.out)) hk), Kd.fresh' (Kd.R_lt (by (with_reducible repeat (first | apply Kd.R_alloc | apply Kd.R_drewN | apply Kd.R_drew)); exact HO249.out)) k_ hk, Kd.freshB (g := gb206) (o := .cells #[.int .i64 a1_0, .int .i64 a1_1, .int .i64 a1_2, .int .i64 a1_3, .int .i64 a1_4] 47 (0, 0)) (by (with_reducible repeat (first | refine blk_drewN ?_ _ | refine blk_drew ?_ | refine blk_alloc ?_ _)); exact BK206.out) k_ hk⟩))
                  (case aO => exact (by (with_reducible repeat (first | apply Kd.R_alloc | apply Kd.R_drewN | apply Kd.R_drew)); exact HO246.out))
                  (case aS => exact (below_size (by exact wS HB.out GE206.out)))
                  (case aL => have := LMc44.out; omega)
                  intro v251 w59 ho hb hg hat
                  rw [← Ny250.out] at ho
                  have n0_ := Aside0.mk (Kd.V_afterv (ok := (fun k_ => (P0_ k_ ∨ w.heap.size ≤ k_) ∧ some k_ ≠ (.slice Ao60 y247.length co60 : Value).ownBlock ∧ k_ ≠ gb206)) (by exact vU (Kd.V_mono HO_0.out (fun _ hk => ⟨⟨hk.1, ⟨hk.2.2.1, hk.2.2.2⟩⟩, hk.2.1⟩))) hg hat)
                  have n1_ := Aside0.mk (blk_grown (g := gb206) (o := .cells #[.int .i64 a1_0, .int .i64 a1_1, .int .i64 a1_2, .int .i64 a1_3, .int .i64 a1_4] 47 (0, 0)) (by (with_reducible repeat (first | refine blk_drewN ?_ _ | refine blk_drew ?_ | refine blk_alloc ?_ _)); exact BK206.out) hg (Kd.R_away HO246.out (fun _ hk => hk.2.2)))
                  have n2_ := Aside0.mk (Kd.V_afterv (ok := (fun k_ => (P0_ k_ ∨ w.heap.size ≤ k_) ∧ some k_ ≠ (.slice Ao60 y247.length co60 : Value).ownBlock ∧ k_ ≠ gb206)) (by exact vU (Kd.V_mono HO243.out (fun _ hk => ⟨⟨hk.1, ⟨hk.2.2.1, hk.2.2.2⟩⟩, hk.2.1⟩))) hg hat)
                  have n3_ := Aside0.mk (Kd.V_afterv (ok := (fun k_ => (P0_ k_ ∨ w.heap.size ≤ k_) ∧ some k_ ≠ (.slice Ao60 y247.length co60 : Value).ownBlock ∧ k_ ≠ gb206)) (by exact vU (Kd.V_mono HO257.out (fun _ hk => ⟨⟨hk.1, ⟨hk.2.2.1, hk.2.2.2⟩⟩, hk.2.1⟩))) hg hat)
                  have n4_ := Aside0.mk (Kd.R_after (ok := (fun k_ => (w.heap.size ≤ k_) ∧ k_ ≠ gb206)) (by (with_reducible repeat (first | apply Kd.R_alloc | apply Kd.R_drewN | apply Kd.R_drew)); exact Kd.R_mono HO249.out (fun _ hk => ⟨⟨hk.1, hk.2.2⟩, hk.2.1⟩)) hg hat)
                  have n5_ := Aside0.mk (hb)
                  have n6_ := Aside0.mk (ho)
                  clear HO_0 BK206 HO243 HO257 HO249 HB HO246
                  have HO_0 := n0_
                  have BK206 := n1_
                  have HO243 := n2_
                  have HO257 := n3_
                  have HO249 := n4_
                  have HB := n5_
                  have HO252 := n6_
                  clear n0_ n1_ n2_ n3_ n4_ n5_ n6_ ho hb hg hat
                  refine hK.out _ _ ⟨(blk_cell BK206.out 0).trans rfl, (blk_cell BK206.out 1).trans rfl, (blk_cell BK206.out 2).trans rfl, (blk_cell BK206.out 3).trans rfl, (blk_cell BK206.out 4).trans rfl⟩ (fun hHeld => ?_)
                  clear hK K
                  refine norm_ (a' := ?_) ?_ ?_
                  rotate_left
                  · show Act.put _ (some 42) _ = _
                    simp only [Act.put, List.setIfInBounds_toArray, List.set_cons_zero, List.set_cons_succ, i64_w, i32_w]
                    rfl
                  refine one_ (i := 11) (N := some 46) #[true, true, true, true, true, true, true, true, true, true, true, true, false] rfl rfl (one_of HT_.out (by kernel_rfl)) (by decide) (fun K hK => ?_)
                  refine Kd.R_append_rows_step k47 (w0 := w) w.heap.size (by rfl) (.tmp 42) (.tmp 45) 39 47 (.agg #[(.int .i64 0), (.int .i64 0), (.int .i64 0), (.int .i64 0), (.int .i64 0)]) 40 rfl Try.underlying39 info47 rfl (by decide) (by omega) v251 y250 y253 _ _ _ (fun k_ => (w.heap.size ≤ k_) ∧ some k_ ≠ (.slice Ao60 y247.length co60 : Value).ownBlock ∧ k_ ≠ gb206) (fun _ => False) rfl rfl ?aO ?aR (fun _ _ h => h) (fun _ h => h.elim) ?aF ?aB ?aS ?aL ?_
                  (case aR => repeat (first | exact (Kd.V_reads' HO257.out).2.2 | (with_reducible refine Kd.C_alloc ?_ _) | (with_reducible refine Kd.C_drewN ?_ _) | (with_reducible refine Kd.C_drew ?_)))
                  (case aB => exact (by exact wS HB.out GE206.out))
                  (case aF => exact (fun k_ hk => ⟨(Nat.le_trans (below_size (by exact wS HB.out GE206.out)) hk), Kd.fresh' (Kd.R_lt (by (with_reducible repeat (first | apply Kd.R_alloc | apply Kd.R_drewN | apply Kd.R_drew)); exact HO249.out)) k_ hk, Kd.freshB (g := gb206) (o := .cells #[.int .i64 a1_0, .int .i64 a1_1, .int .i64 a1_2, .int .i64 a1_3, .int .i64 a1_4] 47 (0, 0)) (by (with_reducible repeat (first | refine blk_drewN ?_ _ | refine blk_drew ?_ | refine blk_alloc ?_ _)); exact BK206.out) k_ hk⟩))
                  (case aO => exact (by (with_reducible repeat (first | apply Kd.R_alloc | apply Kd.R_drewN | apply Kd.R_drew)); exact HO252.out))
                  (case aS => exact (below_size (by exact wS HB.out GE206.out)))
                  (case aL => have := LMc47.out; omega)
                  intro v259 w61 ho hb hg hat
                  rw [← Ny258.out] at ho
                  have n0_ := Aside0.mk (Kd.V_afterv (ok := (fun k_ => (P0_ k_ ∨ w.heap.size ≤ k_) ∧ some k_ ≠ (.slice Ao60 y247.length co60 : Value).ownBlock ∧ k_ ≠ gb206)) (by exact vU HO_0.out) hg hat)
                  have n1_ := Aside0.mk (blk_grown (g := gb206) (o := .cells #[.int .i64 a1_0, .int .i64 a1_1, .int .i64 a1_2, .int .i64 a1_3, .int .i64 a1_4] 47 (0, 0)) (by (with_reducible repeat (first | refine blk_drewN ?_ _ | refine blk_drew ?_ | refine blk_alloc ?_ _)); exact BK206.out) hg (Kd.R_away HO252.out (fun _ hk => hk.2.2)))
                  have n2_ := Aside0.mk (Kd.V_afterv (ok := (fun k_ => (P0_ k_ ∨ w.heap.size ≤ k_) ∧ some k_ ≠ (.slice Ao60 y247.length co60 : Value).ownBlock ∧ k_ ≠ gb206)) (by exact vU HO243.out) hg hat)
                  have n3_ := Aside0.mk (Kd.V_afterv (ok := (fun k_ => (P0_ k_ ∨ w.heap.size ≤ k_) ∧ some k_ ≠ (.slice Ao60 y247.length co60 : Value).ownBlock ∧ k_ ≠ gb206)) (by exact vU HO257.out) hg hat)
                  have n4_ := Aside0.mk (Kd.R_after (ok := (fun k_ => (w.heap.size ≤ k_) ∧ k_ ≠ gb206)) (by (with_reducible repeat (first | apply Kd.R_alloc | apply Kd.R_drewN | apply Kd.R_drew)); exact HO249.out) hg hat)
                  have n5_ := Aside0.mk (hb)
                  have n6_ := Aside0.mk (ho)
                  clear HO_0 BK206 HO243 HO257 HO249 HB HO252
                  have HO_0 := n0_
                  have BK206 := n1_
                  have HO243 := n2_
                  have HO257 := n3_
                  have HO249 := n4_
                  have HB := n5_
                  have HO260 := n6_
                  clear n0_ n1_ n2_ n3_ n4_ n5_ n6_ ho hb hg hat
                  refine hK.out _ _ ⟨(blk_cell BK206.out 0).trans rfl, (blk_cell BK206.out 1).trans rfl, (blk_cell BK206.out 2).trans rfl, (blk_cell BK206.out 3).trans rfl, (blk_cell BK206.out 4).trans rfl⟩ (fun hHeld => ?_)
                  clear hK K
                  refine norm_ (a' := ?_) ?_ ?_
                  rotate_left
                  · show Act.put _ (some 46) _ = _
                    simp only [Act.put, List.setIfInBounds_toArray, List.set_cons_zero, List.set_cons_succ, i64_w, i32_w]
                    rfl
                  refine pure_ (i := 12) (N := some 4) (v := ?_) (a' := ?_) #[true, true, true, true, true, true, true, true, true, true, true, true, true] rfl rfl (any_of HT_.out (by kernel_rfl)) (fun _ _ _ h => h) (Or.inl ⟨by rfl, ?_⟩) ?_ ?_
                  rotate_left
                  · intro w'
                    go_simp
                    with_reducible rfl
                  rotate_left
                  · simp only [Act.put, List.setIfInBounds_toArray, List.set_cons_zero, List.set_cons_succ, i64_w, i32_w]
                    rfl
                  refine done_ (done_of HT_.out (by kernel_rfl)) ?_
                  try go_wp2
                  go_ret
                  exact ⟨_, by first | rfl | (simp [errW_none, errW_some] <;> rfl) | (simp [*, errW_none, errW_some] <;> rfl), Kd.V_mono (Kd.R_V (by (with_reducible repeat (first | apply Kd.R_alloc | apply Kd.R_drewN | apply Kd.R_drew)); exact Kd.R_mono HO260.out (fun _ hk => hk.1))) (fun k_ hk => by first | exact ⟨(.inr (hk.1)), hk.2⟩ | exact (.inr (hk))), by exact wS HB.out GE206.out⟩
                · rw [if_neg c47] at H
                  exact absurd H (by simp)
              · rw [if_neg c44] at H
                exact absurd H (by simp)
            · rw [if_neg c43] at H
              exact absurd H (by simp)
          · rw [if_neg c42] at H
            exact absurd H (by simp)
        · rw [if_neg c41] at H
          exact absurd H (by simp)
end Go.Proofs.Ytgbnfjhmobeloaa.G
