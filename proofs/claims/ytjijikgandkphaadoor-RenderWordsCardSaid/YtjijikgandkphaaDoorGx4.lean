import Derived.Test.YtjijikgandkphaaDoorGx0
import Derived.Test.YtjijikgandkphaaDoorGx1
import Derived.Test.YtjijikgandkphaaDoorGx2
import Derived.Test.YtjijikgandkphaaDoorGx3
namespace Go.Proofs.YtjijikgandkphaaDoor.G
open Go.RowKit Go.Proofs.YtjijikgandkphaaDoorW.PrintWords Go.Proofs.YtjijikgandkphaaDoorW.PrintLast Go.Proofs.YtjijikgandkphaaDoorW.PrintMore Go.Proofs.YtjijikgandkphaaDoorW.VWords Go.Proofs.YtjijikgandkphaaDoorW.Tab
attribute [local go_sem] max2_int min2_int max_two min_two max_three min_three max_four min_four
set_option linter.unusedVariables false
set_option linter.unusedSimpArgs false
def act_Right.f (k : Nat) (kd : Int) (l : List Int) : Option Bool :=
 (act_fields.f kd).bind fun n => if ((l.length : Int) == n) = false then some false else
 if kd = 4 then act_day.f l else if kd = 7 then act_decimal.f l
 else if kd = 8 then (if 1 < l.length then some (decide (0 ≤ rd l 0) && (decide (rd l 0 ≤ 1000000000) && (decide (-1000000000000000000 < rd l 1) && decide (rd l 1 < 1000000000000000000)))) else none)
 else if kd = 9 then (if 0 < l.length then some (decide (0 ≤ rd l 0) && decide (rd l 0 ≤ 9007199254740991)) else none) else none
theorem act_Right.mono : ∀ a b k, LeO (act_Right.f k a b) (act_Right.f (k + 1) a b) := fun _ _ _ => LeO.refl _
set_option maxHeartbeats 8000000 in
set_option maxRecDepth 100000 in
theorem act_Right.calls (k : Nat) (kd : Int) (A : Option Addr) (c : Nat) (l : List Int) (r : Bool) (w : World) (hC : Kd.C (Kd.int .i64) w A l.length l) (hc : l.length ≤ c) (h : act_Right.f k kd l = some r) :
  Calls Tryd.prog 13 #[.agg #[.int .i64 kd, .slice A l.length c]] w fun e w' => e = .returned (.bool r) ∧ Below w.heap.size w w' := by
 have hu38 := Tryd.underlying38
 have hu36 := Tryd.underlying36
 obtain ⟨n, hn, h⟩ := Option.bind_eq_some_iff.mp h
 have HN := Aside0.mk hn
 have HC := Aside0.mk hC
 have HCC := Aside0.mk hc
 have HD := Aside0.mk (Below.refl w.heap.size w)
 clear hn hC hc
 cases c0 : (l.length : Int) == n with
 | false =>
  rw [if_pos c0] at h
  cases h
  go_enter Tryd.func13, Tryd.ntmps13
  go_wp2_with (first | ((with_reducible refine gate_dst (N := 1) rfl ?_); refine box_event ?hg (N := 1) ?hd (cs := #[.int .i64 kd, .slice A l.length c]) (t := 38) ?hr ?_; (case hd => rfl); (case hg => rfl); (case hr => first | (go_simp; done) | (go_simp; rfl)); intro g1 hg_ w1 hbox hb; have K1 := Aside0.mk hbox; replace HD := Aside0.mk (below_step HD.out hb); clear hbox hb hg_))
  replace HD := Aside0.mk (below_drew HD.out)
  replace K1 := Aside0.mk (blk_drew K1.out)
  refine start_ (n := 7) (S := fun w' => Below w.heap.size w w' ∧ w'.heap[g1]? = some (.cells #[.int .i64 kd, .slice A l.length c] 38 (0, 0))) (ds := []) #[false, false, false, false, false, false, false] (by kernel_rfl) rfl rfl ⟨HD.out, K1.out⟩ (fun hHeld => ?_)
  generalize World.drew _ = wd at HD K1 hHeld ⊢
  refine pure_ (i := 0) (N := (some 4)) (v := ?_) (a' := ?_) #[true, false, false, false, false, false, false] rfl rfl (by kernel_rfl) (fun _ _ _ h => h) (Or.inl ⟨by rfl, ?_⟩) ?_ ?_
  rotate_left
  ·intro w'
   go_simp
   with_reducible rfl
  rotate_left
  ·simp only [Act.put, List.setIfInBounds_toArray, List.set_cons_zero, List.set_cons_succ, i64_w, i32_w]
   rfl
  refine pure_ (i := 3) (N := (some 7)) (v := ?_) (a' := ?_) #[true, false, false, true, false, false, false] rfl rfl (by kernel_rfl) (fun _ _ _ h => h) (Or.inl ⟨by rfl, ?_⟩) ?_ ?_
  rotate_left
  ·intro w'
   go_simp
   with_reducible rfl
  rotate_left
  ·simp only [Act.put, List.setIfInBounds_toArray, List.set_cons_zero, List.set_cons_succ, i64_w, i32_w]
   rfl
  refine take_ (i := 1) (N := (some 5)) (v := ?_) (a' := ?_) #[true, true, false, true, false, false, false] rfl rfl (by kernel_rfl) (fun _ _ _ h => h) (Or.inl ⟨by rfl, ?_⟩) hHeld ?_ ?_
  rotate_left
  ·rintro w' ⟨hB_, hK_⟩
   have s0 : w'.cell? ⟨g1, 0, none⟩ = some (.int .i64 kd) := (blk_cell hK_ 0).trans rfl
   have s1 : w'.cell? ⟨g1, 1, none⟩ = some (.slice A l.length c) := (blk_cell hK_ 1).trans rfl
   go_simp
   with_reducible rfl
  rotate_left
  ·simp only [Act.put, List.setIfInBounds_toArray, List.set_cons_zero, List.set_cons_succ, i64_w, i32_w]
   rfl
  refine pure_ (i := 2) (N := (some 6)) (v := ?_) (a' := ?_) #[true, true, true, true, false, false, false] rfl rfl (by kernel_rfl) (fun _ _ _ h => h) (Or.inl ⟨by rfl, ?_⟩) ?_ ?_
  rotate_left
  ·intro w'
   go_simp
   with_reducible rfl
  rotate_left
  ·simp only [Act.put, List.setIfInBounds_toArray, List.set_cons_zero, List.set_cons_succ, i64_w, i32_w]
   rfl
  refine take_ (i := 4) (N := (some 8)) (v := ?_) (a' := ?_) #[true, true, true, true, true, false, false] rfl rfl (by kernel_rfl) (fun _ _ _ h => h) (Or.inl ⟨by rfl, ?_⟩) hHeld ?_ ?_
  rotate_left
  ·rintro w' ⟨hB_, hK_⟩
   have s0 : w'.cell? ⟨g1, 0, none⟩ = some (.int .i64 kd) := (blk_cell hK_ 0).trans rfl
   have s1 : w'.cell? ⟨g1, 1, none⟩ = some (.slice A l.length c) := (blk_cell hK_ 1).trans rfl
   go_simp
   with_reducible rfl
  rotate_left
  ·simp only [Act.put, List.setIfInBounds_toArray, List.set_cons_zero, List.set_cons_succ, i64_w, i32_w]
   rfl
  refine one_ (i := 5) (N := (some 9)) #[true, true, true, true, true, true, false] rfl rfl (by kernel_rfl) (by decide) (fun K hK => ?_)
  refine goes_ Tryd.func20 (by kernel_rfl) rfl #[.int .i64 kd] (by rfl) rfl rfl (by (try simp only [List.map_toArray, List.map_cons, List.map_nil]); first | done | rfl) ?_
  refine (act_fields.calls kd n _ HN.out).mono ?_
  rintro e wf ⟨rfl, hb⟩
  refine ⟨_, rfl, ?_⟩
  replace K1 := Aside0.mk (blk_below K1.out hb)
  replace HD := Aside0.mk (below_step HD.out hb)
  clear hb
  change K (Act.put _ (some 9) _) _
  refine hK.out _ _ ⟨HD.out, K1.out⟩ (fun hHeld => ?_)
  clear hK K
  refine nM ?_
  refine pure_ (i := 6) (N := (some 10)) (v := ?_) (a' := ?_) #[true, true, true, true, true, true, true] rfl rfl (by kernel_rfl) (fun _ _ _ h => h) (Or.inl ⟨by rfl, ?_⟩) ?_ ?_
  rotate_left
  ·intro w'
   go_simp
   with_reducible rfl
  rotate_left
  ·simp only [Act.put, List.setIfInBounds_toArray, List.set_cons_zero, List.set_cons_succ, i64_w, i32_w]
   rfl
  refine done_ (by kernel_rfl) ?_
  clear hHeld
  have s0 : wf.cell? ⟨g1, 0, none⟩ = some (.int .i64 kd) := (blk_cell K1.out 0).trans rfl
  have s1 : wf.cell? ⟨g1, 1, none⟩ = some (.slice A l.length c) := (blk_cell K1.out 1).trans rfl
  go_wp2
  go_ret
  exact ⟨rfl, HD.out⟩
 | true =>
  rw [if_neg (by rw [c0]; decide)] at h
  go_enter Tryd.func13, Tryd.ntmps13
  go_wp2_with (first | ((with_reducible refine gate_dst (N := 1) rfl ?_); refine box_event ?hg (N := 1) ?hd (cs := #[.int .i64 kd, .slice A l.length c]) (t := 38) ?hr ?_; (case hd => rfl); (case hg => rfl); (case hr => first | (go_simp; done) | (go_simp; rfl)); intro g1 hg_ w1 hbox hb; have K1 := Aside0.mk hbox; replace HD := Aside0.mk (below_step HD.out hb); clear hbox hb hg_))
  replace HD := Aside0.mk (below_drew HD.out)
  replace K1 := Aside0.mk (blk_drew K1.out)
  refine start_ (n := 7) (S := fun w' => Below w.heap.size w w' ∧ w'.heap[g1]? = some (.cells #[.int .i64 kd, .slice A l.length c] 38 (0, 0))) (ds := []) #[false, false, false, false, false, false, false] (by kernel_rfl) rfl rfl ⟨HD.out, K1.out⟩ (fun hHeld => ?_)
  generalize World.drew _ = wd at HD K1 hHeld ⊢
  refine pure_ (i := 0) (N := (some 4)) (v := ?_) (a' := ?_) #[true, false, false, false, false, false, false] rfl rfl (by kernel_rfl) (fun _ _ _ h => h) (Or.inl ⟨by rfl, ?_⟩) ?_ ?_
  rotate_left
  ·intro w'
   go_simp
   with_reducible rfl
  rotate_left
  ·simp only [Act.put, List.setIfInBounds_toArray, List.set_cons_zero, List.set_cons_succ, i64_w, i32_w]
   rfl
  refine pure_ (i := 3) (N := (some 7)) (v := ?_) (a' := ?_) #[true, false, false, true, false, false, false] rfl rfl (by kernel_rfl) (fun _ _ _ h => h) (Or.inl ⟨by rfl, ?_⟩) ?_ ?_
  rotate_left
  ·intro w'
   go_simp
   with_reducible rfl
  rotate_left
  ·simp only [Act.put, List.setIfInBounds_toArray, List.set_cons_zero, List.set_cons_succ, i64_w, i32_w]
   rfl
  refine take_ (i := 1) (N := (some 5)) (v := ?_) (a' := ?_) #[true, true, false, true, false, false, false] rfl rfl (by kernel_rfl) (fun _ _ _ h => h) (Or.inl ⟨by rfl, ?_⟩) hHeld ?_ ?_
  rotate_left
  ·rintro w' ⟨hB_, hK_⟩
   have s0 : w'.cell? ⟨g1, 0, none⟩ = some (.int .i64 kd) := (blk_cell hK_ 0).trans rfl
   have s1 : w'.cell? ⟨g1, 1, none⟩ = some (.slice A l.length c) := (blk_cell hK_ 1).trans rfl
   go_simp
   with_reducible rfl
  rotate_left
  ·simp only [Act.put, List.setIfInBounds_toArray, List.set_cons_zero, List.set_cons_succ, i64_w, i32_w]
   rfl
  refine pure_ (i := 2) (N := (some 6)) (v := ?_) (a' := ?_) #[true, true, true, true, false, false, false] rfl rfl (by kernel_rfl) (fun _ _ _ h => h) (Or.inl ⟨by rfl, ?_⟩) ?_ ?_
  rotate_left
  ·intro w'
   go_simp
   with_reducible rfl
  rotate_left
  ·simp only [Act.put, List.setIfInBounds_toArray, List.set_cons_zero, List.set_cons_succ, i64_w, i32_w]
   rfl
  refine take_ (i := 4) (N := (some 8)) (v := ?_) (a' := ?_) #[true, true, true, true, true, false, false] rfl rfl (by kernel_rfl) (fun _ _ _ h => h) (Or.inl ⟨by rfl, ?_⟩) hHeld ?_ ?_
  rotate_left
  ·rintro w' ⟨hB_, hK_⟩
   have s0 : w'.cell? ⟨g1, 0, none⟩ = some (.int .i64 kd) := (blk_cell hK_ 0).trans rfl
   have s1 : w'.cell? ⟨g1, 1, none⟩ = some (.slice A l.length c) := (blk_cell hK_ 1).trans rfl
   go_simp
   with_reducible rfl
  rotate_left
  ·simp only [Act.put, List.setIfInBounds_toArray, List.set_cons_zero, List.set_cons_succ, i64_w, i32_w]
   rfl
  refine one_ (i := 5) (N := (some 9)) #[true, true, true, true, true, true, false] rfl rfl (by kernel_rfl) (by decide) (fun K hK => ?_)
  refine goes_ Tryd.func20 (by kernel_rfl) rfl #[.int .i64 kd] (by rfl) rfl rfl (by (try simp only [List.map_toArray, List.map_cons, List.map_nil]); first | done | rfl) ?_
  refine (act_fields.calls kd n _ HN.out).mono ?_
  rintro e wf ⟨rfl, hb⟩
  refine ⟨_, rfl, ?_⟩
  replace K1 := Aside0.mk (blk_below K1.out hb)
  replace HD := Aside0.mk (below_step HD.out hb)
  clear hb
  change K (Act.put _ (some 9) _) _
  refine hK.out _ _ ⟨HD.out, K1.out⟩ (fun hHeld => ?_)
  clear hK K
  refine nM ?_
  refine pure_ (i := 6) (N := (some 10)) (v := ?_) (a' := ?_) #[true, true, true, true, true, true, true] rfl rfl (by kernel_rfl) (fun _ _ _ h => h) (Or.inl ⟨by rfl, ?_⟩) ?_ ?_
  rotate_left
  ·intro w'
   go_simp
   with_reducible rfl
  rotate_left
  ·simp only [Act.put, List.setIfInBounds_toArray, List.set_cons_zero, List.set_cons_succ, i64_w, i32_w]
   rfl
  refine done_ (by kernel_rfl) ?_
  clear hHeld
  have s0 : wf.cell? ⟨g1, 0, none⟩ = some (.int .i64 kd) := (blk_cell K1.out 0).trans rfl
  have s1 : wf.cell? ⟨g1, 1, none⟩ = some (.slice A l.length c) := (blk_cell K1.out 1).trans rfl
  by_cases c4 : kd = 4
  ·rw [if_pos c4] at h
   have d4 : (kd == 4) = true := beq_iff_eq.mpr c4
   clear c4
   have H := Aside0.mk h
   clear h
   go_wp2_with (first | (go_at_call 21; (with_reducible refine (act_day.calls _ c l r _ (Kd.C_below HC.out HD.out) HCC.out H.out).mono ?_); rintro e wz ⟨rfl, hb0⟩; have hb := hb0; replace HD := Aside0.mk (below_step HD.out hb); clear hb hb0))
   go_ret
   exact ⟨rfl, HD.out⟩
  rw [if_neg c4] at h
  have d4 : (kd == 4) = false := beq_eq_false_iff_ne.mpr c4
  by_cases c7 : kd = 7
  ·rw [if_pos c7] at h
   have d7 : (kd == 7) = true := beq_iff_eq.mpr c7
   have d5 : (kd == 5) = false := beq_eq_false_iff_ne.mpr (by omega)
   have d6 : (kd == 6) = false := beq_eq_false_iff_ne.mpr (by omega)
   clear c7
   have H := Aside0.mk h
   clear h
   go_wp2_with (first | (go_at_call 23; (with_reducible refine (act_decimal.calls _ c l r _ (Kd.C_below HC.out HD.out) HCC.out H.out).mono ?_); rintro e wz ⟨rfl, hb0⟩; have hb := hb0.below; replace HD := Aside0.mk (below_step HD.out hb); clear hb hb0))
   go_ret
   exact ⟨rfl, HD.out⟩
  rw [if_neg c7] at h
  have d7 : (kd == 7) = false := beq_eq_false_iff_ne.mpr c7
  by_cases c8 : kd = 8
  ·rw [if_pos c8] at h
   have d8 : (kd == 8) = true := beq_iff_eq.mpr c8
   have d5 : (kd == 5) = false := beq_eq_false_iff_ne.mpr (by omega)
   have d6 : (kd == 6) = false := beq_eq_false_iff_ne.mpr (by omega)
   clear c8
   by_cases cl : 1 < l.length
   rotate_left
   ·rw [if_neg cl] at h
    cases h
   rw [if_pos cl] at h
   obtain ⟨ad, e, y0⟩ := Kd.at_int HC.out 0 (by decide) (by omega)
   obtain ⟨ad1, e1, y1⟩ := Kd.at_int HC.out 1 (by decide) (by omega)
   obtain rfl : ad = ad1 := by rw [e] at e1; injection e1
   subst e
   clear e1
   rw [show ((0 : Int)).toNat = 0 from rfl, Addr.add_zero'] at y0
   rw [show ((1 : Int)).toNat = 1 from rfl] at y1
   simp only [Go.Addr.add, Nat.reduceEqDiff, ↓reduceIte] at y1
   have Yo0 := Aside0.mk y0
   have Yo1 := Aside0.mk y1
   have e := Option.some.inj h
   clear h y0 y1
   have k0 : (0 < l.length) = True := eq_true (by omega)
   have k1 : (1 < l.length) = True := eq_true cl
   have k2 : ((0 : Int) < (l.length : Int)) = True := eq_true (by omega)
   have k3 : ((1 : Int) < (l.length : Int)) = True := eq_true (by omega)
   clear cl
   obtain ⟨v0, hv0⟩ : ∃ z, rd l 0 = z := ⟨_, rfl⟩
   obtain ⟨v1, hv1⟩ : ∃ z, rd l 1 = z := ⟨_, rfl⟩
   rw [hv0, hv1] at e
   rw [hv0] at Yo0
   rw [hv1] at Yo1
   clear hv0 hv1
   cases m0 : decide (0 ≤ v0) with
   | false =>
    have er : r = false := by rw [← e]; simp only [m0, Bool.true_and, Bool.false_and]
    subst er
    clear e
    have z0 := pw_cell_below HD.out Yo0.out
    have z1 := pw_cell_below HD.out Yo1.out
    go_wp2
    go_ret
    exact ⟨rfl, HD.out⟩
   | true =>
    cases m1 : decide (v0 ≤ 1000000000) with
    | false =>
     have er : r = false := by rw [← e]; simp only [m0, m1, Bool.true_and, Bool.false_and]
     subst er
     clear e
     have z0 := pw_cell_below HD.out Yo0.out
     have z1 := pw_cell_below HD.out Yo1.out
     go_wp2
     go_ret
     exact ⟨rfl, HD.out⟩
    | true =>
     cases m2 : decide (-1000000000000000000 < v1) with
     | false =>
      have er : r = false := by rw [← e]; simp only [m0, m1, m2, Bool.true_and, Bool.false_and]
      subst er
      clear e
      have z0 := pw_cell_below HD.out Yo0.out
      have z1 := pw_cell_below HD.out Yo1.out
      go_wp2
      go_ret
      exact ⟨rfl, HD.out⟩
     | true =>
      cases m3 : decide (v1 < 1000000000000000000) with
      | false =>
       have er : r = false := by rw [← e]; simp only [m0, m1, m2, m3, Bool.true_and, Bool.false_and]
       subst er
       clear e
       have z0 := pw_cell_below HD.out Yo0.out
       have z1 := pw_cell_below HD.out Yo1.out
       go_wp2
       go_ret
       exact ⟨rfl, HD.out⟩
      | true =>
       have er : r = true := by rw [← e]; simp only [m0, m1, m2, m3, Bool.true_and]
       subst er
       clear e
       have z0 := pw_cell_below HD.out Yo0.out
       have z1 := pw_cell_below HD.out Yo1.out
       go_wp2
       go_ret
       exact ⟨rfl, HD.out⟩
  rw [if_neg c8] at h
  have d8 : (kd == 8) = false := beq_eq_false_iff_ne.mpr c8
  by_cases c9 : kd = 9
  ·rw [if_pos c9] at h
   have d9 : (kd == 9) = true := beq_iff_eq.mpr c9
   have d5 : (kd == 5) = false := beq_eq_false_iff_ne.mpr (by omega)
   have d6 : (kd == 6) = false := beq_eq_false_iff_ne.mpr (by omega)
   clear c9
   by_cases cl : 0 < l.length
   rotate_left
   ·rw [if_neg cl] at h
    cases h
   rw [if_pos cl] at h
   obtain ⟨ad, e, y0⟩ := Kd.at_int HC.out 0 (by decide) (by omega)
   subst e
   rw [show ((0 : Int)).toNat = 0 from rfl, Addr.add_zero'] at y0
   have Yo0 := Aside0.mk y0
   have e := Option.some.inj h
   clear h y0
   have k0 : (0 < l.length) = True := eq_true (by omega)
   have k2 : ((0 : Int) < (l.length : Int)) = True := eq_true (by omega)
   clear cl
   obtain ⟨v0, hv0⟩ : ∃ z, rd l 0 = z := ⟨_, rfl⟩
   rw [hv0] at e
   rw [hv0] at Yo0
   clear hv0
   cases m0 : decide (0 ≤ v0) with
   | false =>
    have er : r = false := by rw [← e]; simp only [m0, Bool.true_and, Bool.false_and]
    subst er
    clear e
    have z0 := pw_cell_below HD.out Yo0.out
    go_wp2
    go_ret
    exact ⟨rfl, HD.out⟩
   | true =>
    cases m1 : decide (v0 ≤ 9007199254740991) with
    | false =>
     have er : r = false := by rw [← e]; simp only [m0, m1, Bool.true_and, Bool.false_and]
     subst er
     clear e
     have z0 := pw_cell_below HD.out Yo0.out
     go_wp2
     go_ret
     exact ⟨rfl, HD.out⟩
    | true =>
     have er : r = true := by rw [← e]; simp only [m0, m1, Bool.true_and]
     subst er
     clear e
     have z0 := pw_cell_below HD.out Yo0.out
     go_wp2
     go_ret
     exact ⟨rfl, HD.out⟩
  rw [if_neg c9] at h
  have d9 : (kd == 9) = false := beq_eq_false_iff_ne.mpr c9
  cases h
def decK : Nat → Nat → List UInt8
 | 0, u => [UInt8.ofNat (48 + u)]
 | n + 1, u => if u < 10 then [UInt8.ofNat (48 + u)] else decK n (u / 10) ++ [UInt8.ofNat (48 + u % 10)]
theorem decK_eq : ∀ (n u : Nat), u < 10 ^ n → decK n u = Lib.decDigits u
 | 0, u, h => by
  rw [Lib.decDigits, dif_pos (by simp at h; omega)]
  rfl
 | n + 1, u, h => by
  rw [decK, Lib.decDigits]
  by_cases hu : u < 10
  ·rw [if_pos hu, dif_pos hu]
  ·rw [if_neg hu, dif_neg hu, decK_eq n (u / 10) (by rw [Nat.pow_succ] at h; omega)]
def itoaK (n : Int) : List UInt8 := if n < 0 then 45 :: decK 20 n.natAbs else decK 20 n.toNat
theorem itoaK_eq (n : Int) (h : -9223372036854775808 ≤ n ∧ n ≤ 9223372036854775807) : itoaK n = Lib.itoa n := by
 unfold itoaK Lib.itoa
 rw [decK_eq 20 _ (by omega), decK_eq 20 _ (by omega)]
def strconv_Itoa.f (a0 : Int) : Option ByteArray := if -9223372036854775808 ≤ a0 ∧ a0 ≤ 9223372036854775807 then some ⟨(itoaK a0).toArray⟩ else none
theorem strconv_Itoa.calls (a0 : Int) (r : ByteArray) (w : World) (h : strconv_Itoa.f a0 = some r) (hT_ : YtjijikgandkphaaDoorW.Tab.TabOK w) :
  Calls Tryd.prog 53 #[.int .i64 a0] w fun e w' => e = .returned (.string r) ∧ Below w.heap.size w w' := by
 unfold strconv_Itoa.f at h
 by_cases hm : -9223372036854775808 ≤ a0 ∧ a0 ≤ 9223372036854775807
 ·rw [if_pos hm, itoaK_eq a0 hm] at h
  obtain rfl := Option.some.inj h
  refine (Go.Proofs.Tryd.strconv_Itoa a0 hm.1 hm.2 w hT_).mono fun e w' hh => ⟨hh.1, ?_⟩
  obtain ⟨_, k, os, rfl⟩ := hh
  exact YtjijikgandkphaaDoorW.Tab.below_grow_drewN w k os
 ·rw [if_neg hm] at h
  cases h
end Go.Proofs.YtjijikgandkphaaDoor.G
