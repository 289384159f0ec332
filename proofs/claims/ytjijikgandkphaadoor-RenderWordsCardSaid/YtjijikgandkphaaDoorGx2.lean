import Derived.Test.YtjijikgandkphaaDoorGx0
import Derived.Test.YtjijikgandkphaaDoorGx1
namespace Go.Proofs.YtjijikgandkphaaDoor.G
open Go.RowKit Go.Proofs.YtjijikgandkphaaDoorW.PrintWords Go.Proofs.YtjijikgandkphaaDoorW.PrintLast Go.Proofs.YtjijikgandkphaaDoorW.PrintMore Go.Proofs.YtjijikgandkphaaDoorW.VWords Go.Proofs.YtjijikgandkphaaDoorW.Tab
attribute [local go_sem] max2_int min2_int max_two min_two max_three min_three max_four min_four
set_option linter.unusedVariables false
set_option linter.unusedSimpArgs false
def act_day.f (l0 : List Int) : Option (Bool) := if 0 < (l0.length : Int) then (if 1 < (l0.length : Int) then (if 2 < (l0.length : Int) then ((civil_Right.f (rd l0 0) (rd l0 1) (rd l0 2) 0 0 0).bind fun t109 => (some t109)) else (none)) else (none)) else (none)
def act_day.T1 : Bool × List (List Nat × List Nat) := (true, [([], []), ([0], [0]), ([1], [1]), ([], []), ([3], [3]), ([4], [4]), ([], []), ([6], [6]), ([7], [7]), ([2, 5, 8], [2, 5, 8]), ([9], [9]), ([10, 10, 0, 1, 2, 3, 4, 5, 6, 7, 8, 9, 10], [10])])
def act_day.B1 : List Nat := [0, 1, 3, 0, 8, 24, 0, 64, 192, 511, 1023, 2047]
theorem act_day.tab1 : rtab .any (opsOf Tryd.f21 1) = act_day.T1 := by kernel_rfl
theorem act_day.bits1 : waitsOk act_day.T1.2 act_day.B1 = true := by kernel_rfl
set_option maxHeartbeats 8000000 in
set_option maxRecDepth 100000 in
theorem act_day.calls (A0 : Option Addr) (c0 : Nat) (l0 : List Int) (r : Bool) (w : World) (hr0 : Kd.C (Kd.int .i64) w A0 l0.length l0) (hc0 : l0.length ≤ c0) (h : act_day.f l0 = some r) :
  Calls Tryd.prog 21 #[.slice A0 l0.length c0] w fun e w' => e = .returned (.bool r) ∧ Below w.heap.size w w' := by
 have hu77 := Tryd.underlying77
 have HR0 := Aside0.mk hr0
 have HC0 := Aside0.mk hc0
 clear hr0 hc0
 have HB := Aside0.mk (Below.refl w.heap.size w)
 have H : (if 0 < (l0.length : Int) then (if 1 < (l0.length : Int) then (if 2 < (l0.length : Int) then ((civil_Right.f (rd l0 0) (rd l0 1) (rd l0 2) 0 0 0).bind fun t109 => (some t109)) else (none)) else (none)) else (none)) = some r := h
 clear h
 by_cases c2 : 0 < (l0.length : Int)
 ·rw [if_pos c2] at H
  have c2b0 : decide (0 < (l0.length : Int)) = true := decide_eq_true c2
  have c2b1 : decide (0 < l0.length) = true := decide_eq_true (by omega)
  clear c2
  by_cases c3 : 1 < (l0.length : Int)
  ·rw [if_pos c3] at H
   have c3b0 : decide (1 < (l0.length : Int)) = true := decide_eq_true c3
   have c3b1 : decide (1 < l0.length) = true := decide_eq_true (by omega)
   clear c3
   by_cases c4 : 2 < (l0.length : Int)
   ·rw [if_pos c4] at H
    have c4b0 : decide (2 < (l0.length : Int)) = true := decide_eq_true c4
    have c4b1 : decide (2 < l0.length) = true := decide_eq_true (by omega)
    clear c4
    replace H := Option.bind_eq_some_iff.mp H
    obtain ⟨t109, A50, H⟩ := H
    replace H : (some t109) = some r := H
    have A5 := Aside0.mk A50
    clear A50
    obtain rfl := Option.some.inj H
    go_enter Tryd.func21, Tryd.ntmps21
    try go_wp2
    have n0_ := Aside0.mk (below_drew1 HB.out)
    clear HB
    have HB := n0_
    clear n0_
    have p106 : 0 ≤ (0 : Int) := (by omega)
    have q106 : 0 < (l0.length : Int) := of_decide_eq_true (by first | (with_reducible assumption) | assumption)
    obtain ⟨ad106, e106, hx106_0⟩ := Kd.at_int HR0.out 0 p106 q106
    have hw106_0 := hx106_0
    (try rw [show ((0 : Int)).toNat = 0 from rfl] at hw106_0)
    (try rw [show 0 * 1 = 0 from rfl] at hw106_0)
    (try rw [Addr.add_zero'] at hw106_0)
    cases e106
    have qi106 : (0 < l0.length) = True := eq_true (by omega)
    (try rw [show ((0 : Int)).toNat = 0 from rfl] at hx106_0)
    (try rw [Addr.add_zero'] at hx106_0)
    replace hx106_0 := (HB.out.cell (World.block_lt_of_cell? w _ hx106_0)).trans hx106_0
    replace p106 := eq_true p106
    replace q106 := eq_true q106
    have p107 : 0 ≤ (1 : Int) := (by omega)
    have q107 : 1 < (l0.length : Int) := of_decide_eq_true (by first | (with_reducible assumption) | assumption)
    obtain ⟨ad107, e107, hx107_0⟩ := Kd.at_int HR0.out 1 p107 q107
    have hw107_0 := hx107_0
    (try rw [show ((1 : Int)).toNat = 1 from rfl] at hw107_0)
    (try rw [show 1 * 1 = 1 from rfl] at hw107_0)
    (try simp only [Nat.reduceMul, Nat.reduceEqDiff, Go.Addr.add, ↓reduceIte] at hw107_0)
    obtain rfl : ad106 = ad107 := (by injection e107)
    (try simp only [show (1 : Int).toNat = 1 from rfl, Nat.reduceMul, Nat.reduceEqDiff, Go.Addr.add, ↓reduceIte] at hx107_0)
    have qi107 : (1 < l0.length) = True := eq_true (by omega)
    (try rw [show ((1 : Int)).toNat = 1 from rfl] at hx107_0)
    replace hx107_0 := (HB.out.cell (World.block_lt_of_cell? w _ hx107_0)).trans hx107_0
    replace p107 := eq_true p107
    replace q107 := eq_true q107
    have p108 : 0 ≤ (2 : Int) := (by omega)
    have q108 : 2 < (l0.length : Int) := of_decide_eq_true (by first | (with_reducible assumption) | assumption)
    obtain ⟨ad108, e108, hx108_0⟩ := Kd.at_int HR0.out 2 p108 q108
    have hw108_0 := hx108_0
    (try rw [show ((2 : Int)).toNat = 2 from rfl] at hw108_0)
    (try rw [show 2 * 1 = 2 from rfl] at hw108_0)
    (try simp only [Nat.reduceMul, Nat.reduceEqDiff, Go.Addr.add, ↓reduceIte] at hw108_0)
    obtain rfl : ad106 = ad108 := (by injection e108)
    (try simp only [show (2 : Int).toNat = 2 from rfl, Nat.reduceMul, Nat.reduceEqDiff, Go.Addr.add, ↓reduceIte] at hx108_0)
    have qi108 : (2 < l0.length) = True := eq_true (by omega)
    (try rw [show ((2 : Int)).toNat = 2 from rfl] at hx108_0)
    replace hx108_0 := (HB.out.cell (World.block_lt_of_cell? w _ hx108_0)).trans hx108_0
    replace p108 := eq_true p108
    replace q108 := eq_true q108
    refine start_ (n := 12) (S := fun w' => w'.cell? ad106 = some (.int .i64 (rd l0 0)) ∧ w'.cell? ⟨ad106.block, ad106.off + 1, none⟩ = some (.int .i64 (rd l0 1)) ∧ w'.cell? ⟨ad106.block, ad106.off + 2, none⟩ = some (.int .i64 (rd l0 2))) (ds := []) #[false, false, false, false, false, false, false, false, false, false, false, false] (by kernel_rfl) rfl rfl ⟨((HB.out.cell (World.block_lt_of_cell? w _ hw106_0)).trans hw106_0), ((HB.out.cell (World.block_lt_of_cell? w _ hw107_0)).trans hw107_0), ((HB.out.cell (World.block_lt_of_cell? w _ hw108_0)).trans hw108_0)⟩ (fun hHeld => ?_); refine with_tabW act_day.tab1 act_day.bits1 (fun HT_ HW_ => ?_)
    generalize w.drew = w6 at HB hx106_0 hx107_0 hx108_0 hHeld ⊢
    refine pU HT_ 0 (some 3) (oB 12 1) ?_
    refine pU HT_ 1 (some 4) (oB 12 3) ?_
    refine pU HT_ 3 (some 6) (oB 12 11) ?_
    refine pU HT_ 4 (some 7) (oB 12 27) ?_
    refine pU HT_ 6 (some 9) (oB 12 91) ?_
    refine pU HT_ 7 (some 10) (oB 12 219) ?_
    refine take_ (i := 2) (N := some 5) (v := ?_) (a' := ?_) (oB 12 223) rfl rfl (take_ofW HT_.out HW_.out (by kernel_rfl)) (fun _ _ _ h => h) (Or.inl ⟨by rfl, ?_⟩) hHeld ?_ ?_
    rotate_left
    ·rintro w' ⟨s0, s1, s2⟩
     go_simp
     with_reducible rfl
    rotate_left
    ·simp only [Act.put, List.setIfInBounds_toArray, List.set_cons_zero, List.set_cons_succ, i64_w, i32_w]
     rfl
    refine take_ (i := 5) (N := some 8) (v := ?_) (a' := ?_) (oB 12 255) rfl rfl (take_ofW HT_.out HW_.out (by kernel_rfl)) (fun _ _ _ h => h) (Or.inl ⟨by rfl, ?_⟩) hHeld ?_ ?_
    rotate_left
    ·rintro w' ⟨s0, s1, s2⟩
     go_simp
     with_reducible rfl
    rotate_left
    ·simp only [Act.put, List.setIfInBounds_toArray, List.set_cons_zero, List.set_cons_succ, i64_w, i32_w]
     rfl
    refine take_ (i := 8) (N := some 11) (v := ?_) (a' := ?_) (oB 12 511) rfl rfl (take_ofW HT_.out HW_.out (by kernel_rfl)) (fun _ _ _ h => h) (Or.inl ⟨by rfl, ?_⟩) hHeld ?_ ?_
    rotate_left
    ·rintro w' ⟨s0, s1, s2⟩
     go_simp
     with_reducible rfl
    rotate_left
    ·simp only [Act.put, List.setIfInBounds_toArray, List.set_cons_zero, List.set_cons_succ, i64_w, i32_w]
     rfl
    refine pU HT_ 9 (some 12) (oB 12 1023) ?_
    refine one_ (i := 10) (N := some 13) (oB 12 2047) rfl rfl (one_of HT_.out (by kernel_rfl)) (by decide) (fun K hK => ?_)
    refine goes_ Tryd.func36 (by kernel_rfl) rfl #[.agg #[.int .i64 (rd l0 0), .int .i64 (rd l0 1), .int .i64 (rd l0 2), .int .i64 0, .int .i64 0, .int .i64 0]] (by rfl) rfl rfl (by (try simp only [List.map_toArray, List.map_cons, List.map_nil]); first | done | rfl | (simp only [List.length_drop, List.length_take]; rfl)) ?_
    with_reducible refine (civil_Right.calls (rd l0 0) (rd l0 1) (rd l0 2) 0 0 0 t109 _ A5.out).mono ?_
    rintro e w7 ⟨rfl, hb⟩
    refine ⟨_, rfl, ?_⟩
    have n0_ := Aside0.mk (below_step (by exact wU HB.out) hb)
    clear HB
    have HB := n0_
    clear n0_
    (try clear hb)
    (try clear hb2)
    (try clear hk)
    (try clear hi)
    refine hK.out _ _ ⟨((HB.out.cell (World.block_lt_of_cell? w _ hw106_0)).trans hw106_0), ((HB.out.cell (World.block_lt_of_cell? w _ hw107_0)).trans hw107_0), ((HB.out.cell (World.block_lt_of_cell? w _ hw108_0)).trans hw108_0)⟩ (fun hHeld => ?_)
    clear hK K
    refine nM ?_
    refine pU HT_ 11 (some 2) (oB 12 4095) ?_
    refine done_ (done_of HT_.out (by kernel_rfl)) ?_
    try go_wp2
    go_ret
    exact ⟨by first | rfl | (simp [errW_none, errW_some] <;> rfl) | (simp [*, errW_none, errW_some] <;> rfl), by exact wU HB.out⟩
   ·rw [if_neg c4] at H
    exact absurd H (by simp)
  ·rw [if_neg c3] at H
   exact absurd H (by simp)
 ·rw [if_neg c2] at H
  exact absurd H (by simp)
def normT : Nat → Int → Int × Int
 | 0, m => (m, 0)
 | n + 1, m => if Int.tmod m 10 = 0 then normT n (wrap64 (Int.tdiv m 10)) else (m, (n : Int) + 1)
def dec_Norm.f (a0 : Int) (a1 : Int) : Option (Int × Int) := if a1 ≤ 9223372036854775807 then (if 0 < a1 then some (normT a1.toNat a0) else some (a0, 0)) else none
theorem normT_step (m s : Int) (h : 0 < s) (hz : Int.tmod m 10 = 0) : (if 0 < s then normT s.toNat m else (m, 0)) = (if 0 < s - 1 then normT (s - 1).toNat (wrap64 (Int.tdiv m 10)) else (wrap64 (Int.tdiv m 10), 0)) := by
 have e : s.toNat = (s - 1).toNat + 1 := by omega
 rw [if_pos h, e, normT, if_pos hz]
 by_cases h1 : 0 < s - 1
 ·rw [if_pos h1]
 ·have e0 : (s - 1).toNat = 0 := by omega
  rw [if_neg h1, e0, normT]
theorem normT_stop (m s : Int) (h : 0 < s) (hz : ¬ Int.tmod m 10 = 0) : (if 0 < s then normT s.toNat m else (m, 0)) = (m, s) := by
 have e : s.toNat = (s - 1).toNat + 1 := by omega
 have e1 : (((s - 1).toNat : Nat) : Int) + 1 = s := by omega
 rw [if_pos h, e, normT, if_neg hz, e1]
def norm_scale : Value → Nat | .int _ q => q.toNat | _ => 0
set_option maxHeartbeats 1000000 in
set_option maxRecDepth 1000000 in
theorem dec_Norm_walk (a0 : Int) (a1 : Int) (ha : a1 ≤ 9223372036854775807) (r1 r2 : Int) (hr : (if 0 < a1 then normT a1.toNat a0 else (a0, 0)) = (r1, r2)) (w : World) :
  Calls Tryd.prog 37 #[.int .i64 a0, .int .i64 a1] w fun e w' => e = .returned (.tuple #[.int .i64 r1, .int .i64 r2]) ∧ w' = w := by
 go_enter Tryd.func37, Tryd.ntmps37
 go_wp2
 refine wp_scope_jumps 0 (fun a' w' => w' = w ∧ ∃ (x0 x1 : Int) (u0 u1 u2 u3 u4 u5 u6 u7 u8 u9 u10 u11 u12 u13 u14 u15 : Value), a' = { tmps := #[.int .i64 x0, .int .i64 x1, u0, u1, .int .i64 0, .int .i64 0, u2, u3, u4, u5, u6, u7, u8, u9, u10, u11, u12, u13, u14, u15], defers := [] } ∧ (if 0 < x1 then normT x1.toNat x0 else (x0, 0)) = (r1, r2) ∧ x1 ≤ 9223372036854775807) (fun a' _ => norm_scale (a'.tmps.getD 1 undef)) rfl ?_ ?_
 ·go_wp2
  go_step3
  go_wp2
  ·rename_i hpos hz
   go_step3
   refine ⟨rfl, rfl, _, _, _, _, _, _, _, _, _, _, _, _, _, _, _, _, _, _, rfl, ?_, by omega⟩
   rw [← hr, normT_step a0 a1 hpos (eq_of_beq hz)]
  ·rename_i hpos hz
   simp only [Exit.jump]
   go_ret2
   rw [normT_stop a0 a1 hpos (by simpa using hz)] at hr
   cases hr
   exact ⟨rfl, rfl⟩
  ·rename_i hneg h
   simp only [Exit.jump]
   go_ret2
   rw [if_neg (by omega)] at hr
   cases hr
   exact ⟨rfl, rfl⟩
  ·rename_i hneg h
   simp only [Exit.jump]
   go_ret2
   rw [if_neg (by omega)] at hr
   obtain rfl : a1 = 0 := by omega
   cases hr
   exact ⟨rfl, rfl⟩
 ·rintro a' w' ⟨rfl, x0, x1, u0, u1, u2, u3, u4, u5, u6, u7, u8, u9, u10, u11, u12, u13, u14, u15, rfl, hs, hm⟩
  go_wp2
  ·rename_i hpos hz
   go_step3
   refine ⟨rfl, ⟨rfl, _, _, _, _, _, _, _, _, _, _, _, _, _, _, _, _, _, _, rfl, ?_, by omega⟩, ?_⟩
   ·rw [← hs, normT_step x0 x1 hpos (eq_of_beq hz)]
   ·simp [norm_scale]
    omega
  ·rename_i hpos hz
   simp only [Exit.jump]
   go_ret2
   rw [normT_stop x0 x1 hpos (by simpa using hz)] at hs
   cases hs
   exact ⟨rfl, rfl⟩
  ·rename_i hneg h
   simp only [Exit.jump]
   go_ret2
   rw [if_neg (by omega)] at hs
   cases hs
   exact ⟨rfl, rfl⟩
  ·rename_i hneg h
   simp only [Exit.jump]
   go_ret2
   rw [if_neg (by omega)] at hs
   obtain rfl : x1 = 0 := by omega
   cases hs
   exact ⟨rfl, rfl⟩
theorem dec_Norm.calls (a0 : Int) (a1 : Int) (r1 : Int) (r2 : Int) (w : World) (h : dec_Norm.f a0 a1 = some (r1, r2)) :
  Calls Tryd.prog 37 #[.int .i64 a0, .int .i64 a1] w fun e w' => e = .returned (.tuple #[.int .i64 r1, .int .i64 r2]) ∧ Drawn0 w w' := by
 unfold dec_Norm.f at h
 by_cases hm : a1 ≤ 9223372036854775807
 ·rw [if_pos hm] at h
  refine (dec_Norm_walk a0 a1 hm r1 r2 ?_ w).mono fun e w' hh => ⟨hh.1, hh.2 ▸ Drawn0.refl _⟩
  by_cases h0 : 0 < a1
  ·rw [if_pos h0] at h ⊢
   exact Option.some.inj h
  ·rw [if_neg h0] at h ⊢
   exact Option.some.inj h
 ·rw [if_neg hm] at h
  cases h
end Go.Proofs.YtjijikgandkphaaDoor.G
