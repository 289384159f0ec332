-- printed by wip/tool/gprint.py, a program of this work, out of the translation; Lean checks it
import Derived.Test.YtjbihflpjkaifaaDoorGx0
namespace Go.Proofs.YtjbihflpjkaifaaDoor.G
open Go.RowKit Go.Proofs.YtjbihflpjkaifaaDoorW.PrintWords Go.Proofs.YtjbihflpjkaifaaDoorW.PrintLast Go.Proofs.YtjbihflpjkaifaaDoorW.PrintMore Go.Proofs.YtjbihflpjkaifaaDoorW.VWords Go.Proofs.YtjbihflpjkaifaaDoorW.Tab
attribute [local go_sem] max2_int min2_int max_two min_two max_three min_three max_four min_four   -- for this text's walks alone
set_option linter.unusedVariables false
set_option linter.unusedSimpArgs false

/-! ### dec_Norm: function 15 -/
/-- A number without the noughts at its end, and how many of at most so many were struck. -/
def normT : Nat → Int → Int × Int
  | 0, m => (m, 0)
  | n + 1, m => if Int.tmod m 10 = 0 then normT n (wrap64 (Int.tdiv m 10)) else (m, (n : Int) + 1)
def dec_Norm.f (a0 : Int) (a1 : Int) : Option (Int × Int) := if a1 ≤ 9223372036854775807 then (if 0 < a1 then some (normT a1.toNat a0) else some (a0, 0)) else none
theorem normT_step (m s : Int) (h : 0 < s) (hz : Int.tmod m 10 = 0) : (if 0 < s then normT s.toNat m else (m, 0)) = (if 0 < s - 1 then normT (s - 1).toNat (wrap64 (Int.tdiv m 10)) else (wrap64 (Int.tdiv m 10), 0)) := by
  have e : s.toNat = (s - 1).toNat + 1 := by omega
  rw [if_pos h, e, normT, if_pos hz]
  by_cases h1 : 0 < s - 1
  · rw [if_pos h1]
  · have e0 : (s - 1).toNat = 0 := by omega
    rw [if_neg h1, e0, normT]
theorem normT_stop (m s : Int) (h : 0 < s) (hz : ¬ Int.tmod m 10 = 0) : (if 0 < s then normT s.toNat m else (m, 0)) = (m, s) := by
  have e : s.toNat = (s - 1).toNat + 1 := by omega
  have e1 : (((s - 1).toNat : Nat) : Int) + 1 = s := by omega
  rw [if_pos h, e, normT, if_neg hz, e1]
def norm_scale : Value → Nat | .int _ q => q.toNat | _ => 0
set_option maxHeartbeats 1000000 in
set_option maxRecDepth 1000000 in
theorem dec_Norm_walk (a0 : Int) (a1 : Int) (ha : a1 ≤ 9223372036854775807) (r1 r2 : Int) (hr : (if 0 < a1 then normT a1.toNat a0 else (a0, 0)) = (r1, r2)) (w : World) :
    Calls Tryd.prog 15 #[.int .i64 a0, .int .i64 a1] w fun e w' => e = .returned (.tuple #[.int .i64 r1, .int .i64 r2]) ∧ w' = w := by
  go_enter Tryd.func15, Tryd.ntmps15
  go_wp2
  refine wp_scope_jumps 0 (fun a' w' => w' = w ∧ ∃ (x0 x1 : Int) (u0 u1 u2 u3 u4 u5 u6 u7 u8 u9 u10 u11 u12 u13 u14 u15 : Value), a' = { tmps := #[.int .i64 x0, .int .i64 x1, u0, u1, .int .i64 0, .int .i64 0, u2, u3, u4, u5, u6, u7, u8, u9, u10, u11, u12, u13, u14, u15], defers := [] } ∧ (if 0 < x1 then normT x1.toNat x0 else (x0, 0)) = (r1, r2) ∧ x1 ≤ 9223372036854775807) (fun a' _ => norm_scale (a'.tmps.getD 1 undef)) rfl ?_ ?_
  · go_wp2
    go_step3
    go_wp2
    · rename_i hpos hz
      go_step3
      refine ⟨rfl, rfl, _, _, _, _, _, _, _, _, _, _, _, _, _, _, _, _, _, _, rfl, ?_, by omega⟩
      rw [← hr, normT_step a0 a1 hpos (eq_of_beq hz)]
    · rename_i hpos hz
      simp only [Exit.jump]
      go_ret2
      rw [normT_stop a0 a1 hpos (by simpa using hz)] at hr
      cases hr
      exact ⟨rfl, rfl⟩
    · rename_i hneg h
      simp only [Exit.jump]
      go_ret2
      rw [if_neg (by omega)] at hr
      cases hr
      exact ⟨rfl, rfl⟩
    · rename_i hneg h
      simp only [Exit.jump]
      go_ret2
      rw [if_neg (by omega)] at hr
      obtain rfl : a1 = 0 := by omega
      cases hr
      exact ⟨rfl, rfl⟩
  · rintro a' w' ⟨rfl, x0, x1, u0, u1, u2, u3, u4, u5, u6, u7, u8, u9, u10, u11, u12, u13, u14, u15, rfl, hs, hm⟩
    go_wp2
    · rename_i hpos hz
      go_step3
      refine ⟨rfl, ⟨rfl, _, _, _, _, _, _, _, _, _, _, _, _, _, _, _, _, _, _, rfl, ?_, by omega⟩, ?_⟩
      · rw [← hs, normT_step x0 x1 hpos (eq_of_beq hz)]
      · simp [norm_scale]
        omega
    · rename_i hpos hz
      simp only [Exit.jump]
      go_ret2
      rw [normT_stop x0 x1 hpos (by simpa using hz)] at hs
      cases hs
      exact ⟨rfl, rfl⟩
    · rename_i hneg h
      simp only [Exit.jump]
      go_ret2
      rw [if_neg (by omega)] at hs
      cases hs
      exact ⟨rfl, rfl⟩
    · rename_i hneg h
      simp only [Exit.jump]
      go_ret2
      rw [if_neg (by omega)] at hs
      obtain rfl : x1 = 0 := by omega
      cases hs
      exact ⟨rfl, rfl⟩
theorem dec_Norm.calls (a0 : Int) (a1 : Int) (r1 : Int) (r2 : Int) (w : World) (h : dec_Norm.f a0 a1 = some (r1, r2)) :
    Calls Tryd.prog 15 #[.int .i64 a0, .int .i64 a1] w fun e w' => e = .returned (.tuple #[.int .i64 r1, .int .i64 r2]) ∧ Drawn0 w w' := by
  unfold dec_Norm.f at h
  by_cases hm : a1 ≤ 9223372036854775807
  · rw [if_pos hm] at h
    refine (dec_Norm_walk a0 a1 hm r1 r2 ?_ w).mono fun e w' hh => ⟨hh.1, hh.2 ▸ Drawn0.refl _⟩
    by_cases h0 : 0 < a1
    · rw [if_pos h0] at h ⊢
      exact Option.some.inj h
    · rw [if_neg h0] at h ⊢
      exact Option.some.inj h
  · rw [if_neg hm] at h
    cases h

/-! ### cmp_Or_int: function 27 -/
def cmp_Or_int.l0 : Nat → Int → List Int → Int → Int → Option (Int)
  | 0, _, _, _, _ => none
  | k + 1, x3, x6, x7, x8 => if x8 < x7 then (if 0 ≤ x8 then (if x8 < (x6.length : Int) then (if (rd x6 x8) = x3 then (cmp_Or_int.l0 k x3 x6 x7 (wrap64 (x8 + 1))) else (some (rd x6 x8))) else (none)) else (none)) else (some x3)
def cmp_Or_int.f (k : Nat) (l0 : List Int) : Option (Int) := cmp_Or_int.l0 k 0 l0 (l0.length : Int) 0
theorem cmp_Or_int.mono_l : ∀ k, (∀ y0 y1 y2 y3, LeO (cmp_Or_int.l0 k y0 y1 y2 y3) (cmp_Or_int.l0 (k + 1) y0 y1 y2 y3))
  | 0 => fun _ _ _ _ r h => by simp [cmp_Or_int.l0] at h
  | k + 1 => by
    have ih0 := cmp_Or_int.mono_l k
    · intro y0 y1 y2 y3
      unfold cmp_Or_int.l0
      repeat' first
      | (with_reducible exact ih0 _ _ _ _)
      | (with_reducible exact LeO.refl _)
      | (with_reducible exact LeO.none _)
      | (with_reducible refine LeO.ite ?_ ?_)
      | (with_reducible refine LeO.bind ?_ (fun _ => ?_))
      | exact ih0 _ _ _ _
      | exact LeO.none _
      | refine LeO.ite ?_ ?_
      | refine LeO.bind ?_ (fun _ => ?_)
theorem cmp_Or_int.mono : ∀ a0 k, LeO (cmp_Or_int.f k a0) (cmp_Or_int.f (k + 1) a0) := by
  intro a0 k
  have ih0 := cmp_Or_int.mono_l k
  unfold cmp_Or_int.f
  repeat' first
      | (with_reducible exact ih0 _ _ _ _)
      | (with_reducible exact LeO.refl _)
      | (with_reducible exact LeO.none _)
      | (with_reducible refine LeO.ite ?_ ?_)
      | (with_reducible refine LeO.bind ?_ (fun _ => ?_))
      | exact ih0 _ _ _ _
      | exact LeO.none _
      | refine LeO.ite ?_ ?_
      | refine LeO.bind ?_ (fun _ => ?_)
set_option maxHeartbeats 8000000 in
set_option maxRecDepth 100000 in
theorem cmp_Or_int.calls (k : Nat) (A0 : Option Addr) (c0 : Nat) (l0 : List Int) (r : Int) (w : World) (hr0 : Kd.C (Kd.int .i64) w A0 l0.length l0) (hc0 : l0.length ≤ c0) (h : cmp_Or_int.f k l0 = some r) :
    Calls Tryd.prog 27 #[.slice A0 l0.length c0] w fun e w' => e = .returned (.int .i64 r) ∧ Drawn0 w w' := by
  have HR0 := Aside0.mk hr0
  have HC0 := Aside0.mk hc0
  clear hr0 hc0
  have H : (cmp_Or_int.l0 k 0 l0 (l0.length : Int) 0) = some r := h
  clear h
  have H' := Aside0.mk H
  clear H
  go_enter Tryd.func27, Tryd.ntmps27
  go_wp2
  go_loopg [8] k (fun kq v8 w' => ∃ (x8_1 : Int), v8 = .int .i64 x8_1 ∧ Aside0 (cmp_Or_int.l0 kq 0 l0 (l0.length : Int) x8_1 = some r) ∧ Aside0 (kq ≤ k) ∧ Drawn0 w w')
  case atStart => exact ⟨(0), (by first | rfl | (simp; done) | (simp [*]; done)), H', ⟨Nat.le_refl _⟩, by repeat (first | exact Drawn0.refl _ | apply Drawn0.step)⟩
  case round =>
    clear H'
    obtain ⟨x8_1, rfl, HA, HK1, ⟨m1, rfl⟩⟩ := hrel
    cases gk with
    | zero => exact absurd HA.out (by simp [cmp_Or_int.l0])
    | succ k1 =>
      have H := HA.out
      clear HA
      simp only [cmp_Or_int.l0] at H
      by_cases c2 : x8_1 < (l0.length : Int)
      · rw [if_pos c2] at H
        have c2b0 : decide (x8_1 < (l0.length : Int)) = true := decide_eq_true c2
        clear c2
        by_cases c3 : 0 ≤ x8_1
        · rw [if_pos c3] at H
          have c3b0 : decide (0 ≤ x8_1) = true := decide_eq_true c3
          clear c3
          by_cases c4 : x8_1 < (l0.length : Int)
          · rw [if_pos c4] at H
            have c4b0 : decide (x8_1 < (l0.length : Int)) = true := decide_eq_true c4
            clear c4
            by_cases c5 : (rd l0 x8_1) = 0
            · rw [if_pos c5] at H
              have c5b0 : ((rd l0 x8_1) == 0) = true := beq_iff_eq.mpr c5
              have c5b1 : ((rd l0 x8_1) != 0) = false := bne_eq_false_iff_eq.mpr c5
              clear c5
              have H' := Aside0.mk H
              clear H
              have p101 : 0 ≤ (x8_1 : Int) := of_decide_eq_true (by first | (with_reducible assumption) | assumption)
              have q101 : x8_1 < (l0.length : Int) := of_decide_eq_true (by first | (with_reducible assumption) | assumption)
              obtain ⟨ad101, e101, hx101_0⟩ := Kd.at_int HR0.out x8_1 p101 q101
              cases e101
              replace p101 := eq_true p101
              replace q101 := eq_true q101
              go_wp2
              go_roundg k1
              case measure => have := HK1.out; omega
              case rel => exact ⟨(wrap64 (x8_1 + 1)), (by first | rfl | (simp; done) | (simp [*]; done)), H', ⟨by have := HK1.out; omega⟩, by repeat (first | exact Drawn0.refl _ | apply Drawn0.step)⟩
            · rw [if_neg c5] at H
              have c5b0 : ((rd l0 x8_1) == 0) = false := beq_eq_false_iff_ne.mpr c5
              have c5b1 : ((rd l0 x8_1) != 0) = true := bne_iff_ne.mpr c5
              obtain rfl := Option.some.inj H
              have p101 : 0 ≤ (x8_1 : Int) := of_decide_eq_true (by first | (with_reducible assumption) | assumption)
              have q101 : x8_1 < (l0.length : Int) := of_decide_eq_true (by first | (with_reducible assumption) | assumption)
              obtain ⟨ad101, e101, hx101_0⟩ := Kd.at_int HR0.out x8_1 p101 q101
              cases e101
              replace p101 := eq_true p101
              replace q101 := eq_true q101
              go_wp2
              go_ret
              exact ⟨by first | rfl | (simp; done) | (simp [*]; done), by repeat (first | exact Drawn0.refl _ | apply Drawn0.step)⟩
          · rw [if_neg c4] at H
            exact absurd H (by simp)
        · rw [if_neg c3] at H
          exact absurd H (by simp)
      · rw [if_neg c2] at H
        have c2b0 : decide (x8_1 < (l0.length : Int)) = false := decide_eq_false c2
        clear c2
        obtain rfl := Option.some.inj H
        go_wp2
        go_ret
        exact ⟨by first | rfl | (simp; done) | (simp [*]; done), by repeat (first | exact Drawn0.refl _ | apply Drawn0.step)⟩

/-! ### cmp_isNaN_int: function 36 -/
def cmp_isNaN_int.f (a0 : Int) : Option (Bool) := some (a0 != a0)
set_option maxHeartbeats 8000000 in
set_option maxRecDepth 100000 in
theorem cmp_isNaN_int.calls (a0 : Int) (r : Bool) (w : World) (h : cmp_isNaN_int.f a0 = some r) :
    Calls Tryd.prog 36 #[.int .i64 a0] w fun e w' => e = .returned (.bool r) ∧ Drawn0 w w' := by
  have H : (some (a0 != a0)) = some r := h
  clear h
  obtain rfl := Option.some.inj H
  go_enter Tryd.func36, Tryd.ntmps36
  go_wp2
  go_ret
  exact ⟨by first | rfl | (simp; done) | (simp [*]; done), by repeat (first | exact Drawn0.refl _ | apply Drawn0.step)⟩

end Go.Proofs.YtjbihflpjkaifaaDoor.G
