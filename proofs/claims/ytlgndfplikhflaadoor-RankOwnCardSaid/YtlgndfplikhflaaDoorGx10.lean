-- printed by wip/tool/gprint.py, a program of this work, out of the translation; Lean checks it
import Derived.Test.YtlgndfplikhflaaDoorGx0
import Derived.Test.YtlgndfplikhflaaDoorGx4
import Derived.Test.YtlgndfplikhflaaDoorGx5
import Derived.Test.YtlgndfplikhflaaDoorGx6
import Derived.Test.YtlgndfplikhflaaDoorGx7
import Derived.Test.YtlgndfplikhflaaDoorGx8
import Derived.Test.YtlgndfplikhflaaDoorGx9
namespace Go.Proofs.YtlgndfplikhflaaDoor.G
open Go.RowKit Go.Proofs.YtlgndfplikhflaaDoorW.PrintWords Go.Proofs.YtlgndfplikhflaaDoorW.PrintLast Go.Proofs.YtlgndfplikhflaaDoorW.PrintMore Go.Proofs.YtlgndfplikhflaaDoorW.VWords Go.Proofs.YtlgndfplikhflaaDoorW.Tab
attribute [local go_sem] max2_int min2_int max_two min_two max_three min_three max_four min_four   -- for this text's walks alone
set_option linter.unusedVariables false
set_option linter.unusedSimpArgs false

/-! ### rank_reading_47: function 47 -/
/-! ### slices.pdqsort at readings -/
set_option maxHeartbeats 16000000 in
set_option maxRecDepth 1000000 in
/-- pdqsort, of any stretch. -/
theorem pdqAll (W0 : World) (g cap : Nat) (ok : Nat → Prop) (d0 : Array (El W0 g ok)) (hH : Go.Sort.HoldsK El.enc 3 W0 g 0 d0) (hg : g < W0.heap.size) (hsz : d0.size < 4611686018427387904)
    (hP : ∀ (d : Array (El W0 g ok)) (a b : Nat) (W : World), d.size = d0.size → a < b → b ≤ d.size → SWK El.enc 3 W0 g 0 d W → Calls Tryd.prog 56 #[.slice (some ⟨g, 0, none⟩) d.size cap, .int .i64 a, .int .i64 b, .func (.methodOf 47 "interlocutor/rank.against") #[] #[]] W fun e w' => e = .returned (.bool (Go.Sort.partialInsertionSort (Go.Proofs.ltOf El.cf) d a b).2) ∧ SWK El.enc 3 W0 g 0 (Go.Sort.partialInsertionSort (Go.Proofs.ltOf El.cf) d a b).1 w') :
    ∀ (N a b limit : Nat) (d : Array (El W0 g ok)) (W : World), b - a < N → d.size = d0.size → SWK El.enc 3 W0 g 0 d W → a ≤ b → b ≤ d.size → limit < 4611686018427387904 → Go.Sort.Below (Go.Proofs.ltOf El.cf) a b d →
    Calls Tryd.prog 47 #[.slice (some ⟨g, 0, none⟩) d.size cap, .int .i64 a, .int .i64 b, .int .i64 limit, .func (.methodOf 47 "interlocutor/rank.against") #[] #[]] W fun e w' => e = .returned (.tuple #[]) ∧ SWK El.enc 3 W0 g 0 (Go.Sort.pdq (Go.Proofs.ltOf El.cf) d a b limit true true) w' := by
  have hO := @El.swo W0 g ok
  have mixed : Tryd.prog.follows .mixedOrders = true := by kernel_rfl
  have hm := meth_at
  have hmc := meth_call
  have HH := Aside0.mk hH
  have HP := Aside0.mk hP
  clear hP
  intro N
  induction N with
  | zero => intro _ _ _ _ _ h; exact absurd h (Nat.not_lt_zero _)
  | succ N ih =>
    intro a b limit d W hN hs S hab hb hlimit hBel0
    have hs0 := hs.symm
    clear hs
    have IH := Aside0.mk ih
    clear ih
    go_enter Tryd.func47, Tryd.ntmps47
    go_wp2
    go_loopg [1, 2, 3, 10, 11] (b - a) (fun kx s1 s2 s3 s8 s9 wr => ∃ (a' b' lim : Nat) (wb wp : Bool) (dk : Array (El W0 g ok)), s1 = .int .i64 a' ∧ s2 = .int .i64 b' ∧ s3 = .int .i64 lim ∧ s8 = .bool wb ∧ s9 = .bool wp ∧
      a' ≤ b' ∧ b' ≤ d.size ∧ b' - a' ≤ kx ∧ kx ≤ b - a ∧ lim ≤ limit ∧ dk.size = d.size ∧ Go.Sort.Below (Go.Proofs.ltOf El.cf) a' b' dk ∧ SWK El.enc 3 W0 g 0 dk wr ∧ Aside0 (Go.Sort.pdq (Go.Proofs.ltOf El.cf) dk a' b' lim wb wp = Go.Sort.pdq (Go.Proofs.ltOf El.cf) d a b limit true true))
    case atStart => exact ⟨a, b, limit, true, true, d, rfl, rfl, rfl, rfl, rfl, hab, hb, Nat.le_refl _, Nat.le_refl _, Nat.le_refl _, rfl, hBel0, S, ⟨rfl⟩⟩
    case round =>
      clear S hBel0
      obtain ⟨a', b', lim, wb, wp, dk, rfl, rfl, rfl, rfl, rfl, hab', hb', hkx, hkN, hlim, hds, hBel, hAt, A⟩ := hrel
      by_cases h12 : b' - a' ≤ 12
      · have h12z : (b' : Int) - (a' : Int) ≤ 12 := by omega
        have hc := insAll W0 g cap ok d0 dk hH hg (hds.trans hs0.symm) hsz a' b' hab' (by omega) wr hAt
        rw [hds] at hc
        go_wp2_with (go_at_call 51; with_reducible refine hc.mono ?_; rintro e w1 ⟨rfl, hw1⟩)
        (try simp only [Exit.inBlock, Exit.then]); refine bodyPost_ret (results_none rfl _ _ _) rfl ?_
        refine ⟨rfl, ?_⟩
        rw [← A.out, Go.Sort.pdq_small h12]
        exact hw1
      · have h12z : ¬ ((b' : Int) - (a' : Int) ≤ 12) := by omega
        by_cases hl0 : lim = 0
        · subst hl0
          obtain ⟨L, hL⟩ : ∃ L, b' = a' + L := ⟨b' - a', by omega⟩
          have hc := heapAll W0 g cap ok d0 dk hH hg (hds.trans hs0.symm) hsz a' L (by omega) (by omega) wr hAt
          rw [← hL, hds] at hc
          clear hL
          go_wp2_with (go_at_call 52; with_reducible refine hc.mono ?_; rintro e w1 ⟨rfl, hw1⟩)
          (try simp only [Exit.inBlock, Exit.then]); refine bodyPost_ret (results_none rfl _ _ _) rfl ?_
          refine ⟨rfl, ?_⟩
          rw [← A.out, Go.Sort.pdq_heap h12 rfl]
          exact hw1
        · have hl0z : ¬ ((lim : Int) = 0) := by omega
          obtain ⟨s1, B1, hc1, s2, B2, hpv, s3, B3⟩ := Go.Sort.rd_facts (lt := (Go.Proofs.ltOf El.cf)) (limit := lim) (wb := wb) (wp := wp) hO Go.Sort.partialInsertionSort_holds Go.Sort.reverseRange_holds (show a' < b' by omega) (show b' ≤ dk.size by omega) hBel
          have z1 : (Go.Sort.rd (Go.Proofs.ltOf El.cf) dk a' b' lim wb wp).d1.size = d.size := s1.trans hds
          have z2 : (Go.Sort.rd (Go.Proofs.ltOf El.cf) dk a' b' lim wb wp).d2.size = d.size := s2.trans hds
          have z3 : (Go.Sort.rd (Go.Proofs.ltOf El.cf) dk a' b' lim wb wp).pi.1.size = d.size := s3.trans hds
          go_upto_if 39 with fail
          go_cut [3] from 21 (fun s3 wc => s3 = .int .i64 (Go.Sort.rd (Go.Proofs.ltOf El.cf) dk a' b' lim wb wp).lim ∧ SWK El.enc 3 W0 g 0 (Go.Sort.rd (Go.Proofs.ltOf El.cf) dk a' b' lim wb wp).d1 wc)
          case first =>
            cases wb
            · obtain ⟨L, hL⟩ : ∃ L, b' = a' + L := ⟨b' - a', by omega⟩
              have hc := bpAll W0 g cap ok d0 dk hH hg (hds.trans hs0.symm) hsz a' L (by omega) (by omega) wr hAt
              rw [← hL, hds] at hc
              clear hL
              go_wp2_with (go_at_call 53; with_reducible refine hc.mono ?_; rintro e w1 ⟨rfl, hw1⟩)
              go_meet
              case rel =>
                refine ⟨?_, hw1⟩
                show Value.int .i64 ((lim : Int) - 1) = Value.int .i64 ((lim - 1 : Nat) : Int)
                congr 1
                omega
            · go_wp2_with fail
              go_meet
              case rel => exact ⟨rfl, hAt⟩
          case rest =>
            obtain ⟨rfl, hAt1⟩ := hcut
            clear hAt
            have hc17 : Calls Tryd.prog 54 #[.slice (some ⟨g, 0, none⟩) d.size cap, .int .i64 a', .int .i64 b', .func (.methodOf 47 "interlocutor/rank.against") #[] #[]] wc fun e w' => e = .returned (.tuple #[.int .i64 (Go.Sort.rd (Go.Proofs.ltOf El.cf) dk a' b' lim wb wp).c.1, .int .i64 (Go.Sort.hintCode (Go.Sort.rd (Go.Proofs.ltOf El.cf) dk a' b' lim wb wp).c.2)]) ∧ SWK El.enc 3 W0 g 0 (Go.Sort.rd (Go.Proofs.ltOf El.cf) dk a' b' lim wb wp).d1 w' := by
              obtain ⟨L, hL⟩ : ∃ L, b' = a' + L := ⟨b' - a', by omega⟩
              have h := pivotAll W0 g cap ok d0 (Go.Sort.rd (Go.Proofs.ltOf El.cf) dk a' b' lim wb wp).d1 hH hg (z1.trans hs0.symm) hsz a' L (by omega) (by omega) wc hAt1
              rw [z1, ← hL] at h
              exact h
            go_upto_if 56 with (go_at_call 54; with_reducible refine hc17.mono ?_; rintro e w2 ⟨rfl, hAt2⟩)
            go_cut [13, 14] from 21 (fun s11 s12 wc => s11 = .int .i64 (Go.Sort.rd (Go.Proofs.ltOf El.cf) dk a' b' lim wb wp).pivot ∧ s12 = .int .i64 (Go.Sort.hintCode (Go.Sort.rd (Go.Proofs.ltOf El.cf) dk a' b' lim wb wp).hint) ∧ SWK El.enc 3 W0 g 0 (Go.Sort.rd (Go.Proofs.ltOf El.cf) dk a' b' lim wb wp).d2 wc)
            case first =>
              by_cases hh : (Go.Sort.rd (Go.Proofs.ltOf El.cf) dk a' b' lim wb wp).c.2 = .decreasing
              · have hcode : Go.Sort.hintCode (Go.Sort.rd (Go.Proofs.ltOf El.cf) dk a' b' lim wb wp).c.2 = 2 := by rw [hh]; rfl
                obtain ⟨e2, epv, eht⟩ := Go.Sort.rd_dec hh
                have hc18 := revAll W0 g cap ok d0 (Go.Sort.rd (Go.Proofs.ltOf El.cf) dk a' b' lim wb wp).d1 hH hg (z1.trans hs0.symm) hsz a' b' hab' (by omega) (by omega) w2 hAt2
                rw [z1] at hc18
                go_wp2_with (go_at_call 55; with_reducible refine hc18.mono ?_; rintro e w3 ⟨rfl, hw3⟩)
                go_meet
                case rel =>
                  refine ⟨?_, by rw [eht]; rfl, by rw [e2]; exact hw3⟩
                  rw [epv]
                  congr 1
                  omega
              · have hcode : ¬ (Go.Sort.hintCode (Go.Sort.rd (Go.Proofs.ltOf El.cf) dk a' b' lim wb wp).c.2 = 2) := fun h => hh (Go.Proofs.hintCode_two h)
                obtain ⟨e2, epv, eht⟩ := Go.Sort.rd_not hh
                go_wp2_with fail
                go_meet
                case rel => exact ⟨by rw [epv], by rw [eht], by rw [e2]; exact hAt2⟩
            case rest =>
              obtain ⟨rfl, rfl, hAt3⟩ := hcut
              go_upto_region 15 with fail
              go_cut [14, 75] from 21 (fun s12 s68 wx => s12 = .int .i64 (Go.Sort.hintCode (Go.Sort.rd (Go.Proofs.ltOf El.cf) dk a' b' lim wb wp).hint) ∧ s68 = .bool (wb && wp && decide ((Go.Sort.rd (Go.Proofs.ltOf El.cf) dk a' b' lim wb wp).hint = .increasing)) ∧ wx = wc)
              case first =>
                cases wb <;> cases wp <;> cases hh3 : (Go.Sort.rd (Go.Proofs.ltOf El.cf) dk a' b' lim _ _).hint <;>
                  (have hcode3 := congrArg Go.Sort.hintCode hh3
                   simp only [Go.Sort.hintCode] at hcode3
                   go_wp2_with fail
                   go_meet
                   exact ⟨by simp [hh3, Go.Sort.hintCode], by simp [hh3, Go.Sort.hintCode], rfl⟩)
              case rest =>
                obtain ⟨rfl, rfl, rfl⟩ := hcut
                go_upto_if 75 with fail
                go_cut [] from 21 (fun wx => (Go.Sort.rd (Go.Proofs.ltOf El.cf) dk a' b' lim wb wp).pi.2 = false ∧ SWK El.enc 3 W0 g 0 (Go.Sort.rd (Go.Proofs.ltOf El.cf) dk a' b' lim wb wp).pi.1 wx)
                case first =>
                  cases h68 : (wb && wp && decide ((Go.Sort.rd (Go.Proofs.ltOf El.cf) dk a' b' lim wb wp).hint = .increasing))
                  · have epi := Go.Sort.rd_pi_no h68
                    go_wp2_with fail
                    go_meet
                    case rel => exact ⟨by rw [epi], by rw [epi]; exact hAt3⟩
                  · have epi := Go.Sort.rd_pi_yes h68
                    have hc19 := HP.out (Go.Sort.rd (Go.Proofs.ltOf El.cf) dk a' b' lim wb wp).d2 a' b' wc (z2.trans hs0.symm) (by omega) (by omega) hAt3
                    rw [← epi, z2] at hc19
                    go_wp2_with (go_at_call 56; with_reducible refine hc19.mono ?_; rintro e w4 ⟨rfl, hw4⟩)
                    all_goals first
                      | (have hp2 : (Go.Sort.rd (Go.Proofs.ltOf El.cf) dk a' b' lim wb wp).pi.2 = false := by rw [epi]; assumption
                         go_meet
                         exact ⟨hp2, hw4⟩)
                      | (have hp2 : (Go.Sort.rd (Go.Proofs.ltOf El.cf) dk a' b' lim wb wp).pi.2 = true := by rw [epi]; assumption
                         (try simp only [Exit.inBlock, Exit.then]); refine bodyPost_ret (results_none rfl _ _ _) rfl ?_
                         refine ⟨rfl, ?_⟩
                         rw [← A.out, Go.Sort.pdq_done h12 hl0 hp2]
                         exact hw4)
                case rest =>
                  obtain ⟨hp2, hAt5⟩ := hcut
                  clear hAt1 hAt3
                  have S5 := Aside0.mk hAt5
                  clear hAt5
                  by_cases ha0 : a' = 0
                  · have ha0z : ¬ ((a' : Int) > 0) := by omega
                    have ha0d : decide ((a' : Int) > 0) = false := decide_eq_false ha0z
                    have ha0e : decide (0 < (a' : Int)) = false := decide_eq_false (by omega)
                    have ha0f : decide (0 < a') = false := decide_eq_false (by omega)
                    have ha0g : ¬ 0 < a' := by omega
                    have h87 : (decide (a' > 0) && !(Go.Proofs.ltOf El.cf) (Go.Sort.rd (Go.Proofs.ltOf El.cf) dk a' b' lim wb wp).pi.1[a' - 1]! (Go.Sort.rd (Go.Proofs.ltOf El.cf) dk a' b' lim wb wp).pi.1[(Go.Sort.rd (Go.Proofs.ltOf El.cf) dk a' b' lim wb wp).pivot]!) = false := by rw [decide_eq_false (by omega)]; rfl
                    clear ha0
                    go_wp2_with fail
                    go_big_region_o
                    have hAt6 := S5.out.drew
                    clear S5
                    generalize World.drew wc = w6 at hAt6 ⊢
                    obtain ⟨mid, ap, d4, hx⟩ : ∃ mid ap d4, Go.Sort.partition (Go.Proofs.ltOf El.cf) (Go.Sort.rd (Go.Proofs.ltOf El.cf) dk a' b' lim wb wp).pi.1 a' b' (Go.Sort.rd (Go.Proofs.ltOf El.cf) dk a' b' lim wb wp).pivot = (mid, ap, d4) := ⟨_, _, _, rfl⟩
                    obtain ⟨r1, r2, r3, r4, r5, r6, r7⟩ := Go.Sort.round_part hO (Go.Sort.partition_holds (Go.Proofs.ltOf El.cf)) hpv.1 hpv.2 (show b' ≤ (Go.Sort.rd (Go.Proofs.ltOf El.cf) dk a' b' lim wb wp).pi.1.size by omega) B3 hx
                    have hc22 := partAll W0 g cap ok d0 (Go.Sort.rd (Go.Proofs.ltOf El.cf) dk a' b' lim wb wp).pi.1 hH hg (z3.trans hs0.symm) hsz a' b' (Go.Sort.rd (Go.Proofs.ltOf El.cf) dk a' b' lim wb wp).pivot hpv.1 hpv.2 (by omega) w6 hAt6
                    rw [hx, z3] at hc22
                    have X := Aside0.mk hx
                    clear hx
                    go_upto_if 125 with (go_at_call 58; with_reducible refine hc22.mono ?_; rintro e w7 ⟨rfl, hAt7⟩)
                    have hx := X.out
                    have hs4 : d4.size = d.size := r3.trans z3
                    by_cases h4 : mid - a' < b' - mid
                    · have h4z : (mid : Int) - (a' : Int) < (b' : Int) - (mid : Int) := by omega
                      have hih := IH.out a' mid (Go.Sort.rd (Go.Proofs.ltOf El.cf) dk a' b' lim wb wp).lim d4 w7 (by omega) (hs4.trans hs0.symm) hAt7 (by omega) (by omega) (Nat.lt_of_le_of_lt (Nat.le_trans Go.Sort.rd_lim_le hlim) hlimit) r4
                      rw [hs4] at hih
                      obtain ⟨pL, sL⟩ := Go.Sort.pdq_sorts (Go.Proofs.ltOf El.cf) hO d4 a' mid (Go.Sort.rd (Go.Proofs.ltOf El.cf) dk a' b' lim wb wp).lim true true (by omega) (by omega) r4
                      go_wp2_with (go_at_call 47; with_reducible refine hih.mono ?_; rintro e w8 ⟨rfl, hw8⟩)
                      go_roundg (b' - (mid + 1))
                      case measure => omega
                      case rel =>
                        refine ⟨mid + 1, b', (Go.Sort.rd (Go.Proofs.ltOf El.cf) dk a' b' lim wb wp).lim, decide (mid - a' ≥ (b' - a') / 8), ap, Go.Sort.pdq (Go.Proofs.ltOf El.cf) d4 a' mid (Go.Sort.rd (Go.Proofs.ltOf El.cf) dk a' b' lim wb wp).lim true true, by simp, rfl, rfl, ?_, rfl, by omega, by omega, Nat.le_refl _, by omega, Nat.le_trans Go.Sort.rd_lim_le hlim, by rw [pL.1, hs4], (r6 _ pL sL).1, hw8, ⟨?_⟩⟩
                        · exact congrArg Value.bool (Go.Proofs.eighth (by omega) (by omega))
                        · rw [← A.out, Go.Sort.pdq_left h12 hl0 hp2 h87 (by rw [hx]; exact ⟨r1, r2⟩) (by rw [hx]; exact h4), hx]
                    · have h4z : ¬ ((mid : Int) - (a' : Int) < (b' : Int) - (mid : Int)) := by omega
                      have hih := IH.out (mid + 1) b' (Go.Sort.rd (Go.Proofs.ltOf El.cf) dk a' b' lim wb wp).lim d4 w7 (by omega) (hs4.trans hs0.symm) hAt7 (by omega) (by omega) (Nat.lt_of_le_of_lt (Nat.le_trans Go.Sort.rd_lim_le hlim) hlimit) r5
                      rw [show ((mid + 1 : Nat) : Int) = (mid : Int) + 1 by omega, hs4] at hih
                      obtain ⟨pL, sL⟩ := Go.Sort.pdq_sorts (Go.Proofs.ltOf El.cf) hO d4 (mid + 1) b' (Go.Sort.rd (Go.Proofs.ltOf El.cf) dk a' b' lim wb wp).lim true true (by omega) (by omega) r5
                      go_wp2_with (go_at_call 47; with_reducible refine hih.mono ?_; rintro e w8 ⟨rfl, hw8⟩)
                      go_roundg (mid - a')
                      case measure => omega
                      case rel =>
                        refine ⟨a', mid, (Go.Sort.rd (Go.Proofs.ltOf El.cf) dk a' b' lim wb wp).lim, decide (b' - mid ≥ (b' - a') / 8), ap, Go.Sort.pdq (Go.Proofs.ltOf El.cf) d4 (mid + 1) b' (Go.Sort.rd (Go.Proofs.ltOf El.cf) dk a' b' lim wb wp).lim true true, rfl, rfl, rfl, ?_, rfl, by omega, by omega, Nat.le_refl _, by omega, Nat.le_trans Go.Sort.rd_lim_le hlim, by rw [pL.1, hs4], (r7 _ pL sL).1, hw8, ⟨?_⟩⟩
                        · exact congrArg Value.bool (Go.Proofs.eighth (by omega) (by omega))
                        · rw [← A.out, Go.Sort.pdq_right h12 hl0 hp2 h87 (by rw [hx]; exact ⟨r1, r2⟩) (by rw [hx]; exact h4), hx]
                  · have ha0z : (a' : Int) > 0 := by omega
                    obtain ⟨am, ham⟩ : ∃ q, q + 1 = a' := ⟨a' - 1, by omega⟩
                    have ha0d : decide ((a' : Int) > 0) = true := decide_eq_true ha0z
                    have ha0e : decide (0 < (a' : Int)) = true := decide_eq_true (by omega)
                    have ha0f : decide (0 < a') = true := decide_eq_true (by omega)
                    have ha0g : 0 < a' := by omega
                    have wam : IntKind.i64.wrap ((a' : Int) - 1) = (am : Int) := by rw [IntKind.wrap_i64]; omega
                    have ham0 : (0 : Int) ≤ (am : Int) := by omega
                    have ham1 : (am : Int) < (d.size : Int) := by omega
                    have ham2 : ((am : Int)).toNat = am := by omega
                    have hpi0 : (0 : Int) ≤ ((Go.Sort.rd (Go.Proofs.ltOf El.cf) dk a' b' lim wb wp).pivot : Int) := by omega
                    have hpi1 : ((Go.Sort.rd (Go.Proofs.ltOf El.cf) dk a' b' lim wb wp).pivot : Int) < (d.size : Int) := by omega
                    have hpi2 : (((Go.Sort.rd (Go.Proofs.ltOf El.cf) dk a' b' lim wb wp).pivot : Int)).toNat = (Go.Sort.rd (Go.Proofs.ltOf El.cf) dk a' b' lim wb wp).pivot := by omega
                    have HAM := Aside0.mk ham
                    clear ham ha0

                    obtain ⟨px, Ax, nx, mx, tx, ex⟩ := El.cells (Go.Sort.rd (Go.Proofs.ltOf El.cf) dk a' b' lim wb wp).pi.1[am]!
                    have ELx := Aside0.mk ex
                    clear ex
                    obtain ⟨py, Ay, ny, my, ty, ey⟩ := El.cells (Go.Sort.rd (Go.Proofs.ltOf El.cf) dk a' b' lim wb wp).pi.1[(Go.Sort.rd (Go.Proofs.ltOf El.cf) dk a' b' lim wb wp).pivot]!
                    have ELy := Aside0.mk ey
                    clear ey
                    have qx := fun n os => el_cells S5.out HH.out hg (by skip; omega) (am) (by skip; omega) _ _ _ ELx.out n os
                    have qy := fun n os => el_cells S5.out HH.out hg (by skip; omega) ((Go.Sort.rd (Go.Proofs.ltOf El.cf) dk a' b' lim wb wp).pivot) (by skip; omega) _ _ _ ELy.out n os
                    have q0 := fun n os => (qx n os).1.1
                    have q1 := fun n os => (qx n os).1.2.1
                    have q2 := fun n os => (qx n os).1.2.2
                    have q3 := fun n os => (qy n os).1.1
                    have q4 := fun n os => (qy n os).1.2.1
                    have q5 := fun n os => (qy n os).1.2.2
                    have cc := fun n os => ins_cmp S5.out (Go.Sort.rd (Go.Proofs.ltOf El.cf) dk a' b' lim wb wp).pi.1[am]! (Go.Sort.rd (Go.Proofs.ltOf El.cf) dk a' b' lim wb wp).pi.1[(Go.Sort.rd (Go.Proofs.ltOf El.cf) dk a' b' lim wb wp).pivot]! _ _ ELx.out ELy.out n os
                    clear qx qy
                    go_wp2_with fail
                    go_quiet_grown (first | (go_at_call 92; refine Calls.grown_of (cc _ _)))
                    have S6 := Aside0.mk (S5.out.grown nq osq)
                    clear cc q0 q1 q2 q3 q4 q5 S5
                    generalize Go.Sort.grow (World.drewN wc nq) osq = w6 at S6 ⊢
                    clear nq osq
                    have hAt6 := S6.out
                    clear S6
                    by_cases hc : ((Go.Sort.rd (Go.Proofs.ltOf El.cf) dk a' b' lim wb wp).pi.1[am]!).cf ((Go.Sort.rd (Go.Proofs.ltOf El.cf) dk a' b' lim wb wp).pi.1[(Go.Sort.rd (Go.Proofs.ltOf El.cf) dk a' b' lim wb wp).pivot]!) < 0
                    · have hlt2 := ltOf_yes hc
                      (try rw [ltOf_yes3 hc])
                      have h87 : (decide (a' > 0) && !(Go.Proofs.ltOf El.cf) (Go.Sort.rd (Go.Proofs.ltOf El.cf) dk a' b' lim wb wp).pi.1[a' - 1]! (Go.Sort.rd (Go.Proofs.ltOf El.cf) dk a' b' lim wb wp).pi.1[(Go.Sort.rd (Go.Proofs.ltOf El.cf) dk a' b' lim wb wp).pivot]!) = false := by rw [show a' - 1 = am by have := HAM.out; omega, hlt2]; simp
                      obtain ⟨mid, ap, d4, hx⟩ : ∃ mid ap d4, Go.Sort.partition (Go.Proofs.ltOf El.cf) (Go.Sort.rd (Go.Proofs.ltOf El.cf) dk a' b' lim wb wp).pi.1 a' b' (Go.Sort.rd (Go.Proofs.ltOf El.cf) dk a' b' lim wb wp).pivot = (mid, ap, d4) := ⟨_, _, _, rfl⟩
                      obtain ⟨r1, r2, r3, r4, r5, r6, r7⟩ := Go.Sort.round_part hO (Go.Sort.partition_holds (Go.Proofs.ltOf El.cf)) hpv.1 hpv.2 (show b' ≤ (Go.Sort.rd (Go.Proofs.ltOf El.cf) dk a' b' lim wb wp).pi.1.size by omega) B3 hx
                      have hc22 := partAll W0 g cap ok d0 (Go.Sort.rd (Go.Proofs.ltOf El.cf) dk a' b' lim wb wp).pi.1 hH hg (z3.trans hs0.symm) hsz a' b' (Go.Sort.rd (Go.Proofs.ltOf El.cf) dk a' b' lim wb wp).pivot hpv.1 hpv.2 (by omega) w6 hAt6
                      rw [hx, z3] at hc22
                      have X := Aside0.mk hx
                      clear hx
                      go_upto_if 125 with (go_at_call 58; with_reducible refine hc22.mono ?_; rintro e w7 ⟨rfl, hAt7⟩)
                      have hx := X.out
                      have hs4 : d4.size = d.size := r3.trans z3
                      by_cases h4 : mid - a' < b' - mid
                      · have h4z : (mid : Int) - (a' : Int) < (b' : Int) - (mid : Int) := by omega
                        have hih := IH.out a' mid (Go.Sort.rd (Go.Proofs.ltOf El.cf) dk a' b' lim wb wp).lim d4 w7 (by omega) (hs4.trans hs0.symm) hAt7 (by omega) (by omega) (Nat.lt_of_le_of_lt (Nat.le_trans Go.Sort.rd_lim_le hlim) hlimit) r4
                        rw [hs4] at hih
                        obtain ⟨pL, sL⟩ := Go.Sort.pdq_sorts (Go.Proofs.ltOf El.cf) hO d4 a' mid (Go.Sort.rd (Go.Proofs.ltOf El.cf) dk a' b' lim wb wp).lim true true (by omega) (by omega) r4
                        go_wp2_with (go_at_call 47; with_reducible refine hih.mono ?_; rintro e w8 ⟨rfl, hw8⟩)
                        go_roundg (b' - (mid + 1))
                        case measure => omega
                        case rel =>
                          refine ⟨mid + 1, b', (Go.Sort.rd (Go.Proofs.ltOf El.cf) dk a' b' lim wb wp).lim, decide (mid - a' ≥ (b' - a') / 8), ap, Go.Sort.pdq (Go.Proofs.ltOf El.cf) d4 a' mid (Go.Sort.rd (Go.Proofs.ltOf El.cf) dk a' b' lim wb wp).lim true true, by simp, rfl, rfl, ?_, rfl, by omega, by omega, Nat.le_refl _, by omega, Nat.le_trans Go.Sort.rd_lim_le hlim, by rw [pL.1, hs4], (r6 _ pL sL).1, hw8, ⟨?_⟩⟩
                          · exact congrArg Value.bool (Go.Proofs.eighth (by omega) (by omega))
                          · rw [← A.out, Go.Sort.pdq_left h12 hl0 hp2 h87 (by rw [hx]; exact ⟨r1, r2⟩) (by rw [hx]; exact h4), hx]
                      · have h4z : ¬ ((mid : Int) - (a' : Int) < (b' : Int) - (mid : Int)) := by omega
                        have hih := IH.out (mid + 1) b' (Go.Sort.rd (Go.Proofs.ltOf El.cf) dk a' b' lim wb wp).lim d4 w7 (by omega) (hs4.trans hs0.symm) hAt7 (by omega) (by omega) (Nat.lt_of_le_of_lt (Nat.le_trans Go.Sort.rd_lim_le hlim) hlimit) r5
                        rw [show ((mid + 1 : Nat) : Int) = (mid : Int) + 1 by omega, hs4] at hih
                        obtain ⟨pL, sL⟩ := Go.Sort.pdq_sorts (Go.Proofs.ltOf El.cf) hO d4 (mid + 1) b' (Go.Sort.rd (Go.Proofs.ltOf El.cf) dk a' b' lim wb wp).lim true true (by omega) (by omega) r5
                        go_wp2_with (go_at_call 47; with_reducible refine hih.mono ?_; rintro e w8 ⟨rfl, hw8⟩)
                        go_roundg (mid - a')
                        case measure => omega
                        case rel =>
                          refine ⟨a', mid, (Go.Sort.rd (Go.Proofs.ltOf El.cf) dk a' b' lim wb wp).lim, decide (b' - mid ≥ (b' - a') / 8), ap, Go.Sort.pdq (Go.Proofs.ltOf El.cf) d4 (mid + 1) b' (Go.Sort.rd (Go.Proofs.ltOf El.cf) dk a' b' lim wb wp).lim true true, rfl, rfl, rfl, ?_, rfl, by omega, by omega, Nat.le_refl _, by omega, Nat.le_trans Go.Sort.rd_lim_le hlim, by rw [pL.1, hs4], (r7 _ pL sL).1, hw8, ⟨?_⟩⟩
                          · exact congrArg Value.bool (Go.Proofs.eighth (by omega) (by omega))
                          · rw [← A.out, Go.Sort.pdq_right h12 hl0 hp2 h87 (by rw [hx]; exact ⟨r1, r2⟩) (by rw [hx]; exact h4), hx]
                    · have hlt2 := ltOf_no hc
                      (try rw [ltOf_no3 hc])
                      have h87 : (decide (a' > 0) && !(Go.Proofs.ltOf El.cf) (Go.Sort.rd (Go.Proofs.ltOf El.cf) dk a' b' lim wb wp).pi.1[a' - 1]! (Go.Sort.rd (Go.Proofs.ltOf El.cf) dk a' b' lim wb wp).pi.1[(Go.Sort.rd (Go.Proofs.ltOf El.cf) dk a' b' lim wb wp).pivot]!) = true := by rw [show a' - 1 = am by have := HAM.out; omega, hlt2]; simp; exact ha0g
                      have h88 : (Go.Proofs.ltOf El.cf) (Go.Sort.rd (Go.Proofs.ltOf El.cf) dk a' b' lim wb wp).pi.1[a' - 1]! (Go.Sort.rd (Go.Proofs.ltOf El.cf) dk a' b' lim wb wp).pi.1[(Go.Sort.rd (Go.Proofs.ltOf El.cf) dk a' b' lim wb wp).pivot]! = false := by rw [show a' - 1 = am by have := HAM.out; omega, hlt2]
                      obtain ⟨mid, d4, hx⟩ : ∃ mid d4, Go.Sort.partitionEqual (Go.Proofs.ltOf El.cf) (Go.Sort.rd (Go.Proofs.ltOf El.cf) dk a' b' lim wb wp).pi.1 a' b' (Go.Sort.rd (Go.Proofs.ltOf El.cf) dk a' b' lim wb wp).pivot = (mid, d4) := ⟨_, _, rfl⟩
                      obtain ⟨r1, r2, r3, r4, _⟩ := Go.Sort.round_eq hO (Go.Sort.partitionEqual_holds (Go.Proofs.ltOf El.cf)) (show 0 < a' by omega) hpv.1 hpv.2 (show b' ≤ (Go.Sort.rd (Go.Proofs.ltOf El.cf) dk a' b' lim wb wp).pi.1.size by omega) B3 h88 hx
                      have hc21 := partEqAll W0 g cap ok d0 (Go.Sort.rd (Go.Proofs.ltOf El.cf) dk a' b' lim wb wp).pi.1 hH hg (z3.trans hs0.symm) hsz a' b' (Go.Sort.rd (Go.Proofs.ltOf El.cf) dk a' b' lim wb wp).pivot hpv.1 hpv.2 (by omega) w6 hAt6
                      rw [hx, z3] at hc21
                      have X := Aside0.mk hx
                      clear hx
                      go_wp2_with (go_at_call 57; with_reducible refine hc21.mono ?_; rintro e w7 ⟨rfl, hw7⟩)
                      go_roundg (b' - mid)
                      case measure => omega
                      case rel =>
                        have hx := X.out
                        exact ⟨mid, b', (Go.Sort.rd (Go.Proofs.ltOf El.cf) dk a' b' lim wb wp).lim, wb, wp, d4, rfl, rfl, rfl, rfl, rfl, r2, hb', Nat.le_refl _, by omega, Nat.le_trans Go.Sort.rd_lim_le hlim, by rw [r3, z3], r4, hw7, ⟨by rw [← A.out, Go.Sort.pdq_eq h12 hl0 hp2 h87 (by rw [hx]; exact ⟨r1, r2⟩), hx]⟩⟩

/-! ### rank_reading_40: function 40 -/
/-! ### slices.SortFunc at readings -/
set_option maxHeartbeats 4000000 in
set_option maxRecDepth 100000 in
/-- slices.SortFunc at readings. -/
theorem sortAll (W0 : World) (g cap : Nat) (ok : Nat → Prop) (d0 : Array (El W0 g ok)) (hH : Go.Sort.HoldsK El.enc 3 W0 g 0 d0) (hg : g < W0.heap.size) (hsz : d0.size < 4611686018427387904) :
    Calls Tryd.prog 40 #[.slice (some ⟨g, 0, none⟩) d0.size cap, .func (.methodOf 47 "interlocutor/rank.against") #[] #[]] W0 fun e w' => e = .returned (.tuple #[]) ∧ ∃ d' : Array (El W0 g ok), Go.Sort.PermIn 0 d0.size d0 d' ∧ Go.Sort.SortedIn (Go.Proofs.ltOf El.cf) 0 d0.size d' ∧ SWK El.enc 3 W0 g 0 d' w' := by
  have hlim : Lib.bitLen d0.size < 4611686018427387904 := Nat.lt_of_le_of_lt (Lib.bitLen_le d0.size 62 (by omega) (by omega)) (by omega)
  have hp := pdqAll W0 g cap ok d0 hH hg (by omega) (fun d a b W hs hab hb S => pisFull W0 g cap ok d0 d hH hg hs (by omega) a b hab hb W S) (d0.size + 1) 0 d0.size (Lib.bitLen d0.size) d0 W0 (by omega) rfl (SWK.start hH) (Nat.zero_le _) (Nat.le_refl _) hlim (Or.inl rfl)
  have hl : ∀ w, Calls Tryd.prog 48 #[.int .u64 (d0.size : Int)] w fun e w' => e = .returned (.int .i64 (Lib.bitLen d0.size : Nat)) ∧ w' = w := fun w => by
    have h := Any.bits_Len (SlLaysF0.n15.bits (P := Tryd.prog) (ρ := Tryd.sortReading_ren) { Tryd.sort_lays with }) (d0.size : Int) w (by omega) (by omega)
    rwa [Int.toNat_natCast] at h
  have wr : IntKind.u64.wrap (d0.size : Int) = d0.size := by simp [IntKind.wrap, IntKind.bits, IntKind.signed]; omega
  have hq := Go.Sort.pdq_sorts (Go.Proofs.ltOf El.cf) (@El.swo W0 g ok) d0 0 d0.size (Lib.bitLen d0.size) true true (Nat.zero_le _) (Nat.le_refl _) (Or.inl rfl)
  have HQ := Aside0.mk hq
  have HL := Aside0.mk hl
  have HP := Aside0.mk hp
  clear hH hp hl hq
  go_enter Tryd.func40, Tryd.ntmps40
  go_wp2_with (first | (go_at_call 48; refine (HL.out _).mono ?_; rintro e w' ⟨rfl, rfl⟩) | (go_at_call 47; refine (HP.out).mono ?_; rintro e w' ⟨rfl, hR⟩; have HR_ := Aside0.mk hR; clear hR))
  go_end0
  exact ⟨rfl, _, HQ.out.1, HQ.out.2, HR_.out⟩

end Go.Proofs.YtlgndfplikhflaaDoor.G
