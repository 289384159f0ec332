-- printed by wip/tool/gprint.py, a program of this work, out of the translation; Lean checks it
import Derived.Test.YtlgndfplikhflaaDoorGx0
import Derived.Test.YtlgndfplikhflaaDoorGx4
namespace Go.Proofs.YtlgndfplikhflaaDoor.G
open Go.RowKit Go.Proofs.YtlgndfplikhflaaDoorW.PrintWords Go.Proofs.YtlgndfplikhflaaDoorW.PrintLast Go.Proofs.YtlgndfplikhflaaDoorW.PrintMore Go.Proofs.YtlgndfplikhflaaDoorW.VWords Go.Proofs.YtlgndfplikhflaaDoorW.Tab
attribute [local go_sem] max2_int min2_int max_two min_two max_three min_three max_four min_four   -- for this text's walks alone
set_option linter.unusedVariables false
set_option linter.unusedSimpArgs false

/-! ### rank_reading_65: function 65 -/
/-! ### slices.siftDown at readings -/
set_option maxHeartbeats 8000000 in
set_option maxRecDepth 100000 in
/-- siftDown, of any stretch. -/
theorem siftAll (W0 : World) (g cap : Nat) (ok : Nat → Prop) (d0 d : Array (El W0 g ok)) (hH : Go.Sort.HoldsK El.enc 3 W0 g 0 d0) (hg : g < W0.heap.size) (hs : d.size = d0.size) (hsz : d0.size < 4611686018427387904) (lo hi first : Nat) (hlo : lo ≤ hi) (hb : first + hi ≤ d.size) (W : World) (hW : SWK El.enc 3 W0 g 0 d W) :
    Calls Tryd.prog 65 #[.slice (some ⟨g, 0, none⟩) d.size cap, .int .i64 lo, .int .i64 hi, .int .i64 first, .func (.methodOf 47 "interlocutor/rank.against") #[] #[]] W fun e w' => e = .returned (.tuple #[]) ∧ SWK El.enc 3 W0 g 0 (Go.Sort.siftDown (Go.Proofs.ltOf El.cf) hi first lo d) w' := by
  have HH := Aside0.mk hH
  have mixed : Tryd.prog.follows .mixedOrders = true := by kernel_rfl
  have hm := meth_at
  have hmc := meth_call
  have H0 := Aside0.mk hW
  have HS := Aside0.mk (And.intro hs hsz)
  have HAB := Aside0.mk (And.intro hlo hb)
  clear hlo hb
  clear hH hW hs hsz
  go_enter Tryd.func65, Tryd.ntmps65
  go_wp2
  go_loopg [10] (hi - lo) (fun g1 vi wr => ∃ (root : Nat) (dk : Array (El W0 g ok)), vi = .int .i64 root ∧ Aside0 (root ≤ hi ∧ hi - root ≤ g1 ∧ dk.size = d.size) ∧ Aside0 (SWK El.enc 3 W0 g 0 dk wr) ∧ Aside0 (Go.Sort.siftDown (Go.Proofs.ltOf El.cf) hi first root dk = Go.Sort.siftDown (Go.Proofs.ltOf El.cf) hi first lo d))
  case atStart => exact ⟨lo, d, rfl, ⟨by have := HAB.out; omega⟩, H0, ⟨rfl⟩⟩
  case round =>
    clear H0
    obtain ⟨root, dk, rfl, HI, HK, HO⟩ := hrel
    have w1 : IntKind.i64.wrap (2 * (root : Int)) = 2 * (root : Int) := by have := HAB.out; have := HS.out; have := HI.out; rw [IntKind.wrap_i64]; omega
    have w2 : IntKind.i64.wrap (2 * (root : Int) + 1) = 2 * (root : Int) + 1 := by have := HAB.out; have := HS.out; have := HI.out; rw [IntKind.wrap_i64]; omega
    by_cases h0 : hi ≤ 2 * root + 1
    · have h0z : (hi : Int) ≤ 2 * (root : Int) + 1 := by omega
      go_wp2
      go_end0
      refine ⟨rfl, ?_⟩
      rw [← HO.out, Go.Sort.sd_end _ dk h0]
      exact HK.out
    · have h0z : ¬ (hi : Int) ≤ 2 * (root : Int) + 1 := by omega
      have ia1 : (0 : Int) ≤ (first : Int) + (root : Int) := by have := HAB.out; have := HS.out; have := HI.out; omega
      have ib1 : (first : Int) + (root : Int) < (d.size : Int) := by have := HAB.out; have := HS.out; have := HI.out; omega
      have ic1 : ((first : Int) + (root : Int)).toNat = first + root := by have := HAB.out; have := HS.out; have := HI.out; omega
      have id1 : IntKind.i64.wrap ((first : Int) + (root : Int)) = (first : Int) + (root : Int) := by have := HAB.out; have := HS.out; have := HI.out; rw [IntKind.wrap_i64]; omega
      by_cases h1 : 2 * root + 2 < hi
      · have h1z : 2 * (root : Int) + 1 + 1 < (hi : Int) := by omega
        have w3 : IntKind.i64.wrap (2 * (root : Int) + 1 + 1) = 2 * (root : Int) + 1 + 1 := by have := HAB.out; have := HS.out; have := HI.out; rw [IntKind.wrap_i64]; omega
        have ia2 : (0 : Int) ≤ (first : Int) + (2 * (root : Int) + 1) := by have := HAB.out; have := HS.out; have := HI.out; omega
        have ib2 : (first : Int) + (2 * (root : Int) + 1) < (d.size : Int) := by have := HAB.out; have := HS.out; have := HI.out; omega
        have ic2 : ((first : Int) + (2 * (root : Int) + 1)).toNat = first + (2 * root + 1) := by have := HAB.out; have := HS.out; have := HI.out; omega
        have id2 : IntKind.i64.wrap ((first : Int) + (2 * (root : Int) + 1)) = (first : Int) + (2 * (root : Int) + 1) := by have := HAB.out; have := HS.out; have := HI.out; rw [IntKind.wrap_i64]; omega
        have ia3 : (0 : Int) ≤ (first : Int) + (2 * (root : Int) + 1) + 1 := by have := HAB.out; have := HS.out; have := HI.out; omega
        have ib3 : (first : Int) + (2 * (root : Int) + 1) + 1 < (d.size : Int) := by have := HAB.out; have := HS.out; have := HI.out; omega
        have ic3 : ((first : Int) + (2 * (root : Int) + 1) + 1).toNat = first + (2 * root + 2) := by have := HAB.out; have := HS.out; have := HI.out; omega
        have id3 : IntKind.i64.wrap ((first : Int) + (2 * (root : Int) + 1) + 1) = (first : Int) + (2 * (root : Int) + 1) + 1 := by have := HAB.out; have := HS.out; have := HI.out; rw [IntKind.wrap_i64]; omega
        have ia4 : (0 : Int) ≤ (first : Int) + (2 * (root : Int) + 1 + 1) := by have := HAB.out; have := HS.out; have := HI.out; omega
        have ib4 : (first : Int) + (2 * (root : Int) + 1 + 1) < (d.size : Int) := by have := HAB.out; have := HS.out; have := HI.out; omega
        have ic4 : ((first : Int) + (2 * (root : Int) + 1 + 1)).toNat = first + (2 * root + 2) := by have := HAB.out; have := HS.out; have := HI.out; omega
        have id4 : IntKind.i64.wrap ((first : Int) + (2 * (root : Int) + 1 + 1)) = (first : Int) + (2 * (root : Int) + 1 + 1) := by have := HAB.out; have := HS.out; have := HI.out; rw [IntKind.wrap_i64]; omega
        obtain ⟨px, Ax, nx, mx, tx, ex⟩ := El.cells dk[first + (2 * root + 1)]!
        have ELx := Aside0.mk ex
        clear ex
        obtain ⟨py, Ay, ny, my, ty, ey⟩ := El.cells dk[first + (2 * root + 2)]!
        have ELy := Aside0.mk ey
        clear ey
        have qx := fun n os => el_cells HK.out HH.out hg (by have := HAB.out; have := HS.out; have := HI.out; omega) (first + (2 * root + 1)) (by have := HAB.out; have := HS.out; have := HI.out; omega) _ _ _ ELx.out n os
        have qy := fun n os => el_cells HK.out HH.out hg (by have := HAB.out; have := HS.out; have := HI.out; omega) (first + (2 * root + 2)) (by have := HAB.out; have := HS.out; have := HI.out; omega) _ _ _ ELy.out n os
        have q0 := fun n os => (qx n os).1.1
        have q1 := fun n os => (qx n os).1.2.1
        have q2 := fun n os => (qx n os).1.2.2
        have q3 := fun n os => (qy n os).1.1
        have q4 := fun n os => (qy n os).1.2.1
        have q5 := fun n os => (qy n os).1.2.2
        have cc := fun n os => ins_cmp HK.out dk[first + (2 * root + 1)]! dk[first + (2 * root + 2)]! _ _ ELx.out ELy.out n os
        clear qx qy
        go_wp2_with fail
        go_quiet_grown (first | (go_at_call 92; refine Calls.grown_of (cc _ _)))
        have H2 := Aside0.mk (HK.out.grown nq osq)
        clear cc q0 q1 q2 q3 q4 q5 HK
        generalize Go.Sort.grow (World.drewN wr nq) osq = W2 at H2 ⊢
        clear nq osq
        clear ELx ELy
        by_cases hc : (dk[first + (2 * root + 1)]!).cf (dk[first + (2 * root + 2)]!) < 0
        · have hlt2 := ltOf_yes hc
          go_wp2_with fail
          obtain ⟨pa, Aa, na, ma, ta, ea⟩ := El.cells dk[first + root]!
          have ELa := Aside0.mk ea
          clear ea
          obtain ⟨pb, Ab, nb, mb, tb, eb⟩ := El.cells dk[first + (2 * root + 2)]!
          have ELb := Aside0.mk eb
          clear eb
          have qx := fun n os => el_cells H2.out HH.out hg (by have := HAB.out; have := HS.out; have := HI.out; omega) (first + root) (by have := HAB.out; have := HS.out; have := HI.out; omega) _ _ _ ELa.out n os
          have qy := fun n os => el_cells H2.out HH.out hg (by have := HAB.out; have := HS.out; have := HI.out; omega) (first + (2 * root + 2)) (by have := HAB.out; have := HS.out; have := HI.out; omega) _ _ _ ELb.out n os
          have q0 := fun n os => (qx n os).1.1
          have q1 := fun n os => (qx n os).1.2.1
          have q2 := fun n os => (qx n os).1.2.2
          have q3 := fun n os => (qy n os).1.1
          have q4 := fun n os => (qy n os).1.2.1
          have q5 := fun n os => (qy n os).1.2.2
          have cc := fun n os => ins_cmp H2.out dk[first + root]! dk[first + (2 * root + 2)]! _ _ ELa.out ELb.out n os
          clear qx qy
          go_wp2_with fail
          go_quiet_grown (first | (go_at_call 92; refine Calls.grown_of (cc _ _)))
          have H7 := Aside0.mk (H2.out.grown nq osq)
          clear cc q0 q1 q2 q3 q4 q5 H2
          generalize Go.Sort.grow (World.drewN W2 nq) osq = W7 at H7 ⊢
          clear nq osq
          by_cases hd : (dk[first + root]!).cf (dk[first + (2 * root + 2)]!) < 0
          · have hlt3 := ltOf_yes hd
            rw [ltOf_yes3 hd]
            go_wp2_with fail
            have q := el_cells H7.out HH.out hg (by have := HAB.out; have := HS.out; have := HI.out; omega) (first + root) (by have := HAB.out; have := HS.out; have := HI.out; omega) _ _ _ ELa.out 0 #[]
            have r := el_cells H7.out HH.out hg (by have := HAB.out; have := HS.out; have := HI.out; omega) (first + (2 * root + 2)) (by have := HAB.out; have := HS.out; have := HI.out; omega) _ _ _ ELb.out 0 #[]
            rw [Go.Sort.grow_empty, World.drewN_zero] at q r
            obtain ⟨⟨q0, q1, q2⟩, q3, q4, q5⟩ := q
            obtain ⟨⟨r0, r1, r2⟩, r3, r4, r5⟩ := r
            
            go_wp2_with fail
            go_big_region_o
            
            have H8 := Aside0.mk (el_swap H7.out HH.out hg (by have := HAB.out; have := HS.out; have := HI.out; omega) (first + root) (first + (2 * root + 2)) (by have := HAB.out; have := HS.out; have := HI.out; omega) (by have := HAB.out; have := HS.out; have := HI.out; omega) _ _ _ _ _ _ ELb.out ELa.out)
            
            clear H7 q0 q1 q2 q3 q4 q5 r0 r1 r2 r3 r4 r5
            generalize World.drew ((((((World.setCell W7 ⟨g, (first + root) * 3, none⟩ _).setCell ⟨g, (first + root) * 3 + 1, none⟩ _).setCell ⟨g, (first + root) * 3 + 2, none⟩ _).setCell ⟨g, (first + (2 * root + 2)) * 3, none⟩ _).setCell ⟨g, (first + (2 * root + 2)) * 3 + 1, none⟩ _).setCell ⟨g, (first + (2 * root + 2)) * 3 + 2, none⟩ _) = W8 at H8  ⊢
            go_wp2
            go_roundg (hi - (2 * root + 2))
            case measure => have := HAB.out; have := HS.out; have := HI.out; omega
            case rel => exact ⟨2 * root + 2, _, by go_num, ⟨by rw [Go.Sort.size_swp]; have := HAB.out; have := HS.out; have := HI.out; omega⟩, H8, ⟨by rw [← HO.out]; exact (Go.Sort.sd_right_go _ dk h1 hlt2 hlt3).symm⟩⟩
          · have hlt3 := ltOf_no hd
            rw [ltOf_no3 hd]
            go_wp2
            (try simp only [Exit.inBlock, Exit.then]); refine bodyPost_ret (results_none rfl _ _ _) rfl ?_
            refine ⟨rfl, ?_⟩
            rw [← HO.out, Go.Sort.sd_right_stop _ dk h1 hlt2 hlt3]
            exact H7.out
        · have hlt2 := ltOf_no hc
          go_wp2_with fail
          obtain ⟨pa, Aa, na, ma, ta, ea⟩ := El.cells dk[first + root]!
          have ELa := Aside0.mk ea
          clear ea
          obtain ⟨pb, Ab, nb, mb, tb, eb⟩ := El.cells dk[first + (2 * root + 1)]!
          have ELb := Aside0.mk eb
          clear eb
          have qx := fun n os => el_cells H2.out HH.out hg (by have := HAB.out; have := HS.out; have := HI.out; omega) (first + root) (by have := HAB.out; have := HS.out; have := HI.out; omega) _ _ _ ELa.out n os
          have qy := fun n os => el_cells H2.out HH.out hg (by have := HAB.out; have := HS.out; have := HI.out; omega) (first + (2 * root + 1)) (by have := HAB.out; have := HS.out; have := HI.out; omega) _ _ _ ELb.out n os
          have q0 := fun n os => (qx n os).1.1
          have q1 := fun n os => (qx n os).1.2.1
          have q2 := fun n os => (qx n os).1.2.2
          have q3 := fun n os => (qy n os).1.1
          have q4 := fun n os => (qy n os).1.2.1
          have q5 := fun n os => (qy n os).1.2.2
          have cc := fun n os => ins_cmp H2.out dk[first + root]! dk[first + (2 * root + 1)]! _ _ ELa.out ELb.out n os
          clear qx qy
          go_wp2_with fail
          go_quiet_grown (first | (go_at_call 92; refine Calls.grown_of (cc _ _)))
          have H7 := Aside0.mk (H2.out.grown nq osq)
          clear cc q0 q1 q2 q3 q4 q5 H2
          generalize Go.Sort.grow (World.drewN W2 nq) osq = W7 at H7 ⊢
          clear nq osq
          by_cases hd : (dk[first + root]!).cf (dk[first + (2 * root + 1)]!) < 0
          · have hlt3 := ltOf_yes hd
            rw [ltOf_yes3 hd]
            go_wp2_with fail
            have q := el_cells H7.out HH.out hg (by have := HAB.out; have := HS.out; have := HI.out; omega) (first + root) (by have := HAB.out; have := HS.out; have := HI.out; omega) _ _ _ ELa.out 0 #[]
            have r := el_cells H7.out HH.out hg (by have := HAB.out; have := HS.out; have := HI.out; omega) (first + (2 * root + 1)) (by have := HAB.out; have := HS.out; have := HI.out; omega) _ _ _ ELb.out 0 #[]
            rw [Go.Sort.grow_empty, World.drewN_zero] at q r
            obtain ⟨⟨q0, q1, q2⟩, q3, q4, q5⟩ := q
            obtain ⟨⟨r0, r1, r2⟩, r3, r4, r5⟩ := r
            
            go_wp2_with fail
            go_big_region_o
            
            have H8 := Aside0.mk (el_swap H7.out HH.out hg (by have := HAB.out; have := HS.out; have := HI.out; omega) (first + root) (first + (2 * root + 1)) (by have := HAB.out; have := HS.out; have := HI.out; omega) (by have := HAB.out; have := HS.out; have := HI.out; omega) _ _ _ _ _ _ ELb.out ELa.out)
            
            clear H7 q0 q1 q2 q3 q4 q5 r0 r1 r2 r3 r4 r5
            generalize World.drew ((((((World.setCell W7 ⟨g, (first + root) * 3, none⟩ _).setCell ⟨g, (first + root) * 3 + 1, none⟩ _).setCell ⟨g, (first + root) * 3 + 2, none⟩ _).setCell ⟨g, (first + (2 * root + 1)) * 3, none⟩ _).setCell ⟨g, (first + (2 * root + 1)) * 3 + 1, none⟩ _).setCell ⟨g, (first + (2 * root + 1)) * 3 + 2, none⟩ _) = W8 at H8  ⊢
            go_wp2
            go_roundg (hi - (2 * root + 1))
            case measure => have := HAB.out; have := HS.out; have := HI.out; omega
            case rel => exact ⟨2 * root + 1, _, by go_num, ⟨by rw [Go.Sort.size_swp]; have := HAB.out; have := HS.out; have := HI.out; omega⟩, H8, ⟨by rw [← HO.out]; exact (Go.Sort.sd_left_go _ dk (by omega) (fun _ => hlt2) hlt3).symm⟩⟩
          · have hlt3 := ltOf_no hd
            rw [ltOf_no3 hd]
            go_wp2
            (try simp only [Exit.inBlock, Exit.then]); refine bodyPost_ret (results_none rfl _ _ _) rfl ?_
            refine ⟨rfl, ?_⟩
            rw [← HO.out, Go.Sort.sd_left_stop _ dk (by omega) (fun _ => hlt2) hlt3]
            exact H7.out
      · have h1z : ¬ 2 * (root : Int) + 1 + 1 < (hi : Int) := by omega
        have w3 : IntKind.i64.wrap (2 * (root : Int) + 1 + 1) = 2 * (root : Int) + 1 + 1 := by have := HAB.out; have := HS.out; have := HI.out; rw [IntKind.wrap_i64]; omega
        have ia5 : (0 : Int) ≤ (first : Int) + (2 * (root : Int) + 1) := by have := HAB.out; have := HS.out; have := HI.out; omega
        have ib5 : (first : Int) + (2 * (root : Int) + 1) < (d.size : Int) := by have := HAB.out; have := HS.out; have := HI.out; omega
        have ic5 : ((first : Int) + (2 * (root : Int) + 1)).toNat = first + (2 * root + 1) := by have := HAB.out; have := HS.out; have := HI.out; omega
        have id5 : IntKind.i64.wrap ((first : Int) + (2 * (root : Int) + 1)) = (first : Int) + (2 * (root : Int) + 1) := by have := HAB.out; have := HS.out; have := HI.out; rw [IntKind.wrap_i64]; omega
        go_wp2_with fail
        have h1y : decide (2 * (root : Int) + 1 + 1 < (hi : Int)) = false := decide_eq_false (by omega)
        go_big_region_o
        have H2 := Aside0.mk (HK.out.drew)
        clear HK
        generalize World.drew wr = W2 at H2 ⊢
        go_wp2_with fail
        obtain ⟨pa, Aa, na, ma, ta, ea⟩ := El.cells dk[first + root]!
        have ELa := Aside0.mk ea
        clear ea
        obtain ⟨pb, Ab, nb, mb, tb, eb⟩ := El.cells dk[first + (2 * root + 1)]!
        have ELb := Aside0.mk eb
        clear eb
        have qx := fun n os => el_cells H2.out HH.out hg (by have := HAB.out; have := HS.out; have := HI.out; omega) (first + root) (by have := HAB.out; have := HS.out; have := HI.out; omega) _ _ _ ELa.out n os
        have qy := fun n os => el_cells H2.out HH.out hg (by have := HAB.out; have := HS.out; have := HI.out; omega) (first + (2 * root + 1)) (by have := HAB.out; have := HS.out; have := HI.out; omega) _ _ _ ELb.out n os
        have q0 := fun n os => (qx n os).1.1
        have q1 := fun n os => (qx n os).1.2.1
        have q2 := fun n os => (qx n os).1.2.2
        have q3 := fun n os => (qy n os).1.1
        have q4 := fun n os => (qy n os).1.2.1
        have q5 := fun n os => (qy n os).1.2.2
        have cc := fun n os => ins_cmp H2.out dk[first + root]! dk[first + (2 * root + 1)]! _ _ ELa.out ELb.out n os
        clear qx qy
        go_wp2_with fail
        go_quiet_grown (first | (go_at_call 92; refine Calls.grown_of (cc _ _)))
        have H7 := Aside0.mk (H2.out.grown nq osq)
        clear cc q0 q1 q2 q3 q4 q5 H2
        generalize Go.Sort.grow (World.drewN W2 nq) osq = W7 at H7 ⊢
        clear nq osq
        by_cases hd : (dk[first + root]!).cf (dk[first + (2 * root + 1)]!) < 0
        · have hlt3 := ltOf_yes hd
          rw [ltOf_yes3 hd]
          go_wp2_with fail
          have q := el_cells H7.out HH.out hg (by have := HAB.out; have := HS.out; have := HI.out; omega) (first + root) (by have := HAB.out; have := HS.out; have := HI.out; omega) _ _ _ ELa.out 0 #[]
          have r := el_cells H7.out HH.out hg (by have := HAB.out; have := HS.out; have := HI.out; omega) (first + (2 * root + 1)) (by have := HAB.out; have := HS.out; have := HI.out; omega) _ _ _ ELb.out 0 #[]
          rw [Go.Sort.grow_empty, World.drewN_zero] at q r
          obtain ⟨⟨q0, q1, q2⟩, q3, q4, q5⟩ := q
          obtain ⟨⟨r0, r1, r2⟩, r3, r4, r5⟩ := r
          
          go_wp2_with fail
          go_big_region_o
          
          have H8 := Aside0.mk (el_swap H7.out HH.out hg (by have := HAB.out; have := HS.out; have := HI.out; omega) (first + root) (first + (2 * root + 1)) (by have := HAB.out; have := HS.out; have := HI.out; omega) (by have := HAB.out; have := HS.out; have := HI.out; omega) _ _ _ _ _ _ ELb.out ELa.out)
          
          clear H7 q0 q1 q2 q3 q4 q5 r0 r1 r2 r3 r4 r5
          generalize World.drew ((((((World.setCell W7 ⟨g, (first + root) * 3, none⟩ _).setCell ⟨g, (first + root) * 3 + 1, none⟩ _).setCell ⟨g, (first + root) * 3 + 2, none⟩ _).setCell ⟨g, (first + (2 * root + 1)) * 3, none⟩ _).setCell ⟨g, (first + (2 * root + 1)) * 3 + 1, none⟩ _).setCell ⟨g, (first + (2 * root + 1)) * 3 + 2, none⟩ _) = W8 at H8  ⊢
          go_wp2
          go_roundg (hi - (2 * root + 1))
          case measure => have := HAB.out; have := HS.out; have := HI.out; omega
          case rel => exact ⟨2 * root + 1, _, by go_num, ⟨by rw [Go.Sort.size_swp]; have := HAB.out; have := HS.out; have := HI.out; omega⟩, H8, ⟨by rw [← HO.out]; exact (Go.Sort.sd_left_go _ dk (by omega) (fun h => absurd h h1) hlt3).symm⟩⟩
        · have hlt3 := ltOf_no hd
          rw [ltOf_no3 hd]
          go_wp2
          (try simp only [Exit.inBlock, Exit.then]); refine bodyPost_ret (results_none rfl _ _ _) rfl ?_
          refine ⟨rfl, ?_⟩
          rw [← HO.out, Go.Sort.sd_left_stop _ dk (by omega) (fun h => absurd h h1) hlt3]
          exact H7.out

/-! ### rank_reading_52: function 52 -/
/-! ### slices.heapSort at readings -/
set_option maxHeartbeats 8000000 in
set_option maxRecDepth 100000 in
/-- heapSort, of any stretch. -/
theorem heapAll (W0 : World) (g cap : Nat) (ok : Nat → Prop) (d0 d : Array (El W0 g ok)) (hH : Go.Sort.HoldsK El.enc 3 W0 g 0 d0) (hg : g < W0.heap.size) (hs : d.size = d0.size) (hsz : d0.size < 4611686018427387904) (a L : Nat) (hL : 1 ≤ L) (hb : a + L ≤ d.size) (W : World) (hW : SWK El.enc 3 W0 g 0 d W) :
    Calls Tryd.prog 52 #[.slice (some ⟨g, 0, none⟩) d.size cap, .int .i64 a, .int .i64 ((a + L : Nat) : Int), .func (.methodOf 47 "interlocutor/rank.against") #[] #[]] W fun e w' => e = .returned (.tuple #[]) ∧ SWK El.enc 3 W0 g 0 (Go.Sort.heapSort (Go.Proofs.ltOf El.cf) d a (a + L)) w' := by
  have HH := Aside0.mk hH
  have mixed : Tryd.prog.follows .mixedOrders = true := by kernel_rfl
  have hm := meth_at
  have hmc := meth_call
  have H0 := Aside0.mk hW
  have HS := Aside0.mk (And.intro hs hsz)
  have HAB := Aside0.mk (And.intro hL hb)
  have HX := Aside0.mk hH
  have sd := fun dk wr lo hi hlo hhi hsd hw => siftAll W0 g cap ok d0 dk hH hg hsd hsz lo hi a hlo hhi wr hw
  have SD := Aside0.mk sd
  clear hL hb sd
  clear hH hW hs hsz
  go_enter Tryd.func52, Tryd.ntmps52
  obtain ⟨h, hh⟩ : ∃ h : Nat, h = (L - 1) / 2 := ⟨_, rfl⟩
  have w1 : IntKind.i64.wrap ((a : Int) + (L : Int) - (a : Int)) = (L : Int) := by have := HAB.out; have := HS.out; rw [IntKind.wrap_i64]; omega
  have w2 : IntKind.i64.wrap ((L : Int) - 1) = (L : Int) - 1 := by have := HAB.out; have := HS.out; rw [IntKind.wrap_i64]; omega
  have w3 : ((L : Int) - 1).tdiv 2 = (h : Int) := by have := HAB.out; have := HS.out; rw [Int.tdiv_eq_ediv_of_nonneg (by omega)]; omega
  have w4 : IntKind.i64.wrap (h : Int) = (h : Int) := by have := HAB.out; have := HS.out; rw [IntKind.wrap_i64]; omega
  have HH2 := Aside0.mk hh
  clear hh
  go_wp2
  go_loopg [11] (h + 1) (fun g1 vi wr => ∃ (k : Nat) (z : Int) (dk : Array (El W0 g ok)), vi = .int .i64 z ∧ z = (k : Int) - 1 ∧ Aside0 (k ≤ h + 1 ∧ k ≤ g1 ∧ dk.size = d.size) ∧ Aside0 (SWK El.enc 3 W0 g 0 dk wr) ∧ Aside0 (Go.Sort.heapBuild (Go.Proofs.ltOf El.cf) L a k dk = Go.Sort.heapBuild (Go.Proofs.ltOf El.cf) L a (h + 1) d))
  case atStart => exact ⟨h + 1, h, d, rfl, by omega, ⟨by omega⟩, H0, ⟨rfl⟩⟩
  case round =>
    clear H0
    obtain ⟨k, z, dk, rfl, hz, HI, HK, HO⟩ := hrel
    rcases k with _ | k
    · have hzn : ¬ ((0 : Int) ≤ z) := by omega
      go_wp2
      rw [Go.Sort.heapBuild] at HO
      have w5 : IntKind.i64.wrap (L : Int) = (L : Int) := by have := HAB.out; have := HS.out; rw [IntKind.wrap_i64]; omega
      go_loopg [12] L (fun g1 vi wr => ∃ (k : Nat) (z : Int) (dj : Array (El W0 g ok)), vi = .int .i64 z ∧ z = (k : Int) - 1 ∧ Aside0 (k ≤ L ∧ k ≤ g1 ∧ dj.size = d.size) ∧ Aside0 (SWK El.enc 3 W0 g 0 dj wr) ∧ Aside0 (Go.Sort.heapPop (Go.Proofs.ltOf El.cf) a k dj = Go.Sort.heapPop (Go.Proofs.ltOf El.cf) a L dk))
      case atStart => exact ⟨L, (L : Int) - 1, dk, rfl, by omega, ⟨by have := HI.out; omega⟩, HK, ⟨rfl⟩⟩
      case round =>
        have HI0 := HI
        clear HK
        obtain ⟨k, z, dj, rfl, hz, HI, HK, HP⟩ := hrel
        rcases k with _ | k
        · have hzn : ¬ ((0 : Int) ≤ z) := by omega
          go_wp2
          go_end0
          refine ⟨rfl, ?_⟩
          have hp := HP.out
          have ho := HO.out
          rw [Go.Sort.heapPop] at hp
          rw [Go.Sort.heapSort, show a + L - a = L by omega, ← HH2.out, ← ho, ← hp]
          exact HK.out
        · obtain rfl : z = (k : Int) := by omega
          clear hz
          have ia1 : (0 : Int) ≤ (a : Int) := by have := HAB.out; have := HS.out; have := HI.out; omega
          have ib1 : (a : Int) < (d.size : Int) := by have := HAB.out; have := HS.out; have := HI.out; omega
          have ic1 : ((a : Int)).toNat = a := by have := HAB.out; have := HS.out; have := HI.out; omega
          have id1 : IntKind.i64.wrap ((a : Int)) = (a : Int) := by have := HAB.out; have := HS.out; have := HI.out; rw [IntKind.wrap_i64]; omega
          have w6 : (0 : Int) ≤ (k : Int) := by omega
          have w7 : IntKind.i64.wrap ((k : Int) - 1) = (k : Int) - 1 := by have := HAB.out; have := HS.out; have := HI.out; rw [IntKind.wrap_i64]; omega
          rcases k with _ | k
          · 
            obtain ⟨px, Ax, nx, mx, tx, ex⟩ := El.cells dj[a]!
            have ELx := Aside0.mk ex
            clear ex
            clear w6 w7
            have w7 : IntKind.i64.wrap (-1) = -1 := by rfl
            go_wp2_with fail
            have q := el_cells HK.out HH.out hg (by have := HAB.out; have := HS.out; have := HI.out; omega) (a) (by have := HAB.out; have := HS.out; have := HI.out; omega) _ _ _ ELx.out 0 #[]
            have r := el_cells HK.out HH.out hg (by have := HAB.out; have := HS.out; have := HI.out; omega) (a) (by have := HAB.out; have := HS.out; have := HI.out; omega) _ _ _ ELx.out 0 #[]
            rw [Go.Sort.grow_empty, World.drewN_zero] at q r
            obtain ⟨⟨q0, q1, q2⟩, q3, q4, q5⟩ := q
            obtain ⟨⟨r0, r1, r2⟩, r3, r4, r5⟩ := r
            
            go_wp2_with fail
            go_big_region_o
            
            have H3 := Aside0.mk (el_swap HK.out HH.out hg (by have := HAB.out; have := HS.out; have := HI.out; omega) (a) (a) (by have := HAB.out; have := HS.out; have := HI.out; omega) (by have := HAB.out; have := HS.out; have := HI.out; omega) _ _ _ _ _ _ ELx.out ELx.out)
            
            clear HK q0 q1 q2 q3 q4 q5 r0 r1 r2 r3 r4 r5
            generalize World.drew ((((((World.setCell wr ⟨g, (a) * 3, none⟩ _).setCell ⟨g, (a) * 3 + 1, none⟩ _).setCell ⟨g, (a) * 3 + 2, none⟩ _).setCell ⟨g, (a) * 3, none⟩ _).setCell ⟨g, (a) * 3 + 1, none⟩ _).setCell ⟨g, (a) * 3 + 2, none⟩ _) = W3 at H3  ⊢
            have hz2 : (Go.Sort.swp dj a (a)).size = d.size := by rw [Go.Sort.size_swp]; have := HI.out; omega
            have sd := SD.out _ W3 0 0 (by omega) (by rw [hz2]; have := HAB.out; have := HS.out; have := HI.out; omega) (by rw [hz2]; have := HAB.out; have := HS.out; have := HI.out; omega) H3.out
            rw [hz2] at sd
            have SE := Aside0.mk sd
            clear sd
            go_wp2_with (go_at_call 65; refine (SE.out).mono ?_; rintro e w' ⟨rfl, hR⟩; have H4 := Aside0.mk hR; clear hR)
            go_roundg 0
            case measure => have := HI.out; omega
            case rel => exact ⟨0, _, _, rfl, by omega, ⟨by rw [Go.Sort.size_siftDown _ _ _ _ _ _ (Nat.le_refl _), hz2]; have := HI.out; omega⟩, H4, ⟨by rw [← HP.out]; rfl⟩⟩
          · 
            have ia2 : (0 : Int) ≤ (a : Int) + ((k : Int) + 1) := by have := HAB.out; have := HS.out; have := HI.out; omega
            have ib2 : (a : Int) + ((k : Int) + 1) < (d.size : Int) := by have := HAB.out; have := HS.out; have := HI.out; omega
            have ic2 : ((a : Int) + ((k : Int) + 1)).toNat = a + (k + 1) := by have := HAB.out; have := HS.out; have := HI.out; omega
            have id2 : IntKind.i64.wrap ((a : Int) + ((k : Int) + 1)) = (a : Int) + ((k : Int) + 1) := by have := HAB.out; have := HS.out; have := HI.out; rw [IntKind.wrap_i64]; omega
            obtain ⟨px, Ax, nx, mx, tx, ex⟩ := El.cells dj[a]!
            have ELx := Aside0.mk ex
            clear ex
            obtain ⟨py, Ay, ny, my, ty, ey⟩ := El.cells dj[a + (k + 1)]!
            have ELy := Aside0.mk ey
            clear ey
            have w8 : IntKind.i64.wrap (k : Int) = (k : Int) := by have := HAB.out; have := HS.out; have := HI.out; rw [IntKind.wrap_i64]; omega
            go_wp2_with fail
            have q := el_cells HK.out HH.out hg (by have := HAB.out; have := HS.out; have := HI.out; omega) (a) (by have := HAB.out; have := HS.out; have := HI.out; omega) _ _ _ ELx.out 0 #[]
            have r := el_cells HK.out HH.out hg (by have := HAB.out; have := HS.out; have := HI.out; omega) (a + (k + 1)) (by have := HAB.out; have := HS.out; have := HI.out; omega) _ _ _ ELy.out 0 #[]
            rw [Go.Sort.grow_empty, World.drewN_zero] at q r
            obtain ⟨⟨q0, q1, q2⟩, q3, q4, q5⟩ := q
            obtain ⟨⟨r0, r1, r2⟩, r3, r4, r5⟩ := r
            
            go_wp2_with fail
            go_big_region_o
            
            have H3 := Aside0.mk (el_swap HK.out HH.out hg (by have := HAB.out; have := HS.out; have := HI.out; omega) (a) (a + (k + 1)) (by have := HAB.out; have := HS.out; have := HI.out; omega) (by have := HAB.out; have := HS.out; have := HI.out; omega) _ _ _ _ _ _ ELy.out ELx.out)
            
            clear HK q0 q1 q2 q3 q4 q5 r0 r1 r2 r3 r4 r5
            generalize World.drew ((((((World.setCell wr ⟨g, (a) * 3, none⟩ _).setCell ⟨g, (a) * 3 + 1, none⟩ _).setCell ⟨g, (a) * 3 + 2, none⟩ _).setCell ⟨g, (a + (k + 1)) * 3, none⟩ _).setCell ⟨g, (a + (k + 1)) * 3 + 1, none⟩ _).setCell ⟨g, (a + (k + 1)) * 3 + 2, none⟩ _) = W3 at H3  ⊢
            have hz2 : (Go.Sort.swp dj a (a + (k + 1))).size = d.size := by rw [Go.Sort.size_swp]; have := HI.out; omega
            have sd := SD.out _ W3 0 (k + 1) (by omega) (by rw [hz2]; have := HAB.out; have := HS.out; have := HI.out; omega) (by rw [hz2]; have := HAB.out; have := HS.out; have := HI.out; omega) H3.out
            rw [hz2] at sd
            have SE := Aside0.mk sd
            clear sd
            go_wp2_with (go_at_call 65; refine (SE.out).mono ?_; rintro e w' ⟨rfl, hR⟩; have H4 := Aside0.mk hR; clear hR)
            go_roundg (k + 1)
            case measure => have := HI.out; omega
            case rel => exact ⟨(k + 1), _, _, rfl, by omega, ⟨by rw [Go.Sort.size_siftDown _ _ _ _ _ _ (Nat.le_refl _), hz2]; have := HI.out; omega⟩, H4, ⟨by rw [← HP.out]; rfl⟩⟩
    · obtain rfl : z = (k : Int) := by omega
      clear hz
      have w6 : (0 : Int) ≤ (k : Int) := by omega
      have w7 : IntKind.i64.wrap ((k : Int) - 1) = (k : Int) - 1 := by have := HAB.out; have := HS.out; have := HI.out; have := HH2.out; rw [IntKind.wrap_i64]; omega
      have sd := SD.out dk wr k L (by have := HAB.out; have := HS.out; have := HI.out; have := HH2.out; have := HH2.out; omega) (by have := HAB.out; have := HS.out; have := HI.out; have := HH2.out; omega) (by have := HAB.out; have := HS.out; have := HI.out; have := HH2.out; omega) HK.out
      rw [show dk.size = d.size from HI.out.2.2] at sd
      have SE := Aside0.mk sd
      clear sd
      go_wp2_with (go_at_call 65; refine (SE.out).mono ?_; rintro e w' ⟨rfl, hR⟩; have H4 := Aside0.mk hR; clear hR)
      go_roundg k
      case measure => have := HI.out; omega
      case rel => exact ⟨k, _, _, rfl, by omega, ⟨by rw [Go.Sort.size_siftDown _ _ _ _ _ _ (Nat.le_refl _)]; have := HI.out; omega⟩, H4, ⟨by rw [← HO.out]; rfl⟩⟩

end Go.Proofs.YtlgndfplikhflaaDoor.G
