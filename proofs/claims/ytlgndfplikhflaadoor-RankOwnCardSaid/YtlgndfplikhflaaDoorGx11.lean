-- printed by wip/tool/gprint.py, a program of this work, out of the translation; Lean checks it
import Derived.Test.YtlgndfplikhflaaDoorGx0
import Derived.Test.YtlgndfplikhflaaDoorGx3
import Derived.Test.YtlgndfplikhflaaDoorGx4
import Derived.Test.YtlgndfplikhflaaDoorGx10
namespace Go.Proofs.YtlgndfplikhflaaDoor.G
open Go.RowKit Go.Proofs.YtlgndfplikhflaaDoorW.PrintWords Go.Proofs.YtlgndfplikhflaaDoorW.PrintLast Go.Proofs.YtlgndfplikhflaaDoorW.PrintMore Go.Proofs.YtlgndfplikhflaaDoorW.VWords Go.Proofs.YtlgndfplikhflaaDoorW.Tab
attribute [local go_sem] max2_int min2_int max_two min_two max_three min_three max_four min_four   -- for this text's walks alone
set_option linter.unusedVariables false
set_option linter.unusedSimpArgs false

/-! ### rank_reading_26: function 26 -/
/-! ### rank.sorted -/
set_option maxHeartbeats 8000000 in
set_option maxRecDepth 100000 in
theorem ins3 (W0 : World) (g cap : Nat) (ok : Nat → Prop) (e0 e1 e2 : El W0 g ok) (hH : Go.Sort.HoldsK El.enc 3 W0 g 0 #[e0, e1, e2]) (hg : g < W0.heap.size)
    (h1 : El.cf e1 e0 < 0) (h2 : El.cf e2 e0 < 0) (h3 : El.cf e2 e1 < 0) (p0 p1 p2 t0 t1 t2 : Int) (A0 A1 A2 : Option Addr) (n0 n1 n2 m0 m1 m2 : Nat) (x0 : e0.enc = [.int .i64 p0, .slice A0 n0 m0, .int .i64 t0]) (x1 : e1.enc = [.int .i64 p1, .slice A1 n1 m1, .int .i64 t1]) (x2 : e2.enc = [.int .i64 p2, .slice A2 n2 m2, .int .i64 t2]) :
    Calls Tryd.prog 51 #[.slice (some ⟨g, 0, none⟩) 3 cap, .int .i64 0, .int .i64 3, .func (.methodOf 47 "interlocutor/rank.against") #[] #[]] W0 fun e w' => e = .returned (.tuple #[]) ∧ SWK El.enc 3 W0 g 0 #[e2, e1, e0] w' := by
  have HH := Aside0.mk hH
  have mixed : Tryd.prog.follows .mixedOrders = true := by kernel_rfl
  have hm := meth_at
  have hmc := meth_call
  have hw0 : IntKind.i64.wrap 0 = 0 := by decide +kernel
  have hw1 : IntKind.i64.wrap 1 = 1 := by decide +kernel
  have hw2 : IntKind.i64.wrap 2 = 2 := by decide +kernel
  have hw3 : IntKind.i64.wrap 3 = 3 := by decide +kernel
  have H0 := Aside0.mk (SWK.start hH)
  have X0 := Aside0.mk x0
  have X1 := Aside0.mk x1
  have X2 := Aside0.mk x2
  clear hH x0 x1 x2
  go_enter Tryd.func51, Tryd.ntmps51
  go_wp2
  refine wp_loop_rounds 3 ?_
  rw [rounds_succ]
  go_wp2
  refine wp_loop_rounds 2 ?_
  rw [rounds_succ]
  have q0 : ∀ n os, (Go.Sort.grow (World.drewN W0 n) os).cell? ⟨g, 0, none⟩ = some (.int .i64 p0) := fun n os => (ins_cell H0.out HH.out hg rfl 0 0 (by simp) (by decide) _ X0.out n os).1
  have q1 : ∀ n os, (Go.Sort.grow (World.drewN W0 n) os).cell? ⟨g, 1, none⟩ = some (.slice A0 n0 m0) := fun n os => (ins_cell H0.out HH.out hg rfl 0 1 (by simp) (by decide) _ X0.out n os).1
  have q2 : ∀ n os, (Go.Sort.grow (World.drewN W0 n) os).cell? ⟨g, 2, none⟩ = some (.int .i64 t0) := fun n os => (ins_cell H0.out HH.out hg rfl 0 2 (by simp) (by decide) _ X0.out n os).1
  have q3 : ∀ n os, (Go.Sort.grow (World.drewN W0 n) os).cell? ⟨g, 3, none⟩ = some (.int .i64 p1) := fun n os => (ins_cell H0.out HH.out hg rfl 1 0 (by simp) (by decide) _ X1.out n os).1
  have q4 : ∀ n os, (Go.Sort.grow (World.drewN W0 n) os).cell? ⟨g, 4, none⟩ = some (.slice A1 n1 m1) := fun n os => (ins_cell H0.out HH.out hg rfl 1 1 (by simp) (by decide) _ X1.out n os).1
  have q5 : ∀ n os, (Go.Sort.grow (World.drewN W0 n) os).cell? ⟨g, 5, none⟩ = some (.int .i64 t1) := fun n os => (ins_cell H0.out HH.out hg rfl 1 2 (by simp) (by decide) _ X1.out n os).1
  have cc := fun n os => ins_cmp H0.out e1 e0 _ _ X1.out X0.out n os
  go_wp2_with fail
  go_quiet_grown (first | (go_at_call 92; refine Calls.grown_of (cc _ _)))
  have H1a := Aside0.mk (H0.out.grown nq osq)
  clear cc q0 q1 q2 q3 q4 q5 H0
  generalize Go.Sort.grow (World.drewN W0 nq) osq = W1a at H1a ⊢
  go_wp2_with fail
  have q0 : World.cell? W1a ⟨g, 0, none⟩ = some (.int .i64 p0) := by have h := (ins_cell H1a.out HH.out hg rfl 0 0 (by simp) (by decide) _ X0.out 0 #[]).1; rw [Go.Sort.grow_empty, World.drewN_zero] at h; exact h
  have r0 : World.frozen? W1a ⟨g, 0, none⟩ = false := by have h := (ins_cell H1a.out HH.out hg rfl 0 0 (by simp) (by decide) _ X0.out 0 #[]).2; rw [Go.Sort.grow_empty, World.drewN_zero] at h; exact h
  have q1 : World.cell? W1a ⟨g, 1, none⟩ = some (.slice A0 n0 m0) := by have h := (ins_cell H1a.out HH.out hg rfl 0 1 (by simp) (by decide) _ X0.out 0 #[]).1; rw [Go.Sort.grow_empty, World.drewN_zero] at h; exact h
  have r1 : World.frozen? W1a ⟨g, 1, none⟩ = false := by have h := (ins_cell H1a.out HH.out hg rfl 0 1 (by simp) (by decide) _ X0.out 0 #[]).2; rw [Go.Sort.grow_empty, World.drewN_zero] at h; exact h
  have q2 : World.cell? W1a ⟨g, 2, none⟩ = some (.int .i64 t0) := by have h := (ins_cell H1a.out HH.out hg rfl 0 2 (by simp) (by decide) _ X0.out 0 #[]).1; rw [Go.Sort.grow_empty, World.drewN_zero] at h; exact h
  have r2 : World.frozen? W1a ⟨g, 2, none⟩ = false := by have h := (ins_cell H1a.out HH.out hg rfl 0 2 (by simp) (by decide) _ X0.out 0 #[]).2; rw [Go.Sort.grow_empty, World.drewN_zero] at h; exact h
  have q3 : World.cell? W1a ⟨g, 3, none⟩ = some (.int .i64 p1) := by have h := (ins_cell H1a.out HH.out hg rfl 1 0 (by simp) (by decide) _ X1.out 0 #[]).1; rw [Go.Sort.grow_empty, World.drewN_zero] at h; exact h
  have r3 : World.frozen? W1a ⟨g, 3, none⟩ = false := by have h := (ins_cell H1a.out HH.out hg rfl 1 0 (by simp) (by decide) _ X1.out 0 #[]).2; rw [Go.Sort.grow_empty, World.drewN_zero] at h; exact h
  have q4 : World.cell? W1a ⟨g, 4, none⟩ = some (.slice A1 n1 m1) := by have h := (ins_cell H1a.out HH.out hg rfl 1 1 (by simp) (by decide) _ X1.out 0 #[]).1; rw [Go.Sort.grow_empty, World.drewN_zero] at h; exact h
  have r4 : World.frozen? W1a ⟨g, 4, none⟩ = false := by have h := (ins_cell H1a.out HH.out hg rfl 1 1 (by simp) (by decide) _ X1.out 0 #[]).2; rw [Go.Sort.grow_empty, World.drewN_zero] at h; exact h
  have q5 : World.cell? W1a ⟨g, 5, none⟩ = some (.int .i64 t1) := by have h := (ins_cell H1a.out HH.out hg rfl 1 2 (by simp) (by decide) _ X1.out 0 #[]).1; rw [Go.Sort.grow_empty, World.drewN_zero] at h; exact h
  have r5 : World.frozen? W1a ⟨g, 5, none⟩ = false := by have h := (ins_cell H1a.out HH.out hg rfl 1 2 (by simp) (by decide) _ X1.out 0 #[]).2; rw [Go.Sort.grow_empty, World.drewN_zero] at h; exact h
  go_big_region_o
  have H1b := Aside0.mk (show SWK El.enc 3 W0 g 0 #[e1, e0, e2] (World.drew ((((((World.setCell W1a ⟨g, 3, none⟩ (.int .i64 p0)).setCell ⟨g, 4, none⟩ (.slice A0 n0 m0)).setCell ⟨g, 5, none⟩ (.int .i64 t0)).setCell ⟨g, 0, none⟩ (.int .i64 p1)).setCell ⟨g, 1, none⟩ (.slice A1 n1 m1)).setCell ⟨g, 2, none⟩ (.int .i64 t1))) from ins_swap H1a.out HH.out hg rfl 1 0 3 0 (by simp) (by simp) (swp3_10 _ _ _) _ _ _ _ _ _ X0.out X1.out rfl rfl)
  clear H1a q0 r0 q1 r1 q2 r2 q3 r3 q4 r4 q5 r5
  generalize (World.drew ((((((World.setCell W1a ⟨g, 3, none⟩ (.int .i64 p0)).setCell ⟨g, 4, none⟩ (.slice A0 n0 m0)).setCell ⟨g, 5, none⟩ (.int .i64 t0)).setCell ⟨g, 0, none⟩ (.int .i64 p1)).setCell ⟨g, 1, none⟩ (.slice A1 n1 m1)).setCell ⟨g, 2, none⟩ (.int .i64 t1))) = W1b at H1b ⊢
  go_wp2_with fail
  rw [rounds_succ]
  go_wp2_with fail
  go_big_region_o
  have HZ := Aside0.mk (H1b.out.drew)
  clear H1b
  generalize World.drew W1b = WZ at HZ ⊢
  go_wp2_with fail
  rw [rounds_succ]
  go_wp2
  refine wp_loop_rounds 3 ?_
  rw [rounds_succ]
  have q0 : ∀ n os, (Go.Sort.grow (World.drewN WZ n) os).cell? ⟨g, 3, none⟩ = some (.int .i64 p0) := fun n os => (ins_cell HZ.out HH.out hg rfl 1 0 (by simp) (by decide) _ X0.out n os).1
  have q1 : ∀ n os, (Go.Sort.grow (World.drewN WZ n) os).cell? ⟨g, 4, none⟩ = some (.slice A0 n0 m0) := fun n os => (ins_cell HZ.out HH.out hg rfl 1 1 (by simp) (by decide) _ X0.out n os).1
  have q2 : ∀ n os, (Go.Sort.grow (World.drewN WZ n) os).cell? ⟨g, 5, none⟩ = some (.int .i64 t0) := fun n os => (ins_cell HZ.out HH.out hg rfl 1 2 (by simp) (by decide) _ X0.out n os).1
  have q3 : ∀ n os, (Go.Sort.grow (World.drewN WZ n) os).cell? ⟨g, 6, none⟩ = some (.int .i64 p2) := fun n os => (ins_cell HZ.out HH.out hg rfl 2 0 (by simp) (by decide) _ X2.out n os).1
  have q4 : ∀ n os, (Go.Sort.grow (World.drewN WZ n) os).cell? ⟨g, 7, none⟩ = some (.slice A2 n2 m2) := fun n os => (ins_cell HZ.out HH.out hg rfl 2 1 (by simp) (by decide) _ X2.out n os).1
  have q5 : ∀ n os, (Go.Sort.grow (World.drewN WZ n) os).cell? ⟨g, 8, none⟩ = some (.int .i64 t2) := fun n os => (ins_cell HZ.out HH.out hg rfl 2 2 (by simp) (by decide) _ X2.out n os).1
  have cc := fun n os => ins_cmp HZ.out e2 e0 _ _ X2.out X0.out n os
  go_wp2_with fail
  go_quiet_grown (first | (go_at_call 92; refine Calls.grown_of (cc _ _)))
  have H2a := Aside0.mk (HZ.out.grown nq osq)
  clear cc q0 q1 q2 q3 q4 q5 HZ
  generalize Go.Sort.grow (World.drewN WZ nq) osq = W2a at H2a ⊢
  go_wp2_with fail
  have q0 : World.cell? W2a ⟨g, 3, none⟩ = some (.int .i64 p0) := by have h := (ins_cell H2a.out HH.out hg rfl 1 0 (by simp) (by decide) _ X0.out 0 #[]).1; rw [Go.Sort.grow_empty, World.drewN_zero] at h; exact h
  have r0 : World.frozen? W2a ⟨g, 3, none⟩ = false := by have h := (ins_cell H2a.out HH.out hg rfl 1 0 (by simp) (by decide) _ X0.out 0 #[]).2; rw [Go.Sort.grow_empty, World.drewN_zero] at h; exact h
  have q1 : World.cell? W2a ⟨g, 4, none⟩ = some (.slice A0 n0 m0) := by have h := (ins_cell H2a.out HH.out hg rfl 1 1 (by simp) (by decide) _ X0.out 0 #[]).1; rw [Go.Sort.grow_empty, World.drewN_zero] at h; exact h
  have r1 : World.frozen? W2a ⟨g, 4, none⟩ = false := by have h := (ins_cell H2a.out HH.out hg rfl 1 1 (by simp) (by decide) _ X0.out 0 #[]).2; rw [Go.Sort.grow_empty, World.drewN_zero] at h; exact h
  have q2 : World.cell? W2a ⟨g, 5, none⟩ = some (.int .i64 t0) := by have h := (ins_cell H2a.out HH.out hg rfl 1 2 (by simp) (by decide) _ X0.out 0 #[]).1; rw [Go.Sort.grow_empty, World.drewN_zero] at h; exact h
  have r2 : World.frozen? W2a ⟨g, 5, none⟩ = false := by have h := (ins_cell H2a.out HH.out hg rfl 1 2 (by simp) (by decide) _ X0.out 0 #[]).2; rw [Go.Sort.grow_empty, World.drewN_zero] at h; exact h
  have q3 : World.cell? W2a ⟨g, 6, none⟩ = some (.int .i64 p2) := by have h := (ins_cell H2a.out HH.out hg rfl 2 0 (by simp) (by decide) _ X2.out 0 #[]).1; rw [Go.Sort.grow_empty, World.drewN_zero] at h; exact h
  have r3 : World.frozen? W2a ⟨g, 6, none⟩ = false := by have h := (ins_cell H2a.out HH.out hg rfl 2 0 (by simp) (by decide) _ X2.out 0 #[]).2; rw [Go.Sort.grow_empty, World.drewN_zero] at h; exact h
  have q4 : World.cell? W2a ⟨g, 7, none⟩ = some (.slice A2 n2 m2) := by have h := (ins_cell H2a.out HH.out hg rfl 2 1 (by simp) (by decide) _ X2.out 0 #[]).1; rw [Go.Sort.grow_empty, World.drewN_zero] at h; exact h
  have r4 : World.frozen? W2a ⟨g, 7, none⟩ = false := by have h := (ins_cell H2a.out HH.out hg rfl 2 1 (by simp) (by decide) _ X2.out 0 #[]).2; rw [Go.Sort.grow_empty, World.drewN_zero] at h; exact h
  have q5 : World.cell? W2a ⟨g, 8, none⟩ = some (.int .i64 t2) := by have h := (ins_cell H2a.out HH.out hg rfl 2 2 (by simp) (by decide) _ X2.out 0 #[]).1; rw [Go.Sort.grow_empty, World.drewN_zero] at h; exact h
  have r5 : World.frozen? W2a ⟨g, 8, none⟩ = false := by have h := (ins_cell H2a.out HH.out hg rfl 2 2 (by simp) (by decide) _ X2.out 0 #[]).2; rw [Go.Sort.grow_empty, World.drewN_zero] at h; exact h
  go_big_region_o
  have H2b := Aside0.mk (show SWK El.enc 3 W0 g 0 #[e1, e2, e0] (World.drew ((((((World.setCell W2a ⟨g, 6, none⟩ (.int .i64 p0)).setCell ⟨g, 7, none⟩ (.slice A0 n0 m0)).setCell ⟨g, 8, none⟩ (.int .i64 t0)).setCell ⟨g, 3, none⟩ (.int .i64 p2)).setCell ⟨g, 4, none⟩ (.slice A2 n2 m2)).setCell ⟨g, 5, none⟩ (.int .i64 t2))) from ins_swap H2a.out HH.out hg rfl 2 1 6 3 (by simp) (by simp) (swp3_21 _ _ _) _ _ _ _ _ _ X0.out X2.out rfl rfl)
  clear H2a q0 r0 q1 r1 q2 r2 q3 r3 q4 r4 q5 r5
  generalize (World.drew ((((((World.setCell W2a ⟨g, 6, none⟩ (.int .i64 p0)).setCell ⟨g, 7, none⟩ (.slice A0 n0 m0)).setCell ⟨g, 8, none⟩ (.int .i64 t0)).setCell ⟨g, 3, none⟩ (.int .i64 p2)).setCell ⟨g, 4, none⟩ (.slice A2 n2 m2)).setCell ⟨g, 5, none⟩ (.int .i64 t2))) = W2b at H2b ⊢
  go_wp2_with fail
  rw [rounds_succ]
  have q0 : ∀ n os, (Go.Sort.grow (World.drewN W2b n) os).cell? ⟨g, 0, none⟩ = some (.int .i64 p1) := fun n os => (ins_cell H2b.out HH.out hg rfl 0 0 (by simp) (by decide) _ X1.out n os).1
  have q1 : ∀ n os, (Go.Sort.grow (World.drewN W2b n) os).cell? ⟨g, 1, none⟩ = some (.slice A1 n1 m1) := fun n os => (ins_cell H2b.out HH.out hg rfl 0 1 (by simp) (by decide) _ X1.out n os).1
  have q2 : ∀ n os, (Go.Sort.grow (World.drewN W2b n) os).cell? ⟨g, 2, none⟩ = some (.int .i64 t1) := fun n os => (ins_cell H2b.out HH.out hg rfl 0 2 (by simp) (by decide) _ X1.out n os).1
  have q3 : ∀ n os, (Go.Sort.grow (World.drewN W2b n) os).cell? ⟨g, 3, none⟩ = some (.int .i64 p2) := fun n os => (ins_cell H2b.out HH.out hg rfl 1 0 (by simp) (by decide) _ X2.out n os).1
  have q4 : ∀ n os, (Go.Sort.grow (World.drewN W2b n) os).cell? ⟨g, 4, none⟩ = some (.slice A2 n2 m2) := fun n os => (ins_cell H2b.out HH.out hg rfl 1 1 (by simp) (by decide) _ X2.out n os).1
  have q5 : ∀ n os, (Go.Sort.grow (World.drewN W2b n) os).cell? ⟨g, 5, none⟩ = some (.int .i64 t2) := fun n os => (ins_cell H2b.out HH.out hg rfl 1 2 (by simp) (by decide) _ X2.out n os).1
  have cc := fun n os => ins_cmp H2b.out e2 e1 _ _ X2.out X1.out n os
  go_wp2_with fail
  go_quiet_grown (first | (go_at_call 92; refine Calls.grown_of (cc _ _)))
  have H3a := Aside0.mk (H2b.out.grown nq osq)
  clear cc q0 q1 q2 q3 q4 q5 H2b
  generalize Go.Sort.grow (World.drewN W2b nq) osq = W3a at H3a ⊢
  go_wp2_with fail
  have q0 : World.cell? W3a ⟨g, 0, none⟩ = some (.int .i64 p1) := by have h := (ins_cell H3a.out HH.out hg rfl 0 0 (by simp) (by decide) _ X1.out 0 #[]).1; rw [Go.Sort.grow_empty, World.drewN_zero] at h; exact h
  have r0 : World.frozen? W3a ⟨g, 0, none⟩ = false := by have h := (ins_cell H3a.out HH.out hg rfl 0 0 (by simp) (by decide) _ X1.out 0 #[]).2; rw [Go.Sort.grow_empty, World.drewN_zero] at h; exact h
  have q1 : World.cell? W3a ⟨g, 1, none⟩ = some (.slice A1 n1 m1) := by have h := (ins_cell H3a.out HH.out hg rfl 0 1 (by simp) (by decide) _ X1.out 0 #[]).1; rw [Go.Sort.grow_empty, World.drewN_zero] at h; exact h
  have r1 : World.frozen? W3a ⟨g, 1, none⟩ = false := by have h := (ins_cell H3a.out HH.out hg rfl 0 1 (by simp) (by decide) _ X1.out 0 #[]).2; rw [Go.Sort.grow_empty, World.drewN_zero] at h; exact h
  have q2 : World.cell? W3a ⟨g, 2, none⟩ = some (.int .i64 t1) := by have h := (ins_cell H3a.out HH.out hg rfl 0 2 (by simp) (by decide) _ X1.out 0 #[]).1; rw [Go.Sort.grow_empty, World.drewN_zero] at h; exact h
  have r2 : World.frozen? W3a ⟨g, 2, none⟩ = false := by have h := (ins_cell H3a.out HH.out hg rfl 0 2 (by simp) (by decide) _ X1.out 0 #[]).2; rw [Go.Sort.grow_empty, World.drewN_zero] at h; exact h
  have q3 : World.cell? W3a ⟨g, 3, none⟩ = some (.int .i64 p2) := by have h := (ins_cell H3a.out HH.out hg rfl 1 0 (by simp) (by decide) _ X2.out 0 #[]).1; rw [Go.Sort.grow_empty, World.drewN_zero] at h; exact h
  have r3 : World.frozen? W3a ⟨g, 3, none⟩ = false := by have h := (ins_cell H3a.out HH.out hg rfl 1 0 (by simp) (by decide) _ X2.out 0 #[]).2; rw [Go.Sort.grow_empty, World.drewN_zero] at h; exact h
  have q4 : World.cell? W3a ⟨g, 4, none⟩ = some (.slice A2 n2 m2) := by have h := (ins_cell H3a.out HH.out hg rfl 1 1 (by simp) (by decide) _ X2.out 0 #[]).1; rw [Go.Sort.grow_empty, World.drewN_zero] at h; exact h
  have r4 : World.frozen? W3a ⟨g, 4, none⟩ = false := by have h := (ins_cell H3a.out HH.out hg rfl 1 1 (by simp) (by decide) _ X2.out 0 #[]).2; rw [Go.Sort.grow_empty, World.drewN_zero] at h; exact h
  have q5 : World.cell? W3a ⟨g, 5, none⟩ = some (.int .i64 t2) := by have h := (ins_cell H3a.out HH.out hg rfl 1 2 (by simp) (by decide) _ X2.out 0 #[]).1; rw [Go.Sort.grow_empty, World.drewN_zero] at h; exact h
  have r5 : World.frozen? W3a ⟨g, 5, none⟩ = false := by have h := (ins_cell H3a.out HH.out hg rfl 1 2 (by simp) (by decide) _ X2.out 0 #[]).2; rw [Go.Sort.grow_empty, World.drewN_zero] at h; exact h
  go_big_region_o
  have H3b := Aside0.mk (show SWK El.enc 3 W0 g 0 #[e2, e1, e0] (World.drew ((((((World.setCell W3a ⟨g, 3, none⟩ (.int .i64 p1)).setCell ⟨g, 4, none⟩ (.slice A1 n1 m1)).setCell ⟨g, 5, none⟩ (.int .i64 t1)).setCell ⟨g, 0, none⟩ (.int .i64 p2)).setCell ⟨g, 1, none⟩ (.slice A2 n2 m2)).setCell ⟨g, 2, none⟩ (.int .i64 t2))) from ins_swap H3a.out HH.out hg rfl 1 0 3 0 (by simp) (by simp) (swp3_10 _ _ _) _ _ _ _ _ _ X1.out X2.out rfl rfl)
  clear H3a q0 r0 q1 r1 q2 r2 q3 r3 q4 r4 q5 r5
  generalize (World.drew ((((((World.setCell W3a ⟨g, 3, none⟩ (.int .i64 p1)).setCell ⟨g, 4, none⟩ (.slice A1 n1 m1)).setCell ⟨g, 5, none⟩ (.int .i64 t1)).setCell ⟨g, 0, none⟩ (.int .i64 p2)).setCell ⟨g, 1, none⟩ (.slice A2 n2 m2)).setCell ⟨g, 2, none⟩ (.int .i64 t2))) = W3b at H3b ⊢
  go_wp2_with fail
  rw [rounds_succ]
  go_wp2_with fail
  go_big_region_o
  have HZ := Aside0.mk (H3b.out.drew)
  clear H3b
  generalize World.drew W3b = WY at HZ ⊢
  go_wp2_with fail
  rw [rounds_succ]
  go_wp2
  go_end0
  exact ⟨rfl, HZ.out⟩
set_option maxHeartbeats 4000000 in
set_option maxRecDepth 100000 in
theorem pdq3 (W0 : World) (g cap : Nat) (lim : Int) (fv : Value) (R : World → Prop)
    (hi : Calls Tryd.prog 51 #[.slice (some ⟨g, 0, none⟩) 3 cap, .int .i64 0, .int .i64 3, fv] W0 fun e w' => e = .returned (.tuple #[]) ∧ R w') :
    Calls Tryd.prog 47 #[.slice (some ⟨g, 0, none⟩) 3 cap, .int .i64 0, .int .i64 3, .int .i64 lim, fv] W0 fun e w' => e = .returned (.tuple #[]) ∧ R w' := by
  have HI := Aside0.mk hi
  clear hi
  go_enter Tryd.func47, Tryd.ntmps47
  go_wp2
  refine wp_loop_rounds 1 ?_
  rw [rounds_succ]
  go_wp2_with (go_at_call 51; refine (HI.out).mono ?_; rintro e w' ⟨rfl, hR⟩; have HR_ := Aside0.mk hR; clear hR)
  (try simp only [Exit.inBlock, Exit.then]); refine bodyPost_ret (results_none rfl _ _ _) rfl ?_
  exact ⟨rfl, HR_.out⟩
set_option maxHeartbeats 4000000 in
set_option maxRecDepth 100000 in
theorem sort3 (W0 : World) (g cap : Nat) (fv : Value) (R : World → Prop)
    (hi : Calls Tryd.prog 51 #[.slice (some ⟨g, 0, none⟩) 3 cap, .int .i64 0, .int .i64 3, fv] W0 fun e w' => e = .returned (.tuple #[]) ∧ R w') :
    Calls Tryd.prog 40 #[.slice (some ⟨g, 0, none⟩) 3 cap, fv] W0 fun e w' => e = .returned (.tuple #[]) ∧ R w' := by
  have hp := fun lim => pdq3 W0 g cap lim fv R hi
  have HP := Aside0.mk hp
  have hl := fun W => Any.bits_Len (SlLaysF0.n15.bits (P := Tryd.prog) (ρ := Tryd.sortReading_ren) { Tryd.sort_lays with }) 3 W (by omega) (by omega)
  have HL := Aside0.mk hl
  clear hi hp hl
  go_enter Tryd.func40, Tryd.ntmps40
  go_wp2_with (first | (go_at_call 48; refine (HL.out _).mono ?_; rintro e w' ⟨rfl, rfl⟩) | (go_at_call 47; refine (HP.out _).mono ?_; rintro e w' ⟨rfl, hR⟩; have HR_ := Aside0.mk hR; clear hR))
  go_end0
  exact ⟨rfl, HR_.out⟩
/-- Three readings that stand the wrong way about, sorted. -/
theorem sort_three (W : World) (base : Nat) (ok : Nat → Prop) (g cap : Nat) (x0 x1 x2 : S36) (hN : Kd.N k36 47 W base ok (.slice (some ⟨g, 0, none⟩) 3 cap) [x0, x1, x2]) (hg : g < W.heap.size) (hb : base ≤ g) (hF : ∀ x ∈ [x0, x1, x2], x.f0.f1.length ≤ 1000000)
    (h1 : cmpR x1 x0 < 0) (h2 : cmpR x2 x0 < 0) (h3 : cmpR x2 x1 < 0) :
    Calls Tryd.prog 40 #[.slice (some ⟨g, 0, none⟩) 3 cap, .func (.methodOf 47 "interlocutor/rank.against") #[] #[]] W fun e w' => e = .returned (.tuple #[]) ∧ Kd.F k36 w' ok (some ⟨g, 0, none⟩) 3 [x2, x1, x0] ∧ Below base W w' := by
  have hok : ok g := hN.1 g (by simp [Value.ownBlock])
  obtain ⟨d, hd, hH⟩ := srt_hold W base ok g cap [x0, x1, x2] hN hF
  obtain ⟨l⟩ := d
  match l, hd with
  | [e0, e1, e2], hd =>
    simp only [List.map_cons, List.map_nil, List.cons.injEq, and_true] at hd
    obtain ⟨rfl, rfl, rfl⟩ := hd
    obtain ⟨A0, c0, x0, _, _⟩ := k36_open (Kd.FK_now e0.2.1)
    obtain ⟨A1, c1, x1, _, _⟩ := k36_open (Kd.FK_now e1.2.1)
    obtain ⟨A2, c2, x2, _, _⟩ := k36_open (Kd.FK_now e2.2.1)
    refine (sort3 W g cap _ (fun w' => Kd.F k36 w' ok (some ⟨g, 0, none⟩) 3 [e2.1.1, e1.1.1, e0.1.1] ∧ Below base W w') ?_).mono (fun e w' h => h)
    refine (ins3 W g cap ok e0 e1 e2 hH hg h1 h2 h3 _ _ _ _ _ _ _ _ _ _ _ _ _ _ _ x0 x1 x2).mono ?_
    rintro e w' ⟨rfl, hs⟩
    exact ⟨rfl, srt_after W base ok g hok hg hb #[e0, e1, e2] #[e2, e1, e0] hH rfl (by simp) w' hs⟩
set_option maxHeartbeats 1000000 in
/-- slices.Clone at readings: a new row, of what is only read. -/
theorem clone_reading (A0 : Option Addr) (c0 : Nat) (l0 : List S36) (w : World) (P : Nat → Prop) (hr0 : Kd.F k36 w P A0 l0.length l0) (hlim : l0.length ≤ 1000000) :
    Calls Tryd.prog 39 #[.slice A0 l0.length c0] w fun e w' => ∃ v0_ : Value, e = .returned (v0_) ∧ Kd.N k36 47 w' w.heap.size (fun k_ => P k_ ∨ w.heap.size ≤ k_) v0_ l0 ∧ Below w.heap.size w w' := by
  have HB := Aside0.mk (Below.refl w.heap.size w)
  have LM := Aside0.mk hlim
  have HR := Aside0.mk hr0
  clear hlim hr0
  have hq := fun W => Lib.run_eql_slice_nil (P := Tryd.prog) W 46 47 A0 l0.length c0 0 0 Tryd.underlying46
  cases A0 with
  | none =>
    obtain rfl : l0 = [] := by
      rcases Nat.eq_zero_or_pos l0.length with h0 | h0
      · exact List.eq_nil_of_length_eq_zero h0
      · obtain ⟨ad, he, _⟩ := (Kd.F_now HR.out).2.2 h0
        cases he
    simp only [List.length_nil] at hq ⊢
    go_enter Tryd.func39, Tryd.ntmps39
    go_wp2
    go_ret
    exact ⟨_, rfl, Kd.N_nil _ _ _ _ _, HB.out⟩
  | some ad =>
    go_enter Tryd.func39, Tryd.ntmps39
    go_wp2_with (first
      | ((with_reducible refine gate_dst (N := 5) rfl ?_); refine Kd.N_lit k36 (w0 := w) w.heap.size 47 ?hg (N' := 5) ?hd (xs := ([] : List S36)) (inner := []) (ok := fun k_ => P k_ ∨ w.heap.size ≤ k_) (okp := fun _ => False) ?hr ?hp (fun _ hk => hk.elim) (Or.inr (Nat.le_refl _)) (Below.refl _ _) (Nat.le_refl _) (by simp) ?_; (case hd => rfl); (case hg => rfl); (case hr => first | (go_simp; done) | (go_simp; rfl)); (case hp => exact Reps.none _ _); intro v5 w5 ho5 hb5 hg5 hn5; have HN5 := Aside0.mk hn5; have HO5 := Aside0.mk ho5; clear HB; have HB := Aside0.mk hb5; clear ho5 hb5 hg5 hn5)
      | ((with_reducible refine gate_builtin (b := .append) (xs := #[.tmp 5, .tmp 6]) rfl ?_); at_builtin; refine Kd.N_append_rows k36 (w0 := w) w.heap.size rfl (.tmp 5) (.tmp 6) 46 47 (.agg #[(.int .i64 0), (.slice none 0 0), (.int .i64 0)]) 40 rfl Tryd.underlying46 info47 rfl (by decide) (by decide) v5 ([] : List S36) l0 (some ad) l0.length c0 (fun k_ => P k_ ∨ w.heap.size ≤ k_) (fun k_ => P k_ ∧ k_ < w.heap.size) rfl rfl HO5.out ?aR ?aP (fun k_ hk => Or.inr (Nat.le_trans HB.out.size hk)) HB.out (below_size HB.out) ?aL ?_; (case aR => exact Kd.F_below (Kd.F_bound HR.out) HB.out); (case aP => intro k_ hk; refine ⟨Or.inl hk.1, fun he => ?_⟩; obtain ⟨b, hb1, hb2⟩ := HN5.out; rw [hb1] at he; injection he with he; have := hk.2; omega); (case aL => have := LM.out; simp only [List.length_nil]; omega); intro v7 w7 ho hb hg hat; have HO7 := Aside0.mk ho; clear HB; have HB := Aside0.mk hb; clear ho hb hg hat))
    go_ret
    exact ⟨_, rfl, by rw [List.nil_append] at HO7; exact HO7.out, HB.out⟩
set_option maxHeartbeats 1000000 in
/-- Three readings that stand the wrong way about: a new row, in order. -/
theorem sorted_three (A0 : Option Addr) (c0 : Nat) (x0 x1 x2 : S36) (w : World) (P : Nat → Prop) (hr0 : Kd.F k36 w P A0 3 [x0, x1, x2]) (hF : ∀ x ∈ [x0, x1, x2], x.f0.f1.length ≤ 1000000) (h1 : cmpR x1 x0 < 0) (h2 : cmpR x2 x0 < 0) (h3 : cmpR x2 x1 < 0) :
    Calls Tryd.prog 26 #[.slice A0 3 c0] w fun e w' => ∃ (A : Option Addr) (c : Nat), e = .returned (.slice A 3 c) ∧ Kd.F k36 w' (fun k_ => P k_ ∨ w.heap.size ≤ k_) A 3 [x2, x1, x0] ∧ Below w.heap.size w w' := by
  have HF := Aside0.mk hF
  have HR := Aside0.mk hr0
  have H1 := Aside0.mk h1
  have H2 := Aside0.mk h2
  have H3 := Aside0.mk h3
  clear hr0 hF h1 h2 h3
  go_enter Tryd.func26, Tryd.ntmps26
  go_wp2_with (first
    | (go_at_call 39; (refine (clone_reading A0 c0 [x0, x1, x2] w P HR.out (by simp)).mono ?_); rintro e w5 ⟨v5, rfl, ho, hb⟩; obtain ⟨g, cap, hv, hbg, hgl, _⟩ := Kd.N_form ho (by simp); subst hv; have HO5 := Aside0.mk ho; have HB5 := Aside0.mk hb; have HG5 := Aside0.mk (And.intro hbg hgl); clear ho hb hbg hgl)
    | (go_at_call 40; (refine (sort_three _ w.heap.size _ g cap x0 x1 x2 HO5.out HG5.out.2 HG5.out.1 HF.out H1.out H2.out H3.out).mono ?_); rintro e w6 ⟨rfl, hf, hb⟩; have HO6 := Aside0.mk hf; have HB6 := Aside0.mk (Below.trans HB5.out hb); clear hf hb))
  go_ret
  exact ⟨_, _, rfl, HO6.out, HB6.out⟩
set_option maxHeartbeats 1000000 in
/-- No reading: none. -/
theorem sorted_none (A0 : Option Addr) (c0 : Nat) (w : World) :
    Calls Tryd.prog 26 #[.slice A0 0 c0] w fun e w' => ∃ (A : Option Addr) (c : Nat), e = .returned (.slice A 0 c) ∧ Below w.heap.size w w' := by
  have hf : Kd.F k36 w (fun _ => True) A0 ([] : List S36).length [] := fun W' _ => ⟨rfl, by decide, fun h => absurd h (Nat.lt_irrefl 0)⟩
  have HR := Aside0.mk hf
  clear hf
  have hn := fun p cap fv W => AnyF.slices_SortFunc_none (P := Tryd.prog) (ρ := Tryd.sortReading_ren) { Tryd.sort_lays with } p cap fv W
  have HN := Aside0.mk hn
  clear hn
  go_enter Tryd.func26, Tryd.ntmps26
  go_wp2_with (first
    | (go_at_call 39; (refine (clone_reading A0 c0 [] w (fun _ => True) HR.out (by simp)).mono ?_); rintro e w5 ⟨v5, rfl, ho, hb⟩; obtain ⟨A5, c5, hv⟩ := Kd.N_slice ho; subst hv; have HB5 := Aside0.mk hb; clear ho hb)
    | (go_at_call 40; (refine (HN.out A5 c5 _ _).mono ?_); rintro e w6 ⟨rfl, rfl⟩))
  go_ret
  exact ⟨_, _, rfl, HB5.out⟩
theorem perm_whole {α : Type} [Inhabited α] {d d' : Array α} (h : Go.Sort.PermIn 0 d.size d d') : d'.toList.Perm d.toList := by
  obtain ⟨h1, _, h3⟩ := h
  have e1 : d'.extract 0 d.size = d' := by rw [← h1]; exact Array.extract_size
  rw [e1, Array.extract_size] at h3
  exact h3
/-- Readings, sorted. -/
theorem sort_any (W : World) (base : Nat) (ok : Nat → Prop) (g cap : Nat) (xs : List S36) (hN : Kd.N k36 47 W base ok (.slice (some ⟨g, 0, none⟩) xs.length cap) xs) (hg : g < W.heap.size) (hb : base ≤ g) (hok : ok g) (hF : ∀ x ∈ xs, x.f0.f1.length ≤ 1000000) (h50 : xs.length ≤ 1000000) :
    Calls Tryd.prog 40 #[.slice (some ⟨g, 0, none⟩) xs.length cap, .func (.methodOf 47 "interlocutor/rank.against") #[] #[]] W fun e w' => e = .returned (.tuple #[]) ∧ ∃ ys : List S36, ys.Perm xs ∧ ys.Pairwise (fun a b => YtlgndfplikhflaaDoorW.Rk.rle cmpV rvalOf rcostOf a b) ∧ Kd.F k36 w' ok (some ⟨g, 0, none⟩) ys.length ys ∧ Below base W w' := by
  obtain ⟨d, hd, hH⟩ := srt_hold W base ok g cap xs hN hF
  have hs : d.size = xs.length := by rw [← hd]; simp
  have h := sortAll W g cap ok d hH hg (by omega)
  rw [hs] at h
  refine h.mono ?_
  rintro e w' ⟨rfl, d', hp, hq, hw⟩
  refine ⟨rfl, d'.toList.map (fun p => p.1.1), ?_, ?_, ?_⟩
  · rw [← hs] at hp
    rw [← hd]
    exact (perm_whole hp).map _
  · rw [List.pairwise_map, List.pairwise_iff_getElem]
    intro i j hi hj hij
    have hsz : d'.size = xs.length := hp.1.trans hs
    have hi' : i < d'.size := by simpa using hi
    have hj' : j < d'.size := by simpa using hj
    have h := hq i j (Nat.zero_le _) hij (by omega)
    rw [El.lt, getElem!_pos d' i hi', getElem!_pos d' j hj'] at h
    have h2 : ¬ YtlgndfplikhflaaDoorW.Rk.rlt cmpV rvalOf rcostOf d'[j].1.1 d'[i].1.1 := fun q => of_decide_eq_false h ((cmpR_rlt _ _).2 q)
    rcases YtlgndfplikhflaaDoorW.Rk.rle_total (v := rvalOf) (k := rcostOf) cmpV_tot d'[i].1.1 d'[j].1.1 with q | q
    · simpa using q
    · have q2 := q
      unfold YtlgndfplikhflaaDoorW.Rk.rle at q2 ⊢
      unfold YtlgndfplikhflaaDoorW.Rk.rlt at h2
      have n := cmpV_tot.neg (rvalOf d'[i].1.1) (rvalOf d'[j].1.1)
      simp only [Array.getElem_toList]
      omega
  · have hsz : d'.size = d.size := hp.1.trans (by rw [hs])
    exact srt_after W base ok g hok hg hb d d' hH hsz (by omega) w' hw
set_option maxHeartbeats 1000000 in
/-- rank.sorted, of any readings. -/
theorem sorted_any (A0 : Option Addr) (c0 : Nat) (xs : List S36) (w : World) (P : Nat → Prop) (hr0 : Kd.F k36 w P A0 xs.length xs) (hF : ∀ x ∈ xs, x.f0.f1.length ≤ 1000000) (h50 : xs.length ≤ 1000000) :
    Calls Tryd.prog 26 #[.slice A0 xs.length c0] w fun e w' => ∃ (A : Option Addr) (c : Nat) (ys : List S36), e = .returned (.slice A ys.length c) ∧ Kd.F k36 w' (fun k_ => P k_ ∨ w.heap.size ≤ k_) A ys.length ys ∧ Below w.heap.size w w' ∧ ys.Perm xs ∧ ys.Pairwise (fun a b => YtlgndfplikhflaaDoorW.Rk.rle cmpV rvalOf rcostOf a b) := by
  by_cases h0 : xs = []
  · subst h0
    exact (sorted_none A0 c0 w).mono fun e w' ⟨A', c', he, hb⟩ => ⟨A', c', [], he, fun W' _ => ⟨rfl, by decide, fun h => absurd h (Nat.lt_irrefl 0)⟩, hb, List.Perm.refl _, List.Pairwise.nil⟩
  have HF := Aside0.mk hF
  have HR := Aside0.mk hr0
  have H5 := Aside0.mk h50
  have HL := Aside0.mk (show 0 < xs.length from List.length_pos_iff.2 h0)
  clear hr0 hF h0 h50
  go_enter Tryd.func26, Tryd.ntmps26
  go_wp2_with (first
    | (go_at_call 39; (refine (clone_reading A0 c0 xs w P HR.out (by have := H5.out; omega)).mono ?_); rintro e w5 ⟨v5, rfl, ho, hb⟩; obtain ⟨g, cap, hv, hbg, hgl, _⟩ := Kd.N_form ho HL.out; subst hv; have HO5 := Aside0.mk ho; have HB5 := Aside0.mk hb; have HG5 := Aside0.mk (And.intro hbg hgl); clear ho hb hbg hgl)
    | (go_at_call 40; (refine (sort_any _ w.heap.size _ g cap xs HO5.out HG5.out.2 HG5.out.1 (Or.inr HG5.out.1) HF.out H5.out).mono ?_); rintro e w6 ⟨rfl, ys, hpm, hso, hf, hb⟩; have HO6 := Aside0.mk hf; have HPM := Aside0.mk hpm; have HSO := Aside0.mk hso; have HB6 := Aside0.mk (Below.trans HB5.out hb); clear hf hb hpm hso))
  go_ret
  exact ⟨some ⟨g, 0, none⟩, cap, ys, by (rw [HPM.out.length_eq]) <;> rfl, HO6.out, HB6.out, HPM.out, HSO.out⟩

/-! ### slices_Clone_int_int: function 28 -/
def slices_Clone_int_int.f (l0 : List Int) : Option (List Int) := if l0.length < 17592186044416 then some l0 else none
theorem slices_Clone_ok (l : List Int) (h : l.length < 17592186044416) : slices_Clone_int_int.f l = some l := by unfold slices_Clone_int_int.f; rw [if_pos h]
set_option maxHeartbeats 1000000 in
theorem slices_Clone_int_int.calls (A0 : Option Addr) (c0 : Nat) (l0 : List Int) (r : List Int) (w : World) (hr0 : Kd.C (Kd.int .i64) w A0 l0.length l0) (hc0 : l0.length ≤ c0) (h : slices_Clone_int_int.f l0 = some r) :
    Calls Tryd.prog 28 #[.slice A0 l0.length c0] w fun e w' => ∃ v0_ : Value, e = .returned (v0_) ∧ Kd.R (Kd.int .i64) 3 w' w.heap.size (fun _ => True) v0_ r ∧ Below w.heap.size w w' := by
  unfold slices_Clone_int_int.f at h
  by_cases hlim : ¬ l0.length < 17592186044416
  · rw [if_neg hlim] at h
    exact absurd h (by simp)
  replace hlim := Decidable.not_not.1 hlim
  rw [if_pos hlim] at h
  obtain rfl := Option.some.inj h
  clear h
  have HB := Aside0.mk (Below.refl w.heap.size w)
  have LM := Aside0.mk hlim
  have HR := Aside0.mk hr0
  have HC := Aside0.mk hc0
  clear hlim hr0 hc0
  have hq := fun W => Lib.run_eql_slice_nil (P := Tryd.prog) W 22 3 A0 l0.length c0 0 0 Tryd.underlying22
  cases A0 with
  | none =>
    obtain rfl : l0 = [] := by
      rcases Nat.eq_zero_or_pos l0.length with h0 | h0
      · exact List.eq_nil_of_length_eq_zero h0
      · obtain ⟨ad, he, _⟩ := HR.out.2.2 h0
        cases he
    simp only [List.length_nil] at hq ⊢
    go_enter Tryd.func28, Tryd.ntmps28
    go_wp2
    go_ret
    exact ⟨_, rfl, Kd.R_nil _ _ _ _ _, HB.out⟩
  | some ad =>
    go_enter Tryd.func28, Tryd.ntmps28
    go_wp2_with (first
      | ((with_reducible refine gate_dst (N := 5) rfl ?_); refine Kd.R_lit (Kd.int .i64) (w0 := w) w.heap.size 3 ?hg (N := 5) ?hd (xs := ([] : List Int)) (inner := []) (ok := fun _ => True) (okp := fun _ => True) ?hr ?hp (fun _ hk => hk) trivial (Below.refl _ _) (Nat.le_refl _) (by simp) ?_; (case hd => rfl); (case hg => rfl); (case hr => first | (go_simp; done) | (go_simp; rfl)); (case hp => exact Reps.none _ _); intro v5 w5 ho5 hb5 hg5 hn5; have HO5 := Aside0.mk ho5; clear HB; have HB := Aside0.mk hb5; clear ho5 hb5 hg5 hn5)
      | ((with_reducible refine gate_builtin (b := .append) (xs := #[.tmp 5, .tmp 6]) rfl ?_); at_builtin; refine Kd.R_append_row (Value.int .i64) (0 : Int) (h1 := fun _ => rfl) (w0 := w) w.heap.size rfl (.tmp 5) (.tmp 6) 22 3 (.int .i64 0) 8 rfl Tryd.underlying22 info3 rfl (by decide) v5 ([] : List Int) l0 (some ad) l0.length c0 (fun _ => True) rfl rfl (fun _ _ => trivial) HO5.out ?aR HB.out (below_size HB.out) ?aL ?_; (case aR => exact Kd.C_below HR.out HB.out); (case aL => have := LM.out; simp only [List.length_nil]; omega); intro v7 w7 ho hb hg hat; have HO7 := Aside0.mk ho; clear HB; have HB := Aside0.mk hb; clear ho hb hg hat))
    go_ret
    exact ⟨_, rfl, by rw [List.nil_append] at HO7; exact HO7.out, HB.out⟩

end Go.Proofs.YtlgndfplikhflaaDoor.G
