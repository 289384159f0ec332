-- printed by wip/tool/gprint.py, a program of this work, out of the translation; Lean checks it
import Derived.Test.YtlgndfplikhflaaDoorGx0
import Derived.Test.YtlgndfplikhflaaDoorGx4
namespace Go.Proofs.YtlgndfplikhflaaDoor.G
open Go.RowKit Go.Proofs.YtlgndfplikhflaaDoorW.PrintWords Go.Proofs.YtlgndfplikhflaaDoorW.PrintLast Go.Proofs.YtlgndfplikhflaaDoorW.PrintMore Go.Proofs.YtlgndfplikhflaaDoorW.VWords Go.Proofs.YtlgndfplikhflaaDoorW.Tab
attribute [local go_sem] max2_int min2_int max_two min_two max_three min_three max_four min_four   -- for this text's walks alone
set_option linter.unusedVariables false
set_option linter.unusedSimpArgs false

/-! ### rank_reading_58: function 58 -/
/-! ### slices.partition at readings -/
theorem part_first_stop {α : Type} [Inhabited α] (lt : α → α → Bool) (d : Array α) (a b p i1 j1 k m : Nat) (dk1 : Array α) (h1 : i1 = a + 1) (h2 : j1 = b - 1) (h3 : dk1 = Go.Sort.swp d a p)
    (hk : k = Go.Sort.scanUp (fun x => lt x dk1[a]!) dk1 j1 i1) (hm : m = Go.Sort.scanDown (fun x => !lt x dk1[a]!) dk1 k j1) (h : m < k) : Go.Sort.partition lt d a b p = (m, true, Go.Sort.swp dk1 m a) := by
  subst h1; subst h2; subst h3
  unfold Go.Sort.partition
  simp only
  rw [← hk, ← hm, if_pos h]
theorem part_first_go {α : Type} [Inhabited α] (lt : α → α → Bool) (d : Array α) (a b p i1 j1 k m : Nat) (dk1 : Array α) (h1 : i1 = a + 1) (h2 : j1 = b - 1) (h3 : dk1 = Go.Sort.swp d a p)
    (hk : k = Go.Sort.scanUp (fun x => lt x dk1[a]!) dk1 j1 i1) (hm : m = Go.Sort.scanDown (fun x => !lt x dk1[a]!) dk1 k j1) (h : ¬ m < k) : Go.Sort.partition lt d a b p = ((Go.Sort.partLoop lt a (k + 1) (m - 1) (Go.Sort.swp dk1 k m)).1, false, Go.Sort.swp (Go.Sort.partLoop lt a (k + 1) (m - 1) (Go.Sort.swp dk1 k m)).2 (Go.Sort.partLoop lt a (k + 1) (m - 1) (Go.Sort.swp dk1 k m)).1 a) := by
  subst h1; subst h2; subst h3
  unfold Go.Sort.partition
  simp only
  rw [← hk, ← hm, if_neg h]
set_option maxHeartbeats 8000000 in
set_option maxRecDepth 100000 in
/-- partition, of any stretch. -/
theorem partAll (W0 : World) (g cap : Nat) (ok : Nat → Prop) (d0 d : Array (El W0 g ok)) (hH : Go.Sort.HoldsK El.enc 3 W0 g 0 d0) (hg : g < W0.heap.size) (hs : d.size = d0.size) (hsz : d0.size < 4611686018427387904) (a b p : Nat) (hap : a ≤ p) (hpb : p < b) (hb : b ≤ d.size) (W : World) (hW : SWK El.enc 3 W0 g 0 d W) :
    Calls Tryd.prog 58 #[.slice (some ⟨g, 0, none⟩) d.size cap, .int .i64 a, .int .i64 b, .int .i64 p, .func (.methodOf 47 "interlocutor/rank.against") #[] #[]] W fun e w' => e = .returned (.tuple #[.int .i64 (Go.Sort.partition (Go.Proofs.ltOf El.cf) d a b p).1, .bool (Go.Sort.partition (Go.Proofs.ltOf El.cf) d a b p).2.1]) ∧ SWK El.enc 3 W0 g 0 (Go.Sort.partition (Go.Proofs.ltOf El.cf) d a b p).2.2 w' := by
  have HH := Aside0.mk hH
  have mixed : Tryd.prog.follows .mixedOrders = true := by kernel_rfl
  have hm := meth_at
  have hmc := meth_call
  have H0 := Aside0.mk hW
  have HS := Aside0.mk (And.intro hs hsz)
  have HAB := Aside0.mk (And.intro hap (And.intro hpb hb))
  clear hap hpb hb
  clear hH hW hs hsz
  obtain ⟨i1, hi1⟩ : ∃ i1 : Nat, i1 = a + 1 := ⟨_, rfl⟩
  obtain ⟨j1, hj1⟩ : ∃ j1 : Nat, j1 = b - 1 := ⟨_, rfl⟩
  obtain ⟨dk1, hd1⟩ : ∃ dk1, dk1 = Go.Sort.swp d a p := ⟨_, rfl⟩
  have hz1 : dk1.size = d.size := by rw [hd1, Go.Sort.size_swp]
  have HP := Aside0.mk (And.intro hi1 (And.intro hj1 hz1))
  have HD := Aside0.mk hd1
  clear hi1 hj1 hd1 hz1
  have wa : IntKind.i64.wrap ((a : Int) + 1) = (i1 : Int) := by have := HAB.out; have := HS.out; have := HP.out; rw [IntKind.wrap_i64]; omega
  have wb : IntKind.i64.wrap ((b : Int) - 1) = (j1 : Int) := by have := HAB.out; have := HS.out; have := HP.out; rw [IntKind.wrap_i64]; omega
  have ia1 : (0 : Int) ≤ (a : Int) := by have := HAB.out; have := HS.out; omega
  have ib1 : (a : Int) < (d.size : Int) := by have := HAB.out; have := HS.out; omega
  have ic1 : ((a : Int)).toNat = a := by have := HAB.out; have := HS.out; omega
  have id1 : IntKind.i64.wrap ((a : Int)) = (a : Int) := by have := HAB.out; have := HS.out; rw [IntKind.wrap_i64]; omega
  go_enter Tryd.func58, Tryd.ntmps58
  go_upto_region 1 with fail
  go_cut [] from 14 (fun wx => SWK El.enc 3 W0 g 0 dk1 wx)
  case first =>
    by_cases hpa : a = p
    · subst hpa
      obtain ⟨px, Ax, nx, mx, tx, ex⟩ := El.cells d[a]!
      have ELx := Aside0.mk ex
      clear ex
      go_wp2_with fail
      have q := el_cells H0.out HH.out hg (by have := HAB.out; have := HS.out; omega) (a) (by have := HAB.out; have := HS.out; omega) _ _ _ ELx.out 0 #[]
      have r := el_cells H0.out HH.out hg (by have := HAB.out; have := HS.out; omega) (a) (by have := HAB.out; have := HS.out; omega) _ _ _ ELx.out 0 #[]
      rw [Go.Sort.grow_empty, World.drewN_zero] at q r
      obtain ⟨⟨q0, q1, q2⟩, q3, q4, q5⟩ := q
      obtain ⟨⟨r0, r1, r2⟩, r3, r4, r5⟩ := r
      
      go_wp2_with fail
      go_big_region_o
      
      have H3 := Aside0.mk (el_swap H0.out HH.out hg (by have := HAB.out; have := HS.out; omega) (a) (a) (by have := HAB.out; have := HS.out; omega) (by have := HAB.out; have := HS.out; omega) _ _ _ _ _ _ ELx.out ELx.out)
      
      clear H0 q0 q1 q2 q3 q4 q5 r0 r1 r2 r3 r4 r5
      generalize World.drew ((((((World.setCell W ⟨g, (a) * 3, none⟩ _).setCell ⟨g, (a) * 3 + 1, none⟩ _).setCell ⟨g, (a) * 3 + 2, none⟩ _).setCell ⟨g, (a) * 3, none⟩ _).setCell ⟨g, (a) * 3 + 1, none⟩ _).setCell ⟨g, (a) * 3 + 2, none⟩ _) = W3 at H3  ⊢
      go_wp2
      go_meet
      exact HD.out ▸ H3.out
    · 
      have ia2 : (0 : Int) ≤ (p : Int) := by have := HAB.out; have := HS.out; omega
      have ib2 : (p : Int) < (d.size : Int) := by have := HAB.out; have := HS.out; omega
      have ic2 : ((p : Int)).toNat = p := by have := HAB.out; have := HS.out; omega
      have id2 : IntKind.i64.wrap ((p : Int)) = (p : Int) := by have := HAB.out; have := HS.out; rw [IntKind.wrap_i64]; omega
      obtain ⟨px, Ax, nx, mx, tx, ex⟩ := El.cells d[a]!
      have ELx := Aside0.mk ex
      clear ex
      obtain ⟨py, Ay, ny, my, ty, ey⟩ := El.cells d[p]!
      have ELy := Aside0.mk ey
      clear ey
      go_wp2_with fail
      have q := el_cells H0.out HH.out hg (by have := HAB.out; have := HS.out; omega) (a) (by have := HAB.out; have := HS.out; omega) _ _ _ ELx.out 0 #[]
      have r := el_cells H0.out HH.out hg (by have := HAB.out; have := HS.out; omega) (p) (by have := HAB.out; have := HS.out; omega) _ _ _ ELy.out 0 #[]
      rw [Go.Sort.grow_empty, World.drewN_zero] at q r
      obtain ⟨⟨q0, q1, q2⟩, q3, q4, q5⟩ := q
      obtain ⟨⟨r0, r1, r2⟩, r3, r4, r5⟩ := r
      
      go_wp2_with fail
      go_big_region_o
      
      have H3 := Aside0.mk (el_swap H0.out HH.out hg (by have := HAB.out; have := HS.out; omega) (a) (p) (by have := HAB.out; have := HS.out; omega) (by have := HAB.out; have := HS.out; omega) _ _ _ _ _ _ ELy.out ELx.out)
      
      clear H0 q0 q1 q2 q3 q4 q5 r0 r1 r2 r3 r4 r5
      generalize World.drew ((((((World.setCell W ⟨g, (a) * 3, none⟩ _).setCell ⟨g, (a) * 3 + 1, none⟩ _).setCell ⟨g, (a) * 3 + 2, none⟩ _).setCell ⟨g, (p) * 3, none⟩ _).setCell ⟨g, (p) * 3 + 1, none⟩ _).setCell ⟨g, (p) * 3 + 2, none⟩ _) = W3 at H3  ⊢
      go_wp2
      go_meet
      exact HD.out ▸ H3.out
  case rest =>
    have H3 := Aside0.mk hcut
    clear hcut H0
    go_wp2
    go_loopg [12] (j1 + 1 - i1) (fun g2 vi wr2 => ∃ (zu1 : Nat), vi = .int .i64 zu1 ∧ Aside0 (i1 ≤ zu1 ∧ zu1 ≤ j1 + 1 ∧ j1 + 1 - zu1 ≤ g2) ∧ Aside0 (SWK El.enc 3 W0 g 0 dk1 wr2) ∧ Aside0 (Go.Sort.scanUp (fun x => (Go.Proofs.ltOf El.cf x (dk1[a]!))) dk1 j1 zu1 = Go.Sort.scanUp (fun x => (Go.Proofs.ltOf El.cf x (dk1[a]!))) dk1 j1 i1))
    case atStart => exact ⟨i1, rfl, ⟨by have := HAB.out; have := HS.out; have := HP.out; omega⟩, H3, ⟨rfl⟩⟩
    case round =>
      clear H3
      obtain ⟨zu1, rfl, HMzu1, HWzu1, HEzu1⟩ := hrel
      by_cases hlezu1 : zu1 ≤ j1
      · have hlezzu1 : (zu1 : Int) ≤ (j1 : Int) := by omega
        have wzzu1 : IntKind.i64.wrap ((zu1 : Int) + 1) = (zu1 : Int) + 1 := by have := HAB.out; have := HS.out; have := HP.out; have := HMzu1.out; rw [IntKind.wrap_i64]; omega
        have ia3 : (0 : Int) ≤ (zu1 : Int) := by have := HAB.out; have := HS.out; have := HP.out; have := HMzu1.out; omega
        have ib3 : (zu1 : Int) < (d.size : Int) := by have := HAB.out; have := HS.out; have := HP.out; have := HMzu1.out; omega
        have ic3 : ((zu1 : Int)).toNat = zu1 := by have := HAB.out; have := HS.out; have := HP.out; have := HMzu1.out; omega
        have id3 : IntKind.i64.wrap ((zu1 : Int)) = (zu1 : Int) := by have := HAB.out; have := HS.out; have := HP.out; have := HMzu1.out; rw [IntKind.wrap_i64]; omega
        obtain ⟨pxzu1, Axzu1, nxzu1, mxzu1, txzu1, exzu1⟩ := El.cells dk1[zu1]!
        have ELxzu1 := Aside0.mk exzu1
        clear exzu1
        obtain ⟨pyzu1, Ayzu1, nyzu1, myzu1, tyzu1, eyzu1⟩ := El.cells dk1[a]!
        have ELyzu1 := Aside0.mk eyzu1
        clear eyzu1
        have qx := fun n os => el_cells HWzu1.out HH.out hg (by have := HAB.out; have := HS.out; have := HP.out; have := HMzu1.out; omega) (zu1) (by have := HAB.out; have := HS.out; have := HP.out; have := HMzu1.out; omega) _ _ _ ELxzu1.out n os
        have qy := fun n os => el_cells HWzu1.out HH.out hg (by have := HAB.out; have := HS.out; have := HP.out; have := HMzu1.out; omega) (a) (by have := HAB.out; have := HS.out; have := HP.out; have := HMzu1.out; omega) _ _ _ ELyzu1.out n os
        have q0 := fun n os => (qx n os).1.1
        have q1 := fun n os => (qx n os).1.2.1
        have q2 := fun n os => (qx n os).1.2.2
        have q3 := fun n os => (qy n os).1.1
        have q4 := fun n os => (qy n os).1.2.1
        have q5 := fun n os => (qy n os).1.2.2
        have cc := fun n os => ins_cmp HWzu1.out dk1[zu1]! dk1[a]! _ _ ELxzu1.out ELyzu1.out n os
        clear qx qy
        go_wp2_with fail
        go_quiet_grown (first | (go_at_call 92; refine Calls.grown_of (cc _ _)))
        have HVzu1 := Aside0.mk (HWzu1.out.grown nq osq)
        clear cc q0 q1 q2 q3 q4 q5 HWzu1
        generalize Go.Sort.grow (World.drewN wr nq) osq = Vzu1 at HVzu1 ⊢
        clear nq osq
        by_cases hczu1 : (dk1[zu1]!).cf (dk1[a]!) < 0
        · have hltzu1 := ltOf_yes hczu1
          rw [ltOf_yes3 hczu1]
          go_wp2
          go_roundg (j1 + 1 - (zu1 + 1))
          case measure => have := HMzu1.out; omega
          case rel => exact ⟨zu1 + 1, by go_num, ⟨by have := HMzu1.out; omega⟩, HVzu1, ⟨(Go.Proofs.scanUp_go (fun x => (Go.Proofs.ltOf El.cf x (dk1[a]!))) dk1 j1 zu1 hlezu1 (by simp [hltzu1])).symm.trans HEzu1.out⟩⟩
        · have hltzu1 := ltOf_no hczu1
          rw [ltOf_no3 hczu1]
          have HSzu1 : Aside0 (zu1 = Go.Sort.scanUp (fun x => (Go.Proofs.ltOf El.cf x (dk1[a]!))) dk1 j1 i1) := ⟨(Go.Proofs.scanUp_end (fun x => (Go.Proofs.ltOf El.cf x (dk1[a]!))) dk1 j1 zu1 (Or.inr (by simp [hltzu1]))).symm.trans HEzu1.out⟩
          clear HEzu1
          go_wp2
          go_loopg [13] j1 (fun g2 vj wr2 => ∃ (zd1 : Nat), vj = .int .i64 zd1 ∧ Aside0 (zd1 ≤ j1 ∧ zu1 ≤ zd1 + 1 ∧ zd1 ≤ g2) ∧ Aside0 (SWK El.enc 3 W0 g 0 dk1 wr2) ∧ Aside0 (Go.Sort.scanDown (fun x => !(Go.Proofs.ltOf El.cf x (dk1[a]!))) dk1 zu1 zd1 = Go.Sort.scanDown (fun x => !(Go.Proofs.ltOf El.cf x (dk1[a]!))) dk1 zu1 j1))
          case atStart => exact ⟨j1, rfl, ⟨by have := HAB.out; have := HS.out; have := HP.out; have := HMzu1.out; omega⟩, HVzu1, ⟨rfl⟩⟩
          case round =>
            clear HVzu1
            obtain ⟨zd1, rfl, HMzd1, HWzd1, HEzd1⟩ := hrel
            by_cases hlezd1 : zu1 ≤ zd1
            · have hlezzd1 : (zu1 : Int) ≤ (zd1 : Int) := by omega
              have wzzd1 : IntKind.i64.wrap ((zd1 : Int) - 1) = ((zd1 - 1 : Nat) : Int) := by have := HAB.out; have := HS.out; have := HP.out; have := HMzu1.out; have := HMzd1.out; rw [IntKind.wrap_i64]; omega
              have ia4 : (0 : Int) ≤ (zd1 : Int) := by have := HAB.out; have := HS.out; have := HP.out; have := HMzu1.out; have := HMzd1.out; omega
              have ib4 : (zd1 : Int) < (d.size : Int) := by have := HAB.out; have := HS.out; have := HP.out; have := HMzu1.out; have := HMzd1.out; omega
              have ic4 : ((zd1 : Int)).toNat = zd1 := by have := HAB.out; have := HS.out; have := HP.out; have := HMzu1.out; have := HMzd1.out; omega
              have id4 : IntKind.i64.wrap ((zd1 : Int)) = (zd1 : Int) := by have := HAB.out; have := HS.out; have := HP.out; have := HMzu1.out; have := HMzd1.out; rw [IntKind.wrap_i64]; omega
              obtain ⟨pxzd1, Axzd1, nxzd1, mxzd1, txzd1, exzd1⟩ := El.cells dk1[zd1]!
              have ELxzd1 := Aside0.mk exzd1
              clear exzd1
              obtain ⟨pyzd1, Ayzd1, nyzd1, myzd1, tyzd1, eyzd1⟩ := El.cells dk1[a]!
              have ELyzd1 := Aside0.mk eyzd1
              clear eyzd1
              have qx := fun n os => el_cells HWzd1.out HH.out hg (by have := HAB.out; have := HS.out; have := HP.out; have := HMzu1.out; have := HMzd1.out; omega) (zd1) (by have := HAB.out; have := HS.out; have := HP.out; have := HMzu1.out; have := HMzd1.out; omega) _ _ _ ELxzd1.out n os
              have qy := fun n os => el_cells HWzd1.out HH.out hg (by have := HAB.out; have := HS.out; have := HP.out; have := HMzu1.out; have := HMzd1.out; omega) (a) (by have := HAB.out; have := HS.out; have := HP.out; have := HMzu1.out; have := HMzd1.out; omega) _ _ _ ELyzd1.out n os
              have q0 := fun n os => (qx n os).1.1
              have q1 := fun n os => (qx n os).1.2.1
              have q2 := fun n os => (qx n os).1.2.2
              have q3 := fun n os => (qy n os).1.1
              have q4 := fun n os => (qy n os).1.2.1
              have q5 := fun n os => (qy n os).1.2.2
              have cc := fun n os => ins_cmp HWzd1.out dk1[zd1]! dk1[a]! _ _ ELxzd1.out ELyzd1.out n os
              clear qx qy
              go_wp2_with fail
              go_quiet_grown (first | (go_at_call 92; refine Calls.grown_of (cc _ _)))
              have HVzd1 := Aside0.mk (HWzd1.out.grown nq osq)
              clear cc q0 q1 q2 q3 q4 q5 HWzd1
              generalize Go.Sort.grow (World.drewN wr nq) osq = Vzd1 at HVzd1 ⊢
              clear nq osq
              by_cases hczd1 : (dk1[zd1]!).cf (dk1[a]!) < 0
              · have hltzd1 := ltOf_yes hczd1
                rw [ltOf_yes3 hczd1]
                have HSzd1 : Aside0 (zd1 = Go.Sort.scanDown (fun x => !(Go.Proofs.ltOf El.cf x (dk1[a]!))) dk1 zu1 j1) := ⟨(Go.Proofs.scanDown_end (fun x => !(Go.Proofs.ltOf El.cf x (dk1[a]!))) dk1 zu1 zd1 (Or.inr (by simp [hltzd1]))).symm.trans HEzd1.out⟩
                clear HEzd1
                have hkm : zu1 < zd1 := Nat.lt_of_le_of_ne hlezd1 (fun e => by subst e; first | exact hczu1 hczd1 | exact absurd hczd1 (Int.not_lt.2 hczu1))
                have HF := Aside0.mk (part_first_go (Go.Proofs.ltOf El.cf) d a b p i1 j1 zu1 zd1 dk1 HP.out.1 HP.out.2.1 HD.out HSzu1.out HSzd1.out (by omega))
                have w1 : IntKind.i64.wrap ((zu1 : Int) + 1) = (zu1 : Int) + 1 := by have := HAB.out; have := HS.out; have := HP.out; have := HMzu1.out; have := HMzd1.out; rw [IntKind.wrap_i64]; omega
                have w2 : IntKind.i64.wrap ((zd1 : Int) - 1) = ((zd1 - 1 : Nat) : Int) := by have := HAB.out; have := HS.out; have := HP.out; have := HMzu1.out; have := HMzd1.out; rw [IntKind.wrap_i64]; omega
                have hgt : ¬ (zd1 : Int) < (zu1 : Int) := by omega
                go_wp2_with fail
                have ia5 : (0 : Int) ≤ (zu1 : Int) := by have := HAB.out; have := HS.out; have := HP.out; have := HMzu1.out; have := HMzd1.out; omega
                have ib5 : (zu1 : Int) < (d.size : Int) := by have := HAB.out; have := HS.out; have := HP.out; have := HMzu1.out; have := HMzd1.out; omega
                have ic5 : ((zu1 : Int)).toNat = zu1 := by have := HAB.out; have := HS.out; have := HP.out; have := HMzu1.out; have := HMzd1.out; omega
                have id5 : IntKind.i64.wrap ((zu1 : Int)) = (zu1 : Int) := by have := HAB.out; have := HS.out; have := HP.out; have := HMzu1.out; have := HMzd1.out; rw [IntKind.wrap_i64]; omega
                obtain ⟨pu, Au, nu, mu, tu, eu⟩ := El.cells dk1[zu1]!
                have ELu := Aside0.mk eu
                clear eu
                obtain ⟨pv, Av, nv, mv, tv, ev⟩ := El.cells dk1[zd1]!
                have ELv := Aside0.mk ev
                clear ev
                go_wp2_with fail
                have q := el_cells HVzd1.out HH.out hg (by have := HAB.out; have := HS.out; have := HP.out; have := HMzu1.out; have := HMzd1.out; omega) (zu1) (by have := HAB.out; have := HS.out; have := HP.out; have := HMzu1.out; have := HMzd1.out; omega) _ _ _ ELu.out 0 #[]
                have r := el_cells HVzd1.out HH.out hg (by have := HAB.out; have := HS.out; have := HP.out; have := HMzu1.out; have := HMzd1.out; omega) (zd1) (by have := HAB.out; have := HS.out; have := HP.out; have := HMzu1.out; have := HMzd1.out; omega) _ _ _ ELv.out 0 #[]
                rw [Go.Sort.grow_empty, World.drewN_zero] at q r
                obtain ⟨⟨q0, q1, q2⟩, q3, q4, q5⟩ := q
                obtain ⟨⟨r0, r1, r2⟩, r3, r4, r5⟩ := r
                
                go_wp2_with fail
                go_big_region_o
                
                have H8 := Aside0.mk (el_swap HVzd1.out HH.out hg (by have := HAB.out; have := HS.out; have := HP.out; have := HMzu1.out; have := HMzd1.out; omega) (zu1) (zd1) (by have := HAB.out; have := HS.out; have := HP.out; have := HMzu1.out; have := HMzd1.out; omega) (by have := HAB.out; have := HS.out; have := HP.out; have := HMzu1.out; have := HMzd1.out; omega) _ _ _ _ _ _ ELv.out ELu.out)
                
                clear HVzd1 q0 q1 q2 q3 q4 q5 r0 r1 r2 r3 r4 r5
                generalize World.drew ((((((World.setCell Vzd1 ⟨g, (zu1) * 3, none⟩ _).setCell ⟨g, (zu1) * 3 + 1, none⟩ _).setCell ⟨g, (zu1) * 3 + 2, none⟩ _).setCell ⟨g, (zd1) * 3, none⟩ _).setCell ⟨g, (zd1) * 3 + 1, none⟩ _).setCell ⟨g, (zd1) * 3 + 2, none⟩ _) = W8 at H8  ⊢
                obtain ⟨i2, hi2⟩ : ∃ i2 : Nat, i2 = zu1 + 1 := ⟨_, rfl⟩
                obtain ⟨j2, hj2⟩ : ∃ j2 : Nat, j2 = zd1 - 1 := ⟨_, rfl⟩
                obtain ⟨dk2, hd2⟩ : ∃ dk2, dk2 = Go.Sort.swp dk1 zu1 zd1 := ⟨_, rfl⟩
                have hz2 : dk2.size = d.size := by rw [hd2, Go.Sort.size_swp]; exact HP.out.2.2
                have w3 : IntKind.i64.wrap ((zu1 : Int) + 1) = (i2 : Int) := by have := HAB.out; have := HS.out; have := HP.out; have := HMzu1.out; have := HMzd1.out; rw [IntKind.wrap_i64]; omega
                have w4 : IntKind.i64.wrap ((zd1 : Int) - 1) = (j2 : Int) := by have := HAB.out; have := HS.out; have := HP.out; have := HMzu1.out; have := HMzd1.out; rw [IntKind.wrap_i64]; omega
                rw [← hi2, ← hj2, ← hd2] at HF
                rw [← hd2] at H8
                have HI2 : Aside0 ((a < i2 ∧ i2 ≤ j2 + 1 ∧ j2 < b ∧ dk2.size = d.size) ∧ i2 = zu1 + 1 ∧ j2 = zd1 - 1) := ⟨by have := HAB.out; have := HS.out; have := HP.out; have := HMzu1.out; have := HMzd1.out; omega⟩
                clear hi2 hj2 hd2 hz2
                go_wp2
                go_loopg [12, 13] (b - i2) (fun g1 v8 v9 wr => ∃ (i j : Nat) (dk : Array (El W0 g ok)), v8 = .int .i64 i ∧ v9 = .int .i64 j ∧ Aside0 (a < i ∧ i ≤ j + 1 ∧ j < b ∧ j + 1 - i ≤ g1 ∧ dk.size = d.size) ∧ Aside0 (SWK El.enc 3 W0 g 0 dk wr) ∧ Aside0 (Go.Sort.partLoop (Go.Proofs.ltOf El.cf) a i j dk = Go.Sort.partLoop (Go.Proofs.ltOf El.cf) a i2 j2 dk2))
                case atStart => exact ⟨i2, j2, dk2, by first | rfl | (have := HI2.out; congr 1; omega), by first | rfl | (have := HI2.out; congr 1; omega), ⟨by have := HAB.out; have := HI2.out; omega⟩, H8, ⟨rfl⟩⟩
                case round =>
                  clear H8
                  obtain ⟨i, j, dk, rfl, rfl, HI, HK, HO⟩ := hrel
                  go_wp2
                  go_loopg [12] (j + 1 - i) (fun g2 vi wr2 => ∃ (zu3 : Nat), vi = .int .i64 zu3 ∧ Aside0 (i ≤ zu3 ∧ zu3 ≤ j + 1 ∧ j + 1 - zu3 ≤ g2) ∧ Aside0 (SWK El.enc 3 W0 g 0 dk wr2) ∧ Aside0 (Go.Sort.scanUp (fun x => (Go.Proofs.ltOf El.cf x (dk[a]!))) dk j zu3 = Go.Sort.scanUp (fun x => (Go.Proofs.ltOf El.cf x (dk[a]!))) dk j i))
                  case atStart => exact ⟨i, rfl, ⟨by have := HAB.out; have := HS.out; have := HI.out; omega⟩, HK, ⟨rfl⟩⟩
                  case round =>
                    clear HK
                    obtain ⟨zu3, rfl, HMzu3, HWzu3, HEzu3⟩ := hrel
                    by_cases hlezu3 : zu3 ≤ j
                    · have hlezzu3 : (zu3 : Int) ≤ (j : Int) := by omega
                      have wzzu3 : IntKind.i64.wrap ((zu3 : Int) + 1) = (zu3 : Int) + 1 := by have := HAB.out; have := HS.out; have := HI.out; have := HMzu3.out; rw [IntKind.wrap_i64]; omega
                      have ia6 : (0 : Int) ≤ (zu3 : Int) := by have := HAB.out; have := HS.out; have := HI.out; have := HMzu3.out; omega
                      have ib6 : (zu3 : Int) < (d.size : Int) := by have := HAB.out; have := HS.out; have := HI.out; have := HMzu3.out; omega
                      have ic6 : ((zu3 : Int)).toNat = zu3 := by have := HAB.out; have := HS.out; have := HI.out; have := HMzu3.out; omega
                      have id6 : IntKind.i64.wrap ((zu3 : Int)) = (zu3 : Int) := by have := HAB.out; have := HS.out; have := HI.out; have := HMzu3.out; rw [IntKind.wrap_i64]; omega
                      obtain ⟨pxzu3, Axzu3, nxzu3, mxzu3, txzu3, exzu3⟩ := El.cells dk[zu3]!
                      have ELxzu3 := Aside0.mk exzu3
                      clear exzu3
                      obtain ⟨pyzu3, Ayzu3, nyzu3, myzu3, tyzu3, eyzu3⟩ := El.cells dk[a]!
                      have ELyzu3 := Aside0.mk eyzu3
                      clear eyzu3
                      have qx := fun n os => el_cells HWzu3.out HH.out hg (by have := HAB.out; have := HS.out; have := HI.out; have := HMzu3.out; omega) (zu3) (by have := HAB.out; have := HS.out; have := HI.out; have := HMzu3.out; omega) _ _ _ ELxzu3.out n os
                      have qy := fun n os => el_cells HWzu3.out HH.out hg (by have := HAB.out; have := HS.out; have := HI.out; have := HMzu3.out; omega) (a) (by have := HAB.out; have := HS.out; have := HI.out; have := HMzu3.out; omega) _ _ _ ELyzu3.out n os
                      have q0 := fun n os => (qx n os).1.1
                      have q1 := fun n os => (qx n os).1.2.1
                      have q2 := fun n os => (qx n os).1.2.2
                      have q3 := fun n os => (qy n os).1.1
                      have q4 := fun n os => (qy n os).1.2.1
                      have q5 := fun n os => (qy n os).1.2.2
                      have cc := fun n os => ins_cmp HWzu3.out dk[zu3]! dk[a]! _ _ ELxzu3.out ELyzu3.out n os
                      clear qx qy
                      go_wp2_with fail
                      go_quiet_grown (first | (go_at_call 92; refine Calls.grown_of (cc _ _)))
                      have HVzu3 := Aside0.mk (HWzu3.out.grown nq osq)
                      clear cc q0 q1 q2 q3 q4 q5 HWzu3
                      generalize Go.Sort.grow (World.drewN wr nq) osq = Vzu3 at HVzu3 ⊢
                      clear nq osq
                      by_cases hczu3 : (dk[zu3]!).cf (dk[a]!) < 0
                      · have hltzu3 := ltOf_yes hczu3
                        rw [ltOf_yes3 hczu3]
                        go_wp2
                        go_roundg (j + 1 - (zu3 + 1))
                        case measure => have := HMzu3.out; omega
                        case rel => exact ⟨zu3 + 1, by go_num, ⟨by have := HMzu3.out; omega⟩, HVzu3, ⟨(Go.Proofs.scanUp_go (fun x => (Go.Proofs.ltOf El.cf x (dk[a]!))) dk j zu3 hlezu3 (by simp [hltzu3])).symm.trans HEzu3.out⟩⟩
                      · have hltzu3 := ltOf_no hczu3
                        rw [ltOf_no3 hczu3]
                        have HSzu3 : Aside0 (zu3 = Go.Sort.scanUp (fun x => (Go.Proofs.ltOf El.cf x (dk[a]!))) dk j i) := ⟨(Go.Proofs.scanUp_end (fun x => (Go.Proofs.ltOf El.cf x (dk[a]!))) dk j zu3 (Or.inr (by simp [hltzu3]))).symm.trans HEzu3.out⟩
                        clear HEzu3
                        go_wp2
                        go_loopg [13] j (fun g2 vj wr2 => ∃ (zd3 : Nat), vj = .int .i64 zd3 ∧ Aside0 (zd3 ≤ j ∧ zu3 ≤ zd3 + 1 ∧ zd3 ≤ g2) ∧ Aside0 (SWK El.enc 3 W0 g 0 dk wr2) ∧ Aside0 (Go.Sort.scanDown (fun x => !(Go.Proofs.ltOf El.cf x (dk[a]!))) dk zu3 zd3 = Go.Sort.scanDown (fun x => !(Go.Proofs.ltOf El.cf x (dk[a]!))) dk zu3 j))
                        case atStart => exact ⟨j, rfl, ⟨by have := HAB.out; have := HS.out; have := HI.out; have := HMzu3.out; omega⟩, HVzu3, ⟨rfl⟩⟩
                        case round =>
                          clear HVzu3
                          obtain ⟨zd3, rfl, HMzd3, HWzd3, HEzd3⟩ := hrel
                          by_cases hlezd3 : zu3 ≤ zd3
                          · have hlezzd3 : (zu3 : Int) ≤ (zd3 : Int) := by omega
                            have wzzd3 : IntKind.i64.wrap ((zd3 : Int) - 1) = ((zd3 - 1 : Nat) : Int) := by have := HAB.out; have := HS.out; have := HI.out; have := HMzu3.out; have := HMzd3.out; rw [IntKind.wrap_i64]; omega
                            have ia7 : (0 : Int) ≤ (zd3 : Int) := by have := HAB.out; have := HS.out; have := HI.out; have := HMzu3.out; have := HMzd3.out; omega
                            have ib7 : (zd3 : Int) < (d.size : Int) := by have := HAB.out; have := HS.out; have := HI.out; have := HMzu3.out; have := HMzd3.out; omega
                            have ic7 : ((zd3 : Int)).toNat = zd3 := by have := HAB.out; have := HS.out; have := HI.out; have := HMzu3.out; have := HMzd3.out; omega
                            have id7 : IntKind.i64.wrap ((zd3 : Int)) = (zd3 : Int) := by have := HAB.out; have := HS.out; have := HI.out; have := HMzu3.out; have := HMzd3.out; rw [IntKind.wrap_i64]; omega
                            obtain ⟨pxzd3, Axzd3, nxzd3, mxzd3, txzd3, exzd3⟩ := El.cells dk[zd3]!
                            have ELxzd3 := Aside0.mk exzd3
                            clear exzd3
                            obtain ⟨pyzd3, Ayzd3, nyzd3, myzd3, tyzd3, eyzd3⟩ := El.cells dk[a]!
                            have ELyzd3 := Aside0.mk eyzd3
                            clear eyzd3
                            have qx := fun n os => el_cells HWzd3.out HH.out hg (by have := HAB.out; have := HS.out; have := HI.out; have := HMzu3.out; have := HMzd3.out; omega) (zd3) (by have := HAB.out; have := HS.out; have := HI.out; have := HMzu3.out; have := HMzd3.out; omega) _ _ _ ELxzd3.out n os
                            have qy := fun n os => el_cells HWzd3.out HH.out hg (by have := HAB.out; have := HS.out; have := HI.out; have := HMzu3.out; have := HMzd3.out; omega) (a) (by have := HAB.out; have := HS.out; have := HI.out; have := HMzu3.out; have := HMzd3.out; omega) _ _ _ ELyzd3.out n os
                            have q0 := fun n os => (qx n os).1.1
                            have q1 := fun n os => (qx n os).1.2.1
                            have q2 := fun n os => (qx n os).1.2.2
                            have q3 := fun n os => (qy n os).1.1
                            have q4 := fun n os => (qy n os).1.2.1
                            have q5 := fun n os => (qy n os).1.2.2
                            have cc := fun n os => ins_cmp HWzd3.out dk[zd3]! dk[a]! _ _ ELxzd3.out ELyzd3.out n os
                            clear qx qy
                            go_wp2_with fail
                            go_quiet_grown (first | (go_at_call 92; refine Calls.grown_of (cc _ _)))
                            have HVzd3 := Aside0.mk (HWzd3.out.grown nq osq)
                            clear cc q0 q1 q2 q3 q4 q5 HWzd3
                            generalize Go.Sort.grow (World.drewN wr nq) osq = Vzd3 at HVzd3 ⊢
                            clear nq osq
                            by_cases hczd3 : (dk[zd3]!).cf (dk[a]!) < 0
                            · have hltzd3 := ltOf_yes hczd3
                              rw [ltOf_yes3 hczd3]
                              have HSzd3 : Aside0 (zd3 = Go.Sort.scanDown (fun x => !(Go.Proofs.ltOf El.cf x (dk[a]!))) dk zu3 j) := ⟨(Go.Proofs.scanDown_end (fun x => !(Go.Proofs.ltOf El.cf x (dk[a]!))) dk zu3 zd3 (Or.inr (by simp [hltzd3]))).symm.trans HEzd3.out⟩
                              clear HEzd3
                              have hkm2 : zu3 < zd3 := Nat.lt_of_le_of_ne hlezd3 (fun e => by subst e; first | exact hczu3 hczd3 | exact absurd hczd3 (Int.not_lt.2 hczu3))
                              have w1 : IntKind.i64.wrap ((zu3 : Int) + 1) = (zu3 : Int) + 1 := by have := HAB.out; have := HS.out; have := HI.out; have := HMzu3.out; have := HMzd3.out; rw [IntKind.wrap_i64]; omega
                              have w2 : IntKind.i64.wrap ((zd3 : Int) - 1) = ((zd3 - 1 : Nat) : Int) := by have := HAB.out; have := HS.out; have := HI.out; have := HMzu3.out; have := HMzd3.out; rw [IntKind.wrap_i64]; omega
                              have hgt : ¬ (zd3 : Int) < (zu3 : Int) := by omega
                              go_wp2_with fail
                              have ia8 : (0 : Int) ≤ (zu3 : Int) := by have := HAB.out; have := HS.out; have := HI.out; have := HMzu3.out; have := HMzd3.out; omega
                              have ib8 : (zu3 : Int) < (d.size : Int) := by have := HAB.out; have := HS.out; have := HI.out; have := HMzu3.out; have := HMzd3.out; omega
                              have ic8 : ((zu3 : Int)).toNat = zu3 := by have := HAB.out; have := HS.out; have := HI.out; have := HMzu3.out; have := HMzd3.out; omega
                              have id8 : IntKind.i64.wrap ((zu3 : Int)) = (zu3 : Int) := by have := HAB.out; have := HS.out; have := HI.out; have := HMzu3.out; have := HMzd3.out; rw [IntKind.wrap_i64]; omega
                              obtain ⟨pu, Au, nu, mu, tu, eu⟩ := El.cells dk[zu3]!
                              have ELu := Aside0.mk eu
                              clear eu
                              obtain ⟨pv, Av, nv, mv, tv, ev⟩ := El.cells dk[zd3]!
                              have ELv := Aside0.mk ev
                              clear ev
                              go_wp2_with fail
                              have q := el_cells HVzd3.out HH.out hg (by have := HAB.out; have := HS.out; have := HI.out; have := HMzu3.out; have := HMzd3.out; omega) (zu3) (by have := HAB.out; have := HS.out; have := HI.out; have := HMzu3.out; have := HMzd3.out; omega) _ _ _ ELu.out 0 #[]
                              have r := el_cells HVzd3.out HH.out hg (by have := HAB.out; have := HS.out; have := HI.out; have := HMzu3.out; have := HMzd3.out; omega) (zd3) (by have := HAB.out; have := HS.out; have := HI.out; have := HMzu3.out; have := HMzd3.out; omega) _ _ _ ELv.out 0 #[]
                              rw [Go.Sort.grow_empty, World.drewN_zero] at q r
                              obtain ⟨⟨q0, q1, q2⟩, q3, q4, q5⟩ := q
                              obtain ⟨⟨r0, r1, r2⟩, r3, r4, r5⟩ := r
                              
                              go_wp2_with fail
                              go_big_region_o
                              
                              have H8 := Aside0.mk (el_swap HVzd3.out HH.out hg (by have := HAB.out; have := HS.out; have := HI.out; have := HMzu3.out; have := HMzd3.out; omega) (zu3) (zd3) (by have := HAB.out; have := HS.out; have := HI.out; have := HMzu3.out; have := HMzd3.out; omega) (by have := HAB.out; have := HS.out; have := HI.out; have := HMzu3.out; have := HMzd3.out; omega) _ _ _ _ _ _ ELv.out ELu.out)
                              
                              clear HVzd3 q0 q1 q2 q3 q4 q5 r0 r1 r2 r3 r4 r5
                              generalize World.drew ((((((World.setCell Vzd3 ⟨g, (zu3) * 3, none⟩ _).setCell ⟨g, (zu3) * 3 + 1, none⟩ _).setCell ⟨g, (zu3) * 3 + 2, none⟩ _).setCell ⟨g, (zd3) * 3, none⟩ _).setCell ⟨g, (zd3) * 3 + 1, none⟩ _).setCell ⟨g, (zd3) * 3 + 2, none⟩ _) = W8 at H8  ⊢
                              go_wp2
                              go_roundg (zd3 - 1 + 1 - (zu3 + 1))
                              case measure => have := HAB.out; have := HS.out; have := HI.out; have := HMzu3.out; have := HMzd3.out; omega
                              case rel => exact ⟨zu3 + 1, zd3 - 1, _, by go_num, rfl, ⟨by rw [Go.Sort.size_swp]; have := HAB.out; have := HS.out; have := HI.out; have := HMzu3.out; have := HMzd3.out; omega⟩, H8, ⟨by rw [← HO.out]; exact (Go.Proofs.part_go (Go.Proofs.ltOf El.cf) a i j dk HSzu3.out HSzd3.out (by omega)).symm⟩⟩
                            · have hltzd3 := ltOf_no hczd3
                              rw [ltOf_no3 hczd3]
                              go_wp2
                              go_roundg (zd3 - 1)
                              case measure => have := HAB.out; have := HS.out; have := HI.out; have := HMzu3.out; have := HMzd3.out; omega
                              case rel => exact ⟨zd3 - 1, rfl, ⟨by have := HAB.out; have := HS.out; have := HI.out; have := HMzu3.out; have := HMzd3.out; omega⟩, HVzd3, ⟨(Go.Proofs.scanDown_go (fun x => !(Go.Proofs.ltOf El.cf x (dk[a]!))) dk zu3 zd3 hlezd3 (by have := HAB.out; have := HS.out; have := HI.out; have := HMzu3.out; have := HMzd3.out; omega) (by simp [hltzd3])).symm.trans HEzd3.out⟩⟩
                          · have hlezzd3 : ¬ (zu3 : Int) ≤ (zd3 : Int) := by omega
                            go_wp2_with fail
                            go_big_region_o
                            have HVzd3 := Aside0.mk (HWzd3.out.drew)
                            clear HWzd3
                            generalize World.drew wr = Vzd3 at HVzd3 ⊢
                            have HSzd3 : Aside0 (zd3 = Go.Sort.scanDown (fun x => !(Go.Proofs.ltOf El.cf x (dk[a]!))) dk zu3 j) := ⟨(Go.Proofs.scanDown_end (fun x => !(Go.Proofs.ltOf El.cf x (dk[a]!))) dk zu3 zd3 (Or.inl hlezd3)).symm.trans HEzd3.out⟩
                            clear HEzd3
                            have hb := Go.Proofs.part_break (Go.Proofs.ltOf El.cf) a i j dk HSzu3.out HSzd3.out (by omega)
                            rw [HO.out] at hb
                            have HB2 := Aside0.mk hb
                            clear hb
                            have hgt : (zd3 : Int) < (zu3 : Int) := by omega
                            go_wp2_with fail
                            by_cases hma : a = zd3
                            · subst hma
                              obtain ⟨pu, Au, nu, mu, tu, eu⟩ := El.cells dk[a]!
                              have ELu := Aside0.mk eu
                              clear eu
                              go_wp2_with fail
                              have q := el_cells HVzd3.out HH.out hg (by have := HAB.out; have := HS.out; have := HI.out; have := HMzu3.out; have := HMzd3.out; omega) (a) (by have := HAB.out; have := HS.out; have := HI.out; have := HMzu3.out; have := HMzd3.out; omega) _ _ _ ELu.out 0 #[]
                              have r := el_cells HVzd3.out HH.out hg (by have := HAB.out; have := HS.out; have := HI.out; have := HMzu3.out; have := HMzd3.out; omega) (a) (by have := HAB.out; have := HS.out; have := HI.out; have := HMzu3.out; have := HMzd3.out; omega) _ _ _ ELu.out 0 #[]
                              rw [Go.Sort.grow_empty, World.drewN_zero] at q r
                              obtain ⟨⟨q0, q1, q2⟩, q3, q4, q5⟩ := q
                              obtain ⟨⟨r0, r1, r2⟩, r3, r4, r5⟩ := r
                              
                              go_wp2_with fail
                              go_big_region_o
                              
                              have H8 := Aside0.mk (el_swap HVzd3.out HH.out hg (by have := HAB.out; have := HS.out; have := HI.out; have := HMzu3.out; have := HMzd3.out; omega) (a) (a) (by have := HAB.out; have := HS.out; have := HI.out; have := HMzu3.out; have := HMzd3.out; omega) (by have := HAB.out; have := HS.out; have := HI.out; have := HMzu3.out; have := HMzd3.out; omega) _ _ _ _ _ _ ELu.out ELu.out)
                              
                              clear HVzd3 q0 q1 q2 q3 q4 q5 r0 r1 r2 r3 r4 r5
                              generalize World.drew ((((((World.setCell Vzd3 ⟨g, (a) * 3, none⟩ _).setCell ⟨g, (a) * 3 + 1, none⟩ _).setCell ⟨g, (a) * 3 + 2, none⟩ _).setCell ⟨g, (a) * 3, none⟩ _).setCell ⟨g, (a) * 3 + 1, none⟩ _).setCell ⟨g, (a) * 3 + 2, none⟩ _) = W8 at H8  ⊢
                              go_wp2
                              go_ret2
                              rw [HF.out, HB2.out]
                              exact ⟨rfl, H8.out⟩
                            · 
                              have ia9 : (0 : Int) ≤ (zd3 : Int) := by have := HAB.out; have := HS.out; have := HI.out; have := HMzu3.out; have := HMzd3.out; omega
                              have ib9 : (zd3 : Int) < (d.size : Int) := by have := HAB.out; have := HS.out; have := HI.out; have := HMzu3.out; have := HMzd3.out; omega
                              have ic9 : ((zd3 : Int)).toNat = zd3 := by have := HAB.out; have := HS.out; have := HI.out; have := HMzu3.out; have := HMzd3.out; omega
                              have id9 : IntKind.i64.wrap ((zd3 : Int)) = (zd3 : Int) := by have := HAB.out; have := HS.out; have := HI.out; have := HMzu3.out; have := HMzd3.out; rw [IntKind.wrap_i64]; omega
                              obtain ⟨pu, Au, nu, mu, tu, eu⟩ := El.cells dk[zd3]!
                              have ELu := Aside0.mk eu
                              clear eu
                              obtain ⟨pv, Av, nv, mv, tv, ev⟩ := El.cells dk[a]!
                              have ELv := Aside0.mk ev
                              clear ev
                              go_wp2_with fail
                              have q := el_cells HVzd3.out HH.out hg (by have := HAB.out; have := HS.out; have := HI.out; have := HMzu3.out; have := HMzd3.out; omega) (zd3) (by have := HAB.out; have := HS.out; have := HI.out; have := HMzu3.out; have := HMzd3.out; omega) _ _ _ ELu.out 0 #[]
                              have r := el_cells HVzd3.out HH.out hg (by have := HAB.out; have := HS.out; have := HI.out; have := HMzu3.out; have := HMzd3.out; omega) (a) (by have := HAB.out; have := HS.out; have := HI.out; have := HMzu3.out; have := HMzd3.out; omega) _ _ _ ELv.out 0 #[]
                              rw [Go.Sort.grow_empty, World.drewN_zero] at q r
                              obtain ⟨⟨q0, q1, q2⟩, q3, q4, q5⟩ := q
                              obtain ⟨⟨r0, r1, r2⟩, r3, r4, r5⟩ := r
                              
                              go_wp2_with fail
                              go_big_region_o
                              
                              have H8 := Aside0.mk (el_swap HVzd3.out HH.out hg (by have := HAB.out; have := HS.out; have := HI.out; have := HMzu3.out; have := HMzd3.out; omega) (zd3) (a) (by have := HAB.out; have := HS.out; have := HI.out; have := HMzu3.out; have := HMzd3.out; omega) (by have := HAB.out; have := HS.out; have := HI.out; have := HMzu3.out; have := HMzd3.out; omega) _ _ _ _ _ _ ELv.out ELu.out)
                              
                              clear HVzd3 q0 q1 q2 q3 q4 q5 r0 r1 r2 r3 r4 r5
                              generalize World.drew ((((((World.setCell Vzd3 ⟨g, (zd3) * 3, none⟩ _).setCell ⟨g, (zd3) * 3 + 1, none⟩ _).setCell ⟨g, (zd3) * 3 + 2, none⟩ _).setCell ⟨g, (a) * 3, none⟩ _).setCell ⟨g, (a) * 3 + 1, none⟩ _).setCell ⟨g, (a) * 3 + 2, none⟩ _) = W8 at H8  ⊢
                              go_wp2
                              go_ret2
                              rw [HF.out, HB2.out]
                              exact ⟨rfl, H8.out⟩
                    · have hlezzu3 : ¬ (zu3 : Int) ≤ (j : Int) := by omega
                      go_wp2_with fail
                      go_big_region_o
                      have HVzu3 := Aside0.mk (HWzu3.out.drew)
                      clear HWzu3
                      generalize World.drew wr = Vzu3 at HVzu3 ⊢
                      have HSzu3 : Aside0 (zu3 = Go.Sort.scanUp (fun x => (Go.Proofs.ltOf El.cf x (dk[a]!))) dk j i) := ⟨(Go.Proofs.scanUp_end (fun x => (Go.Proofs.ltOf El.cf x (dk[a]!))) dk j zu3 (Or.inl hlezu3)).symm.trans HEzu3.out⟩
                      clear HEzu3
                      go_wp2
                      go_loopg [13] j (fun g2 vj wr2 => ∃ (zd4 : Nat), vj = .int .i64 zd4 ∧ Aside0 (zd4 ≤ j ∧ zu3 ≤ zd4 + 1 ∧ zd4 ≤ g2) ∧ Aside0 (SWK El.enc 3 W0 g 0 dk wr2) ∧ Aside0 (Go.Sort.scanDown (fun x => !(Go.Proofs.ltOf El.cf x (dk[a]!))) dk zu3 zd4 = Go.Sort.scanDown (fun x => !(Go.Proofs.ltOf El.cf x (dk[a]!))) dk zu3 j))
                      case atStart => exact ⟨j, rfl, ⟨by have := HAB.out; have := HS.out; have := HI.out; have := HMzu3.out; omega⟩, HVzu3, ⟨rfl⟩⟩
                      case round =>
                        clear HVzu3
                        obtain ⟨zd4, rfl, HMzd4, HWzd4, HEzd4⟩ := hrel
                        by_cases hlezd4 : zu3 ≤ zd4
                        · have hlezzd4 : (zu3 : Int) ≤ (zd4 : Int) := by omega
                          have wzzd4 : IntKind.i64.wrap ((zd4 : Int) - 1) = ((zd4 - 1 : Nat) : Int) := by have := HAB.out; have := HS.out; have := HI.out; have := HMzu3.out; have := HMzd4.out; rw [IntKind.wrap_i64]; omega
                          have ia10 : (0 : Int) ≤ (zd4 : Int) := by have := HAB.out; have := HS.out; have := HI.out; have := HMzu3.out; have := HMzd4.out; omega
                          have ib10 : (zd4 : Int) < (d.size : Int) := by have := HAB.out; have := HS.out; have := HI.out; have := HMzu3.out; have := HMzd4.out; omega
                          have ic10 : ((zd4 : Int)).toNat = zd4 := by have := HAB.out; have := HS.out; have := HI.out; have := HMzu3.out; have := HMzd4.out; omega
                          have id10 : IntKind.i64.wrap ((zd4 : Int)) = (zd4 : Int) := by have := HAB.out; have := HS.out; have := HI.out; have := HMzu3.out; have := HMzd4.out; rw [IntKind.wrap_i64]; omega
                          obtain ⟨pxzd4, Axzd4, nxzd4, mxzd4, txzd4, exzd4⟩ := El.cells dk[zd4]!
                          have ELxzd4 := Aside0.mk exzd4
                          clear exzd4
                          obtain ⟨pyzd4, Ayzd4, nyzd4, myzd4, tyzd4, eyzd4⟩ := El.cells dk[a]!
                          have ELyzd4 := Aside0.mk eyzd4
                          clear eyzd4
                          have qx := fun n os => el_cells HWzd4.out HH.out hg (by have := HAB.out; have := HS.out; have := HI.out; have := HMzu3.out; have := HMzd4.out; omega) (zd4) (by have := HAB.out; have := HS.out; have := HI.out; have := HMzu3.out; have := HMzd4.out; omega) _ _ _ ELxzd4.out n os
                          have qy := fun n os => el_cells HWzd4.out HH.out hg (by have := HAB.out; have := HS.out; have := HI.out; have := HMzu3.out; have := HMzd4.out; omega) (a) (by have := HAB.out; have := HS.out; have := HI.out; have := HMzu3.out; have := HMzd4.out; omega) _ _ _ ELyzd4.out n os
                          have q0 := fun n os => (qx n os).1.1
                          have q1 := fun n os => (qx n os).1.2.1
                          have q2 := fun n os => (qx n os).1.2.2
                          have q3 := fun n os => (qy n os).1.1
                          have q4 := fun n os => (qy n os).1.2.1
                          have q5 := fun n os => (qy n os).1.2.2
                          have cc := fun n os => ins_cmp HWzd4.out dk[zd4]! dk[a]! _ _ ELxzd4.out ELyzd4.out n os
                          clear qx qy
                          go_wp2_with fail
                          go_quiet_grown (first | (go_at_call 92; refine Calls.grown_of (cc _ _)))
                          have HVzd4 := Aside0.mk (HWzd4.out.grown nq osq)
                          clear cc q0 q1 q2 q3 q4 q5 HWzd4
                          generalize Go.Sort.grow (World.drewN wr nq) osq = Vzd4 at HVzd4 ⊢
                          clear nq osq
                          by_cases hczd4 : (dk[zd4]!).cf (dk[a]!) < 0
                          · have hltzd4 := ltOf_yes hczd4
                            rw [ltOf_yes3 hczd4]
                            have HSzd4 : Aside0 (zd4 = Go.Sort.scanDown (fun x => !(Go.Proofs.ltOf El.cf x (dk[a]!))) dk zu3 j) := ⟨(Go.Proofs.scanDown_end (fun x => !(Go.Proofs.ltOf El.cf x (dk[a]!))) dk zu3 zd4 (Or.inr (by simp [hltzd4]))).symm.trans HEzd4.out⟩
                            clear HEzd4
                            exact absurd hlezd4 (by have := HMzd4.out; omega)
                          · have hltzd4 := ltOf_no hczd4
                            rw [ltOf_no3 hczd4]
                            go_wp2
                            go_roundg (zd4 - 1)
                            case measure => have := HAB.out; have := HS.out; have := HI.out; have := HMzu3.out; have := HMzd4.out; omega
                            case rel => exact ⟨zd4 - 1, rfl, ⟨by have := HAB.out; have := HS.out; have := HI.out; have := HMzu3.out; have := HMzd4.out; omega⟩, HVzd4, ⟨(Go.Proofs.scanDown_go (fun x => !(Go.Proofs.ltOf El.cf x (dk[a]!))) dk zu3 zd4 hlezd4 (by have := HAB.out; have := HS.out; have := HI.out; have := HMzu3.out; have := HMzd4.out; omega) (by simp [hltzd4])).symm.trans HEzd4.out⟩⟩
                        · have hlezzd4 : ¬ (zu3 : Int) ≤ (zd4 : Int) := by omega
                          go_wp2_with fail
                          go_big_region_o
                          have HVzd4 := Aside0.mk (HWzd4.out.drew)
                          clear HWzd4
                          generalize World.drew wr = Vzd4 at HVzd4 ⊢
                          have HSzd4 : Aside0 (zd4 = Go.Sort.scanDown (fun x => !(Go.Proofs.ltOf El.cf x (dk[a]!))) dk zu3 j) := ⟨(Go.Proofs.scanDown_end (fun x => !(Go.Proofs.ltOf El.cf x (dk[a]!))) dk zu3 zd4 (Or.inl hlezd4)).symm.trans HEzd4.out⟩
                          clear HEzd4
                          have hb := Go.Proofs.part_break (Go.Proofs.ltOf El.cf) a i j dk HSzu3.out HSzd4.out (by omega)
                          rw [HO.out] at hb
                          have HB2 := Aside0.mk hb
                          clear hb
                          have hgt : (zd4 : Int) < (zu3 : Int) := by omega
                          go_wp2_with fail
                          by_cases hma : a = zd4
                          · subst hma
                            obtain ⟨pu, Au, nu, mu, tu, eu⟩ := El.cells dk[a]!
                            have ELu := Aside0.mk eu
                            clear eu
                            go_wp2_with fail
                            have q := el_cells HVzd4.out HH.out hg (by have := HAB.out; have := HS.out; have := HI.out; have := HMzu3.out; have := HMzd4.out; omega) (a) (by have := HAB.out; have := HS.out; have := HI.out; have := HMzu3.out; have := HMzd4.out; omega) _ _ _ ELu.out 0 #[]
                            have r := el_cells HVzd4.out HH.out hg (by have := HAB.out; have := HS.out; have := HI.out; have := HMzu3.out; have := HMzd4.out; omega) (a) (by have := HAB.out; have := HS.out; have := HI.out; have := HMzu3.out; have := HMzd4.out; omega) _ _ _ ELu.out 0 #[]
                            rw [Go.Sort.grow_empty, World.drewN_zero] at q r
                            obtain ⟨⟨q0, q1, q2⟩, q3, q4, q5⟩ := q
                            obtain ⟨⟨r0, r1, r2⟩, r3, r4, r5⟩ := r
                            
                            go_wp2_with fail
                            go_big_region_o
                            
                            have H8 := Aside0.mk (el_swap HVzd4.out HH.out hg (by have := HAB.out; have := HS.out; have := HI.out; have := HMzu3.out; have := HMzd4.out; omega) (a) (a) (by have := HAB.out; have := HS.out; have := HI.out; have := HMzu3.out; have := HMzd4.out; omega) (by have := HAB.out; have := HS.out; have := HI.out; have := HMzu3.out; have := HMzd4.out; omega) _ _ _ _ _ _ ELu.out ELu.out)
                            
                            clear HVzd4 q0 q1 q2 q3 q4 q5 r0 r1 r2 r3 r4 r5
                            generalize World.drew ((((((World.setCell Vzd4 ⟨g, (a) * 3, none⟩ _).setCell ⟨g, (a) * 3 + 1, none⟩ _).setCell ⟨g, (a) * 3 + 2, none⟩ _).setCell ⟨g, (a) * 3, none⟩ _).setCell ⟨g, (a) * 3 + 1, none⟩ _).setCell ⟨g, (a) * 3 + 2, none⟩ _) = W8 at H8  ⊢
                            go_wp2
                            go_ret2
                            rw [HF.out, HB2.out]
                            exact ⟨rfl, H8.out⟩
                          · 
                            have ia11 : (0 : Int) ≤ (zd4 : Int) := by have := HAB.out; have := HS.out; have := HI.out; have := HMzu3.out; have := HMzd4.out; omega
                            have ib11 : (zd4 : Int) < (d.size : Int) := by have := HAB.out; have := HS.out; have := HI.out; have := HMzu3.out; have := HMzd4.out; omega
                            have ic11 : ((zd4 : Int)).toNat = zd4 := by have := HAB.out; have := HS.out; have := HI.out; have := HMzu3.out; have := HMzd4.out; omega
                            have id11 : IntKind.i64.wrap ((zd4 : Int)) = (zd4 : Int) := by have := HAB.out; have := HS.out; have := HI.out; have := HMzu3.out; have := HMzd4.out; rw [IntKind.wrap_i64]; omega
                            obtain ⟨pu, Au, nu, mu, tu, eu⟩ := El.cells dk[zd4]!
                            have ELu := Aside0.mk eu
                            clear eu
                            obtain ⟨pv, Av, nv, mv, tv, ev⟩ := El.cells dk[a]!
                            have ELv := Aside0.mk ev
                            clear ev
                            go_wp2_with fail
                            have q := el_cells HVzd4.out HH.out hg (by have := HAB.out; have := HS.out; have := HI.out; have := HMzu3.out; have := HMzd4.out; omega) (zd4) (by have := HAB.out; have := HS.out; have := HI.out; have := HMzu3.out; have := HMzd4.out; omega) _ _ _ ELu.out 0 #[]
                            have r := el_cells HVzd4.out HH.out hg (by have := HAB.out; have := HS.out; have := HI.out; have := HMzu3.out; have := HMzd4.out; omega) (a) (by have := HAB.out; have := HS.out; have := HI.out; have := HMzu3.out; have := HMzd4.out; omega) _ _ _ ELv.out 0 #[]
                            rw [Go.Sort.grow_empty, World.drewN_zero] at q r
                            obtain ⟨⟨q0, q1, q2⟩, q3, q4, q5⟩ := q
                            obtain ⟨⟨r0, r1, r2⟩, r3, r4, r5⟩ := r
                            
                            go_wp2_with fail
                            go_big_region_o
                            
                            have H8 := Aside0.mk (el_swap HVzd4.out HH.out hg (by have := HAB.out; have := HS.out; have := HI.out; have := HMzu3.out; have := HMzd4.out; omega) (zd4) (a) (by have := HAB.out; have := HS.out; have := HI.out; have := HMzu3.out; have := HMzd4.out; omega) (by have := HAB.out; have := HS.out; have := HI.out; have := HMzu3.out; have := HMzd4.out; omega) _ _ _ _ _ _ ELv.out ELu.out)
                            
                            clear HVzd4 q0 q1 q2 q3 q4 q5 r0 r1 r2 r3 r4 r5
                            generalize World.drew ((((((World.setCell Vzd4 ⟨g, (zd4) * 3, none⟩ _).setCell ⟨g, (zd4) * 3 + 1, none⟩ _).setCell ⟨g, (zd4) * 3 + 2, none⟩ _).setCell ⟨g, (a) * 3, none⟩ _).setCell ⟨g, (a) * 3 + 1, none⟩ _).setCell ⟨g, (a) * 3 + 2, none⟩ _) = W8 at H8  ⊢
                            go_wp2
                            go_ret2
                            rw [HF.out, HB2.out]
                            exact ⟨rfl, H8.out⟩
              · have hltzd1 := ltOf_no hczd1
                rw [ltOf_no3 hczd1]
                go_wp2
                go_roundg (zd1 - 1)
                case measure => have := HAB.out; have := HS.out; have := HP.out; have := HMzu1.out; have := HMzd1.out; omega
                case rel => exact ⟨zd1 - 1, rfl, ⟨by have := HAB.out; have := HS.out; have := HP.out; have := HMzu1.out; have := HMzd1.out; omega⟩, HVzd1, ⟨(Go.Proofs.scanDown_go (fun x => !(Go.Proofs.ltOf El.cf x (dk1[a]!))) dk1 zu1 zd1 hlezd1 (by have := HAB.out; have := HS.out; have := HP.out; have := HMzu1.out; have := HMzd1.out; omega) (by simp [hltzd1])).symm.trans HEzd1.out⟩⟩
            · have hlezzd1 : ¬ (zu1 : Int) ≤ (zd1 : Int) := by omega
              go_wp2_with fail
              go_big_region_o
              have HVzd1 := Aside0.mk (HWzd1.out.drew)
              clear HWzd1
              generalize World.drew wr = Vzd1 at HVzd1 ⊢
              have HSzd1 : Aside0 (zd1 = Go.Sort.scanDown (fun x => !(Go.Proofs.ltOf El.cf x (dk1[a]!))) dk1 zu1 j1) := ⟨(Go.Proofs.scanDown_end (fun x => !(Go.Proofs.ltOf El.cf x (dk1[a]!))) dk1 zu1 zd1 (Or.inl hlezd1)).symm.trans HEzd1.out⟩
              clear HEzd1
              have HF := Aside0.mk (part_first_stop (Go.Proofs.ltOf El.cf) d a b p i1 j1 zu1 zd1 dk1 HP.out.1 HP.out.2.1 HD.out HSzu1.out HSzd1.out (by omega))
              have hgt : (zd1 : Int) < (zu1 : Int) := by omega
              go_wp2_with fail
              by_cases hma : a = zd1
              · subst hma
                obtain ⟨pu, Au, nu, mu, tu, eu⟩ := El.cells dk1[a]!
                have ELu := Aside0.mk eu
                clear eu
                go_wp2_with fail
                have q := el_cells HVzd1.out HH.out hg (by have := HAB.out; have := HS.out; have := HP.out; have := HMzu1.out; have := HMzd1.out; omega) (a) (by have := HAB.out; have := HS.out; have := HP.out; have := HMzu1.out; have := HMzd1.out; omega) _ _ _ ELu.out 0 #[]
                have r := el_cells HVzd1.out HH.out hg (by have := HAB.out; have := HS.out; have := HP.out; have := HMzu1.out; have := HMzd1.out; omega) (a) (by have := HAB.out; have := HS.out; have := HP.out; have := HMzu1.out; have := HMzd1.out; omega) _ _ _ ELu.out 0 #[]
                rw [Go.Sort.grow_empty, World.drewN_zero] at q r
                obtain ⟨⟨q0, q1, q2⟩, q3, q4, q5⟩ := q
                obtain ⟨⟨r0, r1, r2⟩, r3, r4, r5⟩ := r
                
                go_wp2_with fail
                go_big_region_o
                
                have H8 := Aside0.mk (el_swap HVzd1.out HH.out hg (by have := HAB.out; have := HS.out; have := HP.out; have := HMzu1.out; have := HMzd1.out; omega) (a) (a) (by have := HAB.out; have := HS.out; have := HP.out; have := HMzu1.out; have := HMzd1.out; omega) (by have := HAB.out; have := HS.out; have := HP.out; have := HMzu1.out; have := HMzd1.out; omega) _ _ _ _ _ _ ELu.out ELu.out)
                
                clear HVzd1 q0 q1 q2 q3 q4 q5 r0 r1 r2 r3 r4 r5
                generalize World.drew ((((((World.setCell Vzd1 ⟨g, (a) * 3, none⟩ _).setCell ⟨g, (a) * 3 + 1, none⟩ _).setCell ⟨g, (a) * 3 + 2, none⟩ _).setCell ⟨g, (a) * 3, none⟩ _).setCell ⟨g, (a) * 3 + 1, none⟩ _).setCell ⟨g, (a) * 3 + 2, none⟩ _) = W8 at H8  ⊢
                go_wp2
                go_ret2
                rw [HF.out]
                exact ⟨rfl, H8.out⟩
              · 
                have ia12 : (0 : Int) ≤ (zd1 : Int) := by have := HAB.out; have := HS.out; have := HP.out; have := HMzu1.out; have := HMzd1.out; omega
                have ib12 : (zd1 : Int) < (d.size : Int) := by have := HAB.out; have := HS.out; have := HP.out; have := HMzu1.out; have := HMzd1.out; omega
                have ic12 : ((zd1 : Int)).toNat = zd1 := by have := HAB.out; have := HS.out; have := HP.out; have := HMzu1.out; have := HMzd1.out; omega
                have id12 : IntKind.i64.wrap ((zd1 : Int)) = (zd1 : Int) := by have := HAB.out; have := HS.out; have := HP.out; have := HMzu1.out; have := HMzd1.out; rw [IntKind.wrap_i64]; omega
                obtain ⟨pu, Au, nu, mu, tu, eu⟩ := El.cells dk1[zd1]!
                have ELu := Aside0.mk eu
                clear eu
                obtain ⟨pv, Av, nv, mv, tv, ev⟩ := El.cells dk1[a]!
                have ELv := Aside0.mk ev
                clear ev
                go_wp2_with fail
                have q := el_cells HVzd1.out HH.out hg (by have := HAB.out; have := HS.out; have := HP.out; have := HMzu1.out; have := HMzd1.out; omega) (zd1) (by have := HAB.out; have := HS.out; have := HP.out; have := HMzu1.out; have := HMzd1.out; omega) _ _ _ ELu.out 0 #[]
                have r := el_cells HVzd1.out HH.out hg (by have := HAB.out; have := HS.out; have := HP.out; have := HMzu1.out; have := HMzd1.out; omega) (a) (by have := HAB.out; have := HS.out; have := HP.out; have := HMzu1.out; have := HMzd1.out; omega) _ _ _ ELv.out 0 #[]
                rw [Go.Sort.grow_empty, World.drewN_zero] at q r
                obtain ⟨⟨q0, q1, q2⟩, q3, q4, q5⟩ := q
                obtain ⟨⟨r0, r1, r2⟩, r3, r4, r5⟩ := r
                
                go_wp2_with fail
                go_big_region_o
                
                have H8 := Aside0.mk (el_swap HVzd1.out HH.out hg (by have := HAB.out; have := HS.out; have := HP.out; have := HMzu1.out; have := HMzd1.out; omega) (zd1) (a) (by have := HAB.out; have := HS.out; have := HP.out; have := HMzu1.out; have := HMzd1.out; omega) (by have := HAB.out; have := HS.out; have := HP.out; have := HMzu1.out; have := HMzd1.out; omega) _ _ _ _ _ _ ELv.out ELu.out)
                
                clear HVzd1 q0 q1 q2 q3 q4 q5 r0 r1 r2 r3 r4 r5
                generalize World.drew ((((((World.setCell Vzd1 ⟨g, (zd1) * 3, none⟩ _).setCell ⟨g, (zd1) * 3 + 1, none⟩ _).setCell ⟨g, (zd1) * 3 + 2, none⟩ _).setCell ⟨g, (a) * 3, none⟩ _).setCell ⟨g, (a) * 3 + 1, none⟩ _).setCell ⟨g, (a) * 3 + 2, none⟩ _) = W8 at H8  ⊢
                go_wp2
                go_ret2
                rw [HF.out]
                exact ⟨rfl, H8.out⟩
      · have hlezzu1 : ¬ (zu1 : Int) ≤ (j1 : Int) := by omega
        go_wp2_with fail
        go_big_region_o
        have HVzu1 := Aside0.mk (HWzu1.out.drew)
        clear HWzu1
        generalize World.drew wr = Vzu1 at HVzu1 ⊢
        have HSzu1 : Aside0 (zu1 = Go.Sort.scanUp (fun x => (Go.Proofs.ltOf El.cf x (dk1[a]!))) dk1 j1 i1) := ⟨(Go.Proofs.scanUp_end (fun x => (Go.Proofs.ltOf El.cf x (dk1[a]!))) dk1 j1 zu1 (Or.inl hlezu1)).symm.trans HEzu1.out⟩
        clear HEzu1
        go_wp2
        go_loopg [13] j1 (fun g2 vj wr2 => ∃ (zd2 : Nat), vj = .int .i64 zd2 ∧ Aside0 (zd2 ≤ j1 ∧ zu1 ≤ zd2 + 1 ∧ zd2 ≤ g2) ∧ Aside0 (SWK El.enc 3 W0 g 0 dk1 wr2) ∧ Aside0 (Go.Sort.scanDown (fun x => !(Go.Proofs.ltOf El.cf x (dk1[a]!))) dk1 zu1 zd2 = Go.Sort.scanDown (fun x => !(Go.Proofs.ltOf El.cf x (dk1[a]!))) dk1 zu1 j1))
        case atStart => exact ⟨j1, rfl, ⟨by have := HAB.out; have := HS.out; have := HP.out; have := HMzu1.out; omega⟩, HVzu1, ⟨rfl⟩⟩
        case round =>
          clear HVzu1
          obtain ⟨zd2, rfl, HMzd2, HWzd2, HEzd2⟩ := hrel
          by_cases hlezd2 : zu1 ≤ zd2
          · have hlezzd2 : (zu1 : Int) ≤ (zd2 : Int) := by omega
            have wzzd2 : IntKind.i64.wrap ((zd2 : Int) - 1) = ((zd2 - 1 : Nat) : Int) := by have := HAB.out; have := HS.out; have := HP.out; have := HMzu1.out; have := HMzd2.out; rw [IntKind.wrap_i64]; omega
            have ia13 : (0 : Int) ≤ (zd2 : Int) := by have := HAB.out; have := HS.out; have := HP.out; have := HMzu1.out; have := HMzd2.out; omega
            have ib13 : (zd2 : Int) < (d.size : Int) := by have := HAB.out; have := HS.out; have := HP.out; have := HMzu1.out; have := HMzd2.out; omega
            have ic13 : ((zd2 : Int)).toNat = zd2 := by have := HAB.out; have := HS.out; have := HP.out; have := HMzu1.out; have := HMzd2.out; omega
            have id13 : IntKind.i64.wrap ((zd2 : Int)) = (zd2 : Int) := by have := HAB.out; have := HS.out; have := HP.out; have := HMzu1.out; have := HMzd2.out; rw [IntKind.wrap_i64]; omega
            obtain ⟨pxzd2, Axzd2, nxzd2, mxzd2, txzd2, exzd2⟩ := El.cells dk1[zd2]!
            have ELxzd2 := Aside0.mk exzd2
            clear exzd2
            obtain ⟨pyzd2, Ayzd2, nyzd2, myzd2, tyzd2, eyzd2⟩ := El.cells dk1[a]!
            have ELyzd2 := Aside0.mk eyzd2
            clear eyzd2
            have qx := fun n os => el_cells HWzd2.out HH.out hg (by have := HAB.out; have := HS.out; have := HP.out; have := HMzu1.out; have := HMzd2.out; omega) (zd2) (by have := HAB.out; have := HS.out; have := HP.out; have := HMzu1.out; have := HMzd2.out; omega) _ _ _ ELxzd2.out n os
            have qy := fun n os => el_cells HWzd2.out HH.out hg (by have := HAB.out; have := HS.out; have := HP.out; have := HMzu1.out; have := HMzd2.out; omega) (a) (by have := HAB.out; have := HS.out; have := HP.out; have := HMzu1.out; have := HMzd2.out; omega) _ _ _ ELyzd2.out n os
            have q0 := fun n os => (qx n os).1.1
            have q1 := fun n os => (qx n os).1.2.1
            have q2 := fun n os => (qx n os).1.2.2
            have q3 := fun n os => (qy n os).1.1
            have q4 := fun n os => (qy n os).1.2.1
            have q5 := fun n os => (qy n os).1.2.2
            have cc := fun n os => ins_cmp HWzd2.out dk1[zd2]! dk1[a]! _ _ ELxzd2.out ELyzd2.out n os
            clear qx qy
            go_wp2_with fail
            go_quiet_grown (first | (go_at_call 92; refine Calls.grown_of (cc _ _)))
            have HVzd2 := Aside0.mk (HWzd2.out.grown nq osq)
            clear cc q0 q1 q2 q3 q4 q5 HWzd2
            generalize Go.Sort.grow (World.drewN wr nq) osq = Vzd2 at HVzd2 ⊢
            clear nq osq
            by_cases hczd2 : (dk1[zd2]!).cf (dk1[a]!) < 0
            · have hltzd2 := ltOf_yes hczd2
              rw [ltOf_yes3 hczd2]
              have HSzd2 : Aside0 (zd2 = Go.Sort.scanDown (fun x => !(Go.Proofs.ltOf El.cf x (dk1[a]!))) dk1 zu1 j1) := ⟨(Go.Proofs.scanDown_end (fun x => !(Go.Proofs.ltOf El.cf x (dk1[a]!))) dk1 zu1 zd2 (Or.inr (by simp [hltzd2]))).symm.trans HEzd2.out⟩
              clear HEzd2
              exact absurd hlezd2 (by have := HMzd2.out; omega)
            · have hltzd2 := ltOf_no hczd2
              rw [ltOf_no3 hczd2]
              go_wp2
              go_roundg (zd2 - 1)
              case measure => have := HAB.out; have := HS.out; have := HP.out; have := HMzu1.out; have := HMzd2.out; omega
              case rel => exact ⟨zd2 - 1, rfl, ⟨by have := HAB.out; have := HS.out; have := HP.out; have := HMzu1.out; have := HMzd2.out; omega⟩, HVzd2, ⟨(Go.Proofs.scanDown_go (fun x => !(Go.Proofs.ltOf El.cf x (dk1[a]!))) dk1 zu1 zd2 hlezd2 (by have := HAB.out; have := HS.out; have := HP.out; have := HMzu1.out; have := HMzd2.out; omega) (by simp [hltzd2])).symm.trans HEzd2.out⟩⟩
          · have hlezzd2 : ¬ (zu1 : Int) ≤ (zd2 : Int) := by omega
            go_wp2_with fail
            go_big_region_o
            have HVzd2 := Aside0.mk (HWzd2.out.drew)
            clear HWzd2
            generalize World.drew wr = Vzd2 at HVzd2 ⊢
            have HSzd2 : Aside0 (zd2 = Go.Sort.scanDown (fun x => !(Go.Proofs.ltOf El.cf x (dk1[a]!))) dk1 zu1 j1) := ⟨(Go.Proofs.scanDown_end (fun x => !(Go.Proofs.ltOf El.cf x (dk1[a]!))) dk1 zu1 zd2 (Or.inl hlezd2)).symm.trans HEzd2.out⟩
            clear HEzd2
            have HF := Aside0.mk (part_first_stop (Go.Proofs.ltOf El.cf) d a b p i1 j1 zu1 zd2 dk1 HP.out.1 HP.out.2.1 HD.out HSzu1.out HSzd2.out (by omega))
            have hgt : (zd2 : Int) < (zu1 : Int) := by omega
            go_wp2_with fail
            by_cases hma : a = zd2
            · subst hma
              obtain ⟨pu, Au, nu, mu, tu, eu⟩ := El.cells dk1[a]!
              have ELu := Aside0.mk eu
              clear eu
              go_wp2_with fail
              have q := el_cells HVzd2.out HH.out hg (by have := HAB.out; have := HS.out; have := HP.out; have := HMzu1.out; have := HMzd2.out; omega) (a) (by have := HAB.out; have := HS.out; have := HP.out; have := HMzu1.out; have := HMzd2.out; omega) _ _ _ ELu.out 0 #[]
              have r := el_cells HVzd2.out HH.out hg (by have := HAB.out; have := HS.out; have := HP.out; have := HMzu1.out; have := HMzd2.out; omega) (a) (by have := HAB.out; have := HS.out; have := HP.out; have := HMzu1.out; have := HMzd2.out; omega) _ _ _ ELu.out 0 #[]
              rw [Go.Sort.grow_empty, World.drewN_zero] at q r
              obtain ⟨⟨q0, q1, q2⟩, q3, q4, q5⟩ := q
              obtain ⟨⟨r0, r1, r2⟩, r3, r4, r5⟩ := r
              
              go_wp2_with fail
              go_big_region_o
              
              have H8 := Aside0.mk (el_swap HVzd2.out HH.out hg (by have := HAB.out; have := HS.out; have := HP.out; have := HMzu1.out; have := HMzd2.out; omega) (a) (a) (by have := HAB.out; have := HS.out; have := HP.out; have := HMzu1.out; have := HMzd2.out; omega) (by have := HAB.out; have := HS.out; have := HP.out; have := HMzu1.out; have := HMzd2.out; omega) _ _ _ _ _ _ ELu.out ELu.out)
              
              clear HVzd2 q0 q1 q2 q3 q4 q5 r0 r1 r2 r3 r4 r5
              generalize World.drew ((((((World.setCell Vzd2 ⟨g, (a) * 3, none⟩ _).setCell ⟨g, (a) * 3 + 1, none⟩ _).setCell ⟨g, (a) * 3 + 2, none⟩ _).setCell ⟨g, (a) * 3, none⟩ _).setCell ⟨g, (a) * 3 + 1, none⟩ _).setCell ⟨g, (a) * 3 + 2, none⟩ _) = W8 at H8  ⊢
              go_wp2
              go_ret2
              rw [HF.out]
              exact ⟨rfl, H8.out⟩
            · 
              have ia14 : (0 : Int) ≤ (zd2 : Int) := by have := HAB.out; have := HS.out; have := HP.out; have := HMzu1.out; have := HMzd2.out; omega
              have ib14 : (zd2 : Int) < (d.size : Int) := by have := HAB.out; have := HS.out; have := HP.out; have := HMzu1.out; have := HMzd2.out; omega
              have ic14 : ((zd2 : Int)).toNat = zd2 := by have := HAB.out; have := HS.out; have := HP.out; have := HMzu1.out; have := HMzd2.out; omega
              have id14 : IntKind.i64.wrap ((zd2 : Int)) = (zd2 : Int) := by have := HAB.out; have := HS.out; have := HP.out; have := HMzu1.out; have := HMzd2.out; rw [IntKind.wrap_i64]; omega
              obtain ⟨pu, Au, nu, mu, tu, eu⟩ := El.cells dk1[zd2]!
              have ELu := Aside0.mk eu
              clear eu
              obtain ⟨pv, Av, nv, mv, tv, ev⟩ := El.cells dk1[a]!
              have ELv := Aside0.mk ev
              clear ev
              go_wp2_with fail
              have q := el_cells HVzd2.out HH.out hg (by have := HAB.out; have := HS.out; have := HP.out; have := HMzu1.out; have := HMzd2.out; omega) (zd2) (by have := HAB.out; have := HS.out; have := HP.out; have := HMzu1.out; have := HMzd2.out; omega) _ _ _ ELu.out 0 #[]
              have r := el_cells HVzd2.out HH.out hg (by have := HAB.out; have := HS.out; have := HP.out; have := HMzu1.out; have := HMzd2.out; omega) (a) (by have := HAB.out; have := HS.out; have := HP.out; have := HMzu1.out; have := HMzd2.out; omega) _ _ _ ELv.out 0 #[]
              rw [Go.Sort.grow_empty, World.drewN_zero] at q r
              obtain ⟨⟨q0, q1, q2⟩, q3, q4, q5⟩ := q
              obtain ⟨⟨r0, r1, r2⟩, r3, r4, r5⟩ := r
              
              go_wp2_with fail
              go_big_region_o
              
              have H8 := Aside0.mk (el_swap HVzd2.out HH.out hg (by have := HAB.out; have := HS.out; have := HP.out; have := HMzu1.out; have := HMzd2.out; omega) (zd2) (a) (by have := HAB.out; have := HS.out; have := HP.out; have := HMzu1.out; have := HMzd2.out; omega) (by have := HAB.out; have := HS.out; have := HP.out; have := HMzu1.out; have := HMzd2.out; omega) _ _ _ _ _ _ ELv.out ELu.out)
              
              clear HVzd2 q0 q1 q2 q3 q4 q5 r0 r1 r2 r3 r4 r5
              generalize World.drew ((((((World.setCell Vzd2 ⟨g, (zd2) * 3, none⟩ _).setCell ⟨g, (zd2) * 3 + 1, none⟩ _).setCell ⟨g, (zd2) * 3 + 2, none⟩ _).setCell ⟨g, (a) * 3, none⟩ _).setCell ⟨g, (a) * 3 + 1, none⟩ _).setCell ⟨g, (a) * 3 + 2, none⟩ _) = W8 at H8  ⊢
              go_wp2
              go_ret2
              rw [HF.out]
              exact ⟨rfl, H8.out⟩

end Go.Proofs.YtlgndfplikhflaaDoor.G
