-- printed by wip/tool/gprint.py, a program of this work, out of the translation; Lean checks it
import Derived.Test.YtlgndfplikhflaaDoorGx0
import Derived.Test.YtlgndfplikhflaaDoorGx4
namespace Go.Proofs.YtlgndfplikhflaaDoor.G
open Go.RowKit Go.Proofs.YtlgndfplikhflaaDoorW.PrintWords Go.Proofs.YtlgndfplikhflaaDoorW.PrintLast Go.Proofs.YtlgndfplikhflaaDoorW.PrintMore Go.Proofs.YtlgndfplikhflaaDoorW.VWords Go.Proofs.YtlgndfplikhflaaDoorW.Tab
attribute [local go_sem] max2_int min2_int max_two min_two max_three min_three max_four min_four   -- for this text's walks alone
set_option linter.unusedVariables false
set_option linter.unusedSimpArgs false

/-! ### rank_reading_57: function 57 -/
/-! ### slices.partitionEqual at readings -/
set_option maxHeartbeats 8000000 in
set_option maxRecDepth 100000 in
/-- partitionEqual, of any stretch. -/
theorem partEqAll (W0 : World) (g cap : Nat) (ok : Nat → Prop) (d0 d : Array (El W0 g ok)) (hH : Go.Sort.HoldsK El.enc 3 W0 g 0 d0) (hg : g < W0.heap.size) (hs : d.size = d0.size) (hsz : d0.size < 4611686018427387904) (a b p : Nat) (hap : a ≤ p) (hpb : p < b) (hb : b ≤ d.size) (W : World) (hW : SWK El.enc 3 W0 g 0 d W) :
    Calls Tryd.prog 57 #[.slice (some ⟨g, 0, none⟩) d.size cap, .int .i64 a, .int .i64 b, .int .i64 p, .func (.methodOf 47 "interlocutor/rank.against") #[] #[]] W fun e w' => e = .returned (.int .i64 (Go.Sort.partitionEqual (Go.Proofs.ltOf El.cf) d a b p).1) ∧ SWK El.enc 3 W0 g 0 (Go.Sort.partitionEqual (Go.Proofs.ltOf El.cf) d a b p).2 w' := by
  have HH := Aside0.mk hH
  have mixed : Tryd.prog.follows .mixedOrders = true := by kernel_rfl
  have hm := meth_at
  have hmc := meth_call
  have H0 := Aside0.mk hW
  have HS := Aside0.mk (And.intro hs hsz)
  have HAB := Aside0.mk (And.intro hap (And.intro hpb hb))
  clear hap hpb hb
  clear hH hW hs hsz
  obtain ⟨i1, hi1⟩ : ∃ i1 : Nat, i1 = a + 1 := ⟨_, rfl⟩
  obtain ⟨j1, hj1⟩ : ∃ j1 : Nat, j1 = b - 1 := ⟨_, rfl⟩
  obtain ⟨dk1, hd1⟩ : ∃ dk1, dk1 = Go.Sort.swp d a p := ⟨_, rfl⟩
  have hz1 : dk1.size = d.size := by rw [hd1, Go.Sort.size_swp]
  have HP := Aside0.mk (And.intro hi1 (And.intro hj1 hz1))
  have HD := Aside0.mk hd1
  clear hi1 hj1 hd1 hz1
  have wa : IntKind.i64.wrap ((a : Int) + 1) = (i1 : Int) := by have := HAB.out; have := HS.out; have := HP.out; rw [IntKind.wrap_i64]; omega
  have wb : IntKind.i64.wrap ((b : Int) - 1) = (j1 : Int) := by have := HAB.out; have := HS.out; have := HP.out; rw [IntKind.wrap_i64]; omega
  have ia1 : (0 : Int) ≤ (a : Int) := by have := HAB.out; have := HS.out; omega
  have ib1 : (a : Int) < (d.size : Int) := by have := HAB.out; have := HS.out; omega
  have ic1 : ((a : Int)).toNat = a := by have := HAB.out; have := HS.out; omega
  have id1 : IntKind.i64.wrap ((a : Int)) = (a : Int) := by have := HAB.out; have := HS.out; rw [IntKind.wrap_i64]; omega
  go_enter Tryd.func57, Tryd.ntmps57
  go_upto_region 1 with fail
  go_cut [] from 13 (fun wx => SWK El.enc 3 W0 g 0 dk1 wx)
  case first =>
    by_cases hpa : a = p
    · subst hpa
      obtain ⟨px, Ax, nx, mx, tx, ex⟩ := El.cells d[a]!
      have ELx := Aside0.mk ex
      clear ex
      go_wp2_with fail
      have q := el_cells H0.out HH.out hg (by have := HAB.out; have := HS.out; omega) (a) (by have := HAB.out; have := HS.out; omega) _ _ _ ELx.out 0 #[]
      have r := el_cells H0.out HH.out hg (by have := HAB.out; have := HS.out; omega) (a) (by have := HAB.out; have := HS.out; omega) _ _ _ ELx.out 0 #[]
      rw [Go.Sort.grow_empty, World.drewN_zero] at q r
      obtain ⟨⟨q0, q1, q2⟩, q3, q4, q5⟩ := q
      obtain ⟨⟨r0, r1, r2⟩, r3, r4, r5⟩ := r
      
      go_wp2_with fail
      go_big_region_o
      
      have H3 := Aside0.mk (el_swap H0.out HH.out hg (by have := HAB.out; have := HS.out; omega) (a) (a) (by have := HAB.out; have := HS.out; omega) (by have := HAB.out; have := HS.out; omega) _ _ _ _ _ _ ELx.out ELx.out)
      
      clear H0 q0 q1 q2 q3 q4 q5 r0 r1 r2 r3 r4 r5
      generalize World.drew ((((((World.setCell W ⟨g, (a) * 3, none⟩ _).setCell ⟨g, (a) * 3 + 1, none⟩ _).setCell ⟨g, (a) * 3 + 2, none⟩ _).setCell ⟨g, (a) * 3, none⟩ _).setCell ⟨g, (a) * 3 + 1, none⟩ _).setCell ⟨g, (a) * 3 + 2, none⟩ _) = W3 at H3  ⊢
      go_wp2
      go_meet
      exact HD.out ▸ H3.out
    · 
      have ia2 : (0 : Int) ≤ (p : Int) := by have := HAB.out; have := HS.out; omega
      have ib2 : (p : Int) < (d.size : Int) := by have := HAB.out; have := HS.out; omega
      have ic2 : ((p : Int)).toNat = p := by have := HAB.out; have := HS.out; omega
      have id2 : IntKind.i64.wrap ((p : Int)) = (p : Int) := by have := HAB.out; have := HS.out; rw [IntKind.wrap_i64]; omega
      obtain ⟨px, Ax, nx, mx, tx, ex⟩ := El.cells d[a]!
      have ELx := Aside0.mk ex
      clear ex
      obtain ⟨py, Ay, ny, my, ty, ey⟩ := El.cells d[p]!
      have ELy := Aside0.mk ey
      clear ey
      go_wp2_with fail
      have q := el_cells H0.out HH.out hg (by have := HAB.out; have := HS.out; omega) (a) (by have := HAB.out; have := HS.out; omega) _ _ _ ELx.out 0 #[]
      have r := el_cells H0.out HH.out hg (by have := HAB.out; have := HS.out; omega) (p) (by have := HAB.out; have := HS.out; omega) _ _ _ ELy.out 0 #[]
      rw [Go.Sort.grow_empty, World.drewN_zero] at q r
      obtain ⟨⟨q0, q1, q2⟩, q3, q4, q5⟩ := q
      obtain ⟨⟨r0, r1, r2⟩, r3, r4, r5⟩ := r
      
      go_wp2_with fail
      go_big_region_o
      
      have H3 := Aside0.mk (el_swap H0.out HH.out hg (by have := HAB.out; have := HS.out; omega) (a) (p) (by have := HAB.out; have := HS.out; omega) (by have := HAB.out; have := HS.out; omega) _ _ _ _ _ _ ELy.out ELx.out)
      
      clear H0 q0 q1 q2 q3 q4 q5 r0 r1 r2 r3 r4 r5
      generalize World.drew ((((((World.setCell W ⟨g, (a) * 3, none⟩ _).setCell ⟨g, (a) * 3 + 1, none⟩ _).setCell ⟨g, (a) * 3 + 2, none⟩ _).setCell ⟨g, (p) * 3, none⟩ _).setCell ⟨g, (p) * 3 + 1, none⟩ _).setCell ⟨g, (p) * 3 + 2, none⟩ _) = W3 at H3  ⊢
      go_wp2
      go_meet
      exact HD.out ▸ H3.out
  case rest =>
    have H3 := Aside0.mk hcut
    clear hcut H0
    go_wp2
    go_loopg [11, 12] (b - (a + 1)) (fun g1 v8 v9 wr => ∃ (i j : Nat) (dk : Array (El W0 g ok)), v8 = .int .i64 i ∧ v9 = .int .i64 j ∧ Aside0 (a < i ∧ i ≤ j + 1 ∧ j < b ∧ j + 1 - i ≤ g1 ∧ dk.size = d.size) ∧ Aside0 (SWK El.enc 3 W0 g 0 dk wr) ∧ Aside0 (Go.Sort.partEqLoop (Go.Proofs.ltOf El.cf) a i j dk = Go.Sort.partEqLoop (Go.Proofs.ltOf El.cf) a i1 j1 dk1))
    case atStart => exact ⟨i1, j1, dk1, rfl, rfl, ⟨by have := HAB.out; have := HS.out; have := HP.out; omega⟩, H3, ⟨rfl⟩⟩
    case round =>
      clear H3
      obtain ⟨i, j, dk, rfl, rfl, HI, HK, HO⟩ := hrel
      go_wp2
      go_loopg [11] (j + 1 - i) (fun g2 vi wr2 => ∃ (zu1 : Nat), vi = .int .i64 zu1 ∧ Aside0 (i ≤ zu1 ∧ zu1 ≤ j + 1 ∧ j + 1 - zu1 ≤ g2) ∧ Aside0 (SWK El.enc 3 W0 g 0 dk wr2) ∧ Aside0 (Go.Sort.scanUp (fun x => !(Go.Proofs.ltOf El.cf (dk[a]!) x)) dk j zu1 = Go.Sort.scanUp (fun x => !(Go.Proofs.ltOf El.cf (dk[a]!) x)) dk j i))
      case atStart => exact ⟨i, rfl, ⟨by have := HAB.out; have := HS.out; have := HI.out; omega⟩, HK, ⟨rfl⟩⟩
      case round =>
        clear HK
        obtain ⟨zu1, rfl, HMzu1, HWzu1, HEzu1⟩ := hrel
        by_cases hlezu1 : zu1 ≤ j
        · have hlezzu1 : (zu1 : Int) ≤ (j : Int) := by omega
          have wzzu1 : IntKind.i64.wrap ((zu1 : Int) + 1) = (zu1 : Int) + 1 := by have := HAB.out; have := HS.out; have := HI.out; have := HMzu1.out; rw [IntKind.wrap_i64]; omega
          have ia3 : (0 : Int) ≤ (zu1 : Int) := by have := HAB.out; have := HS.out; have := HI.out; have := HMzu1.out; omega
          have ib3 : (zu1 : Int) < (d.size : Int) := by have := HAB.out; have := HS.out; have := HI.out; have := HMzu1.out; omega
          have ic3 : ((zu1 : Int)).toNat = zu1 := by have := HAB.out; have := HS.out; have := HI.out; have := HMzu1.out; omega
          have id3 : IntKind.i64.wrap ((zu1 : Int)) = (zu1 : Int) := by have := HAB.out; have := HS.out; have := HI.out; have := HMzu1.out; rw [IntKind.wrap_i64]; omega
          obtain ⟨pxzu1, Axzu1, nxzu1, mxzu1, txzu1, exzu1⟩ := El.cells dk[a]!
          have ELxzu1 := Aside0.mk exzu1
          clear exzu1
          obtain ⟨pyzu1, Ayzu1, nyzu1, myzu1, tyzu1, eyzu1⟩ := El.cells dk[zu1]!
          have ELyzu1 := Aside0.mk eyzu1
          clear eyzu1
          have qx := fun n os => el_cells HWzu1.out HH.out hg (by have := HAB.out; have := HS.out; have := HI.out; have := HMzu1.out; omega) (a) (by have := HAB.out; have := HS.out; have := HI.out; have := HMzu1.out; omega) _ _ _ ELxzu1.out n os
          have qy := fun n os => el_cells HWzu1.out HH.out hg (by have := HAB.out; have := HS.out; have := HI.out; have := HMzu1.out; omega) (zu1) (by have := HAB.out; have := HS.out; have := HI.out; have := HMzu1.out; omega) _ _ _ ELyzu1.out n os
          have q0 := fun n os => (qx n os).1.1
          have q1 := fun n os => (qx n os).1.2.1
          have q2 := fun n os => (qx n os).1.2.2
          have q3 := fun n os => (qy n os).1.1
          have q4 := fun n os => (qy n os).1.2.1
          have q5 := fun n os => (qy n os).1.2.2
          have cc := fun n os => ins_cmp HWzu1.out dk[a]! dk[zu1]! _ _ ELxzu1.out ELyzu1.out n os
          clear qx qy
          go_wp2_with fail
          go_quiet_grown (first | (go_at_call 92; refine Calls.grown_of (cc _ _)))
          have HVzu1 := Aside0.mk (HWzu1.out.grown nq osq)
          clear cc q0 q1 q2 q3 q4 q5 HWzu1
          generalize Go.Sort.grow (World.drewN wr nq) osq = Vzu1 at HVzu1 ⊢
          clear nq osq
          by_cases hczu1 : (dk[a]!).cf (dk[zu1]!) < 0
          · have hltzu1 := ltOf_yes hczu1
            rw [ltOf_yes3 hczu1]
            have HSzu1 : Aside0 (zu1 = Go.Sort.scanUp (fun x => !(Go.Proofs.ltOf El.cf (dk[a]!) x)) dk j i) := ⟨(Go.Proofs.scanUp_end (fun x => !(Go.Proofs.ltOf El.cf (dk[a]!) x)) dk j zu1 (Or.inr (by simp [hltzu1]))).symm.trans HEzu1.out⟩
            clear HEzu1
            go_wp2
            go_loopg [12] j (fun g2 vj wr2 => ∃ (zd1 : Nat), vj = .int .i64 zd1 ∧ Aside0 (zd1 ≤ j ∧ zu1 ≤ zd1 + 1 ∧ zd1 ≤ g2) ∧ Aside0 (SWK El.enc 3 W0 g 0 dk wr2) ∧ Aside0 (Go.Sort.scanDown (fun x => (Go.Proofs.ltOf El.cf (dk[a]!) x)) dk zu1 zd1 = Go.Sort.scanDown (fun x => (Go.Proofs.ltOf El.cf (dk[a]!) x)) dk zu1 j))
            case atStart => exact ⟨j, rfl, ⟨by have := HAB.out; have := HS.out; have := HI.out; have := HMzu1.out; omega⟩, HVzu1, ⟨rfl⟩⟩
            case round =>
              clear HVzu1
              obtain ⟨zd1, rfl, HMzd1, HWzd1, HEzd1⟩ := hrel
              by_cases hlezd1 : zu1 ≤ zd1
              · have hlezzd1 : (zu1 : Int) ≤ (zd1 : Int) := by omega
                have wzzd1 : IntKind.i64.wrap ((zd1 : Int) - 1) = ((zd1 - 1 : Nat) : Int) := by have := HAB.out; have := HS.out; have := HI.out; have := HMzu1.out; have := HMzd1.out; rw [IntKind.wrap_i64]; omega
                have ia4 : (0 : Int) ≤ (zd1 : Int) := by have := HAB.out; have := HS.out; have := HI.out; have := HMzu1.out; have := HMzd1.out; omega
                have ib4 : (zd1 : Int) < (d.size : Int) := by have := HAB.out; have := HS.out; have := HI.out; have := HMzu1.out; have := HMzd1.out; omega
                have ic4 : ((zd1 : Int)).toNat = zd1 := by have := HAB.out; have := HS.out; have := HI.out; have := HMzu1.out; have := HMzd1.out; omega
                have id4 : IntKind.i64.wrap ((zd1 : Int)) = (zd1 : Int) := by have := HAB.out; have := HS.out; have := HI.out; have := HMzu1.out; have := HMzd1.out; rw [IntKind.wrap_i64]; omega
                obtain ⟨pxzd1, Axzd1, nxzd1, mxzd1, txzd1, exzd1⟩ := El.cells dk[a]!
                have ELxzd1 := Aside0.mk exzd1
                clear exzd1
                obtain ⟨pyzd1, Ayzd1, nyzd1, myzd1, tyzd1, eyzd1⟩ := El.cells dk[zd1]!
                have ELyzd1 := Aside0.mk eyzd1
                clear eyzd1
                have qx := fun n os => el_cells HWzd1.out HH.out hg (by have := HAB.out; have := HS.out; have := HI.out; have := HMzu1.out; have := HMzd1.out; omega) (a) (by have := HAB.out; have := HS.out; have := HI.out; have := HMzu1.out; have := HMzd1.out; omega) _ _ _ ELxzd1.out n os
                have qy := fun n os => el_cells HWzd1.out HH.out hg (by have := HAB.out; have := HS.out; have := HI.out; have := HMzu1.out; have := HMzd1.out; omega) (zd1) (by have := HAB.out; have := HS.out; have := HI.out; have := HMzu1.out; have := HMzd1.out; omega) _ _ _ ELyzd1.out n os
                have q0 := fun n os => (qx n os).1.1
                have q1 := fun n os => (qx n os).1.2.1
                have q2 := fun n os => (qx n os).1.2.2
                have q3 := fun n os => (qy n os).1.1
                have q4 := fun n os => (qy n os).1.2.1
                have q5 := fun n os => (qy n os).1.2.2
                have cc := fun n os => ins_cmp HWzd1.out dk[a]! dk[zd1]! _ _ ELxzd1.out ELyzd1.out n os
                clear qx qy
                go_wp2_with fail
                go_quiet_grown (first | (go_at_call 92; refine Calls.grown_of (cc _ _)))
                have HVzd1 := Aside0.mk (HWzd1.out.grown nq osq)
                clear cc q0 q1 q2 q3 q4 q5 HWzd1
                generalize Go.Sort.grow (World.drewN wr nq) osq = Vzd1 at HVzd1 ⊢
                clear nq osq
                by_cases hczd1 : (dk[a]!).cf (dk[zd1]!) < 0
                · have hltzd1 := ltOf_yes hczd1
                  rw [ltOf_yes3 hczd1]
                  go_wp2
                  go_roundg (zd1 - 1)
                  case measure => have := HAB.out; have := HS.out; have := HI.out; have := HMzu1.out; have := HMzd1.out; omega
                  case rel => exact ⟨zd1 - 1, rfl, ⟨by have := HAB.out; have := HS.out; have := HI.out; have := HMzu1.out; have := HMzd1.out; omega⟩, HVzd1, ⟨(Go.Proofs.scanDown_go (fun x => (Go.Proofs.ltOf El.cf (dk[a]!) x)) dk zu1 zd1 hlezd1 (by have := HAB.out; have := HS.out; have := HI.out; have := HMzu1.out; have := HMzd1.out; omega) (by simp [hltzd1])).symm.trans HEzd1.out⟩⟩
                · have hltzd1 := ltOf_no hczd1
                  rw [ltOf_no3 hczd1]
                  have HSzd1 : Aside0 (zd1 = Go.Sort.scanDown (fun x => (Go.Proofs.ltOf El.cf (dk[a]!) x)) dk zu1 j) := ⟨(Go.Proofs.scanDown_end (fun x => (Go.Proofs.ltOf El.cf (dk[a]!) x)) dk zu1 zd1 (Or.inr (by simp [hltzd1]))).symm.trans HEzd1.out⟩
                  clear HEzd1
                  have hkm : zu1 < zd1 := Nat.lt_of_le_of_ne hlezd1 (fun e => by subst e; first | exact hczd1 hczu1 | exact absurd hczu1 (Int.not_lt.2 hczd1))
                  have w1 : IntKind.i64.wrap ((zu1 : Int) + 1) = (zu1 : Int) + 1 := by have := HAB.out; have := HS.out; have := HI.out; have := HMzu1.out; have := HMzd1.out; rw [IntKind.wrap_i64]; omega
                  have w2 : IntKind.i64.wrap ((zd1 : Int) - 1) = ((zd1 - 1 : Nat) : Int) := by have := HAB.out; have := HS.out; have := HI.out; have := HMzu1.out; have := HMzd1.out; rw [IntKind.wrap_i64]; omega
                  have hgt : ¬ (zd1 : Int) < (zu1 : Int) := by omega
                  go_wp2_with fail
                  have ia5 : (0 : Int) ≤ (zu1 : Int) := by have := HAB.out; have := HS.out; have := HI.out; have := HMzu1.out; have := HMzd1.out; omega
                  have ib5 : (zu1 : Int) < (d.size : Int) := by have := HAB.out; have := HS.out; have := HI.out; have := HMzu1.out; have := HMzd1.out; omega
                  have ic5 : ((zu1 : Int)).toNat = zu1 := by have := HAB.out; have := HS.out; have := HI.out; have := HMzu1.out; have := HMzd1.out; omega
                  have id5 : IntKind.i64.wrap ((zu1 : Int)) = (zu1 : Int) := by have := HAB.out; have := HS.out; have := HI.out; have := HMzu1.out; have := HMzd1.out; rw [IntKind.wrap_i64]; omega
                  obtain ⟨pu, Au, nu, mu, tu, eu⟩ := El.cells dk[zu1]!
                  have ELu := Aside0.mk eu
                  clear eu
                  obtain ⟨pv, Av, nv, mv, tv, ev⟩ := El.cells dk[zd1]!
                  have ELv := Aside0.mk ev
                  clear ev
                  go_wp2_with fail
                  have q := el_cells HVzd1.out HH.out hg (by have := HAB.out; have := HS.out; have := HI.out; have := HMzu1.out; have := HMzd1.out; omega) (zu1) (by have := HAB.out; have := HS.out; have := HI.out; have := HMzu1.out; have := HMzd1.out; omega) _ _ _ ELu.out 0 #[]
                  have r := el_cells HVzd1.out HH.out hg (by have := HAB.out; have := HS.out; have := HI.out; have := HMzu1.out; have := HMzd1.out; omega) (zd1) (by have := HAB.out; have := HS.out; have := HI.out; have := HMzu1.out; have := HMzd1.out; omega) _ _ _ ELv.out 0 #[]
                  rw [Go.Sort.grow_empty, World.drewN_zero] at q r
                  obtain ⟨⟨q0, q1, q2⟩, q3, q4, q5⟩ := q
                  obtain ⟨⟨r0, r1, r2⟩, r3, r4, r5⟩ := r
                  
                  go_wp2_with fail
                  go_big_region_o
                  
                  have H8 := Aside0.mk (el_swap HVzd1.out HH.out hg (by have := HAB.out; have := HS.out; have := HI.out; have := HMzu1.out; have := HMzd1.out; omega) (zu1) (zd1) (by have := HAB.out; have := HS.out; have := HI.out; have := HMzu1.out; have := HMzd1.out; omega) (by have := HAB.out; have := HS.out; have := HI.out; have := HMzu1.out; have := HMzd1.out; omega) _ _ _ _ _ _ ELv.out ELu.out)
                  
                  clear HVzd1 q0 q1 q2 q3 q4 q5 r0 r1 r2 r3 r4 r5
                  generalize World.drew ((((((World.setCell Vzd1 ⟨g, (zu1) * 3, none⟩ _).setCell ⟨g, (zu1) * 3 + 1, none⟩ _).setCell ⟨g, (zu1) * 3 + 2, none⟩ _).setCell ⟨g, (zd1) * 3, none⟩ _).setCell ⟨g, (zd1) * 3 + 1, none⟩ _).setCell ⟨g, (zd1) * 3 + 2, none⟩ _) = W8 at H8  ⊢
                  go_wp2
                  go_roundg (zd1 - 1 + 1 - (zu1 + 1))
                  case measure => have := HAB.out; have := HS.out; have := HI.out; have := HMzu1.out; have := HMzd1.out; omega
                  case rel => exact ⟨zu1 + 1, zd1 - 1, _, by go_num, rfl, ⟨by rw [Go.Sort.size_swp]; have := HAB.out; have := HS.out; have := HI.out; have := HMzu1.out; have := HMzd1.out; omega⟩, H8, ⟨by rw [← HO.out]; exact (Go.Proofs.partEq_go (Go.Proofs.ltOf El.cf) a i j dk HSzu1.out HSzd1.out (by omega)).symm⟩⟩
              · have hlezzd1 : ¬ (zu1 : Int) ≤ (zd1 : Int) := by omega
                go_wp2_with fail
                go_big_region_o
                have HVzd1 := Aside0.mk (HWzd1.out.drew)
                clear HWzd1
                generalize World.drew wr = Vzd1 at HVzd1 ⊢
                have HSzd1 : Aside0 (zd1 = Go.Sort.scanDown (fun x => (Go.Proofs.ltOf El.cf (dk[a]!) x)) dk zu1 j) := ⟨(Go.Proofs.scanDown_end (fun x => (Go.Proofs.ltOf El.cf (dk[a]!) x)) dk zu1 zd1 (Or.inl hlezd1)).symm.trans HEzd1.out⟩
                clear HEzd1
                have hgt : (zd1 : Int) < (zu1 : Int) := by omega
                go_wp2
                go_ret
                have e := Go.Proofs.partEq_break (Go.Proofs.ltOf El.cf) a i j dk HSzu1.out HSzd1.out (by omega)
                rw [HO.out, HP.out.1, HP.out.2.1, HD.out] at e
                refine ⟨?_, ?_⟩
                · (unfold Go.Sort.partitionEqual; rw [e]) <;> rfl
                · unfold Go.Sort.partitionEqual; rw [e]; exact HVzd1.out
          · have hltzu1 := ltOf_no hczu1
            rw [ltOf_no3 hczu1]
            go_wp2
            go_roundg (j + 1 - (zu1 + 1))
            case measure => have := HMzu1.out; omega
            case rel => exact ⟨zu1 + 1, by go_num, ⟨by have := HMzu1.out; omega⟩, HVzu1, ⟨(Go.Proofs.scanUp_go (fun x => !(Go.Proofs.ltOf El.cf (dk[a]!) x)) dk j zu1 hlezu1 (by simp [hltzu1])).symm.trans HEzu1.out⟩⟩
        · have hlezzu1 : ¬ (zu1 : Int) ≤ (j : Int) := by omega
          go_wp2_with fail
          go_big_region_o
          have HVzu1 := Aside0.mk (HWzu1.out.drew)
          clear HWzu1
          generalize World.drew wr = Vzu1 at HVzu1 ⊢
          have HSzu1 : Aside0 (zu1 = Go.Sort.scanUp (fun x => !(Go.Proofs.ltOf El.cf (dk[a]!) x)) dk j i) := ⟨(Go.Proofs.scanUp_end (fun x => !(Go.Proofs.ltOf El.cf (dk[a]!) x)) dk j zu1 (Or.inl hlezu1)).symm.trans HEzu1.out⟩
          clear HEzu1
          go_wp2
          go_loopg [12] j (fun g2 vj wr2 => ∃ (zd2 : Nat), vj = .int .i64 zd2 ∧ Aside0 (zd2 ≤ j ∧ zu1 ≤ zd2 + 1 ∧ zd2 ≤ g2) ∧ Aside0 (SWK El.enc 3 W0 g 0 dk wr2) ∧ Aside0 (Go.Sort.scanDown (fun x => (Go.Proofs.ltOf El.cf (dk[a]!) x)) dk zu1 zd2 = Go.Sort.scanDown (fun x => (Go.Proofs.ltOf El.cf (dk[a]!) x)) dk zu1 j))
          case atStart => exact ⟨j, rfl, ⟨by have := HAB.out; have := HS.out; have := HI.out; have := HMzu1.out; omega⟩, HVzu1, ⟨rfl⟩⟩
          case round =>
            clear HVzu1
            obtain ⟨zd2, rfl, HMzd2, HWzd2, HEzd2⟩ := hrel
            by_cases hlezd2 : zu1 ≤ zd2
            · have hlezzd2 : (zu1 : Int) ≤ (zd2 : Int) := by omega
              have wzzd2 : IntKind.i64.wrap ((zd2 : Int) - 1) = ((zd2 - 1 : Nat) : Int) := by have := HAB.out; have := HS.out; have := HI.out; have := HMzu1.out; have := HMzd2.out; rw [IntKind.wrap_i64]; omega
              have ia6 : (0 : Int) ≤ (zd2 : Int) := by have := HAB.out; have := HS.out; have := HI.out; have := HMzu1.out; have := HMzd2.out; omega
              have ib6 : (zd2 : Int) < (d.size : Int) := by have := HAB.out; have := HS.out; have := HI.out; have := HMzu1.out; have := HMzd2.out; omega
              have ic6 : ((zd2 : Int)).toNat = zd2 := by have := HAB.out; have := HS.out; have := HI.out; have := HMzu1.out; have := HMzd2.out; omega
              have id6 : IntKind.i64.wrap ((zd2 : Int)) = (zd2 : Int) := by have := HAB.out; have := HS.out; have := HI.out; have := HMzu1.out; have := HMzd2.out; rw [IntKind.wrap_i64]; omega
              obtain ⟨pxzd2, Axzd2, nxzd2, mxzd2, txzd2, exzd2⟩ := El.cells dk[a]!
              have ELxzd2 := Aside0.mk exzd2
              clear exzd2
              obtain ⟨pyzd2, Ayzd2, nyzd2, myzd2, tyzd2, eyzd2⟩ := El.cells dk[zd2]!
              have ELyzd2 := Aside0.mk eyzd2
              clear eyzd2
              have qx := fun n os => el_cells HWzd2.out HH.out hg (by have := HAB.out; have := HS.out; have := HI.out; have := HMzu1.out; have := HMzd2.out; omega) (a) (by have := HAB.out; have := HS.out; have := HI.out; have := HMzu1.out; have := HMzd2.out; omega) _ _ _ ELxzd2.out n os
              have qy := fun n os => el_cells HWzd2.out HH.out hg (by have := HAB.out; have := HS.out; have := HI.out; have := HMzu1.out; have := HMzd2.out; omega) (zd2) (by have := HAB.out; have := HS.out; have := HI.out; have := HMzu1.out; have := HMzd2.out; omega) _ _ _ ELyzd2.out n os
              have q0 := fun n os => (qx n os).1.1
              have q1 := fun n os => (qx n os).1.2.1
              have q2 := fun n os => (qx n os).1.2.2
              have q3 := fun n os => (qy n os).1.1
              have q4 := fun n os => (qy n os).1.2.1
              have q5 := fun n os => (qy n os).1.2.2
              have cc := fun n os => ins_cmp HWzd2.out dk[a]! dk[zd2]! _ _ ELxzd2.out ELyzd2.out n os
              clear qx qy
              go_wp2_with fail
              go_quiet_grown (first | (go_at_call 92; refine Calls.grown_of (cc _ _)))
              have HVzd2 := Aside0.mk (HWzd2.out.grown nq osq)
              clear cc q0 q1 q2 q3 q4 q5 HWzd2
              generalize Go.Sort.grow (World.drewN wr nq) osq = Vzd2 at HVzd2 ⊢
              clear nq osq
              by_cases hczd2 : (dk[a]!).cf (dk[zd2]!) < 0
              · have hltzd2 := ltOf_yes hczd2
                rw [ltOf_yes3 hczd2]
                go_wp2
                go_roundg (zd2 - 1)
                case measure => have := HAB.out; have := HS.out; have := HI.out; have := HMzu1.out; have := HMzd2.out; omega
                case rel => exact ⟨zd2 - 1, rfl, ⟨by have := HAB.out; have := HS.out; have := HI.out; have := HMzu1.out; have := HMzd2.out; omega⟩, HVzd2, ⟨(Go.Proofs.scanDown_go (fun x => (Go.Proofs.ltOf El.cf (dk[a]!) x)) dk zu1 zd2 hlezd2 (by have := HAB.out; have := HS.out; have := HI.out; have := HMzu1.out; have := HMzd2.out; omega) (by simp [hltzd2])).symm.trans HEzd2.out⟩⟩
              · have hltzd2 := ltOf_no hczd2
                rw [ltOf_no3 hczd2]
                have HSzd2 : Aside0 (zd2 = Go.Sort.scanDown (fun x => (Go.Proofs.ltOf El.cf (dk[a]!) x)) dk zu1 j) := ⟨(Go.Proofs.scanDown_end (fun x => (Go.Proofs.ltOf El.cf (dk[a]!) x)) dk zu1 zd2 (Or.inr (by simp [hltzd2]))).symm.trans HEzd2.out⟩
                clear HEzd2
                exact absurd hlezd2 (by have := HMzd2.out; omega)
            · have hlezzd2 : ¬ (zu1 : Int) ≤ (zd2 : Int) := by omega
              go_wp2_with fail
              go_big_region_o
              have HVzd2 := Aside0.mk (HWzd2.out.drew)
              clear HWzd2
              generalize World.drew wr = Vzd2 at HVzd2 ⊢
              have HSzd2 : Aside0 (zd2 = Go.Sort.scanDown (fun x => (Go.Proofs.ltOf El.cf (dk[a]!) x)) dk zu1 j) := ⟨(Go.Proofs.scanDown_end (fun x => (Go.Proofs.ltOf El.cf (dk[a]!) x)) dk zu1 zd2 (Or.inl hlezd2)).symm.trans HEzd2.out⟩
              clear HEzd2
              have hgt : (zd2 : Int) < (zu1 : Int) := by omega
              go_wp2
              go_ret
              have e := Go.Proofs.partEq_break (Go.Proofs.ltOf El.cf) a i j dk HSzu1.out HSzd2.out (by omega)
              rw [HO.out, HP.out.1, HP.out.2.1, HD.out] at e
              refine ⟨?_, ?_⟩
              · (unfold Go.Sort.partitionEqual; rw [e]) <;> rfl
              · unfold Go.Sort.partitionEqual; rw [e]; exact HVzd2.out

end Go.Proofs.YtlgndfplikhflaaDoor.G
