-- printed by wip/tool/gprint.py, a program of this work, out of the translation; Lean checks it
import Derived.Test.YtlgndfplikhflaaDoorGx0
import Derived.Test.YtlgndfplikhflaaDoorGx4
namespace Go.Proofs.YtlgndfplikhflaaDoor.G
open Go.RowKit Go.Proofs.YtlgndfplikhflaaDoorW.PrintWords Go.Proofs.YtlgndfplikhflaaDoorW.PrintLast Go.Proofs.YtlgndfplikhflaaDoorW.PrintMore Go.Proofs.YtlgndfplikhflaaDoorW.VWords Go.Proofs.YtlgndfplikhflaaDoorW.Tab
attribute [local go_sem] max2_int min2_int max_two min_two max_three min_three max_four min_four   -- for this text's walks alone
set_option linter.unusedVariables false
set_option linter.unusedSimpArgs false

/-! ### rank_reading_55: function 55 -/
/-! ### slices.reverseRange at readings -/
set_option maxHeartbeats 8000000 in
set_option maxRecDepth 100000 in
/-- reverseRange, of any stretch. -/
theorem revAll (W0 : World) (g cap : Nat) (ok : Nat → Prop) (d0 d : Array (El W0 g ok)) (hH : Go.Sort.HoldsK El.enc 3 W0 g 0 d0) (hg : g < W0.heap.size) (hs : d.size = d0.size) (hsz : d0.size < 4611686018427387904) (a b : Nat) (hab : a ≤ b) (hb1 : 1 ≤ b) (hb : b ≤ d.size) (W : World) (hW : SWK El.enc 3 W0 g 0 d W) :
    Calls Tryd.prog 55 #[.slice (some ⟨g, 0, none⟩) d.size cap, .int .i64 a, .int .i64 b, .func (.methodOf 47 "interlocutor/rank.against") #[] #[]] W fun e w' => e = .returned (.tuple #[]) ∧ SWK El.enc 3 W0 g 0 (Go.Sort.reverseRange d a b) w' := by
  have HH := Aside0.mk hH
  have mixed : Tryd.prog.follows .mixedOrders = true := by kernel_rfl
  have hm := meth_at
  have hmc := meth_call
  have H0 := Aside0.mk hW
  have HS := Aside0.mk (And.intro hs hsz)
  have HAB := Aside0.mk (And.intro hab (And.intro hb1 hb))
  clear hab hb hb1
  clear hH hW hs hsz
  go_enter Tryd.func55, Tryd.ntmps55
  have w0 : IntKind.i64.wrap ((b : Int) - 1) = (b : Int) - 1 := by have := HAB.out; have := HS.out; rw [IntKind.wrap_i64]; omega
  go_wp2
  go_loopg [8, 9] b (fun g1 v8 v9 wr => ∃ (i j : Nat) (zj : Int) (dk : Array (El W0 g ok)), v8 = .int .i64 i ∧ v9 = .int .i64 zj ∧ zj = (j : Int) ∧ Aside0 (i ≤ d.size ∧ j < d.size ∧ j - i ≤ g1 ∧ dk.size = d.size) ∧ Aside0 (SWK El.enc 3 W0 g 0 dk wr) ∧ Aside0 (Go.Sort.reverseLoop i j dk = Go.Sort.reverseLoop a (b - 1) d))
  case atStart => exact ⟨a, b - 1, (b : Int) - 1, d, rfl, rfl, by have := HAB.out; have := HS.out; omega, ⟨by have := HAB.out; have := HS.out; omega⟩, H0, ⟨rfl⟩⟩
  case round =>
    clear H0
    obtain ⟨i, j, zj, dk, rfl, rfl, hz, HI, HK, HO⟩ := hrel
    subst hz
    by_cases hlt : i < j
    · have hltz : (i : Int) < (j : Int) := by omega
      have ia1 : (0 : Int) ≤ (i : Int) := by have := HAB.out; have := HS.out; have := HI.out; omega
      have ib1 : (i : Int) < (d.size : Int) := by have := HAB.out; have := HS.out; have := HI.out; omega
      have ic1 : ((i : Int)).toNat = i := by have := HAB.out; have := HS.out; have := HI.out; omega
      have id1 : IntKind.i64.wrap ((i : Int)) = (i : Int) := by have := HAB.out; have := HS.out; have := HI.out; rw [IntKind.wrap_i64]; omega
      have ia2 : (0 : Int) ≤ (j : Int) := by have := HAB.out; have := HS.out; have := HI.out; omega
      have ib2 : (j : Int) < (d.size : Int) := by have := HAB.out; have := HS.out; have := HI.out; omega
      have ic2 : ((j : Int)).toNat = j := by have := HAB.out; have := HS.out; have := HI.out; omega
      have id2 : IntKind.i64.wrap ((j : Int)) = (j : Int) := by have := HAB.out; have := HS.out; have := HI.out; rw [IntKind.wrap_i64]; omega
      have w1 : IntKind.i64.wrap ((i : Int) + 1) = (i : Int) + 1 := by have := HAB.out; have := HS.out; have := HI.out; rw [IntKind.wrap_i64]; omega
      have w2 : IntKind.i64.wrap ((j : Int) - 1) = (j : Int) - 1 := by have := HAB.out; have := HS.out; have := HI.out; rw [IntKind.wrap_i64]; omega
      obtain ⟨px, Ax, nx, mx, tx, ex⟩ := El.cells dk[i]!
      have ELx := Aside0.mk ex
      clear ex
      obtain ⟨py, Ay, ny, my, ty, ey⟩ := El.cells dk[j]!
      have ELy := Aside0.mk ey
      clear ey
      go_wp2_with fail
      have q := el_cells HK.out HH.out hg (by have := HAB.out; have := HS.out; have := HI.out; omega) (i) (by have := HAB.out; have := HS.out; have := HI.out; omega) _ _ _ ELx.out 0 #[]
      have r := el_cells HK.out HH.out hg (by have := HAB.out; have := HS.out; have := HI.out; omega) (j) (by have := HAB.out; have := HS.out; have := HI.out; omega) _ _ _ ELy.out 0 #[]
      rw [Go.Sort.grow_empty, World.drewN_zero] at q r
      obtain ⟨⟨q0, q1, q2⟩, q3, q4, q5⟩ := q
      obtain ⟨⟨r0, r1, r2⟩, r3, r4, r5⟩ := r
      
      go_wp2_with fail
      go_big_region_o
      
      have H3 := Aside0.mk (el_swap HK.out HH.out hg (by have := HAB.out; have := HS.out; have := HI.out; omega) (i) (j) (by have := HAB.out; have := HS.out; have := HI.out; omega) (by have := HAB.out; have := HS.out; have := HI.out; omega) _ _ _ _ _ _ ELy.out ELx.out)
      
      clear HK q0 q1 q2 q3 q4 q5 r0 r1 r2 r3 r4 r5
      generalize World.drew ((((((World.setCell wr ⟨g, (i) * 3, none⟩ _).setCell ⟨g, (i) * 3 + 1, none⟩ _).setCell ⟨g, (i) * 3 + 2, none⟩ _).setCell ⟨g, (j) * 3, none⟩ _).setCell ⟨g, (j) * 3 + 1, none⟩ _).setCell ⟨g, (j) * 3 + 2, none⟩ _) = W3 at H3  ⊢
      go_wp2
      go_roundg (j - 1 - (i + 1))
      case measure => have := HI.out; omega
      case rel => exact ⟨i + 1, j - 1, (j : Int) - 1, _, by go_num, rfl, by omega, ⟨by rw [Go.Sort.size_swp]; have := HI.out; omega⟩, H3, ⟨by rw [← HO.out, Go.Sort.reverseLoop.eq_1 i j dk, if_pos hlt]⟩⟩
    · have hltz : ¬ (i : Int) < (j : Int) := by omega
      go_wp2
      go_end0
      refine ⟨rfl, ?_⟩
      have h := HO.out
      rw [Go.Sort.reverseLoop.eq_1 i j dk, if_neg hlt] at h
      rw [Go.Sort.reverseRange, ← h]
      exact HK.out

/-! ### rank_reading_56: function 56 -/
/-! ### slices.partialInsertionSort at readings -/
theorem size_shiftDown_ {α : Type} [Inhabited α] (lt : α → α → Bool) : ∀ (j : Nat) (d : Array α), (Go.Sort.shiftDown lt j d).size = d.size
  | 0, d => by rw [Go.Sort.shiftDown]
  | j + 1, d => by
    rw [Go.Sort.shiftDown]
    split
    · rfl
    · rw [size_shiftDown_ lt j, Go.Sort.size_swp]
theorem size_shiftUp_ {α : Type} [Inhabited α] (lt : α → α → Bool) (b : Nat) : ∀ (n j : Nat) (d : Array α), b - j ≤ n → (Go.Sort.shiftUp lt b j d).size = d.size
  | 0, j, d, h => by
    rw [Go.Sort.shiftUp, if_neg (by omega)]
  | n + 1, j, d, h => by
    rw [Go.Sort.shiftUp]
    split
    · split
      · rfl
      · rw [size_shiftUp_ lt b n (j + 1) _ (by omega), Go.Sort.size_swp]
    · rfl
theorem size_fixUp_ {α : Type} [Inhabited α] (lt : α → α → Bool) (b k : Nat) (d : Array α) : (Go.Sort.fixUp lt b k d).size = d.size := by
  unfold Go.Sort.fixUp
  split
  · exact size_shiftUp_ lt b _ _ d (Nat.le_refl _)
  · rfl
set_option maxHeartbeats 8000000 in
set_option maxRecDepth 100000 in
/-- partialInsertionSort, of any stretch. -/
theorem pisFull (W0 : World) (g cap : Nat) (ok : Nat → Prop) (d0 d : Array (El W0 g ok)) (hH : Go.Sort.HoldsK El.enc 3 W0 g 0 d0) (hg : g < W0.heap.size) (hs : d.size = d0.size) (hsz : d0.size < 4611686018427387904) (a b : Nat) (hab : a < b) (hb : b ≤ d.size) (W : World) (hW : SWK El.enc 3 W0 g 0 d W) :
    Calls Tryd.prog 56 #[.slice (some ⟨g, 0, none⟩) d.size cap, .int .i64 a, .int .i64 b, .func (.methodOf 47 "interlocutor/rank.against") #[] #[]] W fun e w' => e = .returned (.bool (Go.Sort.partialInsertionSort (Go.Proofs.ltOf El.cf) d a b).2) ∧ SWK El.enc 3 W0 g 0 (Go.Sort.partialInsertionSort (Go.Proofs.ltOf El.cf) d a b).1 w' := by
  have HH := Aside0.mk hH
  have mixed : Tryd.prog.follows .mixedOrders = true := by kernel_rfl
  have hm := meth_at
  have hmc := meth_call
  have H0 := Aside0.mk hW
  have HS := Aside0.mk (And.intro hs hsz)
  have HAB := Aside0.mk (And.intro hab hb)
  clear hab hb
  clear hH hW hs hsz
  have wa : IntKind.i64.wrap ((a : Int) + 1) = ((a + 1 : Nat) : Int) := by have := HAB.out; have := HS.out; rw [IntKind.wrap_i64]; omega
  have wb : IntKind.i64.wrap ((b : Int) - (a : Int)) = (b : Int) - (a : Int) := by have := HAB.out; have := HS.out; rw [IntKind.wrap_i64]; omega
  go_enter Tryd.func56, Tryd.ntmps56
  go_wp2
  go_loopg [9, 10] 5 (fun g1 vi vs wr => ∃ (i s : Nat) (dk : Array (El W0 g ok)), vi = .int .i64 i ∧ vs = .int .i64 s ∧ Aside0 (s ≤ 5 ∧ 5 - s ≤ g1 ∧ a < i ∧ i ≤ b ∧ dk.size = d.size) ∧ Aside0 (SWK El.enc 3 W0 g 0 dk wr) ∧ Aside0 (Go.Sort.partialIns (Go.Proofs.ltOf El.cf) a b (5 - s) i dk = Go.Sort.partialIns (Go.Proofs.ltOf El.cf) a b 5 (a + 1) d))
  case atStart => exact ⟨a + 1, 0, d, rfl, rfl, ⟨by have := HAB.out; have := HS.out; omega⟩, H0, ⟨rfl⟩⟩
  case round =>
    clear H0
    obtain ⟨i, s, dk, rfl, rfl, HI, HK, HO⟩ := hrel
    by_cases hs5 : s < 5
    · have hs5z : (s : Int) < 5 := by omega
      have ws : IntKind.i64.wrap ((s : Int) + 1) = ((s + 1 : Nat) : Int) := by rw [IntKind.wrap_i64]; omega
      have HS5 := Aside0.mk hs5
      clear hs5
      go_wp2
      go_loopg [9] (b - i) (fun g2 vi wr2 => ∃ (k : Nat), vi = .int .i64 k ∧ Aside0 (i ≤ k ∧ k ≤ b ∧ b - k ≤ g2) ∧ Aside0 (SWK El.enc 3 W0 g 0 dk wr2) ∧ Aside0 (Go.Sort.scanSorted (Go.Proofs.ltOf El.cf) dk b k = Go.Sort.scanSorted (Go.Proofs.ltOf El.cf) dk b i))
      case atStart => exact ⟨i, rfl, ⟨by have := HI.out; omega⟩, HK, ⟨rfl⟩⟩
      case round =>
        clear HK
        obtain ⟨k, rfl, HJ, HKW, HE⟩ := hrel
        by_cases hlt : k < b
        · obtain ⟨qn, rfl⟩ : ∃ qn, k = qn + 1 := ⟨k - 1, by have := HI.out; have := HJ.out; omega⟩
          have hltz : ((qn : Int) + 1) < (b : Int) := by omega
          have hne : ¬ ((qn : Int) + 1) = (b : Int) := by omega
          have ia1 : (0 : Int) ≤ (qn : Int) + 1 := by have := HAB.out; have := HS.out; have := HI.out; have := HJ.out; omega
          have ib1 : (qn : Int) + 1 < (d.size : Int) := by have := HAB.out; have := HS.out; have := HI.out; have := HJ.out; omega
          have ic1 : ((qn : Int) + 1).toNat = qn + 1 := by have := HAB.out; have := HS.out; have := HI.out; have := HJ.out; omega
          have id1 : IntKind.i64.wrap ((qn : Int) + 1) = (qn : Int) + 1 := by have := HAB.out; have := HS.out; have := HI.out; have := HJ.out; rw [IntKind.wrap_i64]; omega
          have ia2 : (0 : Int) ≤ (qn : Int) := by have := HAB.out; have := HS.out; have := HI.out; have := HJ.out; omega
          have ib2 : (qn : Int) < (d.size : Int) := by have := HAB.out; have := HS.out; have := HI.out; have := HJ.out; omega
          have ic2 : ((qn : Int)).toNat = qn := by have := HAB.out; have := HS.out; have := HI.out; have := HJ.out; omega
          have id2 : IntKind.i64.wrap ((qn : Int)) = (qn : Int) := by have := HAB.out; have := HS.out; have := HI.out; have := HJ.out; rw [IntKind.wrap_i64]; omega
          have w3 : IntKind.i64.wrap ((qn : Int) + 1 + 1) = ((qn + 1 + 1 : Nat) : Int) := by have := HAB.out; have := HS.out; have := HI.out; have := HJ.out; rw [IntKind.wrap_i64]; omega
          obtain ⟨px, Ax, nx, mx, tx, ex⟩ := El.cells dk[qn + 1]!
          have ELx := Aside0.mk ex
          clear ex
          obtain ⟨py, Ay, ny, my, ty, ey⟩ := El.cells dk[qn]!
          have ELy := Aside0.mk ey
          clear ey
          have qx := fun n os => el_cells HKW.out HH.out hg (by have := HAB.out; have := HS.out; have := HI.out; have := HJ.out; omega) (qn + 1) (by have := HAB.out; have := HS.out; have := HI.out; have := HJ.out; omega) _ _ _ ELx.out n os
          have qy := fun n os => el_cells HKW.out HH.out hg (by have := HAB.out; have := HS.out; have := HI.out; have := HJ.out; omega) (qn) (by have := HAB.out; have := HS.out; have := HI.out; have := HJ.out; omega) _ _ _ ELy.out n os
          have q0 := fun n os => (qx n os).1.1
          have q1 := fun n os => (qx n os).1.2.1
          have q2 := fun n os => (qx n os).1.2.2
          have q3 := fun n os => (qy n os).1.1
          have q4 := fun n os => (qy n os).1.2.1
          have q5 := fun n os => (qy n os).1.2.2
          have cc := fun n os => ins_cmp HKW.out dk[qn + 1]! dk[qn]! _ _ ELx.out ELy.out n os
          clear qx qy
          go_wp2_with fail
          go_quiet_grown (first | (go_at_call 92; refine Calls.grown_of (cc _ _)))
          have H2 := Aside0.mk (HKW.out.grown nq osq)
          clear cc q0 q1 q2 q3 q4 q5 HKW
          generalize Go.Sort.grow (World.drewN wr nq) osq = W2 at H2 ⊢
          clear nq osq
          by_cases hc : (dk[qn + 1]!).cf (dk[qn]!) < 0
          · have hlt2 := ltOf_yes hc
            rw [ltOf_yes3 hc]
            have HSC : Aside0 (Go.Sort.scanSorted (Go.Proofs.ltOf El.cf) dk b i = qn + 1) := ⟨by rw [← HE.out, Go.Proofs.scanSorted_stop (Go.Proofs.ltOf El.cf) dk b (qn + 1) (Or.inr (by simpa using hlt2))]⟩
            clear HE
            by_cases h50 : b - a < 50
            · have h50z : (b : Int) - (a : Int) < 50 := by have := HAB.out; have := HS.out; have := HI.out; have := HJ.out; omega
              have HV := Aside0.mk (Go.Proofs.pi_short (Go.Proofs.ltOf El.cf) a b s i dk HS5.out (by rw [HSC.out]; omega) h50)
              go_wp2
              go_ret
              rw [Go.Sort.partialInsertionSort, ← HO.out, HV.out]
              exact ⟨rfl, H2.out⟩
            · have h50z : ¬ (b : Int) - (a : Int) < 50 := by have := HAB.out; have := HS.out; have := HI.out; have := HJ.out; omega
              have HV := Aside0.mk (Go.Proofs.pi_go (Go.Proofs.ltOf El.cf) a b s i (qn + 1) dk HS5.out HSC.out (by omega) h50)
              go_wp2_with fail
              have q := el_cells H2.out HH.out hg (by have := HAB.out; have := HS.out; have := HI.out; have := HJ.out; omega) (qn + 1) (by have := HAB.out; have := HS.out; have := HI.out; have := HJ.out; omega) _ _ _ ELx.out 0 #[]
              have r := el_cells H2.out HH.out hg (by have := HAB.out; have := HS.out; have := HI.out; have := HJ.out; omega) (qn) (by have := HAB.out; have := HS.out; have := HI.out; have := HJ.out; omega) _ _ _ ELy.out 0 #[]
              rw [Go.Sort.grow_empty, World.drewN_zero] at q r
              obtain ⟨⟨q0, q1, q2⟩, q3, q4, q5⟩ := q
              obtain ⟨⟨r0, r1, r2⟩, r3, r4, r5⟩ := r
              
              go_wp2_with fail
              go_big_region_o
              
              have H3 := Aside0.mk (el_swap H2.out HH.out hg (by have := HAB.out; have := HS.out; have := HI.out; have := HJ.out; omega) (qn + 1) (qn) (by have := HAB.out; have := HS.out; have := HI.out; have := HJ.out; omega) (by have := HAB.out; have := HS.out; have := HI.out; have := HJ.out; omega) _ _ _ _ _ _ ELy.out ELx.out)
              
              clear H2 q0 q1 q2 q3 q4 q5 r0 r1 r2 r3 r4 r5
              generalize World.drew ((((((World.setCell W2 ⟨g, (qn + 1) * 3, none⟩ _).setCell ⟨g, (qn + 1) * 3 + 1, none⟩ _).setCell ⟨g, (qn + 1) * 3 + 2, none⟩ _).setCell ⟨g, (qn) * 3, none⟩ _).setCell ⟨g, (qn) * 3 + 1, none⟩ _).setCell ⟨g, (qn) * 3 + 2, none⟩ _) = W3 at H3  ⊢
              obtain ⟨d1, hd1⟩ : ∃ d1, d1 = Go.Sort.swp dk (qn + 1) qn := ⟨_, rfl⟩
              have HZ1 := Aside0.mk (show d1.size = d.size by rw [hd1, Go.Sort.size_swp]; exact HI.out.2.2.2.2)
              have hV := HV.out
              rw [Nat.add_sub_cancel, ← hd1] at hV
              rw [← hd1] at H3
              clear HV hd1 hc hlt2 ELx ELy
              have HV := Aside0.mk hV
              clear hV
              have w4 : IntKind.i64.wrap ((qn : Int) + 1 - (a : Int)) = (qn : Int) + 1 - (a : Int) := by have := HAB.out; have := HS.out; have := HI.out; have := HJ.out; rw [IntKind.wrap_i64]; omega
              have w5 : IntKind.i64.wrap ((qn : Int) + 1 - 1) = (qn : Int) := by have := HAB.out; have := HS.out; have := HI.out; have := HJ.out; rw [IntKind.wrap_i64]; omega
              have w6 : IntKind.i64.wrap ((b : Int) - ((qn : Int) + 1)) = (b : Int) - ((qn : Int) + 1) := by have := HAB.out; have := HS.out; have := HI.out; have := HJ.out; rw [IntKind.wrap_i64]; omega
              go_upto_if 65 with fail
              go_cut [] from 15 to 140 (fun wx => SWK El.enc 3 W0 g 0 (Go.Sort.fixDown (Go.Proofs.ltOf El.cf) a (qn + 1) d1) wx)
              case first =>
                by_cases h2 : 2 ≤ qn + 1 - a
                · have h2z : (2 : Int) ≤ (qn : Int) + 1 - (a : Int) := by omega
                  have h2d : decide ((2 : Int) ≤ (qn : Int) + 1 - (a : Int)) = true := decide_eq_true h2z
                  (try simp only [h2d])
                  have HF : Aside0 (Go.Sort.fixDown (Go.Proofs.ltOf El.cf) a (qn + 1) d1 = Go.Sort.shiftDown (Go.Proofs.ltOf El.cf) qn d1) := ⟨by unfold Go.Sort.fixDown; rw [if_pos h2]; rfl⟩
                  go_wp2
                  go_loopg [11] qn (fun g3 vj wr3 => ∃ (j : Nat) (dj : Array (El W0 g ok)), vj = .int .i64 j ∧ Aside0 (j ≤ qn ∧ j ≤ g3 ∧ dj.size = d.size) ∧ Aside0 (SWK El.enc 3 W0 g 0 dj wr3) ∧ Aside0 (Go.Sort.shiftDown (Go.Proofs.ltOf El.cf) j dj = Go.Sort.shiftDown (Go.Proofs.ltOf El.cf) qn d1))
                  case atStart => exact ⟨qn, d1, rfl, ⟨by have := HZ1.out; omega⟩, H3, ⟨rfl⟩⟩
                  case round =>
                    clear H3
                    obtain ⟨j, dj, rfl, HJ3, HD, HSD⟩ := hrel
                    rcases j with _ | jp
                    · have hj1 : ¬ (1 : Int) ≤ ((0 : Nat) : Int) := by omega
                      go_wp2
                      go_meet
                      case rel =>
                        have h := HSD.out
                        rw [Go.Proofs.shiftDown_stop (Go.Proofs.ltOf El.cf) 0 dj (Or.inl rfl)] at h
                        show SWK El.enc 3 W0 g 0 _ _
                        rw [HF.out, ← h]
                        exact HD.out
                    · have hj1 : (1 : Int) ≤ (jp : Int) + 1 := by omega
                      have ia3 : (0 : Int) ≤ (jp : Int) + 1 := by have := HAB.out; have := HS.out; have := HI.out; have := HJ.out; have := HJ3.out; omega
                      have ib3 : (jp : Int) + 1 < (d.size : Int) := by have := HAB.out; have := HS.out; have := HI.out; have := HJ.out; have := HJ3.out; omega
                      have ic3 : ((jp : Int) + 1).toNat = jp + 1 := by have := HAB.out; have := HS.out; have := HI.out; have := HJ.out; have := HJ3.out; omega
                      have id3 : IntKind.i64.wrap ((jp : Int) + 1) = (jp : Int) + 1 := by have := HAB.out; have := HS.out; have := HI.out; have := HJ.out; have := HJ3.out; rw [IntKind.wrap_i64]; omega
                      have ia4 : (0 : Int) ≤ (jp : Int) := by have := HAB.out; have := HS.out; have := HI.out; have := HJ.out; have := HJ3.out; omega
                      have ib4 : (jp : Int) < (d.size : Int) := by have := HAB.out; have := HS.out; have := HI.out; have := HJ.out; have := HJ3.out; omega
                      have ic4 : ((jp : Int)).toNat = jp := by have := HAB.out; have := HS.out; have := HI.out; have := HJ.out; have := HJ3.out; omega
                      have id4 : IntKind.i64.wrap ((jp : Int)) = (jp : Int) := by have := HAB.out; have := HS.out; have := HI.out; have := HJ.out; have := HJ3.out; rw [IntKind.wrap_i64]; omega
                      have w7 : IntKind.i64.wrap ((jp : Int) + 1 - 1) = (jp : Int) := by have := HAB.out; have := HS.out; have := HI.out; have := HJ.out; have := HJ3.out; rw [IntKind.wrap_i64]; omega
                      go_wp2_with fail
                      obtain ⟨pu, Au, nu, mu, tu, eu⟩ := El.cells dj[jp + 1]!
                      have ELu := Aside0.mk eu
                      clear eu
                      obtain ⟨pv, Av, nv, mv, tv, ev⟩ := El.cells dj[jp]!
                      have ELv := Aside0.mk ev
                      clear ev
                      have qx := fun n os => el_cells HD.out HH.out hg (by have := HAB.out; have := HS.out; have := HI.out; have := HJ.out; have := HJ3.out; omega) (jp + 1) (by have := HAB.out; have := HS.out; have := HI.out; have := HJ.out; have := HJ3.out; omega) _ _ _ ELu.out n os
                      have qy := fun n os => el_cells HD.out HH.out hg (by have := HAB.out; have := HS.out; have := HI.out; have := HJ.out; have := HJ3.out; omega) (jp) (by have := HAB.out; have := HS.out; have := HI.out; have := HJ.out; have := HJ3.out; omega) _ _ _ ELv.out n os
                      have q0 := fun n os => (qx n os).1.1
                      have q1 := fun n os => (qx n os).1.2.1
                      have q2 := fun n os => (qx n os).1.2.2
                      have q3 := fun n os => (qy n os).1.1
                      have q4 := fun n os => (qy n os).1.2.1
                      have q5 := fun n os => (qy n os).1.2.2
                      have cc := fun n os => ins_cmp HD.out dj[jp + 1]! dj[jp]! _ _ ELu.out ELv.out n os
                      clear qx qy
                      go_wp2_with fail
                      go_quiet_grown (first | (go_at_call 92; refine Calls.grown_of (cc _ _)))
                      have H4 := Aside0.mk (HD.out.grown nq osq)
                      clear cc q0 q1 q2 q3 q4 q5 HD
                      generalize Go.Sort.grow (World.drewN wr nq) osq = W4 at H4 ⊢
                      clear nq osq
                      by_cases hd : (dj[jp + 1]!).cf (dj[jp]!) < 0
                      · have hlt3 := ltOf_yes hd
                        rw [ltOf_yes3 hd]
                        go_wp2_with fail
                        have q := el_cells H4.out HH.out hg (by have := HAB.out; have := HS.out; have := HI.out; have := HJ.out; have := HJ3.out; omega) (jp + 1) (by have := HAB.out; have := HS.out; have := HI.out; have := HJ.out; have := HJ3.out; omega) _ _ _ ELu.out 0 #[]
                        have r := el_cells H4.out HH.out hg (by have := HAB.out; have := HS.out; have := HI.out; have := HJ.out; have := HJ3.out; omega) (jp) (by have := HAB.out; have := HS.out; have := HI.out; have := HJ.out; have := HJ3.out; omega) _ _ _ ELv.out 0 #[]
                        rw [Go.Sort.grow_empty, World.drewN_zero] at q r
                        obtain ⟨⟨q0, q1, q2⟩, q3, q4, q5⟩ := q
                        obtain ⟨⟨r0, r1, r2⟩, r3, r4, r5⟩ := r
                        
                        go_wp2_with fail
                        go_big_region_o
                        
                        have H5 := Aside0.mk (el_swap H4.out HH.out hg (by have := HAB.out; have := HS.out; have := HI.out; have := HJ.out; have := HJ3.out; omega) (jp + 1) (jp) (by have := HAB.out; have := HS.out; have := HI.out; have := HJ.out; have := HJ3.out; omega) (by have := HAB.out; have := HS.out; have := HI.out; have := HJ.out; have := HJ3.out; omega) _ _ _ _ _ _ ELv.out ELu.out)
                        
                        clear H4 q0 q1 q2 q3 q4 q5 r0 r1 r2 r3 r4 r5
                        generalize World.drew ((((((World.setCell W4 ⟨g, (jp + 1) * 3, none⟩ _).setCell ⟨g, (jp + 1) * 3 + 1, none⟩ _).setCell ⟨g, (jp + 1) * 3 + 2, none⟩ _).setCell ⟨g, (jp) * 3, none⟩ _).setCell ⟨g, (jp) * 3 + 1, none⟩ _).setCell ⟨g, (jp) * 3 + 2, none⟩ _) = W5 at H5  ⊢
                        go_wp2
                        go_roundg jp
                        case measure => have := HJ3.out; omega
                        case rel => exact ⟨jp, Go.Sort.swp dj (jp + 1) jp, rfl, ⟨by rw [Go.Sort.size_swp]; have := HJ3.out; omega⟩, H5, ⟨by rw [← HSD.out, Go.Proofs.shiftDown_go (Go.Proofs.ltOf El.cf) (jp + 1) dj (by omega) (by simpa using hlt3)]; rfl⟩⟩
                      · have hlt3 := ltOf_no hd
                        rw [ltOf_no3 hd]
                        go_wp2
                        go_meet
                        case rel =>
                          have h := HSD.out
                          rw [Go.Proofs.shiftDown_stop (Go.Proofs.ltOf El.cf) (jp + 1) dj (Or.inr (by simpa using hlt3))] at h
                          show SWK El.enc 3 W0 g 0 _ _
                          rw [HF.out, ← h]
                          exact H4.out
                · have h2z : ¬ (2 : Int) ≤ (qn : Int) + 1 - (a : Int) := by omega
                  go_wp2_with fail
                  go_meet
                  case rel =>
                    show SWK El.enc 3 W0 g 0 _ _
                    unfold Go.Sort.fixDown
                    rw [if_neg h2]
                    exact H3.out
              case rest =>
                clear H3
                have H6 := Aside0.mk hcut
                clear hcut
                obtain ⟨d2, hd2⟩ : ∃ d2, d2 = Go.Sort.fixDown (Go.Proofs.ltOf El.cf) a (qn + 1) d1 := ⟨_, rfl⟩
                rw [← hd2] at H6 HV
                have HZ2 := Aside0.mk (show d2.size = d.size by rw [hd2]; unfold Go.Sort.fixDown; split <;> (try rw [size_shiftDown_]) <;> exact HZ1.out)
                clear hd2
                by_cases h2 : 2 ≤ b - (qn + 1)
                · have h2z : (2 : Int) ≤ (b : Int) - ((qn : Int) + 1) := by omega
                  have HF : Aside0 (Go.Sort.fixUp (Go.Proofs.ltOf El.cf) b (qn + 1) d2 = Go.Sort.shiftUp (Go.Proofs.ltOf El.cf) b (qn + 1 + 1) d2) := ⟨by unfold Go.Sort.fixUp; rw [if_pos h2]⟩
                  go_wp2
                  go_loopg [12] (b - (qn + 2)) (fun g3 vj wr3 => ∃ (j : Nat) (dj : Array (El W0 g ok)), vj = .int .i64 j ∧ Aside0 (qn + 2 ≤ j ∧ j ≤ b ∧ b - j ≤ g3 ∧ dj.size = d.size) ∧ Aside0 (SWK El.enc 3 W0 g 0 dj wr3) ∧ Aside0 (Go.Sort.shiftUp (Go.Proofs.ltOf El.cf) b j dj = Go.Sort.shiftUp (Go.Proofs.ltOf El.cf) b (qn + 1 + 1) d2))
                  case atStart => exact ⟨qn + 2, d2, by first | rfl | (congr 1; omega), ⟨by have := HZ2.out; omega⟩, H6, ⟨rfl⟩⟩
                  case round =>
                    clear H6
                    obtain ⟨j, dj, rfl, HJ3, HD, HSU⟩ := hrel
                    obtain ⟨jp, rfl⟩ : ∃ jp, j = jp + 1 := ⟨j - 1, by have := HJ3.out; omega⟩
                    by_cases hjb : jp + 1 < b
                    · have hjz : (jp : Int) + 1 < (b : Int) := by omega
                      have ia5 : (0 : Int) ≤ (jp : Int) + 1 := by have := HAB.out; have := HS.out; have := HI.out; have := HJ.out; have := HJ3.out; omega
                      have ib5 : (jp : Int) + 1 < (d.size : Int) := by have := HAB.out; have := HS.out; have := HI.out; have := HJ.out; have := HJ3.out; omega
                      have ic5 : ((jp : Int) + 1).toNat = jp + 1 := by have := HAB.out; have := HS.out; have := HI.out; have := HJ.out; have := HJ3.out; omega
                      have id5 : IntKind.i64.wrap ((jp : Int) + 1) = (jp : Int) + 1 := by have := HAB.out; have := HS.out; have := HI.out; have := HJ.out; have := HJ3.out; rw [IntKind.wrap_i64]; omega
                      have ia6 : (0 : Int) ≤ (jp : Int) := by have := HAB.out; have := HS.out; have := HI.out; have := HJ.out; have := HJ3.out; omega
                      have ib6 : (jp : Int) < (d.size : Int) := by have := HAB.out; have := HS.out; have := HI.out; have := HJ.out; have := HJ3.out; omega
                      have ic6 : ((jp : Int)).toNat = jp := by have := HAB.out; have := HS.out; have := HI.out; have := HJ.out; have := HJ3.out; omega
                      have id6 : IntKind.i64.wrap ((jp : Int)) = (jp : Int) := by have := HAB.out; have := HS.out; have := HI.out; have := HJ.out; have := HJ3.out; rw [IntKind.wrap_i64]; omega
                      have w7 : IntKind.i64.wrap ((jp : Int) + 1 + 1) = ((jp + 1 + 1 : Nat) : Int) := by have := HAB.out; have := HS.out; have := HI.out; have := HJ.out; have := HJ3.out; rw [IntKind.wrap_i64]; omega
                      go_wp2_with fail
                      obtain ⟨pu, Au, nu, mu, tu, eu⟩ := El.cells dj[jp + 1]!
                      have ELu := Aside0.mk eu
                      clear eu
                      obtain ⟨pv, Av, nv, mv, tv, ev⟩ := El.cells dj[jp]!
                      have ELv := Aside0.mk ev
                      clear ev
                      have qx := fun n os => el_cells HD.out HH.out hg (by have := HAB.out; have := HS.out; have := HI.out; have := HJ.out; have := HJ3.out; omega) (jp + 1) (by have := HAB.out; have := HS.out; have := HI.out; have := HJ.out; have := HJ3.out; omega) _ _ _ ELu.out n os
                      have qy := fun n os => el_cells HD.out HH.out hg (by have := HAB.out; have := HS.out; have := HI.out; have := HJ.out; have := HJ3.out; omega) (jp) (by have := HAB.out; have := HS.out; have := HI.out; have := HJ.out; have := HJ3.out; omega) _ _ _ ELv.out n os
                      have q0 := fun n os => (qx n os).1.1
                      have q1 := fun n os => (qx n os).1.2.1
                      have q2 := fun n os => (qx n os).1.2.2
                      have q3 := fun n os => (qy n os).1.1
                      have q4 := fun n os => (qy n os).1.2.1
                      have q5 := fun n os => (qy n os).1.2.2
                      have cc := fun n os => ins_cmp HD.out dj[jp + 1]! dj[jp]! _ _ ELu.out ELv.out n os
                      clear qx qy
                      go_wp2_with fail
                      go_quiet_grown (first | (go_at_call 92; refine Calls.grown_of (cc _ _)))
                      have H4 := Aside0.mk (HD.out.grown nq osq)
                      clear cc q0 q1 q2 q3 q4 q5 HD
                      generalize Go.Sort.grow (World.drewN wr nq) osq = W4 at H4 ⊢
                      clear nq osq
                      by_cases hd : (dj[jp + 1]!).cf (dj[jp]!) < 0
                      · have hlt3 := ltOf_yes hd
                        rw [ltOf_yes3 hd]
                        go_wp2_with fail
                        have q := el_cells H4.out HH.out hg (by have := HAB.out; have := HS.out; have := HI.out; have := HJ.out; have := HJ3.out; omega) (jp + 1) (by have := HAB.out; have := HS.out; have := HI.out; have := HJ.out; have := HJ3.out; omega) _ _ _ ELu.out 0 #[]
                        have r := el_cells H4.out HH.out hg (by have := HAB.out; have := HS.out; have := HI.out; have := HJ.out; have := HJ3.out; omega) (jp) (by have := HAB.out; have := HS.out; have := HI.out; have := HJ.out; have := HJ3.out; omega) _ _ _ ELv.out 0 #[]
                        rw [Go.Sort.grow_empty, World.drewN_zero] at q r
                        obtain ⟨⟨q0, q1, q2⟩, q3, q4, q5⟩ := q
                        obtain ⟨⟨r0, r1, r2⟩, r3, r4, r5⟩ := r
                        
                        go_wp2_with fail
                        go_big_region_o
                        
                        have H5 := Aside0.mk (el_swap H4.out HH.out hg (by have := HAB.out; have := HS.out; have := HI.out; have := HJ.out; have := HJ3.out; omega) (jp + 1) (jp) (by have := HAB.out; have := HS.out; have := HI.out; have := HJ.out; have := HJ3.out; omega) (by have := HAB.out; have := HS.out; have := HI.out; have := HJ.out; have := HJ3.out; omega) _ _ _ _ _ _ ELv.out ELu.out)
                        
                        clear H4 q0 q1 q2 q3 q4 q5 r0 r1 r2 r3 r4 r5
                        generalize World.drew ((((((World.setCell W4 ⟨g, (jp + 1) * 3, none⟩ _).setCell ⟨g, (jp + 1) * 3 + 1, none⟩ _).setCell ⟨g, (jp + 1) * 3 + 2, none⟩ _).setCell ⟨g, (jp) * 3, none⟩ _).setCell ⟨g, (jp) * 3 + 1, none⟩ _).setCell ⟨g, (jp) * 3 + 2, none⟩ _) = W5 at H5  ⊢
                        go_wp2
                        go_roundg (b - (jp + 1 + 1))
                        case measure => have := HJ3.out; omega
                        case rel => exact ⟨jp + 1 + 1, Go.Sort.swp dj (jp + 1) jp, rfl, ⟨by rw [Go.Sort.size_swp]; have := HJ3.out; omega⟩, H5, ⟨by rw [← HSU.out, Go.Proofs.shiftUp_go (Go.Proofs.ltOf El.cf) b (jp + 1) dj hjb (by simpa using hlt3)]; rfl⟩⟩
                      · have hlt3 := ltOf_no hd
                        rw [ltOf_no3 hd]
                        have H7 : Aside0 (SWK El.enc 3 W0 g 0 (Go.Sort.fixUp (Go.Proofs.ltOf El.cf) b (qn + 1) d2) _) := ⟨by have h := HSU.out; rw [Go.Proofs.shiftUp_stop (Go.Proofs.ltOf El.cf) b (jp + 1) dj (Or.inr (by simpa using hlt3))] at h; rw [HF.out, ← h]; exact H4.out⟩
                        go_wp2
                        go_roundg (5 - (s + 1))
                        case measure => have := HI.out; have := HS5.out; omega
                        case rel => exact ⟨qn + 1, s + 1, _, rfl, rfl, ⟨by have := HAB.out; have := HS.out; have := HI.out; have := HJ.out; have := HS5.out; have := HZ2.out; refine ⟨by omega, by omega, by omega, by omega, ?_⟩; rw [size_fixUp_]; omega⟩, H7, ⟨by rw [← HO.out, HV.out]⟩⟩
                    · have hjz : ¬ (jp : Int) + 1 < (b : Int) := by omega
                      have H7 : Aside0 (SWK El.enc 3 W0 g 0 (Go.Sort.fixUp (Go.Proofs.ltOf El.cf) b (qn + 1) d2) _) := ⟨by have h := HSU.out; rw [Go.Proofs.shiftUp_stop (Go.Proofs.ltOf El.cf) b (jp + 1) dj (Or.inl hjb)] at h; rw [HF.out, ← h]; exact HD.out⟩
                      go_wp2
                      go_roundg (5 - (s + 1))
                      case measure => have := HI.out; have := HS5.out; omega
                      case rel => exact ⟨qn + 1, s + 1, _, rfl, rfl, ⟨by have := HAB.out; have := HS.out; have := HI.out; have := HJ.out; have := HS5.out; have := HZ2.out; refine ⟨by omega, by omega, by omega, by omega, ?_⟩; rw [size_fixUp_]; omega⟩, H7, ⟨by rw [← HO.out, HV.out]⟩⟩
                · have h2z : ¬ (2 : Int) ≤ (b : Int) - ((qn : Int) + 1) := by omega
                  have H7 : Aside0 (SWK El.enc 3 W0 g 0 (Go.Sort.fixUp (Go.Proofs.ltOf El.cf) b (qn + 1) d2) _) := ⟨by unfold Go.Sort.fixUp; rw [if_neg h2]; exact H6.out⟩
                  go_wp2
                  go_roundg (5 - (s + 1))
                  case measure => have := HI.out; have := HS5.out; omega
                  case rel => exact ⟨qn + 1, s + 1, _, rfl, rfl, ⟨by have := HAB.out; have := HS.out; have := HI.out; have := HJ.out; have := HS5.out; have := HZ2.out; refine ⟨by omega, by omega, by omega, by omega, ?_⟩; rw [size_fixUp_]; omega⟩, H7, ⟨by rw [← HO.out, HV.out]⟩⟩
          · have hlt2 := ltOf_no hc
            rw [ltOf_no3 hc]
            go_wp2
            go_roundg (b - (qn + 1 + 1))
            case measure => have := HJ.out; omega
            case rel => exact ⟨qn + 1 + 1, rfl, ⟨by have := HJ.out; omega⟩, H2, ⟨(Go.Proofs.scanSorted_go (Go.Proofs.ltOf El.cf) dk b (qn + 1) hlt (by simpa using hlt2)).symm.trans HE.out⟩⟩
        · obtain rfl : k = b := by have := HJ.out; omega
          have hltz : ¬ (k : Int) < (k : Int) := by omega
          go_wp2_with fail
          go_big_region_o
          have H2 := Aside0.mk (HKW.out.drew)
          clear HKW
          generalize World.drew wr = W2 at H2 ⊢
          have HV := Aside0.mk (Go.Proofs.pi_true (Go.Proofs.ltOf El.cf) a k s i dk HS5.out (by rw [← HE.out, Go.Proofs.scanSorted_stop (Go.Proofs.ltOf El.cf) dk k k (Or.inl (by omega))]))
          go_wp2
          go_ret
          rw [Go.Sort.partialInsertionSort, ← HO.out, HV.out]
          exact ⟨rfl, H2.out⟩
    · obtain rfl : s = 5 := by have := HI.out; omega
      have hs5z : ¬ ((5 : Nat) : Int) < 5 := by omega
      go_wp2
      go_ret
      rw [Go.Sort.partialInsertionSort, ← HO.out, Go.Proofs.pi_end]
      exact ⟨rfl, HK.out⟩

end Go.Proofs.YtlgndfplikhflaaDoor.G
