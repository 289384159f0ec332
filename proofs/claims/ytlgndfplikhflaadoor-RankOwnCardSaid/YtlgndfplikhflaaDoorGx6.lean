-- printed by wip/tool/gprint.py, a program of this work, out of the translation; Lean checks it
import Derived.Test.YtlgndfplikhflaaDoorGx0
import Derived.Test.YtlgndfplikhflaaDoorGx4
namespace Go.Proofs.YtlgndfplikhflaaDoor.G
open Go.RowKit Go.Proofs.YtlgndfplikhflaaDoorW.PrintWords Go.Proofs.YtlgndfplikhflaaDoorW.PrintLast Go.Proofs.YtlgndfplikhflaaDoorW.PrintMore Go.Proofs.YtlgndfplikhflaaDoorW.VWords Go.Proofs.YtlgndfplikhflaaDoorW.Tab
attribute [local go_sem] max2_int min2_int max_two min_two max_three min_three max_four min_four   -- for this text's walks alone
set_option linter.unusedVariables false
set_option linter.unusedSimpArgs false

/-! ### rank_reading_53: function 53 -/
/-! ### slices.breakPatterns at readings -/
/-- A box of another block is kept by an exchange. -/
theorem box6 {W : World} {g c : Nat} (i j : Nat) {v : Value} (a1 a2 a3 b1 b2 b3 : Value) (hne : c ≠ g) (hc : W.cell? ⟨c, 0, none⟩ = some v) (hf : W.frozen? ⟨c, 0, none⟩ = false) :
    (World.drew ((((((W.setCell ⟨g, i, none⟩ a1).setCell ⟨g, i + 1, none⟩ a2).setCell ⟨g, i + 2, none⟩ a3).setCell ⟨g, j, none⟩ b1).setCell ⟨g, j + 1, none⟩ b2).setCell ⟨g, j + 2, none⟩ b3)).cell? ⟨c, 0, none⟩ = some v ∧
    (World.drew ((((((W.setCell ⟨g, i, none⟩ a1).setCell ⟨g, i + 1, none⟩ a2).setCell ⟨g, i + 2, none⟩ a3).setCell ⟨g, j, none⟩ b1).setCell ⟨g, j + 1, none⟩ b2).setCell ⟨g, j + 2, none⟩ b3)).frozen? ⟨c, 0, none⟩ = false := by
  have e : ∀ (W : World) (o : Nat) (x : Value), W.cell? ⟨c, 0, none⟩ = some v → (W.setCell ⟨g, o, none⟩ x).cell? ⟨c, 0, none⟩ = some v := fun W o x h => by
    rw [World.cell?_setCell_other _ _ _ _ (by intro e; injection e with e1; exact hne e1.symm)]
    exact h
  have f : ∀ (W : World) (o : Nat) (x : Value), W.frozen? ⟨c, 0, none⟩ = false → (W.setCell ⟨g, o, none⟩ x).frozen? ⟨c, 0, none⟩ = false := fun W o x h => by simpa using h
  have h1 := e _ i a1 hc
  have k1 := f _ i a1 hf
  have h2 := e _ (i + 1) a2 h1
  have k2 := f _ (i + 1) a2 k1
  have h3 := e _ (i + 2) a3 h2
  have k3 := f _ (i + 2) a3 k2
  have h4 := e _ j b1 h3
  have k4 := f _ j b1 k3
  have h5 := e _ (j + 1) b2 h4
  have k5 := f _ (j + 1) b2 k4
  have h6 := e _ (j + 2) b3 h5
  have k6 := f _ (j + 2) b3 k5
  generalize ((((((W.setCell ⟨g, i, none⟩ a1).setCell ⟨g, i + 1, none⟩ a2).setCell ⟨g, i + 2, none⟩ a3).setCell ⟨g, j, none⟩ b1).setCell ⟨g, j + 1, none⟩ b2).setCell ⟨g, j + 2, none⟩ b3) = W6 at h6 k6 ⊢
  exact ⟨h6, k6⟩
set_option maxHeartbeats 8000000 in
set_option maxRecDepth 100000 in
/-- breakPatterns, of eight or more. -/
theorem bpAll (W0 : World) (g cap : Nat) (ok : Nat → Prop) (d0 d : Array (El W0 g ok)) (hH : Go.Sort.HoldsK El.enc 3 W0 g 0 d0) (hg : g < W0.heap.size) (hs : d.size = d0.size) (hsz : d0.size < 4611686018427387904) (a L : Nat) (h8 : 8 ≤ L) (hb : a + L ≤ d.size) (W : World) (hW : SWK El.enc 3 W0 g 0 d W) :
    Calls Tryd.prog 53 #[.slice (some ⟨g, 0, none⟩) d.size cap, .int .i64 a, .int .i64 ((a + L : Nat) : Int), .func (.methodOf 47 "interlocutor/rank.against") #[] #[]] W fun e w' => e = .returned (.tuple #[]) ∧ SWK El.enc 3 W0 g 0 (Go.Sort.breakPatterns d a (a + L)) w' := by
  have HH := Aside0.mk hH
  have mixed : Tryd.prog.follows .mixedOrders = true := by kernel_rfl
  have hm := meth_at
  have hmc := meth_call
  have H0 := Aside0.mk hW
  have HS := Aside0.mk (And.intro hs hsz)
  have hsz2 : d.size < 4611686018427387904 := by omega
  obtain ⟨M, hM⟩ : ∃ M : Nat, M = 1 <<< Go.Sort.bitsLen L := ⟨_, rfl⟩
  have hM1 : 1 ≤ M := by rw [hM, Nat.one_shiftLeft]; exact Nat.two_pow_pos _
  have hM2 : M ≤ 2 * L := by rw [hM, Nat.one_shiftLeft]; exact Go.Sort.two_pow_bitsLen_le (by omega)
  have hNP : ∀ w, Calls Tryd.prog 66 #[.int .i64 (L : Int)] w fun e w' => e = .returned (.int .u64 (M : Int)) ∧ w' = w := by rw [hM]; exact fun w => AnyF.nextPowerOfTwo (P := Tryd.prog) (ρ := Tryd.sortReading_ren) { Tryd.sort_lays with } L (by omega) w
  rw [Go.Proofs.breakPatterns_eq d a L h8, ← hM]
  clear hM
  have hLz : ((a : Int) + (L : Int) - (a : Int)) = (L : Int) := by omega
  have h8z : (8 : Int) ≤ (L : Int) := by omega
  have hne : W.heap.size ≠ g := by have := hW.lt hg; omega
  have hle0 : W0.heap.size ≤ W.heap.size := hW.le
  clear hH hW hs hsz
  go_enter Tryd.func53, Tryd.ntmps53
  go_wp2_with (first | (go_at_call 66; refine (hNP _).mono ?_; rintro e w' ⟨rfl, rfl⟩))
  go_loopg [11] 3 (fun g1 vi wr => ∃ (t : Nat) (r : UInt64) (dk : Array (El W0 g ok)), vi = .int .i64 ((a : Int) + (L : Int) / 4 * 2 - 1 + (t : Int)) ∧ t ≤ 3 ∧ 3 - t ≤ g1 ∧ dk.size = d.size ∧ Aside0 (SWK El.enc 3 W0 g 0 dk wr) ∧
      Aside0 (wr.cell? ⟨W.heap.size, 0, none⟩ = some (.int .u64 (r.toNat : Int)) ∧ wr.frozen? ⟨W.heap.size, 0, none⟩ = false) ∧
      Aside0 (Go.Proofs.bpRest a L M (a + L / 4 * 2 - 1) (3 - t) t (r, dk) = Go.Proofs.bpRest a L M (a + L / 4 * 2 - 1) 3 0 (UInt64.ofNat L, d)))
  case atStart =>
    refine ⟨0, UInt64.ofNat L, d, by simp, by omega, by omega, rfl, ⟨H0.out.alloc _⟩, ⟨?_, by simp⟩, ⟨rfl⟩⟩
    rw [show (UInt64.ofNat L).toNat = L from by simp; omega]
    simp
  case round =>
    clear H0
    obtain ⟨t, r, dk, rfl, ht, hg1, hds, S1, CR, HR⟩ := hrel
    by_cases ht3 : t < 3
    · have hle : (a : Int) + (L : Int) / 4 * 2 - 1 + (t : Int) ≤ (a : Int) + (L : Int) / 4 * 2 + 1 := by omega
      obtain ⟨R0, hRr⟩ : ∃ R0 : Nat, R0 = r.toNat := ⟨_, rfl⟩
      have lR : R0 < 18446744073709551616 := by rw [hRr]; exact r.toNat_lt
      obtain ⟨R', hR'⟩ : ∃ R' : Nat, R' = Go.Sort.xorNextN R0 := ⟨_, rfl⟩
      have lR' : R' < 18446744073709551616 := by rw [hR']; exact Go.Sort.xorNextN_lt R0 lR
      obtain ⟨O, hO⟩ : ∃ O : Nat, O = R' &&& (M - 1) := ⟨_, rfl⟩
      have lO : O ≤ M - 1 := by rw [hO]; exact Nat.and_le_right
      have eAnd : bits .and .u64 (R' : Int) ((M : Int) - 1) = (O : Int) := by
        rw [show ((M : Int) - 1) = ((M - 1 : Nat) : Int) by omega, Go.bits_and_u64_nat _ _ lR' (by omega), hO]
      obtain ⟨cR, fR⟩ := CR.out
      clear CR
      rw [← hRr] at cR
      have hNext : Calls Tryd.prog 67 #[.pointer (some ⟨W.heap.size, 0, none⟩)] wr fun e w' => e = .returned (.int .u64 (R' : Int)) ∧ w' = (wr.setCell ⟨W.heap.size, 0, none⟩ (.int .u64 (R' : Int))).drewN 3 := by
        rw [hR']; exact AnyF.xorshift_Next (P := Tryd.prog) (ρ := Tryd.sortReading_ren) { Tryd.sort_lays with } _ _ R0 lR wr cR fR
      have HN : Aside0 (R' = (Go.Sort.xorNext r).toNat ∧ O = (Go.Sort.xorNext r).toNat &&& (M - 1)) := by
        have e : R' = (Go.Sort.xorNext r).toNat := by rw [hR', hRr, Go.Sort.xorNext_toNat]
        exact ⟨e, by rw [hO, e]⟩
      clear hRr hR' hO
      have S2 : Aside0 (SWK El.enc 3 W0 g 0 dk ((wr.setCell ⟨W.heap.size, 0, none⟩ (.int .u64 (R' : Int))).drewN 3)) := ⟨(S1.out.setCell_new W.heap.size 0 (.int .u64 (R' : Int)) hle0).drewN 3⟩
      have cR' : ((wr.setCell ⟨W.heap.size, 0, none⟩ (.int .u64 (R' : Int))).drewN 3).cell? ⟨W.heap.size, 0, none⟩ = some (.int .u64 (R' : Int)) := by
        rw [World.cell?_drewN]; exact World.cell?_setCell_same _ _ _ cR
      have fR' : ((wr.setCell ⟨W.heap.size, 0, none⟩ (.int .u64 (R' : Int))).drewN 3).frozen? ⟨W.heap.size, 0, none⟩ = false := by
        rw [World.frozen?_drewN]; simpa using fR
      generalize (wr.setCell ⟨W.heap.size, 0, none⟩ (.int .u64 (R' : Int))).drewN 3 = w2 at hNext S2 cR' fR'
      clear cR fR S1
      by_cases hLO : L ≤ O
      · have hLOz : (L : Int) ≤ (O : Int) := by omega
        obtain ⟨x, hx⟩ : ∃ x : Nat, x = a + L / 4 * 2 - 1 + t := ⟨_, rfl⟩
        obtain ⟨y, hy⟩ : ∃ y : Nat, y = a + (O - L) := ⟨_, rfl⟩
        by_cases hxy : x = y
        · have hx2 : x = a + (O - L) := by omega
          have ia1 : (0 : Int) ≤ (a : Int) + (L : Int) / 4 * 2 - 1 + (t : Int) := by have := HS.out; omega
          have ib1 : (a : Int) + (L : Int) / 4 * 2 - 1 + (t : Int) < (d.size : Int) := by have := HS.out; omega
          have ic1 : ((a : Int) + (L : Int) / 4 * 2 - 1 + (t : Int)).toNat = x := by have := HS.out; omega
          have id1 : IntKind.i64.wrap ((a : Int) + (L : Int) / 4 * 2 - 1 + (t : Int)) = (a : Int) + (L : Int) / 4 * 2 - 1 + (t : Int) := by have := HS.out; rw [IntKind.wrap_i64]; omega
          have ia2 : (0 : Int) ≤ (a : Int) + ((O : Int) - (L : Int)) := by have := HS.out; omega
          have ib2 : (a : Int) + ((O : Int) - (L : Int)) < (d.size : Int) := by have := HS.out; omega
          have ic2 : ((a : Int) + ((O : Int) - (L : Int))).toNat = x := by have := HS.out; omega
          have id2 : IntKind.i64.wrap ((a : Int) + ((O : Int) - (L : Int))) = (a : Int) + ((O : Int) - (L : Int)) := by have := HS.out; rw [IntKind.wrap_i64]; omega
          have HX := Aside0.mk (And.intro hx hx2)
          clear hx hy hx2 hxy
          go_wp2_with (go_at_call 67; refine hNext.mono ?_; rintro e w' ⟨rfl, hw'⟩; obtain rfl : w2 = w' := hw'.symm)
          obtain ⟨pu, Au, nu, mu, tu, eu⟩ := El.cells dk[x]!
          have ELu := Aside0.mk eu
          clear eu
          go_wp2_with fail
          have q := el_cells S2.out HH.out hg (by have := HS.out; have := HX.out; omega) (x) (by have := HS.out; have := HX.out; omega) _ _ _ ELu.out 0 #[]
          have r := el_cells S2.out HH.out hg (by have := HS.out; have := HX.out; omega) (x) (by have := HS.out; have := HX.out; omega) _ _ _ ELu.out 0 #[]
          rw [Go.Sort.grow_empty, World.drewN_zero] at q r
          obtain ⟨⟨q0, q1, q2⟩, q3, q4, q5⟩ := q
          obtain ⟨⟨r0, r1, r2⟩, r3, r4, r5⟩ := r
          
          go_wp2_with fail
          go_big_region_o
          
          have S3 := Aside0.mk (el_swap S2.out HH.out hg (by have := HS.out; have := HX.out; omega) (x) (x) (by have := HS.out; have := HX.out; omega) (by have := HS.out; have := HX.out; omega) _ _ _ _ _ _ ELu.out ELu.out)
          have HBX := Aside0.mk (box6 ((x) * 3) ((x) * 3) (.int .i64 pu) (.slice Au nu mu) (.int .i64 tu) (.int .i64 pu) (.slice Au nu mu) (.int .i64 tu) hne cR' fR')
          clear cR' fR'
          clear S2 q0 q1 q2 q3 q4 q5 r0 r1 r2 r3 r4 r5
          generalize World.drew ((((((World.setCell w2 ⟨g, (x) * 3, none⟩ _).setCell ⟨g, (x) * 3 + 1, none⟩ _).setCell ⟨g, (x) * 3 + 2, none⟩ _).setCell ⟨g, (x) * 3, none⟩ _).setCell ⟨g, (x) * 3 + 1, none⟩ _).setCell ⟨g, (x) * 3 + 2, none⟩ _) = w3 at S3 HBX ⊢
          go_wp2
          go_roundg (3 - (t + 1))
          case measure => omega
          case rel => exact ⟨t + 1, Go.Sort.xorNext r, Go.Sort.swp dk x x, by congr 1; push_cast; omega, by omega, Nat.le_refl _, by rw [Go.Sort.size_swp]; exact hds, S3, ⟨by rw [← HN.out.1]; exact HBX.out.1, HBX.out.2⟩,
            ⟨by rw [← HR.out, Go.Proofs.bp_step a L M _ t r dk (O - L) ht3 (by rw [← HN.out.2, if_pos (by omega)]), ← HX.out.1, ← HX.out.2]⟩⟩
        · 
          have ia3 : (0 : Int) ≤ (a : Int) + (L : Int) / 4 * 2 - 1 + (t : Int) := by have := HS.out; omega
          have ib3 : (a : Int) + (L : Int) / 4 * 2 - 1 + (t : Int) < (d.size : Int) := by have := HS.out; omega
          have ic3 : ((a : Int) + (L : Int) / 4 * 2 - 1 + (t : Int)).toNat = x := by have := HS.out; omega
          have id3 : IntKind.i64.wrap ((a : Int) + (L : Int) / 4 * 2 - 1 + (t : Int)) = (a : Int) + (L : Int) / 4 * 2 - 1 + (t : Int) := by have := HS.out; rw [IntKind.wrap_i64]; omega
          have ia4 : (0 : Int) ≤ (a : Int) + ((O : Int) - (L : Int)) := by have := HS.out; omega
          have ib4 : (a : Int) + ((O : Int) - (L : Int)) < (d.size : Int) := by have := HS.out; omega
          have ic4 : ((a : Int) + ((O : Int) - (L : Int))).toNat = y := by have := HS.out; omega
          have id4 : IntKind.i64.wrap ((a : Int) + ((O : Int) - (L : Int))) = (a : Int) + ((O : Int) - (L : Int)) := by have := HS.out; rw [IntKind.wrap_i64]; omega
          have HX := Aside0.mk (And.intro hx hy)
          clear hx hy
          go_wp2_with (go_at_call 67; refine hNext.mono ?_; rintro e w' ⟨rfl, hw'⟩; obtain rfl : w2 = w' := hw'.symm)
          obtain ⟨pu, Au, nu, mu, tu, eu⟩ := El.cells dk[x]!
          have ELu := Aside0.mk eu
          clear eu
          obtain ⟨pv, Av, nv, mv, tv, ev⟩ := El.cells dk[y]!
          have ELv := Aside0.mk ev
          clear ev
          go_wp2_with fail
          have q := el_cells S2.out HH.out hg (by have := HS.out; have := HX.out; omega) (x) (by have := HS.out; have := HX.out; omega) _ _ _ ELu.out 0 #[]
          have r := el_cells S2.out HH.out hg (by have := HS.out; have := HX.out; omega) (y) (by have := HS.out; have := HX.out; omega) _ _ _ ELv.out 0 #[]
          rw [Go.Sort.grow_empty, World.drewN_zero] at q r
          obtain ⟨⟨q0, q1, q2⟩, q3, q4, q5⟩ := q
          obtain ⟨⟨r0, r1, r2⟩, r3, r4, r5⟩ := r
          
          go_wp2_with fail
          go_big_region_o
          
          have S3 := Aside0.mk (el_swap S2.out HH.out hg (by have := HS.out; have := HX.out; omega) (x) (y) (by have := HS.out; have := HX.out; omega) (by have := HS.out; have := HX.out; omega) _ _ _ _ _ _ ELv.out ELu.out)
          have HBX := Aside0.mk (box6 ((x) * 3) ((y) * 3) (.int .i64 pv) (.slice Av nv mv) (.int .i64 tv) (.int .i64 pu) (.slice Au nu mu) (.int .i64 tu) hne cR' fR')
          clear cR' fR'
          clear S2 q0 q1 q2 q3 q4 q5 r0 r1 r2 r3 r4 r5
          generalize World.drew ((((((World.setCell w2 ⟨g, (x) * 3, none⟩ _).setCell ⟨g, (x) * 3 + 1, none⟩ _).setCell ⟨g, (x) * 3 + 2, none⟩ _).setCell ⟨g, (y) * 3, none⟩ _).setCell ⟨g, (y) * 3 + 1, none⟩ _).setCell ⟨g, (y) * 3 + 2, none⟩ _) = w3 at S3 HBX ⊢
          go_wp2
          go_roundg (3 - (t + 1))
          case measure => omega
          case rel => exact ⟨t + 1, Go.Sort.xorNext r, Go.Sort.swp dk x y, by congr 1; push_cast; omega, by omega, Nat.le_refl _, by rw [Go.Sort.size_swp]; exact hds, S3, ⟨by rw [← HN.out.1]; exact HBX.out.1, HBX.out.2⟩,
            ⟨by rw [← HR.out, Go.Proofs.bp_step a L M _ t r dk (O - L) ht3 (by rw [← HN.out.2, if_pos (by omega)]), ← HX.out.1, ← HX.out.2]⟩⟩
      · have hLOz : ¬ (L : Int) ≤ (O : Int) := by omega
        obtain ⟨x, hx⟩ : ∃ x : Nat, x = a + L / 4 * 2 - 1 + t := ⟨_, rfl⟩
        obtain ⟨y, hy⟩ : ∃ y : Nat, y = a + O := ⟨_, rfl⟩
        by_cases hxy : x = y
        · have hx2 : x = a + O := by omega
          have ia5 : (0 : Int) ≤ (a : Int) + (L : Int) / 4 * 2 - 1 + (t : Int) := by have := HS.out; omega
          have ib5 : (a : Int) + (L : Int) / 4 * 2 - 1 + (t : Int) < (d.size : Int) := by have := HS.out; omega
          have ic5 : ((a : Int) + (L : Int) / 4 * 2 - 1 + (t : Int)).toNat = x := by have := HS.out; omega
          have id5 : IntKind.i64.wrap ((a : Int) + (L : Int) / 4 * 2 - 1 + (t : Int)) = (a : Int) + (L : Int) / 4 * 2 - 1 + (t : Int) := by have := HS.out; rw [IntKind.wrap_i64]; omega
          have ia6 : (0 : Int) ≤ (a : Int) + (O : Int) := by have := HS.out; omega
          have ib6 : (a : Int) + (O : Int) < (d.size : Int) := by have := HS.out; omega
          have ic6 : ((a : Int) + (O : Int)).toNat = x := by have := HS.out; omega
          have id6 : IntKind.i64.wrap ((a : Int) + (O : Int)) = (a : Int) + (O : Int) := by have := HS.out; rw [IntKind.wrap_i64]; omega
          have HX := Aside0.mk (And.intro hx hx2)
          clear hx hy hx2 hxy
          go_wp2_with (go_at_call 67; refine hNext.mono ?_; rintro e w' ⟨rfl, hw'⟩; obtain rfl : w2 = w' := hw'.symm)
          obtain ⟨pu, Au, nu, mu, tu, eu⟩ := El.cells dk[x]!
          have ELu := Aside0.mk eu
          clear eu
          go_wp2_with fail
          have q := el_cells S2.out HH.out hg (by have := HS.out; have := HX.out; omega) (x) (by have := HS.out; have := HX.out; omega) _ _ _ ELu.out 0 #[]
          have r := el_cells S2.out HH.out hg (by have := HS.out; have := HX.out; omega) (x) (by have := HS.out; have := HX.out; omega) _ _ _ ELu.out 0 #[]
          rw [Go.Sort.grow_empty, World.drewN_zero] at q r
          obtain ⟨⟨q0, q1, q2⟩, q3, q4, q5⟩ := q
          obtain ⟨⟨r0, r1, r2⟩, r3, r4, r5⟩ := r
          
          go_wp2_with fail
          go_big_region_o
          
          have S3 := Aside0.mk (el_swap S2.out HH.out hg (by have := HS.out; have := HX.out; omega) (x) (x) (by have := HS.out; have := HX.out; omega) (by have := HS.out; have := HX.out; omega) _ _ _ _ _ _ ELu.out ELu.out)
          have HBX := Aside0.mk (box6 ((x) * 3) ((x) * 3) (.int .i64 pu) (.slice Au nu mu) (.int .i64 tu) (.int .i64 pu) (.slice Au nu mu) (.int .i64 tu) hne cR' fR')
          clear cR' fR'
          clear S2 q0 q1 q2 q3 q4 q5 r0 r1 r2 r3 r4 r5
          generalize World.drew ((((((World.setCell w2 ⟨g, (x) * 3, none⟩ _).setCell ⟨g, (x) * 3 + 1, none⟩ _).setCell ⟨g, (x) * 3 + 2, none⟩ _).setCell ⟨g, (x) * 3, none⟩ _).setCell ⟨g, (x) * 3 + 1, none⟩ _).setCell ⟨g, (x) * 3 + 2, none⟩ _) = w3 at S3 HBX ⊢
          go_wp2
          go_roundg (3 - (t + 1))
          case measure => omega
          case rel => exact ⟨t + 1, Go.Sort.xorNext r, Go.Sort.swp dk x x, by congr 1; push_cast; omega, by omega, Nat.le_refl _, by rw [Go.Sort.size_swp]; exact hds, S3, ⟨by rw [← HN.out.1]; exact HBX.out.1, HBX.out.2⟩,
            ⟨by rw [← HR.out, Go.Proofs.bp_step a L M _ t r dk (O) ht3 (by rw [← HN.out.2, if_neg (by omega)]), ← HX.out.1, ← HX.out.2]⟩⟩
        · 
          have ia7 : (0 : Int) ≤ (a : Int) + (L : Int) / 4 * 2 - 1 + (t : Int) := by have := HS.out; omega
          have ib7 : (a : Int) + (L : Int) / 4 * 2 - 1 + (t : Int) < (d.size : Int) := by have := HS.out; omega
          have ic7 : ((a : Int) + (L : Int) / 4 * 2 - 1 + (t : Int)).toNat = x := by have := HS.out; omega
          have id7 : IntKind.i64.wrap ((a : Int) + (L : Int) / 4 * 2 - 1 + (t : Int)) = (a : Int) + (L : Int) / 4 * 2 - 1 + (t : Int) := by have := HS.out; rw [IntKind.wrap_i64]; omega
          have ia8 : (0 : Int) ≤ (a : Int) + (O : Int) := by have := HS.out; omega
          have ib8 : (a : Int) + (O : Int) < (d.size : Int) := by have := HS.out; omega
          have ic8 : ((a : Int) + (O : Int)).toNat = y := by have := HS.out; omega
          have id8 : IntKind.i64.wrap ((a : Int) + (O : Int)) = (a : Int) + (O : Int) := by have := HS.out; rw [IntKind.wrap_i64]; omega
          have HX := Aside0.mk (And.intro hx hy)
          clear hx hy
          go_wp2_with (go_at_call 67; refine hNext.mono ?_; rintro e w' ⟨rfl, hw'⟩; obtain rfl : w2 = w' := hw'.symm)
          obtain ⟨pu, Au, nu, mu, tu, eu⟩ := El.cells dk[x]!
          have ELu := Aside0.mk eu
          clear eu
          obtain ⟨pv, Av, nv, mv, tv, ev⟩ := El.cells dk[y]!
          have ELv := Aside0.mk ev
          clear ev
          go_wp2_with fail
          have q := el_cells S2.out HH.out hg (by have := HS.out; have := HX.out; omega) (x) (by have := HS.out; have := HX.out; omega) _ _ _ ELu.out 0 #[]
          have r := el_cells S2.out HH.out hg (by have := HS.out; have := HX.out; omega) (y) (by have := HS.out; have := HX.out; omega) _ _ _ ELv.out 0 #[]
          rw [Go.Sort.grow_empty, World.drewN_zero] at q r
          obtain ⟨⟨q0, q1, q2⟩, q3, q4, q5⟩ := q
          obtain ⟨⟨r0, r1, r2⟩, r3, r4, r5⟩ := r
          
          go_wp2_with fail
          go_big_region_o
          
          have S3 := Aside0.mk (el_swap S2.out HH.out hg (by have := HS.out; have := HX.out; omega) (x) (y) (by have := HS.out; have := HX.out; omega) (by have := HS.out; have := HX.out; omega) _ _ _ _ _ _ ELv.out ELu.out)
          have HBX := Aside0.mk (box6 ((x) * 3) ((y) * 3) (.int .i64 pv) (.slice Av nv mv) (.int .i64 tv) (.int .i64 pu) (.slice Au nu mu) (.int .i64 tu) hne cR' fR')
          clear cR' fR'
          clear S2 q0 q1 q2 q3 q4 q5 r0 r1 r2 r3 r4 r5
          generalize World.drew ((((((World.setCell w2 ⟨g, (x) * 3, none⟩ _).setCell ⟨g, (x) * 3 + 1, none⟩ _).setCell ⟨g, (x) * 3 + 2, none⟩ _).setCell ⟨g, (y) * 3, none⟩ _).setCell ⟨g, (y) * 3 + 1, none⟩ _).setCell ⟨g, (y) * 3 + 2, none⟩ _) = w3 at S3 HBX ⊢
          go_wp2
          go_roundg (3 - (t + 1))
          case measure => omega
          case rel => exact ⟨t + 1, Go.Sort.xorNext r, Go.Sort.swp dk x y, by congr 1; push_cast; omega, by omega, Nat.le_refl _, by rw [Go.Sort.size_swp]; exact hds, S3, ⟨by rw [← HN.out.1]; exact HBX.out.1, HBX.out.2⟩,
            ⟨by rw [← HR.out, Go.Proofs.bp_step a L M _ t r dk (O) ht3 (by rw [← HN.out.2, if_neg (by omega)]), ← HX.out.1, ← HX.out.2]⟩⟩
    · obtain rfl : t = 3 := by omega
      have hle : ¬ ((a : Int) + (L : Int) / 4 * 2 - 1 + ((3 : Nat) : Int) ≤ (a : Int) + (L : Int) / 4 * 2 + 1) := by omega
      go_wp2
      go_end0
      refine ⟨rfl, ?_⟩
      rw [← HR.out]
      exact S1.out

/-! ### rank_reading_74: function 74 -/
/-! ### slices.order2 at readings -/
set_option maxHeartbeats 8000000 in
set_option maxRecDepth 100000 in
/-- order2. -/
theorem ord2All (W0 : World) (g cap : Nat) (ok : Nat → Prop) (d0 d : Array (El W0 g ok)) (hH : Go.Sort.HoldsK El.enc 3 W0 g 0 d0) (hg : g < W0.heap.size) (hs : d.size = d0.size) (hsz : d0.size < 4611686018427387904) (a b c s : Nat) (ha : a < d.size) (hb : b < d.size) (W : World) (hW : Go.Proofs.CntK El.enc 3 W0 g 0 d c s W) (hsw : s < 1000) :
    Calls Tryd.prog 74 #[.slice (some ⟨g, 0, none⟩) d.size cap, .int .i64 a, .int .i64 b, .pointer (some ⟨c, 0, none⟩), .func (.methodOf 47 "interlocutor/rank.against") #[] #[]] W fun e w' => e = .returned (.tuple #[.int .i64 (Go.Sort.order2 (Go.Proofs.ltOf El.cf) d a b s).1, .int .i64 (Go.Sort.order2 (Go.Proofs.ltOf El.cf) d a b s).2.1]) ∧ Go.Proofs.CntK El.enc 3 W0 g 0 d c (Go.Sort.order2 (Go.Proofs.ltOf El.cf) d a b s).2.2 w' := by
  have HH := Aside0.mk hH
  have mixed : Tryd.prog.follows .mixedOrders = true := by kernel_rfl
  have hm := meth_at
  have hmc := meth_call
  have HC := Aside0.mk hW
  have H0 := Aside0.mk hW.1
  have HS := Aside0.mk (And.intro hs (And.intro hsz hsw))
  have HAB := Aside0.mk (And.intro ha hb)
  clear ha hb
  clear hH hW hs hsz hsw
  go_enter Tryd.func74, Tryd.ntmps74
  have ia1 : (0 : Int) ≤ (a : Int) := by have := HAB.out; have := HS.out; omega
  have ib1 : (a : Int) < (d.size : Int) := by have := HAB.out; have := HS.out; omega
  have ic1 : ((a : Int)).toNat = a := by have := HAB.out; have := HS.out; omega
  have id1 : IntKind.i64.wrap ((a : Int)) = (a : Int) := by have := HAB.out; have := HS.out; rw [IntKind.wrap_i64]; omega
  have ia2 : (0 : Int) ≤ (b : Int) := by have := HAB.out; have := HS.out; omega
  have ib2 : (b : Int) < (d.size : Int) := by have := HAB.out; have := HS.out; omega
  have ic2 : ((b : Int)).toNat = b := by have := HAB.out; have := HS.out; omega
  have id2 : IntKind.i64.wrap ((b : Int)) = (b : Int) := by have := HAB.out; have := HS.out; rw [IntKind.wrap_i64]; omega
  obtain ⟨px, Ax, nx, mx, tx, ex⟩ := El.cells d[b]!
  have ELx := Aside0.mk ex
  clear ex
  obtain ⟨py, Ay, ny, my, ty, ey⟩ := El.cells d[a]!
  have ELy := Aside0.mk ey
  clear ey
  have qx := fun n os => el_cells H0.out HH.out hg (by have := HAB.out; have := HS.out; omega) (b) (by have := HAB.out; have := HS.out; omega) _ _ _ ELx.out n os
  have qy := fun n os => el_cells H0.out HH.out hg (by have := HAB.out; have := HS.out; omega) (a) (by have := HAB.out; have := HS.out; omega) _ _ _ ELy.out n os
  have q0 := fun n os => (qx n os).1.1
  have q1 := fun n os => (qx n os).1.2.1
  have q2 := fun n os => (qx n os).1.2.2
  have q3 := fun n os => (qy n os).1.1
  have q4 := fun n os => (qy n os).1.2.1
  have q5 := fun n os => (qy n os).1.2.2
  have cc := fun n os => ins_cmp H0.out d[b]! d[a]! _ _ ELx.out ELy.out n os
  clear qx qy
  have HC2 := fun n os => HC.out.grown n os
  have HCX := Aside0.mk HC2
  clear HC2
  go_wp2_with fail
  go_quiet_grown (first | (go_at_call 92; refine Calls.grown_of (cc _ _)))
  have H2 := Aside0.mk (H0.out.grown nq osq)
  clear cc q0 q1 q2 q3 q4 q5 H0
  have HC3 := Aside0.mk (HCX.out nq osq)
  clear HCX HC
  generalize Go.Sort.grow (World.drewN W nq) osq = W2 at H2 HC3 ⊢
  clear nq osq
  by_cases hc : (d[b]!).cf (d[a]!) < 0
  · have hlt2 := ltOf_yes hc
    rw [ltOf_yes3 hc]
    obtain ⟨_, q0, q1, _, _⟩ := HC3.out
    have w1 : IntKind.i64.wrap ((s : Int) + 1) = (s : Int) + 1 := by have := HAB.out; have := HS.out; rw [IntKind.wrap_i64]; omega
    go_wp2
    go_ret2
    rw [show Go.Sort.order2 (Go.Proofs.ltOf El.cf) d a b s = (b, a, s + 1) by simp [Go.Sort.order2, hlt2]]
    exact ⟨rfl, HC3.out.bump (s + 1)⟩
  · have hlt2 := ltOf_no hc
    rw [ltOf_no3 hc]
    go_wp2
    go_ret2
    rw [show Go.Sort.order2 (Go.Proofs.ltOf El.cf) d a b s = (a, b, s) by simp [Go.Sort.order2, hlt2]]
    exact ⟨rfl, HC3.out⟩

/-! ### rank_reading_69: function 69 -/
/-! ### slices.median at readings -/
set_option maxHeartbeats 8000000 in
set_option maxRecDepth 100000 in
/-- median. -/
theorem medAll (W0 : World) (g cap : Nat) (ok : Nat → Prop) (d0 d : Array (El W0 g ok)) (hH : Go.Sort.HoldsK El.enc 3 W0 g 0 d0) (hg : g < W0.heap.size) (hs : d.size = d0.size) (hsz : d0.size < 4611686018427387904) (a b k c s : Nat) (ha : a < d.size) (hb : b < d.size) (hk : k < d.size) (W : World) (hW : Go.Proofs.CntK El.enc 3 W0 g 0 d c s W) (hsw : s < 900) :
    Calls Tryd.prog 69 #[.slice (some ⟨g, 0, none⟩) d.size cap, .int .i64 a, .int .i64 b, .int .i64 k, .pointer (some ⟨c, 0, none⟩), .func (.methodOf 47 "interlocutor/rank.against") #[] #[]] W fun e w' => e = .returned (.int .i64 (Go.Sort.median (Go.Proofs.ltOf El.cf) d a b k s).1) ∧ Go.Proofs.CntK El.enc 3 W0 g 0 d c (Go.Sort.median (Go.Proofs.ltOf El.cf) d a b k s).2 w' := by
  have HH := Aside0.mk hH
  have mixed : Tryd.prog.follows .mixedOrders = true := by kernel_rfl
  have hm := meth_at
  have hmc := meth_call
  have HC := Aside0.mk hW
  have H0 := Aside0.mk hW.1
  have HS := Aside0.mk (And.intro hs (And.intro hsz hsw))
  have st := fun (W' : World) (t a' b' : Nat) (ha' : a' < d.size) (hb' : b' < d.size) (ht : t < 1000) (C' : Go.Proofs.CntK El.enc 3 W0 g 0 d c t W') => ord2All W0 g cap ok d0 d hH hg hs hsz a' b' c t ha' hb' W' C' ht
  have l1 := order2_lt' (Go.Proofs.ltOf El.cf) d s ha hb
  have s1 := order2_swaps' (Go.Proofs.ltOf El.cf) d a b s
  have l2 := order2_lt' (Go.Proofs.ltOf El.cf) d (Go.Sort.order2 (Go.Proofs.ltOf El.cf) d a b s).2.2 l1.2 hk
  have s2 := order2_swaps' (Go.Proofs.ltOf El.cf) d (Go.Sort.order2 (Go.Proofs.ltOf El.cf) d a b s).2.1 k (Go.Sort.order2 (Go.Proofs.ltOf El.cf) d a b s).2.2
  have HL := Aside0.mk (And.intro l1 l2)
  have HT := Aside0.mk (And.intro s1 s2)
  have ST := Aside0.mk st
  have HAB := Aside0.mk (And.intro ha (And.intro hb hk))
  clear ha hb hk l1 l2 s1 s2 st
  clear hH hW hs hsz hsw
  go_enter Tryd.func69, Tryd.ntmps69
  go_wp2_with (go_at_call 74; with_reducible refine (ST.out _ _ _ _ HAB.out.1 HAB.out.2.1 (by have := HS.out; omega) HC.out).mono ?_; rintro e w1 ⟨rfl, c1⟩; have C1 := Aside0.mk c1; clear c1)
  go_wp2_with (go_at_call 74; with_reducible refine (ST.out _ _ _ _ HL.out.1.2 HAB.out.2.2 (by have := HS.out; have := HT.out; omega) C1.out).mono ?_; rintro e w2 ⟨rfl, c2⟩; have C2 := Aside0.mk c2; clear c2)
  go_wp2_with (go_at_call 74; with_reducible refine (ST.out _ _ _ _ HL.out.1.1 HL.out.2.1 (by have := HS.out; have := HT.out; omega) C2.out).mono ?_; rintro e w3 ⟨rfl, c3⟩; have C3 := Aside0.mk c3; clear c3)
  go_ret
  exact ⟨rfl, C3.out⟩

/-! ### rank_reading_68: function 68 -/
/-! ### slices.medianAdjacent at readings -/
set_option maxHeartbeats 8000000 in
set_option maxRecDepth 100000 in
/-- medianAdjacent. -/
theorem medAdjAll (W0 : World) (g cap : Nat) (ok : Nat → Prop) (d0 d : Array (El W0 g ok)) (hH : Go.Sort.HoldsK El.enc 3 W0 g 0 d0) (hg : g < W0.heap.size) (hs : d.size = d0.size) (hsz : d0.size < 4611686018427387904) (a c s : Nat) (ha1 : 1 ≤ a) (ha : a + 1 < d.size) (W : World) (hW : Go.Proofs.CntK El.enc 3 W0 g 0 d c s W) (hsw : s < 900) :
    Calls Tryd.prog 68 #[.slice (some ⟨g, 0, none⟩) d.size cap, .int .i64 a, .pointer (some ⟨c, 0, none⟩), .func (.methodOf 47 "interlocutor/rank.against") #[] #[]] W fun e w' => e = .returned (.int .i64 (Go.Sort.medianAdjacent (Go.Proofs.ltOf El.cf) d a s).1) ∧ Go.Proofs.CntK El.enc 3 W0 g 0 d c (Go.Sort.medianAdjacent (Go.Proofs.ltOf El.cf) d a s).2 w' := by
  have HH := Aside0.mk hH
  have mixed : Tryd.prog.follows .mixedOrders = true := by kernel_rfl
  have hm := meth_at
  have hmc := meth_call
  have HC := Aside0.mk hW
  have H0 := Aside0.mk hW.1
  have HS := Aside0.mk (And.intro hs (And.intro hsz hsw))
  have st := medAll W0 g cap ok d0 d hH hg hs hsz (a - 1) a (a + 1) c s (by omega) (by omega) ha W hW hsw
  have ST := Aside0.mk st
  have HAB := Aside0.mk (And.intro ha1 ha)
  clear ha ha1 st
  clear hH hW hs hsz hsw
  go_enter Tryd.func68, Tryd.ntmps68
  have w1 : IntKind.i64.wrap ((a : Int) + 1) = ((a + 1 : Nat) : Int) := by have := HAB.out; have := HS.out; rw [IntKind.wrap_i64]; omega
  have w2 : IntKind.i64.wrap ((a : Int) - 1) = ((a - 1 : Nat) : Int) := by have := HAB.out; have := HS.out; rw [IntKind.wrap_i64]; omega
  go_wp2_with (go_at_call 69; refine (ST.out).mono ?_; rintro e w1 ⟨rfl, c1⟩; have C1 := Aside0.mk c1; clear c1)
  go_ret
  exact ⟨rfl, C1.out⟩

/-! ### rank_reading_54: function 54 -/
/-! ### slices.choosePivot at readings -/
set_option maxHeartbeats 8000000 in
set_option maxRecDepth 100000 in
/-- choosePivot, of a longer stretch. -/
theorem pivotAll (W0 : World) (g cap : Nat) (ok : Nat → Prop) (d0 d : Array (El W0 g ok)) (hH : Go.Sort.HoldsK El.enc 3 W0 g 0 d0) (hg : g < W0.heap.size) (hs : d.size = d0.size) (hsz : d0.size < 4611686018427387904) (a L : Nat) (hL : 13 ≤ L) (hb : a + L ≤ d.size) (W : World) (hW : SWK El.enc 3 W0 g 0 d W) :
    Calls Tryd.prog 54 #[.slice (some ⟨g, 0, none⟩) d.size cap, .int .i64 a, .int .i64 ((a + L : Nat) : Int), .func (.methodOf 47 "interlocutor/rank.against") #[] #[]] W fun e w' => e = .returned (.tuple #[.int .i64 (Go.Sort.choosePivot (Go.Proofs.ltOf El.cf) d a (a + L)).1, .int .i64 (Go.Sort.hintCode (Go.Sort.choosePivot (Go.Proofs.ltOf El.cf) d a (a + L)).2)]) ∧ SWK El.enc 3 W0 g 0 d w' := by
  have HH := Aside0.mk hH
  have mixed : Tryd.prog.follows .mixedOrders = true := by kernel_rfl
  have hm := meth_at
  have hmc := meth_call
  have H0 := Aside0.mk hW
  have HS := Aside0.mk (And.intro hs hsz)
  have ma := fun (W' : World) (x c s : Nat) (h1 : 1 ≤ x) (h2 : x + 1 < d.size) (h3 : s < 900) (C' : Go.Proofs.CntK El.enc 3 W0 g 0 d c s W') => medAdjAll W0 g cap ok d0 d hH hg hs hsz x c s h1 h2 W' C' h3
  have me := fun (W' : World) (x y z c s : Nat) (h1 : x < d.size) (h2 : y < d.size) (h4 : z < d.size) (h3 : s < 900) (C' : Go.Proofs.CntK El.enc 3 W0 g 0 d c s W') => medAll W0 g cap ok d0 d hH hg hs hsz x y z c s h1 h2 h4 W' C' h3
  have MA := Aside0.mk ma
  have ME := Aside0.mk me
  have CS := Aside0.mk (fun T => Go.Proofs.CntK.start (T := T) hW)
  have HAB := Aside0.mk (And.intro hL hb)
  clear hL hb ma me
  clear hH hW hs hsz
  obtain ⟨q, hq⟩ : ∃ q : Nat, q = L / 4 := ⟨_, rfl⟩
  obtain ⟨i, hi⟩ : ∃ i : Nat, i = a + q * 1 := ⟨_, rfl⟩
  obtain ⟨j, hj⟩ : ∃ j : Nat, j = a + q * 2 := ⟨_, rfl⟩
  obtain ⟨k, hk⟩ : ∃ k : Nat, k = a + q * 3 := ⟨_, rfl⟩
  have HQ := Aside0.mk (And.intro hq (And.intro hi (And.intro hj hk)))
  clear hq hi hj hk
  have w1 : IntKind.i64.wrap ((a : Int) + (L : Int) - (a : Int)) = (L : Int) := by have := HAB.out; have := HS.out; have := HQ.out; rw [IntKind.wrap_i64]; omega
  have w2 : (L : Int).tdiv 4 = (q : Int) := by have := HAB.out; have := HS.out; have := HQ.out; rw [Int.tdiv_eq_ediv_of_nonneg (by omega)]; omega
  have w3 : IntKind.i64.wrap (q : Int) = (q : Int) := by have := HAB.out; have := HS.out; have := HQ.out; rw [IntKind.wrap_i64]; omega
  have w4 : IntKind.i64.wrap ((a : Int) + (q : Int)) = (i : Int) := by have := HAB.out; have := HS.out; have := HQ.out; rw [IntKind.wrap_i64]; omega
  have w5 : IntKind.i64.wrap ((q : Int) * 2) = (q : Int) * 2 := by have := HAB.out; have := HS.out; have := HQ.out; rw [IntKind.wrap_i64]; omega
  have w6 : IntKind.i64.wrap ((a : Int) + (q : Int) * 2) = (j : Int) := by have := HAB.out; have := HS.out; have := HQ.out; rw [IntKind.wrap_i64]; omega
  have w7 : IntKind.i64.wrap ((q : Int) * 3) = (q : Int) * 3 := by have := HAB.out; have := HS.out; have := HQ.out; rw [IntKind.wrap_i64]; omega
  have w8 : IntKind.i64.wrap ((a : Int) + (q : Int) * 3) = (k : Int) := by have := HAB.out; have := HS.out; have := HQ.out; rw [IntKind.wrap_i64]; omega
  have w9 : (8 : Int) ≤ (L : Int) := by have := HAB.out; have := HS.out; have := HQ.out; omega
  have hraw : Go.Sort.rawPivot (Go.Proofs.ltOf El.cf) d a (a + L) = (if L ≥ 50 then
        Go.Sort.median (Go.Proofs.ltOf El.cf) d (Go.Sort.medianAdjacent (Go.Proofs.ltOf El.cf) d i 0).1 (Go.Sort.medianAdjacent (Go.Proofs.ltOf El.cf) d j (Go.Sort.medianAdjacent (Go.Proofs.ltOf El.cf) d i 0).2).1
          (Go.Sort.medianAdjacent (Go.Proofs.ltOf El.cf) d k (Go.Sort.medianAdjacent (Go.Proofs.ltOf El.cf) d j (Go.Sort.medianAdjacent (Go.Proofs.ltOf El.cf) d i 0).2).2).1
          (Go.Sort.medianAdjacent (Go.Proofs.ltOf El.cf) d k (Go.Sort.medianAdjacent (Go.Proofs.ltOf El.cf) d j (Go.Sort.medianAdjacent (Go.Proofs.ltOf El.cf) d i 0).2).2).2
      else Go.Sort.median (Go.Proofs.ltOf El.cf) d i j k 0) := by
    have e : a + L - a = L := by omega
    obtain ⟨e0, e1, e2, e3⟩ := HQ.out
    rw [Go.Sort.rawPivot, e, if_pos (by have := HAB.out; omega), ← e0, ← e1, ← e2, ← e3]
  have HR := Aside0.mk hraw
  clear hraw
  by_cases h50 : 50 ≤ L
  · have h50z : (50 : Int) ≤ (L : Int) := by omega
    obtain ⟨i1, s1, h1⟩ : ∃ x s, Go.Sort.medianAdjacent (Go.Proofs.ltOf El.cf) d i 0 = (x, s) := ⟨_, _, rfl⟩
    obtain ⟨j1, s2, h2⟩ : ∃ x s, Go.Sort.medianAdjacent (Go.Proofs.ltOf El.cf) d j s1 = (x, s) := ⟨_, _, rfl⟩
    obtain ⟨k1, s3, h3⟩ : ∃ x s, Go.Sort.medianAdjacent (Go.Proofs.ltOf El.cf) d k s2 = (x, s) := ⟨_, _, rfl⟩
    obtain ⟨p, s, h4⟩ : ∃ x s, Go.Sort.median (Go.Proofs.ltOf El.cf) d i1 j1 k1 s3 = (x, s) := ⟨_, _, rfl⟩
    have hrw : Go.Sort.rawPivot (Go.Proofs.ltOf El.cf) d a (a + L) = (p, s) := by rw [HR.out, if_pos h50]; simp only [h1, h2, h3, h4]
    have n1 := Go.Sort.medianAdjacent_count (Go.Proofs.ltOf El.cf) d i 0
    have n2 := Go.Sort.medianAdjacent_count (Go.Proofs.ltOf El.cf) d j s1
    have n3 := Go.Sort.medianAdjacent_count (Go.Proofs.ltOf El.cf) d k s2
    have m1 := Go.Sort.medianAdjacent_mem (Go.Proofs.ltOf El.cf) d i 0
    have m2 := Go.Sort.medianAdjacent_mem (Go.Proofs.ltOf El.cf) d j s1
    have m3 := Go.Sort.medianAdjacent_mem (Go.Proofs.ltOf El.cf) d k s2
    rw [h1] at n1 m1
    rw [h2] at n2 m2
    rw [h3] at n3 m3
    have hsmall : i1 < d.size ∧ j1 < d.size ∧ k1 < d.size ∧ 1 ≤ i ∧ i + 1 < d.size ∧ 1 ≤ j ∧ j + 1 < d.size ∧ 1 ≤ k ∧ k + 1 < d.size ∧ s1 < 900 ∧ s2 < 900 ∧ s3 < 900 := by have := HAB.out; have := HS.out; have := HQ.out; dsimp only at *; omega
    clear n1 n2 n3 m1 m2 m3
    have c1 := MA.out _ i W.heap.size 0 hsmall.2.2.2.1 hsmall.2.2.2.2.1 (by omega) (CS.out 3)
    rw [h1] at c1
    have c2 := fun W' C' => MA.out W' j W.heap.size s1 hsmall.2.2.2.2.2.1 hsmall.2.2.2.2.2.2.1 (by omega) C'
    rw [h2] at c2
    have c3 := fun W' C' => MA.out W' k W.heap.size s2 hsmall.2.2.2.2.2.2.2.1 hsmall.2.2.2.2.2.2.2.2.1 (by omega) C'
    rw [h3] at c3
    have c4 := fun W' C' => ME.out W' i1 j1 k1 W.heap.size s3 hsmall.1 hsmall.2.1 hsmall.2.2.1 (by omega) C'
    rw [h4] at c4
    dsimp only at c1 c2 c3 c4
    clear h1 h2 h3 h4 hsmall
    obtain ⟨Hc, hHc⟩ : ∃ Hc : Int, Hc = Go.Sort.hintCode (Go.Sort.hintOf s) := ⟨_, rfl⟩
    have hh0 : s = 0 → Hc = 1 := fun h => by rw [hHc, h]; rfl
    have hh12 : s = 12 → Hc = 2 := fun h => by rw [hHc, h]; rfl
    have hhx : s ≠ 0 → s ≠ 12 → Hc = 0 := fun h1 h2 => by rw [hHc]; unfold Go.Sort.hintOf; rw [if_neg h1, if_neg h2]; rfl
    rw [Go.Sort.choosePivot_eq, hrw]
    show Calls Tryd.prog _ _ W fun e w' => e = .returned (.tuple #[.int .i64 (p : Int), .int .i64 (Go.Sort.hintCode (Go.Sort.hintOf s))]) ∧ SWK El.enc 3 W0 g 0 d w'
    rw [← hHc]
    clear hHc hrw HR
    go_enter Tryd.func54, Tryd.ntmps54
    go_wp2_with (go_at_call_of 68 (Value.int .i64 (i : Int)); refine c1.mono ?_; rintro e w1 ⟨rfl, C1⟩)
    go_wp2_with (go_at_call_of 68 (Value.int .i64 (j : Int)); refine (c2 _ C1).mono ?_; rintro e w2 ⟨rfl, C2⟩)
    go_wp2_with (go_at_call_of 68 (Value.int .i64 (k : Int)); refine (c3 _ C2).mono ?_; rintro e w3 ⟨rfl, C3⟩)
    go_wp2_with (go_at_call 69; refine (c4 _ C3).mono ?_; rintro e w4 ⟨rfl, S4, cc, cfz, _, _⟩)
    all_goals
      go_ret2
      refine ⟨?_, S4⟩
      first
        | (have e0 : (s : Int) = 0 := of_beq_int (by assumption)
           rw [hh0 (by omega)]; rfl)
        | (have e1 : (s : Int) = 12 := of_beq_int (by assumption)
           rw [hh12 (by omega)]; rfl)
        | (have e0 : (s : Int) ≠ 0 := of_bne_int (by assumption)
           have e1 : (s : Int) ≠ 12 := of_bne_int (by assumption)
           rw [hhx (by omega) (by omega)]; rfl)
        | (rw [hh0 (by omega)]; rfl)
  · have h50z : ¬ (50 : Int) ≤ (L : Int) := by omega
    obtain ⟨p, s, h4⟩ : ∃ x s, Go.Sort.median (Go.Proofs.ltOf El.cf) d i j k 0 = (x, s) := ⟨_, _, rfl⟩
    have hrw : Go.Sort.rawPivot (Go.Proofs.ltOf El.cf) d a (a + L) = (p, s) := by rw [HR.out, if_neg h50, h4]
    have c4 := ME.out _ i j k W.heap.size 0 (by have := HAB.out; have := HS.out; have := HQ.out; omega) (by have := HAB.out; have := HS.out; have := HQ.out; omega) (by have := HAB.out; have := HS.out; have := HQ.out; omega) (by omega) (CS.out 3)
    rw [h4] at c4
    dsimp only at c4
    clear h4
    obtain ⟨Hc, hHc⟩ : ∃ Hc : Int, Hc = Go.Sort.hintCode (Go.Sort.hintOf s) := ⟨_, rfl⟩
    have hh0 : s = 0 → Hc = 1 := fun h => by rw [hHc, h]; rfl
    have hh12 : s = 12 → Hc = 2 := fun h => by rw [hHc, h]; rfl
    have hhx : s ≠ 0 → s ≠ 12 → Hc = 0 := fun h1 h2 => by rw [hHc]; unfold Go.Sort.hintOf; rw [if_neg h1, if_neg h2]; rfl
    rw [Go.Sort.choosePivot_eq, hrw]
    show Calls Tryd.prog _ _ W fun e w' => e = .returned (.tuple #[.int .i64 (p : Int), .int .i64 (Go.Sort.hintCode (Go.Sort.hintOf s))]) ∧ SWK El.enc 3 W0 g 0 d w'
    rw [← hHc]
    clear hHc hrw HR
    go_enter Tryd.func54, Tryd.ntmps54
    go_wp2_with (go_at_call 69; refine c4.mono ?_; rintro e w4 ⟨rfl, S4, cc, cfz, _, _⟩)
    all_goals
      go_ret2
      refine ⟨?_, S4⟩
      first
        | (have e0 : (s : Int) = 0 := of_beq_int (by assumption)
           rw [hh0 (by omega)]; rfl)
        | (have e1 : (s : Int) = 12 := of_beq_int (by assumption)
           rw [hh12 (by omega)]; rfl)
        | (have e0 : (s : Int) ≠ 0 := of_bne_int (by assumption)
           have e1 : (s : Int) ≠ 12 := of_bne_int (by assumption)
           rw [hhx (by omega) (by omega)]; rfl)
        | (rw [hh0 (by omega)]; rfl)

end Go.Proofs.YtlgndfplikhflaaDoor.G
