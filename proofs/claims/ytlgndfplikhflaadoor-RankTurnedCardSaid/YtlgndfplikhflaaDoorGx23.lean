-- printed by wip/tool/gprint.py, a program of this work, out of the translation; Lean checks it
import Derived.Test.YtlgndfplikhflaaDoorGx0
import Derived.Test.YtlgndfplikhflaaDoorGx4
import Derived.Test.YtlgndfplikhflaaDoorGx11
import Derived.Test.YtlgndfplikhflaaDoorGx12
import Derived.Test.YtlgndfplikhflaaDoorGx15
import Derived.Test.YtlgndfplikhflaaDoorGx16
namespace Go.Proofs.YtlgndfplikhflaaDoor.G
open Go.RowKit Go.Proofs.YtlgndfplikhflaaDoorW.PrintWords Go.Proofs.YtlgndfplikhflaaDoorW.PrintLast Go.Proofs.YtlgndfplikhflaaDoorW.PrintMore Go.Proofs.YtlgndfplikhflaaDoorW.VWords Go.Proofs.YtlgndfplikhflaaDoorW.Tab
attribute [local go_sem] max2_int min2_int max_two min_two max_three min_three max_four min_four   -- for this text's walks alone
set_option linter.unusedVariables false
set_option linter.unusedSimpArgs false

/-! ### interlocutorlaw10_RankTurned: function 6 -/
/-- A row of one's own, of the package's readings, as the sort's words tell it. -/
theorem api_hold (W : World) (base : Nat) (ok : Nat → Prop) (g cap : Nat) (xs : List S36) (hN : Kd.N k36 36 W base ok (.slice (some ⟨g, 0, none⟩) xs.length cap) xs) (hF : ∀ x ∈ xs, x.f0.f1.length ≤ 1000000) :
    ∃ d : Array (El W g ok), d.toList.map (fun p => p.1.1) = xs ∧ Go.Sort.HoldsK El.enc 3 W g 0 d := by
  have hex : ∀ j : Fin xs.length, ∃ p : El W g ok, p.1.1 = xs[j] ∧ (∀ i u, p.1.2[i]? = some u → W.cell? ⟨g, j.1 * 3 + i, none⟩ = some u) ∧ ∀ i, W.frozen? ⟨g, j.1 * 3 + i, none⟩ = false := by
    intro j
    obtain ⟨c, hcl, hK, hcc, hfr⟩ := Kd.N_elem hN z36 (j.1 : Int) (by omega) (by have := j.2; omega)
    have hj : xs.getD (j.1 : Int).toNat z36 = xs[j] := by
      rw [Int.toNat_natCast, List.getD_eq_getElem?_getD, List.getElem?_eq_getElem j.2]
      rfl
    rw [hj] at hK
    simp only [Int.toNat_natCast] at hcc hfr
    exact ⟨⟨(xs[j], c), hK, hF _ (List.getElem_mem j.2)⟩, rfl, hcc, hfr⟩
  obtain ⟨f, hf⟩ := Classical.axiomOfChoice hex
  have hds : (Array.ofFn f).size = xs.length := Array.size_ofFn
  have hget : ∀ j (h : j < xs.length), (Array.ofFn f)[j]! = f ⟨j, h⟩ := fun j h => by
    rw [getElem!_pos _ j (by rw [hds]; exact h)]
    simp
  have hH : Go.Sort.HoldsK El.enc 3 W g 0 (Array.ofFn f) := by
    intro t ht
    rw [Go.Sort.size_flatK, hds] at ht
    rw [Go.Sort.get_flatK _ _ _ _ (by rw [hds]; exact ht)]
    have hq : t / 3 < xs.length := by omega
    rw [hget _ hq]
    have e : 0 + t = t / 3 * 3 + t % 3 := by omega
    obtain ⟨_, h2, h3⟩ := hf ⟨t / 3, hq⟩
    have hlen : t % 3 < (f ⟨t / 3, hq⟩).enc.length := by rw [El.len]; omega
    rw [e]
    refine ⟨?_, h3 _⟩
    rw [getElem!_pos (f ⟨t / 3, hq⟩).enc (t % 3) hlen]
    exact h2 _ _ (List.getElem?_eq_getElem hlen)
  have hmap : (Array.ofFn f).toList.map (fun p => p.1.1) = xs := by
    apply List.ext_getElem
    · simp
    · intro i h1 h2
      simp
      exact (hf ⟨i, h2⟩).1
  exact ⟨Array.ofFn f, hmap, hH⟩
theorem swk_below {W : World} {g base : Nat} {ok : Nat → Prop} {d' : Array (El W g ok)} {w' : World} (hs : SWK El.enc 3 W g 0 d' w') (hb : base ≤ g) (hg : g < W.heap.size) : Below base W w' := by
  obtain ⟨n, os, rfl⟩ := hs
  refine ⟨rfl, rfl, rfl, Go.Proofs.size_sortWorldK_c El.enc 3 W g 0 n d' os, fun k hk => ?_⟩
  rcases Nat.lt_or_ge k W.heap.size with h | h
  · exact srt_heap n d' os k (by omega) h
  · omega
/-- What the walk asks. -/
def turnOk (k : Nat) (ns os : List Int) (most : Int) (l : List S36) (t : Int) (r : List S36) (c : Bool) : Prop :=
  interlocutorlaw10_Make.f k ns 40 = some l ∧ l.length ≤ 40 ∧ (∀ x ∈ l, x.f0.f1.length ≤ 1000000) ∧ (l ≠ [] → ∀ i : Nat, i < os.length → ∃ b : Nat, b < l.length ∧ interlocutorlaw10_within.f (rd os (i : Int)) (l.length : Int) = some (b : Int)) ∧
  interlocutorlaw10_within.f most 50 = some t ∧ (∀ l' : List S36, l'.Perm l → rank_Best.f l' t = some (r, c)) ∧ interlocutorref10_Same.f k r r = some true
set_option maxHeartbeats 8000000 in
set_option maxRecDepth 100000 in
theorem RankTurned_walk (k : Nat) (A0 A1 : Option Addr) (c0 c1 : Nat) (ns os : List Int) (most : Int) (l : List S36) (t : Int) (r : List S36) (c : Bool) (w : World) (hr0 : Kd.C (Kd.int .i64) w A0 ns.length ns) (hc0 : ns.length ≤ c0) (hr1 : Kd.C (Kd.int .i64) w A1 os.length os) (hok : turnOk k ns os most l t r c) (hl0 : l ≠ []) (hT_ : YtlgndfplikhflaaDoorW.Tab.TabOK w) :
    Calls Tryd.prog 6 #[.slice A0 ns.length c0, .slice A1 os.length c1, .int .i64 most] w fun e w' => e = .returned (.bool true) ∧ Below w.heap.size w w' := by
  obtain ⟨h1, h2, h3, h4, h5, h6, h7⟩ := hok
  have mixed : Tryd.prog.follows .mixedOrders = true := by kernel_rfl
  have HT_ := Aside0.mk hT_
  have HB := Aside0.mk (Below.refl w.heap.size w)
  have HR0 := Aside0.mk hr0
  have HC0 := Aside0.mk hc0
  have HR1 := Aside0.mk hr1
  have HM1 := Aside0.mk h1
  have HM2 := Aside0.mk h1
  have HLP := Aside0.mk (List.length_pos_iff.2 hl0)
  have H2 := Aside0.mk h2
  have H3 := Aside0.mk h3
  have H4 := Aside0.mk (h4 hl0)
  have H5 := Aside0.mk h5
  have HBA := Aside0.mk h6
  have HBB := Aside0.mk h6
  have H7 := Aside0.mk h7
  clear hr0 hr1 hc0 h1 h2 h3 h4 h5 h6 h7 hT_ hl0
  have hu1 := Tryd.underlying36
  go_enter Tryd.func6, Tryd.ntmps6
  go_wp2_with (first
    | (go_at_call 13; (with_reducible refine (interlocutorlaw10_known.calls true _ rfl HT_.out).mono ?_); rintro e w1 ⟨rfl, hb⟩; have HB1 := Aside0.mk hb; clear hb HB)
    | (go_at_call 16; (with_reducible refine (interlocutorlaw10_Make.calls k A0 c0 ns 40 l _ (Kd.C_below HR0.out HB1.out) HC0.out HM1.out).mono ?_); clear HM1; rintro e w2 ⟨v2, rfl, ho, hb⟩; obtain ⟨A2, c2, hv2⟩ := Kd.S_slice ho; subst hv2; have HF2 := Aside0.mk (Kd.F_bound (Kd.N_F (Kd.S_N ho))); have HL2 := Aside0.mk (Kd.S_reads' ho).2.1; have HB2 := Aside0.mk (below_step HB1.out hb); clear hb ho)
    | (go_at_call 16; (with_reducible refine (interlocutorlaw10_Make.calls k A0 c0 ns 40 l _ (Kd.C_below HR0.out HB2.out) HC0.out HM2.out).mono ?_); clear HM2; rintro e w3 ⟨v3, rfl, ho, hb⟩; obtain ⟨g, cap, hv3, hbg, hgl, _⟩ := Kd.N_form (Kd.S_N ho) HLP.out; subst hv3; have HO3 := Aside0.mk (Kd.S_N ho); have HL3 := Aside0.mk (Kd.S_reads' ho).2.1; have HB3 := Aside0.mk hb; have HG3 := Aside0.mk (And.intro hbg hgl); clear hb ho hbg hgl))
  obtain ⟨S1, HS1⟩ : ∃ S, Aside0 (S = w2.heap.size) := ⟨_, ⟨rfl⟩⟩
  obtain ⟨d0, hd0, hH⟩ := api_hold w3 w2.heap.size _ g cap l HO3.out H3.out
  have HH := Aside0.mk hH
  have HD0 := Aside0.mk hd0
  have hg : g < w3.heap.size := HG3.out.2
  have HZ0 := Aside0.mk (show d0.size = l.length by rw [← hd0]; simp)
  clear hd0 hH
  obtain ⟨m, HM⟩ : ∃ m, Aside0 (m = min os.length 40) := ⟨_, ⟨rfl⟩⟩
  obtain ⟨n, HN⟩ : ∃ n, Aside0 (n = l.length) := ⟨_, ⟨rfl⟩⟩
  rw [show l.length = n from HN.out.symm]
  go_loopg [9] m (fun kq v9 wr => ∃ (i : Nat) (dk : Array (El w3 g (fun _ => True))), v9 = .int .i64 i ∧ Aside0 (i + kq = m) ∧ Aside0 (dk.toList.Perm d0.toList ∧ dk.size = n) ∧ Aside0 (SWK El.enc 3 w3 g 0 dk wr))
  case atStart => exact ⟨0, d0, rfl, ⟨by simp⟩, ⟨List.Perm.refl _, by rw [HZ0.out, HN.out]⟩, ⟨SWK.start HH.out⟩⟩
  case round =>
    obtain ⟨i, d, rfl, HI, HP, HK⟩ := hrel
    by_cases hi : i < m
    · cases gk with
      | zero => exact absurd HI.out (by omega)
      | succ k1 =>
        obtain ⟨b, hb, hwb⟩ := H4.out i (by have := HM.out; omega)
        have hi0 : (i : Int) < (os.length : Int) := by have := HM.out; omega
        have hi1 : (i : Int) < 40 := by have := HM.out; omega
        have hn1 : (0 : Int) < (n : Int) := by have := HN.out; have := HLP.out; omega
        have hn2 : (n : Int) > 0 := hn1
        have hn3 : ¬ (n : Int) = 0 := by omega
        have hn4 : ((n : Int) == 0) = false := beq_eq_false_iff_ne.2 hn3
        have hn6 : ¬ n = 0 := by omega
        obtain ⟨ad, e0, hcell⟩ := ReadsOf.at_ (Kd.reads_of_C (enc := Value.int .i64) (d := (0 : Int)) (h1 := fun _ => rfl) HR1.out) (i : Int) (by omega) hi0
        subst e0
        have hbr := swk_below HK.out HG3.out.1 hg
        have hb2r := Below.trans HB3.out hbr
        replace hcell := pw_cell_below (below_step HB2.out hb2r) hcell
        rw [Int.toNat_natCast] at hcell
        obtain ⟨z, HZ⟩ : ∃ z, Aside0 (z = rd os (i : Int)) := ⟨_, ⟨rfl⟩⟩
        replace hcell : wr.cell? (ad.add i) = some (.int .i64 (rd os (i : Int))) := hcell
        rw [← HZ.out] at hcell hwb
        rw [← HN.out] at hwb hb
        have HWB := Aside0.mk hwb
        have g0 := fun nn os => Go.cell_grown (World.block_lt_of_cell? _ _ hcell) hcell nn os
        obtain ⟨a, ha⟩ : ∃ a : Nat, a = i % n := ⟨_, rfl⟩
        have han : a < n := by rw [ha]; exact Nat.mod_lt _ (by omega)
        have hq1 : (i : Int).tmod (n : Int) = (a : Int) := by rw [ha]; rfl
        have hq2 : (i : Int) % (n : Int) = (a : Int) := by rw [ha]; rfl
        have HAB := Aside0.mk (And.intro han hb)
        have hq3 : IntKind.i64.wrap (a : Int) = (a : Int) := by have := H2.out; have := HN.out; rw [IntKind.wrap_i64]; omega
        have HW := Aside0.mk (show wrap64 ((i : Int) + 1) = ((i + 1 : Nat) : Int) by unfold wrap64; omega)
        have cc := fun nn os => (interlocutorlaw10_within.calls z (n : Int) (b : Int) (Go.Sort.grow (wr.drewN nn) os) HWB.out).mono (fun e w' (h : e = .returned (.int .i64 (b : Int)) ∧ Drawn0 _ w') => (⟨h.1, by obtain ⟨nd, hw⟩ := h.2; exact ⟨nd, #[], by rw [hw, Go.Sort.grow_empty]⟩⟩ : e = .returned (.int .i64 (b : Int)) ∧ ∃ q os', w' = Go.Sort.grow ((Go.Sort.grow (wr.drewN nn) os).drewN q) os'))
        clear hcell hbr hb2r ha hwb
        go_wp2_with fail
        go_quiet_grown (first | (go_at_call 17; refine Calls.grown_of (cc _ _)))
        have HK2 := Aside0.mk (HK.out.grown nq osq)
        clear cc g0 HK
        generalize Go.Sort.grow (World.drewN wr nq) osq = W2 at HK2 ⊢
        clear nq osq
        clear han hb
        have ia1 : (0 : Int) ≤ (a : Int) := by have := HP.out.2; have := HZ0.out; have := HN.out; have := HAB.out; have := H2.out; omega
        have ib1 : (a : Int) < (n : Int) := by have := HP.out.2; have := HZ0.out; have := HN.out; have := HAB.out; have := H2.out; omega
        have ic1 : ((a : Int)).toNat = a := by have := HP.out.2; have := HZ0.out; have := HN.out; have := HAB.out; have := H2.out; omega
        have id1 : IntKind.i64.wrap ((a : Int)) = (a : Int) := by have := HP.out.2; have := HZ0.out; have := HN.out; have := HAB.out; have := H2.out; rw [IntKind.wrap_i64]; omega
        by_cases hab : a = b
        · subst hab
          obtain ⟨px, Ax, nx, mx, tx, ex⟩ := El.cells d[a]!
          have ELx := Aside0.mk ex
          clear ex
          go_wp2_with fail
          have q := el_cells HK2.out HH.out hg (by have := HP.out.2; have := HZ0.out; have := HN.out; have := HAB.out; have := H2.out; omega) (a) (by have := HP.out.2; have := HZ0.out; have := HN.out; have := HAB.out; have := H2.out; omega) _ _ _ ELx.out 0 #[]
          have r := el_cells HK2.out HH.out hg (by have := HP.out.2; have := HZ0.out; have := HN.out; have := HAB.out; have := H2.out; omega) (a) (by have := HP.out.2; have := HZ0.out; have := HN.out; have := HAB.out; have := H2.out; omega) _ _ _ ELx.out 0 #[]
          rw [Go.Sort.grow_empty, World.drewN_zero] at q r
          obtain ⟨⟨q0, q1, q2⟩, q3, q4, q5⟩ := q
          obtain ⟨⟨r0, r1, r2⟩, r3, r4, r5⟩ := r
          
          go_wp2_with fail
          go_big_region_o
          
          have H3' := Aside0.mk (el_swap HK2.out HH.out hg (by have := HP.out.2; have := HZ0.out; have := HN.out; have := HAB.out; have := H2.out; omega) (a) (a) (by have := HP.out.2; have := HZ0.out; have := HN.out; have := HAB.out; have := H2.out; omega) (by have := HP.out.2; have := HZ0.out; have := HN.out; have := HAB.out; have := H2.out; omega) _ _ _ _ _ _ ELx.out ELx.out)
          
          clear HK2 q0 q1 q2 q3 q4 q5 r0 r1 r2 r3 r4 r5
          generalize World.drew ((((((World.setCell W2 ⟨g, (a) * 3, none⟩ _).setCell ⟨g, (a) * 3 + 1, none⟩ _).setCell ⟨g, (a) * 3 + 2, none⟩ _).setCell ⟨g, (a) * 3, none⟩ _).setCell ⟨g, (a) * 3 + 1, none⟩ _).setCell ⟨g, (a) * 3 + 2, none⟩ _) = W3' at H3'  ⊢
          go_wp2
          go_roundg k1
          case measure => omega
          case rel => exact ⟨i + 1, Go.Sort.swp d a a, by first | rw [HW.out] | (congr 1; omega) | rfl, ⟨by have := HI.out; omega⟩, ⟨(perm_whole (Go.Sort.swp_permIn d 0 d.size a a (Nat.zero_le _) (by have := HP.out.2; have := HZ0.out; have := HN.out; have := HAB.out; have := H2.out; omega) (Nat.zero_le _) (by have := HP.out.2; have := HZ0.out; have := HN.out; have := HAB.out; have := H2.out; omega) (Nat.le_refl _))).trans HP.out.1, by rw [Go.Sort.size_swp]; exact HP.out.2⟩, H3'⟩
        · 
          have ia2 : (0 : Int) ≤ (b : Int) := by have := HP.out.2; have := HZ0.out; have := HN.out; have := HAB.out; have := H2.out; omega
          have ib2 : (b : Int) < (n : Int) := by have := HP.out.2; have := HZ0.out; have := HN.out; have := HAB.out; have := H2.out; omega
          have ic2 : ((b : Int)).toNat = b := by have := HP.out.2; have := HZ0.out; have := HN.out; have := HAB.out; have := H2.out; omega
          have id2 : IntKind.i64.wrap ((b : Int)) = (b : Int) := by have := HP.out.2; have := HZ0.out; have := HN.out; have := HAB.out; have := H2.out; rw [IntKind.wrap_i64]; omega
          obtain ⟨px, Ax, nx, mx, tx, ex⟩ := El.cells d[a]!
          have ELx := Aside0.mk ex
          clear ex
          obtain ⟨py, Ay, ny, my, ty, ey⟩ := El.cells d[b]!
          have ELy := Aside0.mk ey
          clear ey
          go_wp2_with fail
          have q := el_cells HK2.out HH.out hg (by have := HP.out.2; have := HZ0.out; have := HN.out; have := HAB.out; have := H2.out; omega) (a) (by have := HP.out.2; have := HZ0.out; have := HN.out; have := HAB.out; have := H2.out; omega) _ _ _ ELx.out 0 #[]
          have r := el_cells HK2.out HH.out hg (by have := HP.out.2; have := HZ0.out; have := HN.out; have := HAB.out; have := H2.out; omega) (b) (by have := HP.out.2; have := HZ0.out; have := HN.out; have := HAB.out; have := H2.out; omega) _ _ _ ELy.out 0 #[]
          rw [Go.Sort.grow_empty, World.drewN_zero] at q r
          obtain ⟨⟨q0, q1, q2⟩, q3, q4, q5⟩ := q
          obtain ⟨⟨r0, r1, r2⟩, r3, r4, r5⟩ := r
          
          go_wp2_with fail
          go_big_region_o
          
          have H3' := Aside0.mk (el_swap HK2.out HH.out hg (by have := HP.out.2; have := HZ0.out; have := HN.out; have := HAB.out; have := H2.out; omega) (a) (b) (by have := HP.out.2; have := HZ0.out; have := HN.out; have := HAB.out; have := H2.out; omega) (by have := HP.out.2; have := HZ0.out; have := HN.out; have := HAB.out; have := H2.out; omega) _ _ _ _ _ _ ELy.out ELx.out)
          
          clear HK2 q0 q1 q2 q3 q4 q5 r0 r1 r2 r3 r4 r5
          generalize World.drew ((((((World.setCell W2 ⟨g, (a) * 3, none⟩ _).setCell ⟨g, (a) * 3 + 1, none⟩ _).setCell ⟨g, (a) * 3 + 2, none⟩ _).setCell ⟨g, (b) * 3, none⟩ _).setCell ⟨g, (b) * 3 + 1, none⟩ _).setCell ⟨g, (b) * 3 + 2, none⟩ _) = W3' at H3'  ⊢
          go_wp2
          go_roundg k1
          case measure => omega
          case rel => exact ⟨i + 1, Go.Sort.swp d a b, by first | rw [HW.out] | (congr 1; omega) | rfl, ⟨by have := HI.out; omega⟩, ⟨(perm_whole (Go.Sort.swp_permIn d 0 d.size a b (Nat.zero_le _) (by have := HP.out.2; have := HZ0.out; have := HN.out; have := HAB.out; have := H2.out; omega) (Nat.zero_le _) (by have := HP.out.2; have := HZ0.out; have := HN.out; have := HAB.out; have := H2.out; omega) (Nat.le_refl _))).trans HP.out.1, by rw [Go.Sort.size_swp]; exact HP.out.2⟩, H3'⟩
    · have hi2 : i = m := by have := HI.out; omega
      have hguard : (i : Int) < (os.length : Int) → ¬ (i : Int) < 40 := by have := HM.out; omega
      have hn2 : (n : Int) > 0 := by have := HN.out; have := HLP.out; omega
      have hbr := swk_below HK.out HG3.out.1 hg
      have hb2r := Below.trans HB3.out hbr
      have HBF := Aside0.mk (below_step HB2.out hb2r)
      have HFl := Aside0.mk (Kd.F_below (Kd.F_mono HF2.out (fun k_ hk => hk)) hb2r)
      have hlm : (d.toList.map (fun p => p.1.1)).length = n := by simp; exact HP.out.2
      obtain ⟨hFm, _⟩ := srt_after w3 w2.heap.size (fun _ => True) g trivial hg HG3.out.1 d0 d HH.out (by have := HP.out.2; have := HZ0.out; have := HN.out; omega) (by have := HZ0.out; have := H2.out; omega) wr HK.out
      have HPM := Aside0.mk (show (d.toList.map (fun p => p.1.1)).Perm l by rw [← HD0.out]; exact HP.out.1.map _)
      obtain ⟨lm, HLM⟩ : ∃ lm, Aside0 (lm = d.toList.map (fun p => p.1.1)) := ⟨_, ⟨rfl⟩⟩
      rw [← HLM.out] at hFm hlm HPM
      have HFm := Aside0.mk hFm
      have HLN := Aside0.mk hlm
      have hA1 : ∀ W, Below wr.heap.size wr W → Calls Tryd.prog 18 #[.slice A2 n c2, .int .i64 t] W fun e w' => ∃ v0_ : Value, e = .returned (.tuple #[v0_, .bool c]) ∧ Kd.V k36 36 w' W.heap.size (fun k_ => W.heap.size ≤ k_) v0_ r ∧ Below W.heap.size W w' := fun W hW => by
        have h := rank_Best.calls A2 c2 l t r c W (Kd.F_now (Kd.F_below HFl.out hW)) HL2.out (HBA.out l (List.Perm.refl _)) (tab_below HT_.out (below_step HBF.out hW))
        rw [← HN.out] at h
        exact h
      have hA2 : ∀ W, Below wr.heap.size wr W → Calls Tryd.prog 18 #[.slice (some ⟨g, 0, none⟩) n cap, .int .i64 t] W fun e w' => ∃ v0_ : Value, e = .returned (.tuple #[v0_, .bool c]) ∧ Kd.V k36 36 w' W.heap.size (fun k_ => W.heap.size ≤ k_) v0_ r ∧ Below W.heap.size W w' := fun W hW => by
        have h := rank_Best.calls (some ⟨g, 0, none⟩) cap lm t r c W (Kd.F_now (Kd.F_below HFm.out hW)) (by have := HLN.out; have := HL3.out; have := HN.out; omega) (HBA.out lm HPM.out) (tab_below HT_.out (below_step HBF.out hW))
        rw [HLN.out] at h
        exact h
      have HA1 := Aside0.mk hA1
      have HA2 := Aside0.mk hA2
      clear hA1 hA2 hFm hlm hbr hb2r HFm HFl hi2
      have hguard2 : (i : Int) < (os.length : Int) ∨ ¬ (i : Int) < (os.length : Int) := by omega
      rcases hguard2 with hgd | hgd
      · have hgd2 := hguard hgd
        clear hguard
        go_wp2_with (first
          | (go_at_call 17; (with_reducible refine (interlocutorlaw10_within.calls most 50 t _ H5.out).mono ?_); rintro e w' ⟨rfl, ⟨nd, rfl⟩⟩)
          | (go_at_call 18; (with_reducible refine (HA1.out _ (pw_below_drewN (Below.refl _ _) nd)).mono ?_); clear HA1; rintro e w4 ⟨v4, rfl, hV, hb⟩; obtain ⟨A4, c4, e4⟩ := Kd.V_slice hV; subst e4; have HV4 := Aside0.mk (Kd.V_reads' hV); have HB4 := Aside0.mk (below_step (pw_below_drewN (Below.refl _ _) nd) hb); clear hV hb)
          | (go_at_call 18; (with_reducible refine (HA2.out _ (pw_below_drewN HB4.out nd)).mono ?_); clear HA2; rintro e w5 ⟨v5, rfl, hV, hb⟩; obtain ⟨A5, c5, e5⟩ := Kd.V_slice hV; subst e5; have HV5 := Aside0.mk (Kd.V_reads' hV); have HV6 := Aside0.mk (Kd.C_below (Kd.C_drewN HV4.out.2.2 nd) hb); have HB5 := Aside0.mk (below_step (pw_below_drewN HB4.out nd) hb); clear hV hb)
          | (go_at_call 20; (with_reducible refine (interlocutorref10_Same.calls k A4 c4 r A5 c5 r true _ HV6.out HV4.out.2.1 HV5.out.2.2 HV5.out.2.1 H7.out).mono ?_); rintro e w6 ⟨rfl, hb⟩; have HB6 := Aside0.mk (below_step HB5.out hb); clear hb))
        go_ret
        exact ⟨by first | rfl | (simp; done), below_step HBF.out HB6.out⟩
      · clear hguard
        go_wp2_with (first
          | (go_at_call 17; (with_reducible refine (interlocutorlaw10_within.calls most 50 t _ H5.out).mono ?_); rintro e w' ⟨rfl, ⟨nd, rfl⟩⟩)
          | (go_at_call 18; (with_reducible refine (HA1.out _ (pw_below_drewN (Below.refl _ _) nd)).mono ?_); clear HA1; rintro e w4 ⟨v4, rfl, hV, hb⟩; obtain ⟨A4, c4, e4⟩ := Kd.V_slice hV; subst e4; have HV4 := Aside0.mk (Kd.V_reads' hV); have HB4 := Aside0.mk (below_step (pw_below_drewN (Below.refl _ _) nd) hb); clear hV hb)
          | (go_at_call 18; (with_reducible refine (HA2.out _ (pw_below_drewN HB4.out nd)).mono ?_); clear HA2; rintro e w5 ⟨v5, rfl, hV, hb⟩; obtain ⟨A5, c5, e5⟩ := Kd.V_slice hV; subst e5; have HV5 := Aside0.mk (Kd.V_reads' hV); have HV6 := Aside0.mk (Kd.C_below (Kd.C_drewN HV4.out.2.2 nd) hb); have HB5 := Aside0.mk (below_step (pw_below_drewN HB4.out nd) hb); clear hV hb)
          | (go_at_call 20; (with_reducible refine (interlocutorref10_Same.calls k A4 c4 r A5 c5 r true _ HV6.out HV4.out.2.1 HV5.out.2.2 HV5.out.2.1 H7.out).mono ?_); rintro e w6 ⟨rfl, hb⟩; have HB6 := Aside0.mk (below_step HB5.out hb); clear hb))
        go_ret
        exact ⟨by first | rfl | (simp; done), below_step HBF.out HB6.out⟩
set_option maxHeartbeats 8000000 in
set_option maxRecDepth 100000 in
theorem RankTurned_none (k : Nat) (A0 A1 : Option Addr) (c0 c1 : Nat) (ns os : List Int) (most t : Int) (r : List S36) (c : Bool) (w : World) (hr0 : Kd.C (Kd.int .i64) w A0 ns.length ns) (hc0 : ns.length ≤ c0) (h1 : interlocutorlaw10_Make.f k ns 40 = some []) (h5 : interlocutorlaw10_within.f most 50 = some t) (h6 : rank_Best.f [] t = some (r, c)) (h7 : interlocutorref10_Same.f k r r = some true) (hT_ : YtlgndfplikhflaaDoorW.Tab.TabOK w) :
    Calls Tryd.prog 6 #[.slice A0 ns.length c0, .slice A1 os.length c1, .int .i64 most] w fun e w' => e = .returned (.bool true) ∧ Below w.heap.size w w' := by
  have mixed : Tryd.prog.follows .mixedOrders = true := by kernel_rfl
  have HT_ := Aside0.mk hT_
  have HB := Aside0.mk (Below.refl w.heap.size w)
  have HR0 := Aside0.mk hr0
  have HC0 := Aside0.mk hc0
  have HM1 := Aside0.mk h1
  have HM2 := Aside0.mk h1
  have H5 := Aside0.mk h5
  have H6 := Aside0.mk h6
  have H7 := Aside0.mk h7
  clear hr0 hc0 h1 h5 h6 h7 hT_
  have hu1 := Tryd.underlying36
  go_enter Tryd.func6, Tryd.ntmps6
  go_wp2_with (first
    | (go_at_call 13; (with_reducible refine (interlocutorlaw10_known.calls true _ rfl HT_.out).mono ?_); rintro e w1 ⟨rfl, hb⟩; have HB1 := Aside0.mk hb; clear hb HB)
    | (go_at_call 16; (with_reducible refine (interlocutorlaw10_Make.calls k A0 c0 ns 40 [] _ (Kd.C_below HR0.out HB1.out) HC0.out HM1.out).mono ?_); clear HM1; rintro e w2 ⟨v2, rfl, ho, hb⟩; obtain ⟨A2, c2, hv2⟩ := Kd.S_slice ho; rw [show ([] : List S36).length = 0 from rfl] at hv2; subst hv2; have HB2 := Aside0.mk (below_step HB1.out hb); clear hb ho)
    | (go_at_call 16; (with_reducible refine (interlocutorlaw10_Make.calls k A0 c0 ns 40 [] _ (Kd.C_below HR0.out HB2.out) HC0.out HM2.out).mono ?_); clear HM2; rintro e w3 ⟨v3, rfl, ho, hb⟩; obtain ⟨A3, c3, hv3⟩ := Kd.S_slice ho; rw [show ([] : List S36).length = 0 from rfl] at hv3; subst hv3; have HBF := Aside0.mk (below_step HB2.out hb); clear hb ho))
  have hA : ∀ A cc, ∀ W, Below w3.heap.size w3 W → Calls Tryd.prog 18 #[.slice A 0 cc, .int .i64 t] W fun e w' => ∃ v0_ : Value, e = .returned (.tuple #[v0_, .bool c]) ∧ Kd.V k36 36 w' W.heap.size (fun k_ => W.heap.size ≤ k_) v0_ r ∧ Below W.heap.size W w' := fun A cc W hW =>
    rank_Best.calls A cc [] t r c W ⟨rfl, by decide, fun h => absurd h (Nat.lt_irrefl 0)⟩ (Nat.zero_le _) H6.out (tab_below HT_.out (below_step HBF.out hW))
  have HA1 := Aside0.mk (hA A2 c2)
  have HA2 := Aside0.mk (hA A3 c3)
  clear hA
  have hguard2 : (0 : Int) < (os.length : Int) ∨ ¬ (0 : Int) < (os.length : Int) := by omega
  refine wp_loop_rounds 1 ?_
  rw [rounds_succ]
  rcases hguard2 with hgd | hgd
  · go_wp2_with (first
      | (go_at_call 17; (with_reducible refine (interlocutorlaw10_within.calls most 50 t _ H5.out).mono ?_); rintro e w' ⟨rfl, ⟨nd, rfl⟩⟩)
      | (go_at_call 18; (with_reducible refine (HA1.out _ (pw_below_drewN (Below.refl _ _) nd)).mono ?_); clear HA1; rintro e w4 ⟨v4, rfl, hV, hb⟩; obtain ⟨A4, c4, e4⟩ := Kd.V_slice hV; subst e4; have HV4 := Aside0.mk (Kd.V_reads' hV); have HB4 := Aside0.mk (below_step (pw_below_drewN (Below.refl _ _) nd) hb); clear hV hb)
      | (go_at_call 18; (with_reducible refine (HA2.out _ (pw_below_drewN HB4.out nd)).mono ?_); clear HA2; rintro e w5 ⟨v5, rfl, hV, hb⟩; obtain ⟨A5, c5, e5⟩ := Kd.V_slice hV; subst e5; have HV5 := Aside0.mk (Kd.V_reads' hV); have HV6 := Aside0.mk (Kd.C_below (Kd.C_drewN HV4.out.2.2 nd) hb); have HB5 := Aside0.mk (below_step (pw_below_drewN HB4.out nd) hb); clear hV hb)
      | (go_at_call 20; (with_reducible refine (interlocutorref10_Same.calls k A4 c4 r A5 c5 r true _ HV6.out HV4.out.2.1 HV5.out.2.2 HV5.out.2.1 H7.out).mono ?_); rintro e w6 ⟨rfl, hb⟩; have HB6 := Aside0.mk (below_step HB5.out hb); clear hb))
    go_ret
    exact ⟨by first | rfl | (simp; done), below_step HBF.out HB6.out⟩
  · go_wp2_with (first
      | (go_at_call 17; (with_reducible refine (interlocutorlaw10_within.calls most 50 t _ H5.out).mono ?_); rintro e w' ⟨rfl, ⟨nd, rfl⟩⟩)
      | (go_at_call 18; (with_reducible refine (HA1.out _ (pw_below_drewN (Below.refl _ _) nd)).mono ?_); clear HA1; rintro e w4 ⟨v4, rfl, hV, hb⟩; obtain ⟨A4, c4, e4⟩ := Kd.V_slice hV; subst e4; have HV4 := Aside0.mk (Kd.V_reads' hV); have HB4 := Aside0.mk (below_step (pw_below_drewN (Below.refl _ _) nd) hb); clear hV hb)
      | (go_at_call 18; (with_reducible refine (HA2.out _ (pw_below_drewN HB4.out nd)).mono ?_); clear HA2; rintro e w5 ⟨v5, rfl, hV, hb⟩; obtain ⟨A5, c5, e5⟩ := Kd.V_slice hV; subst e5; have HV5 := Aside0.mk (Kd.V_reads' hV); have HV6 := Aside0.mk (Kd.C_below (Kd.C_drewN HV4.out.2.2 nd) hb); have HB5 := Aside0.mk (below_step (pw_below_drewN HB4.out nd) hb); clear hV hb)
      | (go_at_call 20; (with_reducible refine (interlocutorref10_Same.calls k A4 c4 r A5 c5 r true _ HV6.out HV4.out.2.1 HV5.out.2.2 HV5.out.2.1 H7.out).mono ?_); rintro e w6 ⟨rfl, hb⟩; have HB6 := Aside0.mk (below_step HB5.out hb); clear hb))
    go_ret
    exact ⟨by first | rfl | (simp; done), below_step HBF.out HB6.out⟩
open Classical in
noncomputable def interlocutorlaw10_RankTurned.f (k : Nat) (ns os : List Int) (most : Int) : Option Bool := if ∃ l t r c, turnOk k ns os most l t r c then some true else none
theorem interlocutorlaw10_RankTurned.calls (k : Nat) (A0 : Option Addr) (c0 : Nat) (ns : List Int) (A1 : Option Addr) (c1 : Nat) (os : List Int) (most : Int) (b : Bool) (w : World) (hr0 : Kd.C (Kd.int .i64) w A0 ns.length ns) (hc0 : ns.length ≤ c0) (hr1 : Kd.C (Kd.int .i64) w A1 os.length os) (hc1 : os.length ≤ c1) (h : interlocutorlaw10_RankTurned.f k ns os most = some b) (hT_ : YtlgndfplikhflaaDoorW.Tab.TabOK w) :
    Calls Tryd.prog 6 #[.slice A0 ns.length c0, .slice A1 os.length c1, .int .i64 most] w fun e w' => e = .returned (.bool b) ∧ Below w.heap.size w w' := by
  unfold interlocutorlaw10_RankTurned.f at h
  split at h
  · rename_i hx
    obtain ⟨l, t, r, c, hok⟩ := hx
    obtain rfl := Option.some.inj h
    by_cases hl : l = []
    · subst hl
      obtain ⟨h1, _, _, _, h5, h6, h7⟩ := hok
      exact RankTurned_none k A0 A1 c0 c1 ns os most t r c w hr0 hc0 h1 h5 (h6 [] (List.Perm.refl _)) h7 hT_
    · exact RankTurned_walk k A0 A1 c0 c1 ns os most l t r c w hr0 hc0 hr1 hok hl hT_
  · cases h
/-- THE ONE PURE STATEMENT of RankTurned. -/
def interlocutorlaw10_RankTurned.Pure : Prop := ∀ (l0 : List Int) (l1 : List Int) (a2 : Int), l0.length ≤ maxLen → l0.length * 8 ≤ 140737488351232 → (∀ x ∈ l0, (Lit.int .i64 x).wf = true) → l1.length ≤ maxLen → l1.length * 8 ≤ 140737488351232 → (∀ x ∈ l1, (Lit.int .i64 x).wf = true) → (Lit.int .i64 a2).wf = true → ∃ k, interlocutorlaw10_RankTurned.f k l0 l1 a2 = some true
theorem interlocutorlaw10_RankTurned.walk (P : interlocutorlaw10_RankTurned.Pure) (a0 : Option Addr) (len0 cap0 : Nat) (z0 : List Int) (a1 : Option Addr) (len1 cap1 : Nat) (z1 : List Int) (a2 : Int) (w : World) (w0 : (a0 = none ∧ len0 = 0 ∧ cap0 = 0 ∧ z0 = []) ∨ ∃ x, a0 = some x ∧ len0 ≤ cap0 ∧ cap0 ≤ maxLen ∧ z0.length = cap0 ∧ (∀ i, i < z0.length → w.cell? (x.add i) = some (.int .i64 (z0.getD i 0))) ∧ ∀ n ∈ z0, (Lit.int .i64 n).wf = true) (y0 : len0 * 8 ≤ 140737488351232) (w1 : (a1 = none ∧ len1 = 0 ∧ cap1 = 0 ∧ z1 = []) ∨ ∃ x, a1 = some x ∧ len1 ≤ cap1 ∧ cap1 ≤ maxLen ∧ z1.length = cap1 ∧ (∀ i, i < z1.length → w.cell? (x.add i) = some (.int .i64 (z1.getD i 0))) ∧ ∀ n ∈ z1, (Lit.int .i64 n).wf = true) (y1 : len1 * 8 ≤ 140737488351232) (w2 : (Lit.int .i64 a2).wf = true) (hT_ : YtlgndfplikhflaaDoorW.Tab.TabOK w) :
    Calls Tryd.prog 6 #[.slice a0 len0 cap0, .slice a1 len1 cap1, .int .i64 a2] w fun e w' => e = .returned (.bool true) ∧ Below w.heap.size w w' := by
  obtain ⟨l0, rfl, hr0, hm0, hw0, hc0⟩ := ReadsInt.ofRowC w0
  obtain ⟨l1, rfl, hr1, hm1, hw1, hc1⟩ := ReadsInt.ofRowC w1
  obtain ⟨k, h⟩ := P l0 l1 a2 hm0 y0 hw0 hm1 y1 hw1 w2
  refine (interlocutorlaw10_RankTurned.calls k _ _ l0 _ _ l1 a2 true w (Kd.C_of_reads (d := (0 : Int)) (h1 := fun _ => rfl) hr0) hc0 (Kd.C_of_reads (d := (0 : Int)) (h1 := fun _ => rfl) hr1) hc1 h hT_).mono ?_
  rintro e w' ⟨rfl, hd⟩
  exact ⟨rfl, hd⟩

end Go.Proofs.YtlgndfplikhflaaDoor.G
