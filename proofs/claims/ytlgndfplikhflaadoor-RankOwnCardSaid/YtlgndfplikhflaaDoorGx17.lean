-- printed by wip/tool/gprint.py, a program of this work, out of the translation; Lean checks it
import Derived.Test.YtlgndfplikhflaaDoorGx0
import Derived.Test.YtlgndfplikhflaaDoorGx12
import Derived.Test.YtlgndfplikhflaaDoorGx15
import Derived.Test.YtlgndfplikhflaaDoorGx16
namespace Go.Proofs.YtlgndfplikhflaaDoor.G
open Go.RowKit Go.Proofs.YtlgndfplikhflaaDoorW.PrintWords Go.Proofs.YtlgndfplikhflaaDoorW.PrintLast Go.Proofs.YtlgndfplikhflaaDoorW.PrintMore Go.Proofs.YtlgndfplikhflaaDoorW.VWords Go.Proofs.YtlgndfplikhflaaDoorW.Tab
attribute [local go_sem] max2_int min2_int max_two min_two max_three min_three max_four min_four   -- for this text's walks alone
set_option linter.unusedVariables false
set_option linter.unusedSimpArgs false

/-! ### interlocutorlaw10_RankOwn: function 8 -/
/-- A cell that holds a number and may be written. -/
def IsNum (W : World) (b q : Nat) : Prop := (∃ x : Int, W.cell? ⟨b, q, none⟩ = some (.int .i64 x)) ∧ W.frozen? ⟨b, q, none⟩ = false
theorem isNum_ne {W : World} {b q b' q' n c : Nat} {A : Option Addr} (h : IsNum W b q) (hs : W.cell? ⟨b', q', none⟩ = some (.slice A n c)) : (⟨b, q, none⟩ : Addr) ≠ ⟨b', q', none⟩ := by
  intro e
  obtain ⟨⟨x, hx⟩, _⟩ := h
  rw [← e, hx] at hs
  cases hs
theorem isNum_set {W : World} {b q b' q' : Nat} (y : Int) (h : IsNum W b q) : IsNum (W.setCell ⟨b', q', none⟩ (.int .i64 y)) b q := by
  obtain ⟨⟨x, hx⟩, hf⟩ := h
  refine ⟨?_, by rw [World.frozen?_setCell]; exact hf⟩
  by_cases e : (⟨b', q', none⟩ : Addr) = ⟨b, q, none⟩
  · rw [e]
    exact ⟨y, World.cell?_setCell_same _ _ _ hx⟩
  · exact ⟨x, by rw [World.cell?_setCell_other _ _ _ _ e]; exact hx⟩
/-- What was told is the call's own: its costs, its values' fields may be written, each. -/
def Mine (B : Nat) (A : Option Addr) (n : Nat) (W : World) : Prop := ∀ j : Nat, j < n → ∃ g, A = some ⟨g, 0, none⟩ ∧ B ≤ g ∧ IsNum W g (j * 3 + 2) ∧ ∃ (A1 : Option Addr) (m c : Nat), W.cell? ⟨g, j * 3 + 1, none⟩ = some (.slice A1 m c) ∧ m ≤ 1000000 ∧ (0 < m → ∃ b, A1 = some ⟨b, 0, none⟩ ∧ B ≤ b ∧ ∀ q, q < m → IsNum W b q)
theorem mine_set {B n b q : Nat} {A : Option Addr} {W : World} (y : Int) (h : Mine B A n W) (hq : IsNum W b q) : Mine B A n (W.setCell ⟨b, q, none⟩ (.int .i64 y)) := fun j hj => by
  obtain ⟨g, hA, hg, h1, A1, m, c, h2, h3, h4⟩ := h j hj
  refine ⟨g, hA, hg, isNum_set y h1, A1, m, c, ?_, h3, fun hm => ?_⟩
  · rw [World.cell?_setCell_other _ _ _ _ (isNum_ne hq h2)]
    exact h2
  · obtain ⟨b', e, hb, hi⟩ := h4 hm
    exact ⟨b', e, hb, fun q' hq' => isNum_set y (hi q' hq')⟩
theorem mine_of_R {W : World} {B c : Nat} {ok : Nat → Prop} {A : Option Addr} {r : List S36} (hR : Kd.R k36 36 W B ok (.slice A r.length c) r) (hl : ∀ x ∈ r, x.f0.f1.length ≤ 1000000) : Mine B A r.length W := fun j hj => by
  obtain ⟨g, cap, e, hg, _, _⟩ := Kd.R_form hR (by omega)
  injection e with e1 e2 e3
  subst e1
  obtain ⟨cs, hcl, hM, hcc, hfr⟩ := Kd.R_elem hR z36 (j : Int) (by omega) (by omega)
  rw [Int.toNat_natCast] at hM hcc
  rw [List.getD_eq_getElem?_getD, List.getElem?_eq_getElem hj, Option.getD_some] at hM
  obtain ⟨v1, rfl, hv⟩ := k36_openM hM
  obtain ⟨A1, c1, rfl⟩ := Kd.R_slice hv
  refine ⟨g, rfl, hg, ⟨⟨_, hcc 2 _ rfl⟩, by have := hfr 2; rwa [Int.toNat_natCast] at this⟩, A1, _, c1, hcc 1 _ rfl, hl _ (List.getElem_mem hj), fun hm => ?_⟩
  obtain ⟨b, cap1, e, hb, _, _⟩ := Kd.R_form hv hm
  injection e with e1 e2 e3
  subst e1
  exact ⟨b, rfl, hb, fun q hq => by
    obtain ⟨h1, h2⟩ := Kd.R_celln (0 : Int) hv (q : Int) (by omega) (by omega)
    rw [Int.toNat_natCast] at h1 h2
    exact ⟨⟨_, h1⟩, h2⟩⟩
/-- What the walk asks. -/
def ownOk (k : Nat) (ns : List Int) (most : Int) (l : List S36) (t : Int) (r : List S36) (c : Bool) : Prop :=
  interlocutorlaw10_Make.f k ns 30 = some l ∧ interlocutorlaw10_within.f most 50 = some t ∧ rank_Best.f l t = some (r, c) ∧ (∀ x ∈ r, x.f0.f1.length ≤ 1000000) ∧ r.length ≤ 1000000 ∧ interlocutorref10_Same.f k l l = some true
set_option maxHeartbeats 8000000 in
set_option maxRecDepth 100000 in
theorem RankOwn_walk (k : Nat) (A0 : Option Addr) (c0 : Nat) (ns : List Int) (most by_ : Int) (l : List S36) (t : Int) (r : List S36) (c : Bool) (w : World) (hr0 : Kd.C (Kd.int .i64) w A0 ns.length ns) (hc0 : ns.length ≤ c0) (hok : ownOk k ns most l t r c) (hT_ : YtlgndfplikhflaaDoorW.Tab.TabOK w) :
    Calls Tryd.prog 8 #[.slice A0 ns.length c0, .int .i64 most, .int .i64 by_] w fun e w' => e = .returned (.bool true) ∧ Below w.heap.size w w' := by
  obtain ⟨h1, h5, h6, h2, h3, h7⟩ := hok
  have HT_ := Aside0.mk hT_
  have HB := Aside0.mk (Below.refl w.heap.size w)
  have HR0 := Aside0.mk hr0
  have HC0 := Aside0.mk hc0
  have HM1 := Aside0.mk h1
  have HM2 := Aside0.mk h1
  have H2 := Aside0.mk h2
  have H3 := Aside0.mk h3
  have H5 := Aside0.mk h5
  have H6 := Aside0.mk h6
  have H7 := Aside0.mk h7
  clear hr0 hc0 h1 h2 h3 h5 h6 h7 hT_
  have hu1 := Tryd.underlying36
  have hu3 := Tryd.underlying24
  go_enter Tryd.func8, Tryd.ntmps8
  go_wp2_with (first
    | (go_at_call 13; (with_reducible refine (interlocutorlaw10_known.calls true _ rfl HT_.out).mono ?_); rintro e w1 ⟨rfl, hb⟩; have HB1 := Aside0.mk hb; clear hb HB)
    | (go_at_call 16; (with_reducible refine (interlocutorlaw10_Make.calls k A0 c0 ns 30 l _ (Kd.C_below HR0.out HB1.out) HC0.out HM1.out).mono ?_); clear HM1; rintro e w2 ⟨v2, rfl, ho, hb⟩; obtain ⟨A2, c2, hv2⟩ := Kd.S_slice ho; subst hv2; have HF2 := Aside0.mk (Kd.F_bound (Kd.N_F (Kd.S_N ho))); have HL2 := Aside0.mk (Kd.S_reads' ho).2.1; have HB2 := Aside0.mk (below_step HB1.out hb); clear hb ho)
    | (go_at_call 16; (with_reducible refine (interlocutorlaw10_Make.calls k A0 c0 ns 30 l _ (Kd.C_below HR0.out HB2.out) HC0.out HM2.out).mono ?_); clear HM2; rintro e w3 ⟨v3, rfl, ho, hb⟩; obtain ⟨A3, c3, hv3⟩ := Kd.S_slice ho; subst hv3; have HF3 := Aside0.mk (Kd.F_bound (Kd.N_F (Kd.S_N ho))); have HL3 := Aside0.mk (Kd.S_reads' ho).2.1; have HG2 := Aside0.mk (Kd.F_mono (Kd.F_below HF2.out hb) (fun k_ hk => show k_ < w3.heap.size from Nat.lt_of_lt_of_le hk.2 hb.size)); have HG3 := Aside0.mk (Kd.F_mono HF3.out (fun k_ hk => show k_ < w3.heap.size from hk.2)); have HB3 := Aside0.mk (below_step HB2.out hb); clear hb ho HF2 HF3)
    | (go_at_call 17; (with_reducible refine (interlocutorlaw10_within.calls most 50 t _ H5.out).mono ?_); rintro e w' ⟨rfl, ⟨nd, rfl⟩⟩)
    | (go_at_call 18; (with_reducible refine (rank_Best.owns A2 c2 l t r c _ (Kd.F_now (Kd.F_drewN HG2.out nd)) HL2.out H6.out (tab_below HT_.out (pw_below_drewN HB3.out nd))).mono ?_); rintro e w4 ⟨v4, rfl, hV, hb⟩; obtain ⟨A4, c4, e4⟩ := Kd.R_slice hV; subst e4; have HV4 := Aside0.mk (mine_of_R hV H2.out); have HG4 := Aside0.mk (Kd.F_below (Kd.F_drewN HG2.out nd) hb); have HG5 := Aside0.mk (Kd.F_below (Kd.F_drewN HG3.out nd) hb); have HB4 := Aside0.mk (below_step (pw_below_drewN HB3.out nd) hb); have HZ4 := Aside0.mk (show w3.heap.size ≤ w4.heap.size from hb.size); have HZ3 := Aside0.mk (show w.heap.size ≤ w3.heap.size from HB3.out.size); clear hV hb))
  clear HG2 HG3 HB1 HB2 HB3
  replace HV4 := Aside0.mk (show Mine w3.heap.size A4 r.length w4 from HV4.out)
  generalize w3.heap.size = B at HV4 HG4 HG5 HZ4 HZ3
  clear HR0 HC0 HT_
  go_loopg [11] r.length (fun kq v11 wr => ∃ i : Nat, v11 = .int .i64 i ∧ Aside0 (i + kq = r.length) ∧ Aside0 (Mine B A4 r.length wr) ∧ Aside0 (Kd.F k36 wr (fun k_ => k_ < B) A2 l.length l) ∧ Aside0 (Kd.F k36 wr (fun k_ => k_ < B) A3 l.length l) ∧ Aside0 (Below w.heap.size w wr))
  case atStart => exact ⟨0, rfl, ⟨by simp⟩, HV4, HG4, HG5, HB4⟩
  case round =>
    clear HV4 HG4 HG5 HB4 HZ4
    obtain ⟨i, rfl, HI, HM, HF2, HF3, HB⟩ := hrel
    by_cases hi : i < r.length
    · cases gk with
      | zero => exact absurd HI.out (by omega)
      | succ k1 =>
        obtain ⟨g, eA, hg, hn, A1, m, c1, hs, hm, hrow⟩ := HM.out i hi
        subst eA
        have HN := Aside0.mk hn
        have HM2 := Aside0.mk (mine_set by_ HM.out hn)
        have HROW := Aside0.mk (fun h => (hrow h : ∃ b, A1 = some ⟨b, 0, none⟩ ∧ B ≤ b ∧ ∀ q, q < m → IsNum wr b q))
        have HMM := Aside0.mk hm
        have HS2 := Aside0.mk ((World.cell?_setCell_other _ _ _ (.int .i64 by_) (isNum_ne hn hs)).trans hs)
        have HGG := Aside0.mk hg
        obtain ⟨⟨x0, q0⟩, q1⟩ := hn
        clear hrow hm hs hg
        have hi0 : (i : Int) < (r.length : Int) := by omega
        have HW := Aside0.mk (show wrap64 ((i : Int) + 1) = ((i + 1 : Nat) : Int) by have := H3.out; unfold wrap64; omega)
        go_wp2_with fail
        have HG2 := Aside0.mk (Kd.F_far HF2.out (p := ⟨g, i * 3 + 2, none⟩) (fun k_ hk => by have := HGG.out; show k_ ≠ g; omega) (.int .i64 by_))
        have HG3 := Aside0.mk (Kd.F_far HF3.out (p := ⟨g, i * 3 + 2, none⟩) (fun k_ hk => by have := HGG.out; show k_ ≠ g; omega) (.int .i64 by_))
        have HB2 := Aside0.mk (below_set (j := i * 3 + 2) (v := .int .i64 by_) HB.out (Nat.le_trans HZ3.out HGG.out))
        clear HF2 HF3 HB HM HN q0 q1
        generalize wr.setCell ⟨g, i * 3 + 2, none⟩ (.int .i64 by_) = w5 at HM2 HS2 HG2 HG3 HB2 ⊢
        have HROW2 := Aside0.mk (show 0 < m → ∃ b, A1 = some ⟨b, 0, none⟩ ∧ B ≤ b ∧ ∀ q, q < m → IsNum w5 b q from fun hm => by
          obtain ⟨g', e', hg', hn', A1', m', c1', hs', hm', hrow'⟩ := HM2.out i hi
          injection e' with e'
          injection e' with e'
          subst e'
          have e3 := HS2.out.symm.trans hs'
          injection e3 with e3
          injection e3 with e4 e5 e6
          subst e4
          subst e5
          exact hrow' hm)
        clear HROW
        go_loopg [12] m (fun kq v12 wr => ∃ q : Nat, v12 = .int .i64 q ∧ Aside0 (q + kq = m) ∧ Aside0 (Mine B (some ⟨g, 0, none⟩) r.length wr) ∧ Aside0 (wr.cell? ⟨g, i * 3 + 1, none⟩ = some (.slice A1 m c1)) ∧ Aside0 (0 < m → ∃ b, A1 = some ⟨b, 0, none⟩ ∧ B ≤ b ∧ ∀ q, q < m → IsNum wr b q) ∧ Aside0 (Kd.F k36 wr (fun k_ => k_ < B) A2 l.length l) ∧ Aside0 (Kd.F k36 wr (fun k_ => k_ < B) A3 l.length l) ∧ Aside0 (Below w.heap.size w wr))
        case atStart => exact ⟨0, rfl, ⟨by simp⟩, HM2, HS2, HROW2, HG2, HG3, HB2⟩
        case round =>
          clear HM2 HS2 HROW2 HG2 HG3 HB2
          obtain ⟨q, rfl, HQ, HM, HS, HROW, HF2, HF3, HB⟩ := hrel
          have s0 := HS.out
          by_cases hq : q < m
          · cases gk with
            | zero => exact absurd HQ.out (by omega)
            | succ k2 =>
              obtain ⟨b, eb, hb, hnum⟩ := HROW.out (by omega)
              subst eb
              have HBB := Aside0.mk hb
              have hn := hnum q hq
              have HM3 := Aside0.mk (mine_set by_ HM.out hn)
              have HS3 := Aside0.mk ((World.cell?_setCell_other _ _ _ (.int .i64 by_) (isNum_ne hn HS.out)).trans HS.out)
              have HROW3 := Aside0.mk (show 0 < m → ∃ b', (some ⟨b, 0, none⟩ : Option Addr) = some ⟨b', 0, none⟩ ∧ B ≤ b' ∧ ∀ q', q' < m → IsNum (wr.setCell ⟨b, q, none⟩ (.int .i64 by_)) b' q' from fun _ => ⟨b, rfl, hb, fun q' hq' => isNum_set by_ (hnum q' hq')⟩)
              obtain ⟨⟨x1, q0⟩, q1⟩ := hn
              clear hb hnum
              have hq0 : (q : Int) < (m : Int) := by omega
              have HW2 := Aside0.mk (show wrap64 ((q : Int) + 1) = ((q + 1 : Nat) : Int) by have := HMM.out; unfold wrap64; omega)
              go_wp2_with fail
              go_roundg k2
              case measure => omega
              case rel => exact ⟨q + 1, by rw [HW2.out], ⟨by have := HQ.out; omega⟩, HM3, HS3, HROW3, ⟨Kd.F_far HF2.out (p := ⟨b, q, none⟩) (fun k_ hk => by have := HBB.out; show k_ ≠ b; omega) (.int .i64 by_)⟩, ⟨Kd.F_far HF3.out (p := ⟨b, q, none⟩) (fun k_ hk => by have := HBB.out; show k_ ≠ b; omega) (.int .i64 by_)⟩, ⟨below_set (j := q) (v := .int .i64 by_) HB.out (Nat.le_trans HZ3.out HBB.out)⟩⟩
          · have hq0 : ¬ (q : Int) < (m : Int) := by omega
            go_wp2_with fail
            go_roundg k1
            case measure => omega
            case rel => exact ⟨i + 1, by rw [HW.out], ⟨by have := HI.out; omega⟩, HM, HF2, HF3, HB⟩
    · have hi1 : i = r.length := by have := HI.out; omega
      have hi0 : ¬ (i : Int) < (r.length : Int) := by omega
      go_wp2_with (first
        | (go_at_call 20; (with_reducible refine (interlocutorref10_Same.calls k A2 c2 l A3 c3 l true _ (Kd.F_now HF2.out) HL2.out (Kd.F_now HF3.out) HL3.out H7.out).mono ?_); rintro e w6 ⟨rfl, hb⟩; have HB6 := Aside0.mk (below_step HB.out hb); clear hb))
      go_ret
      exact ⟨by first | rfl | (simp; done), HB6.out⟩
open Classical in
noncomputable def interlocutorlaw10_RankOwn.f (k : Nat) (ns : List Int) (most _by : Int) : Option Bool := if ∃ l t r c, ownOk k ns most l t r c then some true else none
theorem interlocutorlaw10_RankOwn.calls (k : Nat) (A0 : Option Addr) (c0 : Nat) (ns : List Int) (most by_ : Int) (b : Bool) (w : World) (hr0 : Kd.C (Kd.int .i64) w A0 ns.length ns) (hc0 : ns.length ≤ c0) (h : interlocutorlaw10_RankOwn.f k ns most by_ = some b) (hT_ : YtlgndfplikhflaaDoorW.Tab.TabOK w) :
    Calls Tryd.prog 8 #[.slice A0 ns.length c0, .int .i64 most, .int .i64 by_] w fun e w' => e = .returned (.bool b) ∧ Below w.heap.size w w' := by
  unfold interlocutorlaw10_RankOwn.f at h
  split at h
  · rename_i hx
    obtain ⟨l, t, r, c, hok⟩ := hx
    obtain rfl := Option.some.inj h
    exact RankOwn_walk k A0 c0 ns most by_ l t r c w hr0 hc0 hok hT_
  · cases h
/-- THE ONE PURE STATEMENT of RankOwn. -/
def interlocutorlaw10_RankOwn.Pure : Prop := ∀ (l0 : List Int) (a1 : Int) (a2 : Int), l0.length ≤ maxLen → l0.length * 8 ≤ 140737488351232 → (∀ x ∈ l0, (Lit.int .i64 x).wf = true) → (Lit.int .i64 a1).wf = true → (Lit.int .i64 a2).wf = true → ∃ k, interlocutorlaw10_RankOwn.f k l0 a1 a2 = some true
theorem interlocutorlaw10_RankOwn.walk (P : interlocutorlaw10_RankOwn.Pure) (a0 : Option Addr) (len0 cap0 : Nat) (z0 : List Int) (a1 a2 : Int) (w : World) (w0 : (a0 = none ∧ len0 = 0 ∧ cap0 = 0 ∧ z0 = []) ∨ ∃ x, a0 = some x ∧ len0 ≤ cap0 ∧ cap0 ≤ maxLen ∧ z0.length = cap0 ∧ (∀ i, i < z0.length → w.cell? (x.add i) = some (.int .i64 (z0.getD i 0))) ∧ ∀ n ∈ z0, (Lit.int .i64 n).wf = true) (y0 : len0 * 8 ≤ 140737488351232) (w1 : (Lit.int .i64 a1).wf = true) (w2 : (Lit.int .i64 a2).wf = true) (hT_ : YtlgndfplikhflaaDoorW.Tab.TabOK w) :
    Calls Tryd.prog 8 #[.slice a0 len0 cap0, .int .i64 a1, .int .i64 a2] w fun e w' => e = .returned (.bool true) ∧ Below w.heap.size w w' := by
  obtain ⟨l0, rfl, hr0, hm0, hw0, hc0⟩ := ReadsInt.ofRowC w0
  obtain ⟨k, h⟩ := P l0 a1 a2 hm0 y0 hw0 w1 w2
  refine (interlocutorlaw10_RankOwn.calls k _ _ l0 a1 a2 true w (Kd.C_of_reads (d := (0 : Int)) (h1 := fun _ => rfl) hr0) hc0 h hT_).mono ?_
  rintro e w' ⟨rfl, hd⟩
  exact ⟨rfl, hd⟩

end Go.Proofs.YtlgndfplikhflaaDoor.G
