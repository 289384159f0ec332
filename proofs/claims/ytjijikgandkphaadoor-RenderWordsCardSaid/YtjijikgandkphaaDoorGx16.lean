import Derived.Test.YtjijikgandkphaaDoorGx0
import Derived.Test.YtjijikgandkphaaDoorGx13
import Derived.Test.YtjijikgandkphaaDoorGx15
namespace Go.Proofs.YtjijikgandkphaaDoor.G
open Go.RowKit Go.Proofs.YtjijikgandkphaaDoorW.PrintWords Go.Proofs.YtjijikgandkphaaDoorW.PrintLast Go.Proofs.YtjijikgandkphaaDoorW.PrintMore Go.Proofs.YtjijikgandkphaaDoorW.VWords Go.Proofs.YtjijikgandkphaaDoorW.Tab
attribute [local go_sem] max2_int min2_int max_two min_two max_three min_three max_four min_four
set_option linter.unusedVariables false
set_option linter.unusedSimpArgs false
def ckR : List S96 → Option Bool
 | [] => some true
 | x :: xs => (interlocutorref4_Right.f x.f0 x.f1 x.f2.f0 x.f2.f1 x.f3).bind fun b => if b = true then ckR xs else some false
def ckRow (i : Nat) : List Int → List Bool → Option (List Bool)
 | [], M => some M
 | x :: xs, M => if 0 ≤ x ∧ x < 20 then ckRow i xs (M.set (i * 20 + x.toNat) true) else none
def ckAll : Nat → List (List Int) → List Bool → Option (List Bool)
 | _, [], M => some M
 | i, u :: us, M => if i < 20 then (ckRow i u M).bind fun M' => ckAll (i + 1) us M' else none
def ckStep (k i j : Nat) (M : List Bool) : List Bool := M.set (i * 20 + j) (M.getD (i * 20 + j) false || (M.getD (i * 20 + k) false && M.getD (k * 20 + j) false))
def ckJ (k i : Nat) : Nat → List Bool → List Bool
 | 0, M => M
 | n + 1, M => ckStep k i n (ckJ k i n M)
def ckI (k : Nat) : Nat → List Bool → List Bool
 | 0, M => M
 | n + 1, M => ckJ k n 20 (ckI k n M)
def ckK : Nat → List Bool → List Bool
 | 0, M => M
 | n + 1, M => ckI n 20 (ckK n M)
def ckEnd (M : List Bool) : Nat → Bool
 | 0 => true
 | n + 1 => if M.getD ((20 - (n + 1)) * 20 + (20 - (n + 1))) false = true then false else ckEnd M n
def interlocutorref4_Check.f (l : List S96) : Option Bool :=
 if 60 < l.length then some false else (ckR l).bind fun b => if b = true then (unitsL l (List.replicate 20 [])).bind fun u => (ckAll 0 u (List.replicate 400 false)).bind fun M => some (ckEnd (ckK 20 M) 20) else some false
theorem still_val {P : Program} {o : Oper} {a : Act} {w : World} {K : Act → Prop} (v : Value) (h : (execOp a.eval o).run P w = .ok (.value v) w) (hK : K (a.put o.dst v)) : o.still P a w K := by
 rw [Oper.still, h, Oper.stillUpon_value]
 exact hK
theorem wpStill_sk {P : Program} {ops : Array Oper} {w : World} {Q : Act → Prop} {a a' : Act} {o : Oper} {rest : List Oper} {v : Value} (hv : v = undef) (hw : Region.wanted o (yielded ops a.tmps) = false) (ha : a.put o.dst v = a') (h : wpStill P ops w Q rest a') : wpStill P ops w Q (o :: rest) a :=
 wpStill_step (fun K hK => by rw [if_neg (by rw [hw]; decide), ← hv, ha]; exact hK _ h)
theorem wpStill_va {P : Program} {ops : Array Oper} {w : World} {Q : Act → Prop} {a a' : Act} {o : Oper} {rest : List Oper} (v : Value) (hw : Region.wanted o (yielded ops a.tmps) = true) (hv : (execOp a.eval o).run P w = .ok (.value v) w) (ha : a.put o.dst v = a') (h : wpStill P ops w Q rest a') : wpStill P ops w Q (o :: rest) a :=
 wpStill_step (fun K hK => by rw [if_pos hw]; refine still_val v hv ?_; rw [ha]; exact hK _ h)
theorem wpStill_take {P : Program} {ops : Array Oper} {w : World} {Q : Act → Prop} {a : Act} {o : Oper} {rest : List Oper} (hw : Region.wanted o (yielded ops a.tmps) = true)
  (h : ∀ K : Act → Prop, (∀ a, wpStill P ops w Q rest a → K a) → o.still P a w K) : wpStill P ops w Q (o :: rest) a :=
 wpStill_step (fun K hK => by rw [if_pos hw]; exact h K hK)
def Ck (w : World) (g : Nat) (M : List Bool) : Prop := M.length = 400 ∧ w.heap[g]? = some (.cells (M.map Value.bool).toArray 127 (0, 0))
theorem Ck.get {w : World} {g : Nat} {M : List Bool} (h : Ck w g M) (i j : Nat) (hi : i < 20) (hj : j < 20) : w.cell? ⟨g, i * 20 + j, none⟩ = some (.bool (M.getD (i * 20 + j) false)) := by
 rw [blk_cell h.2]
 have hl := h.1
 have : i * 20 + j < M.length := by omega
 simp [List.getD_eq_getElem?_getD, List.getElem?_eq_getElem this]
theorem Ck.set {w : World} {g : Nat} {M : List Bool} (h : Ck w g M) (i j : Nat) (b : Bool) : Ck (w.setCell ⟨g, i * 20 + j, none⟩ (.bool b)) g (M.set (i * 20 + j) b) := by
 refine ⟨by rw [List.length_set]; exact h.1, blk_put h.2 _ _ ?_⟩
 simp [List.map_set]
theorem ckEnd_at (M : List Bool) (n : Nat) (hn : n < 20) : ckEnd M (20 - n) = if M.getD (n * 20 + n) false = true then false else ckEnd M (20 - (n + 1)) := by
 obtain ⟨m, hm⟩ : ∃ m, 20 - n = m + 1 := ⟨19 - n, by omega⟩
 rw [hm, ckEnd, show 20 - (m + 1) = n by omega, show 20 - (n + 1) = m by omega]
set_option maxHeartbeats 40000000 in
set_option maxRecDepth 100000 in
theorem interlocutorref4_Check.calls (A0 : Option Addr) (c0 : Nat) (l0 : List S96) (r : Bool) (w : World) (hr0 : Kd.C k96 w A0 l0.length l0) (hc0 : l0.length ≤ c0) (h : interlocutorref4_Check.f l0 = some r) :
  Calls Tryd.prog 50 #[.slice A0 l0.length c0] w fun e w' => e = .returned (.bool r) ∧ Below w.heap.size w w' := by
 have hu108 := Tryd.underlying96
 have hu29 := Tryd.underlying33
 have hu81 := Tryd.underlying123
 have hu25 := Tryd.underlying36
 have hu142 := Tryd.underlying127
 have hu141 := Tryd.underlying126
 have HR0 := Aside0.mk hr0
 have HC0 := Aside0.mk hc0
 clear hr0 hc0
 have HB := Aside0.mk (Below.refl w.heap.size w)
 unfold interlocutorref4_Check.f at h
 by_cases c1 : 60 < l0.length
 ·rw [if_pos c1] at h
  obtain rfl := Option.some.inj h
  have c1b : decide ((60 : Int) < (l0.length : Int)) = true := decide_eq_true (by omega)
  go_enter Tryd.func50, Tryd.ntmps50
  go_wp2
  go_ret
  exact ⟨rfl, HB.out⟩
 ·rw [if_neg c1] at h
  have c1b : decide ((60 : Int) < (l0.length : Int)) = false := decide_eq_false (by omega)
  obtain ⟨b, hb, h⟩ := Option.bind_eq_some_iff.mp h
  have H1 := Aside0.mk hb
  have H2 := Aside0.mk h
  have HL := Aside0.mk (show l0.length ≤ 60 by omega)
  clear hb h c1
  go_enter Tryd.func50, Tryd.ntmps50
  go_wp2
  go_loopg [3] 61 (fun kq v3 w' => ∃ (n : Nat) (i : Int), v3 = .int .i64 i ∧ Aside0 (i = (n : Int)) ∧ Aside0 (n ≤ l0.length ∧ kq + n = 61) ∧ Aside0 (ckR (l0.drop n) = some b) ∧ Aside0 (Below w.heap.size w w'))
  case atStart => exact ⟨0, 0, rfl, ⟨rfl⟩, ⟨by omega, rfl⟩, H1, HB⟩
  case round =>
   clear HB H1
   obtain ⟨n, i, rfl, HI, HN, HA, HB⟩ := hrel
   cases gk with
   | zero => exact absurd HN.out (by have := HL.out; omega)
   | succ k1 =>
    by_cases hn : n < l0.length
    ·have cb : decide (i < (l0.length : Int)) = true := decide_eq_true (by have := HI.out; omega)
     have p0 : 0 ≤ i := by have := HI.out; omega
     have q0 : i < (l0.length : Int) := by have := HI.out; omega
     obtain ⟨ad, A1, c1, A3, c3, e, hx0, hx1, hx2, hx3, hx4, hl1, hC1, hl3, hC3⟩ := at_T96 (Kd.C_below HR0.out HB.out) i p0 q0
     subst e
     have hdrop : l0.drop n = rd_T96 l0 i :: l0.drop (n + 1) := by
      have := HI.out
      subst this
      rw [List.drop_eq_getElem_cons hn, rd_T96, Int.toNat_natCast, List.getD_eq_getElem?_getD, List.getElem?_eq_getElem hn]
      rfl
     have HA' := HA.out
     rw [hdrop] at HA'
     obtain ⟨b1, hb1, HA'⟩ := Option.bind_eq_some_iff.mp HA'
     have HR := Aside0.mk hb1
     have HA2 := Aside0.mk HA'
     clear HA HA' hb1 hdrop
     cases b1 with
     | true =>
      go_wp2_with (first | (go_at_call 68; (with_reducible refine (interlocutorref4_Right.calls _ A1 c1 _ _ A3 c3 _ _ true _ ?s1 hl1 ?s3 hl3 HR.out).mono ?_); (case s1 => exact hC1); (case s3 => exact hC3); rintro e u ⟨rfl, hu⟩; have HB2 := Aside0.mk (below_step HB.out hu); clear hu HB))
      go_roundg k1
      case measure => have := HN.out; omega
      case rel => exact ⟨n + 1, _, rfl, ⟨by have := HI.out; have := HL.out; first | omega | (unfold wrap64; omega)⟩, ⟨by have := HN.out; omega⟩, HA2, HB2⟩
     | false =>
      go_wp2_with (first | (go_at_call 68; (with_reducible refine (interlocutorref4_Right.calls _ A1 c1 _ _ A3 c3 _ _ false _ ?s1 hl1 ?s3 hl3 HR.out).mono ?_); (case s1 => exact hC1); (case s3 => exact hC3); rintro e u ⟨rfl, hu⟩; have HB2 := Aside0.mk (below_step HB.out hu); clear hu HB))
      go_ret
      have e1 := Option.some.inj HA2.out
      have e2 := H2.out
      subst e1
      have e3 := Option.some.inj e2
      subst e3
      exact ⟨rfl, HB2.out⟩
    ·have cb : decide (i < (l0.length : Int)) = false := decide_eq_false (by have := HI.out; omega)
     have hb1 : b = true := by
      have := HA.out
      rw [List.drop_eq_nil_of_le (by omega)] at this
      simpa [ckR] using this.symm
     subst hb1
     obtain ⟨u, hu, h⟩ := Option.bind_eq_some_iff.mp H2.out
     obtain ⟨M, hM, h⟩ := Option.bind_eq_some_iff.mp h
     have HU := Aside0.mk hu
     have HM := Aside0.mk hM
     have HE := Aside0.mk (Option.some.inj h)
     clear hu hM h H2 HA HN HI hn
     go_wp2_with (first
      | (go_at_call 69; (with_reducible refine (units_walk l0 u A0 c0 _ (Kd.C_below HR0.out HB.out) HU.out).mono ?_); rintro e wu ⟨Au, cu, rfl, hou, hbu⟩; have HBu := Aside0.mk (below_step HB.out hbu); have HCu := Aside0.mk hou; clear hou hbu HB)
      | ((with_reducible refine gate_dst (N := 5) rfl ?_); refine box_event ?hg (N := 5) ?hd (cs := ((List.replicate 400 false).map Value.bool).toArray) (t := 127) ?hr ?_; (case hd => rfl); (case hg => rfl); (case hr => first | (go_simp; done) | (go_simp; rfl)); intro g hg wg hbox hb; have GE := Aside0.mk (Nat.le_of_eq hg.symm); have HK := Aside0.mk (show Ck wg g (List.replicate 400 false) from ⟨by simp, hbox⟩); have HD := Aside0.mk hb; clear hbox hb hg))
     clear HU HL
     go_loopg [6] (u.length + 1) (fun kq v6 w' => ∃ (n : Nat) (i : Int) (M1 : List Bool), v6 = .int .i64 i ∧ Aside0 (i = (n : Int)) ∧ Aside0 (n ≤ u.length ∧ kq + n = u.length + 1) ∧ Aside0 (ckAll n (u.drop n) M1 = some M) ∧ Aside0 (Ck w' g M1) ∧ Aside0 (Below wu.heap.size wu w'))
     case atStart => exact ⟨0, 0, _, rfl, ⟨rfl⟩, ⟨by omega, rfl⟩, HM, HK, HD⟩
     case round =>
      clear HM HK HD
      obtain ⟨n, i, M1, rfl, HI, HN, HA, HK, HD⟩ := hrel
      cases gk with
      | zero => exact absurd HN.out (by omega)
      | succ k1 =>
       by_cases hn : n < u.length
       ·have cb1 : decide (i < (u.length : Int)) = true := decide_eq_true (by have := HI.out; omega)
        have p0 : 0 ≤ i := by have := HI.out; omega
        have q0 : i < (u.length : Int) := by have := HI.out; omega
        have HA' := HA.out
        have hrd : rd_L3 u i = u[n] := by
         have := HI.out
         subst this
         rw [rd_L3, Int.toNat_natCast, List.getD_eq_getElem?_getD, List.getElem?_eq_getElem hn]
         rfl
        rw [List.drop_eq_getElem_cons hn, ← hrd] at HA'
        simp only [ckAll] at HA'
        by_cases hn20 : n < 20
        ·rw [if_pos hn20] at HA'
         obtain ⟨M2, hM2, HA'⟩ := Option.bind_eq_some_iff.mp HA'
         have HR := Aside0.mk hM2
         have HA2 := Aside0.mk HA'
         clear HA HA' hM2 hrd
         have HX := Aside0.mk p0
         have HY := Aside0.mk q0
         have HN2 := Aside0.mk hn20
         have i20 : decide (i < 20) = true := decide_eq_true (by have := HI.out; omega)
         have i0 : decide (0 ≤ i) = true := decide_eq_true p0
         have hin : Aside0 (i.toNat = n) := ⟨by have := HI.out; omega⟩
         go_wp2
         go_loopg [7] ((rd_L3 u i).length + 1) (fun kq v7 w' => ∃ (m : Nat) (j : Int) (M3 : List Bool), v7 = .int .i64 j ∧ Aside0 (j = (m : Int)) ∧ Aside0 (m ≤ (rd_L3 u i).length ∧ kq + m = (rd_L3 u i).length + 1) ∧ Aside0 (ckRow n ((rd_L3 u i).drop m) M3 = some M2) ∧ Aside0 (Ck w' g M3) ∧ Aside0 (Below wu.heap.size wu w'))
         case atStart => exact ⟨0, 0, _, rfl, ⟨rfl⟩, ⟨by omega, rfl⟩, HR, HK, HD⟩
         case round =>
          clear HR HK HD
          obtain ⟨m, j, M3, rfl, HJ, HM, HR, HK, HD⟩ := hrel
          obtain ⟨ad2, A2, c2, e2, hx2, hl2, hC2⟩ := at_L3 (Kd.C_below HCu.out HD.out) i HX.out HY.out
          subst e2
          have HC2 := Aside0.mk hC2.2.1
          cases gk with
          | zero => exact absurd HM.out (by omega)
          | succ k2 =>
           by_cases hm : m < (rd_L3 u i).length
           ·have cb2 : decide (j < ((rd_L3 u i).length : Int)) = true := decide_eq_true (by have := HJ.out; omega)
            have r0 : 0 ≤ j := by have := HJ.out; omega
            have s0 : j < ((rd_L3 u i).length : Int) := by have := HJ.out; omega
            obtain ⟨ad3, e3, hx3⟩ := Kd.at_int hC2 j r0 s0
            subst e3
            have hrd : rd (rd_L3 u i) j = (rd_L3 u i)[m] := by
             have := HJ.out
             subst this
             rw [rd, Int.toNat_natCast, List.getD_eq_getElem?_getD, List.getElem?_eq_getElem hm]
             rfl
            have HR' := HR.out
            rw [List.drop_eq_getElem_cons hm, ← hrd] at HR'
            simp only [ckRow] at HR'
            by_cases hx : 0 ≤ rd (rd_L3 u i) j ∧ rd (rd_L3 u i) j < 20
            ·rw [if_pos hx] at HR'
             have HR2 := Aside0.mk HR'
             clear HR HR' hrd
             have x0 : decide (0 ≤ rd (rd_L3 u i) j) = true := decide_eq_true hx.1
             have x1 : decide (rd (rd_L3 u i) j < 20) = true := decide_eq_true hx.2
             go_wp2
             have qi : i < 20 := of_decide_eq_true i20
             have qi' : i < ((20 : Nat) : Int) := qi
             have qx := hx.1
             have qx1 : rd (rd_L3 u i) j < 20 := hx.2
             have qx2 : rd (rd_L3 u i) j < ((20 : Nat) : Int) := hx.2
             have hp0 := HX.out
             have hq0 := HY.out
             go_still_tail 10, (by kernel_rfl)
             change wpList _ _ _ _ _ wr.drew
             have HK3 := Aside0.mk (show Ck wr.drew g M3 from HK.out)
             have HD3 := Aside0.mk (below_drew1 HD.out)
             generalize wr.drew = w2 at HK3 HD3 ⊢
             have hgc := HK3.out.get n (rd (rd_L3 u i) j).toNat HN2.out (by omega)
             have hgf := blk_frozen HK3.out.2 (n * 20 + (rd (rd_L3 u i) j).toNat)
             rw [← hin.out] at hgc hgf
             go_wp2
             go_roundg k2
             case measure => have := HM.out; omega
             case rel => exact ⟨m + 1, _, _, rfl, ⟨by have := HJ.out; first | omega | (unfold wrap64; have := HC2.out; omega)⟩, ⟨by have := HM.out; omega⟩, HR2, ⟨by rw [hin.out]; exact HK3.out.set n _ true⟩, ⟨below_set HD3.out GE.out⟩⟩
            ·rw [if_neg hx] at HR'
             cases HR'
           ·have cb2 : decide (j < ((rd_L3 u i).length : Int)) = false := decide_eq_false (by have := HJ.out; omega)
            have e2 : M3 = M2 := by
             have := HR.out
             rw [List.drop_eq_nil_of_le (by omega)] at this
             exact Option.some.inj this
            subst e2
            have hp0 := HX.out
            have hq0 := HY.out
            clear HR
            go_wp2
            go_roundg k1
            case measure => have := HN.out; omega
            case rel => exact ⟨n + 1, _, _, rfl, ⟨by have := HI.out; have := HN2.out; first | omega | (unfold wrap64; omega)⟩, ⟨by have := HN.out; omega⟩, HA2, HK, HD⟩
        ·rw [if_neg hn20] at HA'
         cases HA'
       ·have cb1 : decide (i < (u.length : Int)) = false := decide_eq_false (by have := HI.out; omega)
        have e1 : M1 = M := by
         have := HA.out
         rw [List.drop_eq_nil_of_le (by omega)] at this
         exact Option.some.inj this
        subst e1
        clear HA HN HI hn
        go_wp2
        go_loopg [8] 21 (fun kq v8 w' => ∃ (n : Nat) (i : Int), v8 = .int .i64 i ∧ Aside0 (i = (n : Int)) ∧ Aside0 (n ≤ 20 ∧ kq + n = 21) ∧ Aside0 (Ck w' g (ckK n M1)) ∧ Aside0 (Below wu.heap.size wu w'))
        case atStart => exact ⟨0, 0, rfl, ⟨rfl⟩, ⟨by omega, rfl⟩, HK, HD⟩
        case round =>
         clear HK HD
         obtain ⟨k0, i0, rfl, HI0, HN0, HK, HD⟩ := hrel
         cases gk with
         | zero => exact absurd HN0.out (by omega)
         | succ f0 =>
          by_cases hk0 : k0 < 20
          ·have cb8 : decide (i0 < 20) = true := decide_eq_true (by have := HI0.out; omega)
           have K0 := Aside0.mk hk0
           go_wp2
           go_loopg [9] 21 (fun kq v9 w' => ∃ (n : Nat) (i : Int), v9 = .int .i64 i ∧ Aside0 (i = (n : Int)) ∧ Aside0 (n ≤ 20 ∧ kq + n = 21) ∧ Aside0 (Ck w' g (ckI k0 n (ckK k0 M1))) ∧ Aside0 (Below wu.heap.size wu w'))
           case atStart => exact ⟨0, 0, rfl, ⟨rfl⟩, ⟨by omega, rfl⟩, HK, HD⟩
           case round =>
            clear HK HD
            obtain ⟨k9, i9, rfl, HI9, HN9, HK, HD⟩ := hrel
            cases gk with
            | zero => exact absurd HN9.out (by omega)
            | succ f9 =>
             by_cases hk9 : k9 < 20
             ·have cb9 : decide (i9 < 20) = true := decide_eq_true (by have := HI9.out; omega)
              have K9 := Aside0.mk hk9
              go_wp2
              go_loopg [10] 21 (fun kq v10 w' => ∃ (n : Nat) (i : Int), v10 = .int .i64 i ∧ Aside0 (i = (n : Int)) ∧ Aside0 (n ≤ 20 ∧ kq + n = 21) ∧ Aside0 (Ck w' g (ckJ k0 k9 n (ckI k0 k9 (ckK k0 M1)))) ∧ Aside0 (Below wu.heap.size wu w'))
              case atStart => exact ⟨0, 0, rfl, ⟨rfl⟩, ⟨by omega, rfl⟩, HK, HD⟩
              case round =>
               clear HK HD
               obtain ⟨k10, i10, rfl, HI10, HN10, HK, HD⟩ := hrel
               cases gk with
               | zero => exact absurd HN10.out (by omega)
               | succ f10 =>
                by_cases hk10 : k10 < 20
                ·have cb10 : decide (i10 < 20) = true := decide_eq_true (by have := HI10.out; omega)
                 obtain ⟨MM, hMM⟩ : ∃ MM, MM = ckJ k0 k9 k10 (ckI k0 k9 (ckK k0 M1)) := ⟨_, rfl⟩
                 have hst : ckJ k0 k9 (k10 + 1) (ckI k0 k9 (ckK k0 M1)) = ckStep k0 k9 k10 MM := by rw [hMM]; rfl
                 rw [← hMM] at HK
                 have HST := Aside0.mk hst
                 clear hMM hst
                 have z0 : i0.toNat = k0 := by have := HI0.out; omega
                 have z9 : i9.toNat = k9 := by have := HI9.out; omega
                 have z10 : i10.toNat = k10 := by have := HI10.out; omega
                 have g1 := HK.out.get k9 k10 K9.out hk10
                 have g2 := HK.out.get k9 k0 K9.out K0.out
                 have g3 := HK.out.get k0 k10 K0.out hk10
                 have HSS := Aside0.mk (show ckStep k0 k9 k10 MM = MM.set (k9 * 20 + k10) (MM.getD (k9 * 20 + k10) false || (MM.getD (k9 * 20 + k0) false && MM.getD (k0 * 20 + k10) false)) from rfl)
                 generalize MM.getD (k9 * 20 + k10) false = B1 at g1 HSS
                 generalize MM.getD (k9 * 20 + k0) false = B2 at g2 HSS
                 generalize MM.getD (k0 * 20 + k10) false = B3 at g3 HSS
                 have a0 : 0 ≤ i0 := by have := HI0.out; omega
                 have b0 : i0 < 20 := by have := HI0.out; have := K0.out; omega
                 have a9 : 0 ≤ i9 := by have := HI9.out; omega
                 have b9 : i9 < 20 := by have := HI9.out; have := K9.out; omega
                 have a10 : 0 ≤ i10 := by have := HI10.out; omega
                 have b10 : i10 < 20 := by have := HI10.out; omega
                 have b0' : i0 < ((20 : Nat) : Int) := b0
                 have b9' : i9 < ((20 : Nat) : Int) := b9
                 have b10' : i10 < ((20 : Nat) : Int) := b10
                 rw [← z9, ← z10] at g1
                 rw [← z9, ← z0] at g2
                 rw [← z0, ← z10] at g3
                 have HZ := Aside0.mk (And.intro z9 z10)
                 clear z0 z9 z10
                 go_wp2
                 obtain ⟨ud, hud⟩ : ∃ v : Value, v = undef := ⟨_, rfl⟩
                 have HUD := Aside0.mk hud
                 clear hud
                 refine wp_region_still_tail 23 (by kernel_rfl) (by kernel_rfl) ?_
                 simp only [List.take_succ_cons, List.take_zero, List.drop_succ_cons, List.drop_zero]
                 iterate 7 still_step
                 (refine wpStill_va (.bool B1) (by kernel_rfl) (by kernel_rfl) (by simp only [Act.put, List.setIfInBounds_toArray, List.set_cons_zero, List.set_cons_succ]; rfl) ?_)
                 rcases Bool.eq_false_or_eq_true B1 with hB1 | hB1
                 ·replace hB1 := Aside0.mk hB1
                  iterate 6 (refine wpStill_sk HUD.out (by rw [hB1.out]; kernel_rfl) (by simp only [Act.put, List.setIfInBounds_toArray, List.set_cons_zero, List.set_cons_succ]; rfl) ?_)
                  iterate 5 (refine wpStill_sk HUD.out (by rw [HUD.out]; kernel_rfl) (by simp only [Act.put, List.setIfInBounds_toArray, List.set_cons_zero, List.set_cons_succ]; rfl) ?_)
                  (refine wpStill_sk HUD.out (by rw [hB1.out]; kernel_rfl) (by simp only [Act.put, List.setIfInBounds_toArray, List.set_cons_zero, List.set_cons_succ]; rfl) ?_)
                  (refine wpStill_va (.bool B1) (by rw [hB1.out]; kernel_rfl) (by rw [hB1.out]; kernel_rfl) (by simp only [Act.put, List.setIfInBounds_toArray, List.set_cons_zero, List.set_cons_succ]; rfl) ?_)
                  iterate 2 still_step
                  refine wpStill_nil ?_
                  change wpList _ _ _ _ _ wr.drew
                  have HK3 := Aside0.mk (show Ck wr.drew g MM from HK.out)
                  have HD3 := Aside0.mk (below_drew1 HD.out)
                  have hgc := HK3.out.get k9 k10 K9.out hk10
                  rw [← HZ.out.1, ← HZ.out.2] at hgc
                  have hgf := blk_frozen HK3.out.2 (i9.toNat * 20 + i10.toNat)
                  generalize wr.drew = w2 at HK3 HD3 hgc hgf ⊢
                  clear g1 g2 g3
                  go_wp2
                  go_roundg f10
                  case measure => have := HN10.out; omega
                  case rel => exact ⟨k10 + 1, _, rfl, ⟨by have := HI10.out; first | omega | (unfold wrap64; omega)⟩, ⟨by have := HN10.out; omega⟩, ⟨by rw [HST.out, HSS.out, HZ.out.1, HZ.out.2, show (B1 || (B2 && B3)) = B1 by rw [hB1.out]; rfl]; exact HK3.out.set k9 k10 _⟩, ⟨below_set HD3.out GE.out⟩⟩
                 ·replace hB1 := Aside0.mk hB1
                  iterate 5 (refine wpStill_take (by rw [hB1.out]; kernel_rfl) (fun K hK => ?_); go_simp; refine hK _ ?_; clear hK K)
                  (refine wpStill_va (.bool B2) (by rw [hB1.out]; kernel_rfl) (by rw [hB1.out]; kernel_rfl) (by simp only [Act.put, List.setIfInBounds_toArray, List.set_cons_zero, List.set_cons_succ]; rfl) ?_)
                  rcases Bool.eq_false_or_eq_true B2 with hB2 | hB2
                  ·replace hB2 := Aside0.mk hB2
                   iterate 5 (refine wpStill_take (by rw [hB2.out]; kernel_rfl) (fun K hK => ?_); go_simp; refine hK _ ?_; clear hK K)
                   (refine wpStill_va (.bool B3) (by rw [hB1.out]; rw [hB2.out]; kernel_rfl) (by rw [hB1.out]; rw [hB2.out]; kernel_rfl) (by simp only [Act.put, List.setIfInBounds_toArray, List.set_cons_zero, List.set_cons_succ]; rfl) ?_)
                   (refine wpStill_va (.bool B3) (by rw [hB1.out]; rw [hB2.out]; kernel_rfl) (by rw [hB1.out]; rw [hB2.out]; kernel_rfl) (by simp only [Act.put, List.setIfInBounds_toArray, List.set_cons_zero, List.set_cons_succ]; rfl) ?_)
                   iterate 2 still_step
                   refine wpStill_nil ?_
                   change wpList _ _ _ _ _ wr.drew
                   have HK3 := Aside0.mk (show Ck wr.drew g MM from HK.out)
                   have HD3 := Aside0.mk (below_drew1 HD.out)
                   have hgc := HK3.out.get k9 k10 K9.out hk10
                   rw [← HZ.out.1, ← HZ.out.2] at hgc
                   have hgf := blk_frozen HK3.out.2 (i9.toNat * 20 + i10.toNat)
                   generalize wr.drew = w2 at HK3 HD3 hgc hgf ⊢
                   clear g1 g2 g3
                   go_wp2
                   go_roundg f10
                   case measure => have := HN10.out; omega
                   case rel => exact ⟨k10 + 1, _, rfl, ⟨by have := HI10.out; first | omega | (unfold wrap64; omega)⟩, ⟨by have := HN10.out; omega⟩, ⟨by rw [HST.out, HSS.out, HZ.out.1, HZ.out.2, show (B1 || (B2 && B3)) = B3 by rw [hB1.out, hB2.out]; rfl]; exact HK3.out.set k9 k10 _⟩, ⟨below_set HD3.out GE.out⟩⟩
                  ·replace hB2 := Aside0.mk hB2
                   iterate 5 (refine wpStill_sk HUD.out (by rw [hB2.out]; kernel_rfl) (by simp only [Act.put, List.setIfInBounds_toArray, List.set_cons_zero, List.set_cons_succ]; rfl) ?_)
                   (refine wpStill_va (.bool false) (by rw [hB1.out]; rw [hB2.out]; kernel_rfl) (by rw [hB1.out]; rw [hB2.out]; kernel_rfl) (by simp only [Act.put, List.setIfInBounds_toArray, List.set_cons_zero, List.set_cons_succ]; rfl) ?_)
                   (refine wpStill_va (.bool false) (by rw [hB1.out]; rw [hB2.out]; kernel_rfl) (by rw [hB1.out]; rw [hB2.out]; kernel_rfl) (by simp only [Act.put, List.setIfInBounds_toArray, List.set_cons_zero, List.set_cons_succ]; rfl) ?_)
                   iterate 2 still_step
                   refine wpStill_nil ?_
                   change wpList _ _ _ _ _ wr.drew
                   have HK3 := Aside0.mk (show Ck wr.drew g MM from HK.out)
                   have HD3 := Aside0.mk (below_drew1 HD.out)
                   have hgc := HK3.out.get k9 k10 K9.out hk10
                   rw [← HZ.out.1, ← HZ.out.2] at hgc
                   have hgf := blk_frozen HK3.out.2 (i9.toNat * 20 + i10.toNat)
                   generalize wr.drew = w2 at HK3 HD3 hgc hgf ⊢
                   clear g1 g2 g3
                   go_wp2
                   go_roundg f10
                   case measure => have := HN10.out; omega
                   case rel => exact ⟨k10 + 1, _, rfl, ⟨by have := HI10.out; first | omega | (unfold wrap64; omega)⟩, ⟨by have := HN10.out; omega⟩, ⟨by rw [HST.out, HSS.out, HZ.out.1, HZ.out.2, show (B1 || (B2 && B3)) = false by rw [hB1.out, hB2.out]; rfl]; exact HK3.out.set k9 k10 _⟩, ⟨below_set HD3.out GE.out⟩⟩
                ·have cb10 : decide (i10 < 20) = false := decide_eq_false (by have := HI10.out; omega)
                 have e10 : k10 = 20 := by have := HN10.out; omega
                 subst e10
                 go_wp2
                 go_roundg f9
                 case measure => have := HN9.out; omega
                 case rel => exact ⟨k9 + 1, _, rfl, ⟨by have := HI9.out; have := K9.out; first | omega | (unfold wrap64; omega)⟩, ⟨by have := HN9.out; omega⟩, HK, HD⟩
             ·have cb9 : decide (i9 < 20) = false := decide_eq_false (by have := HI9.out; omega)
              have e9 : k9 = 20 := by have := HN9.out; omega
              subst e9
              go_wp2
              go_roundg f0
              case measure => have := HN0.out; omega
              case rel => exact ⟨k0 + 1, _, rfl, ⟨by have := HI0.out; have := K0.out; first | omega | (unfold wrap64; omega)⟩, ⟨by have := HN0.out; omega⟩, HK, HD⟩
          ·have cb8 : decide (i0 < 20) = false := decide_eq_false (by have := HI0.out; omega)
           have e0 : k0 = 20 := by have := HN0.out; omega
           subst e0
           go_wp2
           go_loopg [11] 21 (fun kq v11 w' => ∃ (n : Nat) (i : Int), v11 = .int .i64 i ∧ Aside0 (i = (n : Int)) ∧ Aside0 (n ≤ 20 ∧ kq + n = 21) ∧ Aside0 (ckEnd (ckK 20 M1) (20 - n) = r) ∧ Aside0 (Ck w' g (ckK 20 M1)) ∧ Aside0 (Below wu.heap.size wu w'))
           case atStart => exact ⟨0, 0, rfl, ⟨rfl⟩, ⟨by omega, rfl⟩, HE, HK, HD⟩
           case round =>
            clear HK HD HE
            obtain ⟨k5, i5, rfl, HI5, HN5, HE, HK, HD⟩ := hrel
            cases gk with
            | zero => exact absurd HN5.out (by omega)
            | succ f5 =>
             by_cases hk5 : k5 < 20
             ·have cb5 : decide (i5 < 20) = true := decide_eq_true (by have := HI5.out; omega)
              have z5 : i5.toNat = k5 := by have := HI5.out; omega
              have g5 := HK.out.get k5 k5 hk5 hk5
              have HE' := HE.out
              rw [ckEnd_at _ _ hk5] at HE'
              rw [← z5] at g5
              have a5 : 0 ≤ i5 := by have := HI5.out; omega
              have b5 : i5 < 20 := by have := HI5.out; omega
              have b5' : i5 < ((20 : Nat) : Int) := b5
              rw [← z5] at HE'
              have HZ5 := Aside0.mk z5
              clear z5 HE
              by_cases hM5 : (ckK 20 M1).getD (i5.toNat * 20 + i5.toNat) false = true
              ·rw [if_pos hM5] at HE'
               rw [hM5] at g5
               subst HE'
               clear hM5
               go_wp2
               go_ret
               exact ⟨rfl, below_step HBu.out HD.out⟩
              ·rw [if_neg hM5] at HE'
               have hM6 : (ckK 20 M1).getD (i5.toNat * 20 + i5.toNat) false = false := by simpa using hM5
               rw [hM6] at g5
               have HE2 := Aside0.mk HE'
               clear hM5 hM6 HE'
               go_wp2
               go_roundg f5
               case measure => have := HN5.out; omega
               case rel => exact ⟨k5 + 1, _, rfl, ⟨by have := HI5.out; first | omega | (unfold wrap64; omega)⟩, ⟨by have := HN5.out; omega⟩, ⟨by have := HE2.out; rw [HZ5.out] at this; exact this⟩, HK, HD⟩
             ·have cb5 : decide (i5 < 20) = false := decide_eq_false (by have := HI5.out; omega)
              have e5 : k5 = 20 := by have := HN5.out; omega
              subst e5
              have HE' := HE.out
              have er : r = true := by rw [← HE']; rfl
              subst er
              clear HE HE'
              go_wp2
              go_ret
              exact ⟨rfl, below_step HBu.out HD.out⟩
end Go.Proofs.YtjijikgandkphaaDoor.G
