-- printed by wip/tool/gprint.py, a program of this work, out of the translation; Lean checks it
import Derived.Test.YtlgndfplikhflaaDoorGx0
import Derived.Test.YtlgndfplikhflaaDoorGx2
import Derived.Test.YtlgndfplikhflaaDoorGx3
import Derived.Test.YtlgndfplikhflaaDoorGx12
import Derived.Test.YtlgndfplikhflaaDoorGx14
namespace Go.Proofs.YtlgndfplikhflaaDoor.G
open Go.RowKit Go.Proofs.YtlgndfplikhflaaDoorW.PrintWords Go.Proofs.YtlgndfplikhflaaDoorW.PrintLast Go.Proofs.YtlgndfplikhflaaDoorW.PrintMore Go.Proofs.YtlgndfplikhflaaDoorW.VWords Go.Proofs.YtlgndfplikhflaaDoorW.Tab
attribute [local go_sem] max2_int min2_int max_two min_two max_three min_three max_four min_four   -- for this text's walks alone
set_option linter.unusedVariables false
set_option linter.unusedSimpArgs false

/-! ### interlocutorlaw10_RankOnce: function 9 -/
/-- The least of the first costs. -/
def lea (cs : List Int) : Nat → Int
  | 0 => 0
  | i + 1 => if i = 0 ∨ cs.getD i 0 < lea cs i then cs.getD i 0 else lea cs i
def onceRows (v : Int) (F cs : List Int) : List S36 := cs.map fun c => (⟨⟨v, F⟩, c⟩ : S36)
/-- What the walk asks. -/
def onceOk (k : Nat) (n : Int) (l : List Int) (v : Int) (F cs : List Int) : Prop :=
  interlocutorlaw8_Value.f k n n n = some (v, F) ∧ cs.length = min l.length 30 ∧ (∀ i, i < cs.length → interlocutorlaw10_within.f (rd l (i : Int)) 1000 = some (cs.getD i 0)) ∧
  rank_Best.f (onceRows v F cs) 9 = some (if cs.length = 0 then ([], false) else ([(⟨⟨v, F⟩, lea cs cs.length⟩ : S36)], false)) ∧ rank_Cmp.f k v F v F = some 0
theorem once_take (v : Int) (F cs : List Int) (i : Nat) (h : i < cs.length) : (onceRows v F cs).take (i + 1) = (onceRows v F cs).take i ++ [(⟨⟨v, F⟩, cs.getD i 0⟩ : S36)] := by
  have h2 : i < (onceRows v F cs).length := by simpa [onceRows] using h
  rw [List.take_add_one, List.getElem?_eq_getElem h2, List.getD_eq_getElem?_getD, List.getElem?_eq_getElem h]
  simp [onceRows]
set_option maxHeartbeats 8000000 in
set_option maxRecDepth 100000 in
theorem RankOnce_walk (k : Nat) (n : Int) (A0 : Option Addr) (c0 : Nat) (l : List Int) (v : Int) (F cs : List Int) (w : World) (hr0 : Kd.C (Kd.int .i64) w A0 l.length l) (hok : onceOk k n l v F cs) (hT_ : YtlgndfplikhflaaDoorW.Tab.TabOK w) :
    Calls Tryd.prog 9 #[.int .i64 n, .slice A0 l.length c0] w fun e w' => e = .returned (.bool true) ∧ Below w.heap.size w w' := by
  obtain ⟨h1, h2, h3, h4, h5⟩ := hok
  have mixed : Tryd.prog.follows .mixedOrders = true := by kernel_rfl
  have HT_ := Aside0.mk hT_
  have HB := Aside0.mk (Below.refl w.heap.size w)
  have HR := Aside0.mk hr0
  have H1 := Aside0.mk h1
  have H2 := Aside0.mk h2
  have H3 := Aside0.mk h3
  have H4 := Aside0.mk h4
  have H5 := Aside0.mk h5
  clear hr0 h1 h2 h3 h4 h5 hT_
  have hu1 := Tryd.underlying36
  have hu3 := Tryd.underlying24
  go_enter Tryd.func9, Tryd.ntmps9
  go_wp2_with (first
    | (go_at_call 13; (with_reducible refine (interlocutorlaw10_known.calls true _ rfl HT_.out).mono ?_); rintro e w1 ⟨rfl, hb⟩; have HB1 := Aside0.mk hb; clear hb HB)
    | (go_at_call 21; (with_reducible refine (interlocutorlaw8_Value.calls k n n n v F _ H1.out).mono ?_); rintro e w2 ⟨v2, rfl, hR, hb⟩; have HB2 := Aside0.mk (below_step HB1.out hb); obtain ⟨A2, c2, hv2⟩ := Kd.R_slice hR; subst hv2; have HF2 := Aside0.mk (Kd.F_bound (Kd.R_F hR)); have HL2 := Aside0.mk (Kd.R_reads' hR).2.1; clear hb hR))
  obtain ⟨Wb, hWb⟩ : ∃ W, W = w2.alloc (.cells #[.int .i64 v, .slice A2 F.length c2] 24) := ⟨_, rfl⟩
  have HBX := Aside0.mk (show Wb.heap[w2.heap.size]? = some (.cells #[.int .i64 v, .slice A2 F.length c2] 24 (0, 0)) by rw [hWb]; exact blk_new _ _)
  have HBW := Aside0.mk (show Below w.heap.size w Wb by rw [hWb]; exact below_alloc HB2.out _)
  have HFW := Aside0.mk (show Kd.F (Kd.int .i64) Wb (fun k_ => k_ < Wb.heap.size) A2 F.length F by rw [hWb]; exact Kd.F_mono (Kd.F_bound (Kd.F_alloc HF2.out _)) (fun k_ hk => hk.2))
  have HRW := Aside0.mk (Kd.C_below HR.out HBW.out)
  have HTW := Aside0.mk (tab_below HT_.out HBW.out)
  obtain ⟨bx, hbx⟩ : ∃ b, b = w2.heap.size := ⟨_, rfl⟩
  have HBL := Aside0.mk (show bx < Wb.heap.size by rw [hWb, hbx, size_alloc1]; omega)
  rw [← hWb, ← hbx]
  rw [← hbx] at HBX
  clear hWb hbx HF2 HB2 HB1 HR
  go_loopg [6, 7, 8] cs.length (fun kq v6 v7 v8 wr => ∃ i : Nat, v8 = .int .i64 i ∧ v7 = .int .i64 (lea cs i) ∧ Aside0 (i + kq = cs.length) ∧ Aside0 (Kd.N k36 36 wr Wb.heap.size (fun _ => True) v6 ((onceRows v F cs).take i)) ∧ Aside0 (Below Wb.heap.size Wb wr))
  case atStart => exact ⟨0, rfl, rfl, ⟨by simp⟩, ⟨Kd.N_nil _ _ _ _ _⟩, ⟨Below.refl _ _⟩⟩
  case round =>
    obtain ⟨i, rfl, rfl, HI, HO, HBr⟩ := hrel
    by_cases hi : i < cs.length
    · cases gk with
      | zero => exact absurd HI.out (by omega)
      | succ k1 =>
        have hi0 : (i : Int) < (l.length : Int) := by have := H2.out; omega
        have hi1 : (i : Int) < 30 := by have := H2.out; omega
        have HC := Aside0.mk (H3.out i hi)
        obtain ⟨c, HCE⟩ : ∃ c, Aside0 (c = cs.getD i 0) := ⟨_, ⟨rfl⟩⟩
        obtain ⟨z, HZ⟩ : ∃ z, Aside0 (z = rd l (i : Int)) := ⟨_, ⟨rfl⟩⟩
        have HC2 := Aside0.mk (show interlocutorlaw10_within.f z 1000 = some c by rw [HCE.out, HZ.out]; exact HC.out)
        obtain ⟨ad, e0, hcell⟩ := ReadsOf.at_ (Kd.reads_of_C (enc := Value.int .i64) (d := (0 : Int)) (h1 := fun _ => rfl) HRW.out) (i : Int) (by omega) hi0
        subst e0
        have hbr := HBr.out
        replace hcell := pw_cell_below hbr hcell
        rw [Int.toNat_natCast] at hcell
        replace hcell : wr.cell? (ad.add i) = some (.int .i64 (rd l (i : Int))) := hcell
        rw [← HZ.out] at hcell
        have q0 : wr.cell? ⟨bx, 0, none⟩ = some (.int .i64 v) := (blk_cell (blk_below HBX.out hbr) 0).trans rfl
        have q1 : wr.cell? ⟨bx, 1, none⟩ = some (.slice A2 F.length c2) := (blk_cell (blk_below HBX.out hbr) 1).trans rfl
        have HW := Aside0.mk (show wrap64 ((i : Int) + 1) = ((i + 1 : Nat) : Int) by unfold wrap64; omega)
        have HFr := Aside0.mk (Kd.F_below (Kd.F_mono HFW.out (fun k_ hk => hk)) hbr)
        have HN := Aside0.mk (once_take v F cs i hi)
        have HSL := Aside0.mk (show ((onceRows v F cs).take i).length ≤ 30 by rw [List.length_take]; omega)
        clear hbr HC
        have hl1 : lea cs (i + 1) = if i = 0 ∨ c < lea cs i then c else lea cs i := by rw [HCE.out]; rfl
        rw [← HCE.out] at HN
        have HL1 := Aside0.mk hl1
        clear hl1
        by_cases hz : i = 0
        · have hzz : (i : Int) = 0 := by omega
          have hl1 := HL1.out
          rw [if_pos (Or.inl hz)] at hl1
          clear hzz
          subst hz
          rw [Addr.add_zero'] at hcell
          go_wp2_with (first
            | (go_at_call 17; (with_reducible refine (interlocutorlaw10_within.calls z 1000 c _ HC2.out).mono ?_); rintro e w' ⟨rfl, ⟨nd, rfl⟩⟩)
            | ((with_reducible refine gate_builtin (b := .append) (xs := #[.tmp 33, .tmp 37]) rfl ?_); at_builtin; refine Kd.N_append k36 (w0 := Wb) (W := wr.drewN nd) Wb.heap.size rfl (.tmp 33) (.tmp 37) 28 36 (.agg #[(.int .i64 0), (.slice none 0 0), (.int .i64 0)]) 40 rfl Tryd.underlying28 info36 rfl (by decide) (by decide) u6 ((onceRows v F cs).take 0) (⟨⟨v, F⟩, c⟩ : S36) [.int .i64 v, .slice A2 F.length c2, .int .i64 c] (fun _ => True) (fun k_ => k_ < Wb.heap.size) ?hs ?hx ?hp ?hokp (fun _ _ => trivial) (Kd.N_drewN HO.out nd) (pw_below_drewN HBr.out nd) ?hsz ?hl ?_; (case hs => rfl); (case hx => rfl); (case hp => exact k36_mkF _ _ (⟨⟨v, F⟩, c⟩ : S36) HL2.out (Kd.F_drewN HFr.out nd)); (case hokp => exact fun k_ hk => ⟨trivial, fun e_ => by have := Kd.N_base HO.out k_ e_.symm; omega⟩); (case hsz => exact HBr.out.size); (case hl => have := HSL.out; omega); intro v38 w38 ho38 hb38 hg38 hat38; have HO38 := Aside0.mk ho38; have HB38 := Aside0.mk hb38; clear ho38 hb38 hg38 hat38))
          go_roundg k1
          case measure => omega
          case rel => exact ⟨0 + 1, by first | rfl | rw [HW.out] | (congr 1; omega), by rw [hl1], ⟨by have := HI.out; omega⟩, ⟨by rw [HN.out]; exact HO38.out⟩, HB38⟩
        · have hzz : ¬ (i : Int) = 0 := by omega
          by_cases hlt : c < lea cs i
          · have hl1 := HL1.out
            rw [if_pos (Or.inr hlt)] at hl1
            have hltd : decide (c < lea cs i) = true := decide_eq_true hlt
            go_wp2_with (first
              | (go_at_call 17; (with_reducible refine (interlocutorlaw10_within.calls z 1000 c _ HC2.out).mono ?_); rintro e w' ⟨rfl, ⟨nd, rfl⟩⟩)
              | ((with_reducible refine gate_builtin (b := .append) (xs := #[.tmp 33, .tmp 37]) rfl ?_); at_builtin; refine Kd.N_append k36 (w0 := Wb) (W := wr.drewN nd) Wb.heap.size rfl (.tmp 33) (.tmp 37) 28 36 (.agg #[(.int .i64 0), (.slice none 0 0), (.int .i64 0)]) 40 rfl Tryd.underlying28 info36 rfl (by decide) (by decide) u6 ((onceRows v F cs).take i) (⟨⟨v, F⟩, c⟩ : S36) [.int .i64 v, .slice A2 F.length c2, .int .i64 c] (fun _ => True) (fun k_ => k_ < Wb.heap.size) ?hs ?hx ?hp ?hokp (fun _ _ => trivial) (Kd.N_drewN HO.out nd) (pw_below_drewN HBr.out nd) ?hsz ?hl ?_; (case hs => rfl); (case hx => rfl); (case hp => exact k36_mkF _ _ (⟨⟨v, F⟩, c⟩ : S36) HL2.out (Kd.F_drewN HFr.out nd)); (case hokp => exact fun k_ hk => ⟨trivial, fun e_ => by have := Kd.N_base HO.out k_ e_.symm; omega⟩); (case hsz => exact HBr.out.size); (case hl => have := HSL.out; omega); intro v38 w38 ho38 hb38 hg38 hat38; have HO38 := Aside0.mk ho38; have HB38 := Aside0.mk hb38; clear ho38 hb38 hg38 hat38))
            go_roundg k1
            case measure => omega
            case rel => exact ⟨i + 1, by first | rw [HW.out] | (congr 1; omega) | rfl, by rw [hl1], ⟨by have := HI.out; omega⟩, ⟨by rw [HN.out]; exact HO38.out⟩, HB38⟩
          · have hl1 := HL1.out
            rw [if_neg (fun h => h.elim hz hlt)] at hl1
            have hltd : decide (c < lea cs i) = false := decide_eq_false hlt
            go_wp2_with (first
              | (go_at_call 17; (with_reducible refine (interlocutorlaw10_within.calls z 1000 c _ HC2.out).mono ?_); rintro e w' ⟨rfl, ⟨nd, rfl⟩⟩)
              | ((with_reducible refine gate_builtin (b := .append) (xs := #[.tmp 33, .tmp 37]) rfl ?_); at_builtin; refine Kd.N_append k36 (w0 := Wb) (W := wr.drewN nd) Wb.heap.size rfl (.tmp 33) (.tmp 37) 28 36 (.agg #[(.int .i64 0), (.slice none 0 0), (.int .i64 0)]) 40 rfl Tryd.underlying28 info36 rfl (by decide) (by decide) u6 ((onceRows v F cs).take i) (⟨⟨v, F⟩, c⟩ : S36) [.int .i64 v, .slice A2 F.length c2, .int .i64 c] (fun _ => True) (fun k_ => k_ < Wb.heap.size) ?hs ?hx ?hp ?hokp (fun _ _ => trivial) (Kd.N_drewN HO.out nd) (pw_below_drewN HBr.out nd) ?hsz ?hl ?_; (case hs => rfl); (case hx => rfl); (case hp => exact k36_mkF _ _ (⟨⟨v, F⟩, c⟩ : S36) HL2.out (Kd.F_drewN HFr.out nd)); (case hokp => exact fun k_ hk => ⟨trivial, fun e_ => by have := Kd.N_base HO.out k_ e_.symm; omega⟩); (case hsz => exact HBr.out.size); (case hl => have := HSL.out; omega); intro v38 w38 ho38 hb38 hg38 hat38; have HO38 := Aside0.mk ho38; have HB38 := Aside0.mk hb38; clear ho38 hb38 hg38 hat38))
            go_roundg k1
            case measure => omega
            case rel => exact ⟨i + 1, by first | rw [HW.out] | (congr 1; omega) | rfl, by rw [hl1], ⟨by have := HI.out; omega⟩, ⟨by rw [HN.out]; exact HO38.out⟩, HB38⟩
    · have hi2 : i = cs.length := by have := HI.out; omega
      have HO2 := Aside0.mk (show Kd.N k36 36 wr Wb.heap.size (fun _ => True) u6 (onceRows v F cs) by have h := HO.out; rw [hi2, show cs.length = (onceRows v F cs).length by simp [onceRows], List.take_length] at h; exact h)
      have hle : lea cs i = lea cs cs.length := by rw [hi2]
      rw [hle]
      have hguard : ¬ ((i : Int) < (l.length : Int) ∧ (i : Int) < 30) := by have := H2.out; omega
      clear HO hi2 hle
      obtain ⟨A6, c6, e6⟩ := Kd.N_slice HO2.out
      subst e6
      obtain ⟨n6, HN6⟩ : ∃ n, Aside0 (n = (onceRows v F cs).length) := ⟨_, ⟨rfl⟩⟩
      have HN7 := Aside0.mk (show n6 = cs.length by rw [HN6.out]; simp [onceRows])
      obtain ⟨L, HLE⟩ : ∃ L, Aside0 (L = lea cs cs.length) := ⟨_, ⟨rfl⟩⟩
      rw [← HN6.out, ← HLE.out]
      rw [← HLE.out] at H4
      have HBF := Aside0.mk (show Below w.heap.size w wr from below_weaken HBW.out (below_size HBW.out) HBr.out)
      have HTf := Aside0.mk (tab_below HT_.out HBF.out)
      have hg1 : (i : Int) < (l.length : Int) → ¬ (i : Int) < 30 := fun h h2 => hguard ⟨h, h2⟩
      clear hguard
      by_cases h0 : cs.length = 0
      · have hn0 : n6 = 0 := by rw [HN7.out]; exact h0
        have H4' := Aside0.mk (show rank_Best.f (onceRows v F cs) 9 = some ([], false) by rw [H4.out, if_pos h0])
        clear h0
        obtain ⟨hr6, hl6, hc6⟩ := Kd.N_reads' HO2.out
        subst hn0
        obtain ⟨A6', c6', he6, hCl⟩ : ∃ A c, Value.slice A6 0 c6 = Value.slice A 0 c ∧ Kd.C k36 wr A 0 [] := ⟨A6, c6, rfl, ⟨rfl, by decide, fun h => absurd h (Nat.lt_irrefl 0)⟩⟩
        have hnil : onceRows v F cs = [] := List.eq_nil_of_length_eq_zero (by rw [← HN6.out])
        have H4n := Aside0.mk (show rank_Best.f ([] : List S36) 9 = some ([], false) by have h := H4'.out; rw [hnil] at h; exact h)
        have HBC := Aside0.mk (show Calls Tryd.prog 18 #[.slice A6 0 c6, .int .i64 9] wr fun e w' => ∃ v0_ : Value, e = .returned (.tuple #[v0_, .bool false]) ∧ Kd.V k36 36 w' wr.heap.size (fun k_ => wr.heap.size ≤ k_) v0_ [] ∧ Below wr.heap.size wr w' from rank_Best.calls A6 c6 [] 9 [] false wr ⟨rfl, by decide, fun h => absurd h (Nat.lt_irrefl 0)⟩ (Nat.zero_le _) H4n.out HTf.out)
        have hguard2 : (i : Int) < (l.length : Int) ∨ ¬ (i : Int) < (l.length : Int) := by omega
        rcases hguard2 with hg | hg
        · have hg2 := hg1 hg
          clear hg1
          go_wp2_with (go_at_call 18; (with_reducible refine (HBC.out).mono ?_); rintro e w9 ⟨v9, rfl, hV, hb⟩; obtain ⟨A9, c9, e9⟩ := Kd.V_slice hV; rw [show ([] : List S36).length = 0 from rfl] at e9; subst e9; have HB9 := Aside0.mk (below_step HBF.out hb); clear hV hb)
          go_ret
          exact ⟨rfl, HB9.out⟩
        · clear hg1
          go_wp2_with (go_at_call 18; (with_reducible refine (HBC.out).mono ?_); rintro e w9 ⟨v9, rfl, hV, hb⟩; obtain ⟨A9, c9, e9⟩ := Kd.V_slice hV; rw [show ([] : List S36).length = 0 from rfl] at e9; subst e9; have HB9 := Aside0.mk (below_step HBF.out hb); clear hV hb)
          go_ret
          exact ⟨rfl, HB9.out⟩
      · have H4' := Aside0.mk (show rank_Best.f (onceRows v F cs) 9 = some ([(⟨⟨v, F⟩, L⟩ : S36)], false) by rw [H4.out, if_neg h0])
        have hn0 : ¬ (n6 : Int) = 0 := by have := HN7.out; omega
        obtain ⟨hr6, hl6, hc6⟩ := Kd.N_reads' HO2.out
        have hB := rank_Best.calls A6 c6 (onceRows v F cs) 9 [(⟨⟨v, F⟩, L⟩ : S36)] false wr hc6 hl6 H4'.out HTf.out
        rw [← HN6.out] at hB
        have HBC := Aside0.mk hB
        clear hr6 hl6 hc6 h0 hB
        have hguard2 : (i : Int) < (l.length : Int) ∨ ¬ (i : Int) < (l.length : Int) := by omega
        rcases hguard2 with hg | hg
        · have hg2 := hg1 hg
          clear hg1
          go_wp2_with (go_at_call 18; (with_reducible refine (HBC.out).mono ?_); rintro e w9 ⟨v9, rfl, hV, hb⟩; obtain ⟨A9, c9, e9⟩ := Kd.V_slice hV; subst e9; have HV9 := Aside0.mk (Kd.V_reads' hV).2.2; have HB9 := Aside0.mk hb; clear hV hb; rw [show [(⟨⟨v, F⟩, L⟩ : S36)].length = 1 from rfl])
          obtain ⟨ad9, A1, c1, e0, q0, q1, q2, hlc, hC⟩ := at_T36 HV9.out 0 (by decide) (by simp)
          subst e0
          replace q0 : w9.cell? ad9 = some (.int .i64 v) := by have h := q0; rw [show (Int.toNat 0 * 3) = 0 from rfl, Addr.add_zero'] at h; exact h
          replace q1 : w9.cell? ⟨ad9.block, ad9.off + 1, none⟩ = some (.slice A1 F.length c1) := by have h := q1; rw [show (Int.toNat 0 * 3) = 0 from rfl, Addr.add_zero'] at h; exact h
          replace q2 : w9.cell? ⟨ad9.block, ad9.off + 2, none⟩ = some (.int .i64 L) := by have h := q2; rw [show (Int.toNat 0 * 3) = 0 from rfl, Addr.add_zero'] at h; exact h
          replace hlc : F.length ≤ c1 := hlc
          replace hC : Kd.C (Kd.int .i64) w9 A1 F.length F := hC
          have hb9 := below_step HBr.out HB9.out
          have p0 : w9.cell? ⟨bx, 0, none⟩ = some (.int .i64 v) := (blk_cell (blk_below HBX.out hb9) 0).trans rfl
          have p1 : w9.cell? ⟨bx, 1, none⟩ = some (.slice A2 F.length c2) := (blk_cell (blk_below HBX.out hb9) 1).trans rfl
          have hCF := Kd.F_now (Kd.F_below HFW.out hb9)
          have g0 := fun n os => Go.cell_grown (World.block_lt_of_cell? _ _ q0) q0 n os
          have g1 := fun n os => Go.cell_grown (World.block_lt_of_cell? _ _ q1) q1 n os
          have g2 := fun n os => Go.cell_grown (World.block_lt_of_cell? _ _ q2) q2 n os
          have g3 := fun n os => Go.cell_grown (World.block_lt_of_cell? _ _ p0) p0 n os
          have g4 := fun n os => Go.cell_grown (World.block_lt_of_cell? _ _ p1) p1 n os
          have cc := fun n os => rank_Cmp.grows k v A1 c1 F v A2 c2 F 0 (Go.Sort.grow (w9.drewN n) os) (C_gro hC ⟨n, os, rfl⟩) hlc (C_gro hCF ⟨n, os, rfl⟩) HL2.out H5.out
          have HBE := Aside0.mk (below_step HBF.out HB9.out)
          clear q0 q1 q2 p0 p1 hC hCF hb9 hlc
          go_wp2_with fail
          go_quiet_grown (first | (go_at_call 14; refine Calls.grown_of (cc _ _)))
          go_wp2
          go_ret
          exact ⟨rfl, below_step HBE.out (gro_below ⟨nq, osq, rfl⟩)⟩
        · clear hg1
          go_wp2_with (go_at_call 18; (with_reducible refine (HBC.out).mono ?_); rintro e w9 ⟨v9, rfl, hV, hb⟩; obtain ⟨A9, c9, e9⟩ := Kd.V_slice hV; subst e9; have HV9 := Aside0.mk (Kd.V_reads' hV).2.2; have HB9 := Aside0.mk hb; clear hV hb; rw [show [(⟨⟨v, F⟩, L⟩ : S36)].length = 1 from rfl])
          obtain ⟨ad9, A1, c1, e0, q0, q1, q2, hlc, hC⟩ := at_T36 HV9.out 0 (by decide) (by simp)
          subst e0
          replace q0 : w9.cell? ad9 = some (.int .i64 v) := by have h := q0; rw [show (Int.toNat 0 * 3) = 0 from rfl, Addr.add_zero'] at h; exact h
          replace q1 : w9.cell? ⟨ad9.block, ad9.off + 1, none⟩ = some (.slice A1 F.length c1) := by have h := q1; rw [show (Int.toNat 0 * 3) = 0 from rfl, Addr.add_zero'] at h; exact h
          replace q2 : w9.cell? ⟨ad9.block, ad9.off + 2, none⟩ = some (.int .i64 L) := by have h := q2; rw [show (Int.toNat 0 * 3) = 0 from rfl, Addr.add_zero'] at h; exact h
          replace hlc : F.length ≤ c1 := hlc
          replace hC : Kd.C (Kd.int .i64) w9 A1 F.length F := hC
          have hb9 := below_step HBr.out HB9.out
          have p0 : w9.cell? ⟨bx, 0, none⟩ = some (.int .i64 v) := (blk_cell (blk_below HBX.out hb9) 0).trans rfl
          have p1 : w9.cell? ⟨bx, 1, none⟩ = some (.slice A2 F.length c2) := (blk_cell (blk_below HBX.out hb9) 1).trans rfl
          have hCF := Kd.F_now (Kd.F_below HFW.out hb9)
          have g0 := fun n os => Go.cell_grown (World.block_lt_of_cell? _ _ q0) q0 n os
          have g1 := fun n os => Go.cell_grown (World.block_lt_of_cell? _ _ q1) q1 n os
          have g2 := fun n os => Go.cell_grown (World.block_lt_of_cell? _ _ q2) q2 n os
          have g3 := fun n os => Go.cell_grown (World.block_lt_of_cell? _ _ p0) p0 n os
          have g4 := fun n os => Go.cell_grown (World.block_lt_of_cell? _ _ p1) p1 n os
          have cc := fun n os => rank_Cmp.grows k v A1 c1 F v A2 c2 F 0 (Go.Sort.grow (w9.drewN n) os) (C_gro hC ⟨n, os, rfl⟩) hlc (C_gro hCF ⟨n, os, rfl⟩) HL2.out H5.out
          have HBE := Aside0.mk (below_step HBF.out HB9.out)
          clear q0 q1 q2 p0 p1 hC hCF hb9 hlc
          go_wp2_with fail
          go_quiet_grown (first | (go_at_call 14; refine Calls.grown_of (cc _ _)))
          go_wp2
          go_ret
          exact ⟨rfl, below_step HBE.out (gro_below ⟨nq, osq, rfl⟩)⟩
open Classical in
noncomputable def interlocutorlaw10_RankOnce.f (k : Nat) (n : Int) (l : List Int) : Option Bool := if ∃ v F cs, onceOk k n l v F cs then some true else none
theorem interlocutorlaw10_RankOnce.calls (k : Nat) (n : Int) (A0 : Option Addr) (c0 : Nat) (l : List Int) (r : Bool) (w : World) (hr0 : Kd.C (Kd.int .i64) w A0 l.length l) (hc0 : l.length ≤ c0) (h : interlocutorlaw10_RankOnce.f k n l = some r) (hT_ : YtlgndfplikhflaaDoorW.Tab.TabOK w) :
    Calls Tryd.prog 9 #[.int .i64 n, .slice A0 l.length c0] w fun e w' => e = .returned (.bool r) ∧ Below w.heap.size w w' := by
  unfold interlocutorlaw10_RankOnce.f at h
  split at h
  · rename_i hx
    obtain ⟨v, F, cs, hok⟩ := hx
    obtain rfl := Option.some.inj h
    exact RankOnce_walk k n A0 c0 l v F cs w hr0 hok hT_
  · cases h
/-- THE ONE PURE STATEMENT of RankOnce. -/
def interlocutorlaw10_RankOnce.Pure : Prop := ∀ (a0 : Int) (l1 : List Int), (Lit.int .i64 a0).wf = true → l1.length ≤ maxLen → l1.length * 8 ≤ 140737488351232 → (∀ x ∈ l1, (Lit.int .i64 x).wf = true) → ∃ k, interlocutorlaw10_RankOnce.f k a0 l1 = some true
theorem interlocutorlaw10_RankOnce.walk (P : interlocutorlaw10_RankOnce.Pure) (a0 : Int) (a1 : Option Addr) (len1 cap1 : Nat) (z1 : List Int) (w : World) (w0 : (Lit.int .i64 a0).wf = true) (w1 : (a1 = none ∧ len1 = 0 ∧ cap1 = 0 ∧ z1 = []) ∨ ∃ x, a1 = some x ∧ len1 ≤ cap1 ∧ cap1 ≤ maxLen ∧ z1.length = cap1 ∧ (∀ i, i < z1.length → w.cell? (x.add i) = some (.int .i64 (z1.getD i 0))) ∧ ∀ n ∈ z1, (Lit.int .i64 n).wf = true) (y1 : len1 * 8 ≤ 140737488351232) (hT_ : YtlgndfplikhflaaDoorW.Tab.TabOK w) :
    Calls Tryd.prog 9 #[.int .i64 a0, .slice a1 len1 cap1] w fun e w' => e = .returned (.bool true) ∧ Below w.heap.size w w' := by
  obtain ⟨l1, rfl, hr1, hm1, hw1, hc1⟩ := ReadsInt.ofRowC w1
  obtain ⟨k, h⟩ := P a0 l1 w0 hm1 y1 hw1
  refine (interlocutorlaw10_RankOnce.calls k a0 _ _ l1 true w (Kd.C_of_reads (d := (0 : Int)) (h1 := fun _ => rfl) hr1) hc1 h hT_).mono ?_
  rintro e w' ⟨rfl, hd⟩
  exact ⟨rfl, hd⟩

end Go.Proofs.YtlgndfplikhflaaDoor.G
