import Derived.Test.YtjijikgandkphaaDoorGx0
import Derived.Test.YtjijikgandkphaaDoorGx20
namespace Go.Proofs.YtjijikgandkphaaDoor.G
open Go.RowKit Go.Proofs.YtjijikgandkphaaDoorW.PrintWords Go.Proofs.YtjijikgandkphaaDoorW.PrintLast Go.Proofs.YtjijikgandkphaaDoorW.PrintMore Go.Proofs.YtjijikgandkphaaDoorW.VWords Go.Proofs.YtjijikgandkphaaDoorW.Tab
attribute [local go_sem] max2_int min2_int max_two min_two max_three min_three max_four min_four
set_option linter.unusedVariables false
set_option linter.unusedSimpArgs false
def resF (k : Nat) (l : List S35) (id : ByteArray) : List S35 → Int → Option S35
 | [], _ => none
 | x :: xs, i => if x.f0.toList = id.toList then atF k l i else resF k l id xs (i + 1)
set_option maxHeartbeats 8000000 in
set_option maxRecDepth 100000 in
theorem resolve_walk (k : Nat) (l : List S35) (id : ByteArray) (r : S35) (P0 : Nat → Prop) (N0 : Nat) (A0 : Option Addr) (c0 : Nat) (w : World) (hN : N0 ≤ w.heap.size) (hF : Kd.F k35 w (fun b => P0 b ∧ b < N0) A0 l.length l) (hc : l.length ≤ c0) (h : resF k l id l 0 = some r) :
  Calls Tryd.prog 17 #[.slice A0 l.length c0, .string id] w fun e w' => ∃ A3 c3 A4 c4 A5 c5, e = .returned (.tuple #[.agg #[.string r.f0, .int .i64 r.f1, .int .i64 r.f2, .slice A3 r.f3.length c3, .slice A4 r.f4.length c4, .slice A5 r.f5.length c5], .bool true]) ∧ r.f3.length ≤ c3 ∧ Kd.F k24 w' (fun b => (P0 b ∧ b < N0) ∨ w.heap.size ≤ b) A3 r.f3.length r.f3 ∧ r.f4.length ≤ c4 ∧ Kd.F k96 w' (fun b => (P0 b ∧ b < N0) ∨ w.heap.size ≤ b) A4 r.f4.length r.f4 ∧ r.f5.length ≤ c5 ∧ Kd.F k31 w' (fun b => (P0 b ∧ b < N0) ∨ w.heap.size ≤ b) A5 r.f5.length r.f5 ∧ Below w.heap.size w w' := by
 have hu32 := Tryd.underlying35
 have hu62 := Tryd.underlying61
 have HN := Aside0.mk hN
 have HF := Aside0.mk hF
 have HC := Aside0.mk hc
 have H := Aside0.mk h
 have HL := Aside0.mk (Kd.F_now hF).2.1
 clear hN hF hc h
 go_enter Tryd.func17, Tryd.ntmps17
 go_wp2_with (first
  | ((with_reducible refine gate_dst (N := 4) rfl ?_); refine box_event ?hg (N := 4) ?hd (cs := #[.string (⟨#[]⟩ : ByteArray), .int .i64 0, .int .i64 0, .slice none 0 0, .slice none 0 0, .slice none 0 0]) (t := 35) ?hr ?_; (case hd => rfl); (case hg => rfl); (case hr => first | (go_simp; done) | (go_simp; rfl)); intro g4 hg4 w4 hbox hb; have G4 := Aside0.mk (Nat.le_of_eq hg4.symm); have B4 := Aside0.mk hbox; have HD := Aside0.mk hb; clear hbox hb hg4))
 go_loopg [6] (l.length + 1) (fun kq v6 w' => ∃ (m : Nat) (i : Int), v6 = .int .i64 i ∧ Aside0 (i = (m : Int)) ∧ Aside0 (m ≤ l.length ∧ kq + m = l.length + 1) ∧ Aside0 (resF k l id (l.drop m) i = some r) ∧ Aside0 (w'.heap[g4]? = some (.cells #[.string (⟨#[]⟩ : ByteArray), .int .i64 0, .int .i64 0, .slice none 0 0, .slice none 0 0, .slice none 0 0] 35 (0, 0))) ∧ Aside0 (Below w.heap.size w w'))
 case atStart => exact ⟨0, 0, rfl, ⟨rfl⟩, ⟨by omega, rfl⟩, H, B4, HD⟩
 case round =>
  clear B4 HD H
  obtain ⟨m, i, rfl, HI, HJ, H, B4, HD⟩ := hrel
  cases gk with
  | zero => exact absurd HJ.out (by omega)
  | succ k1 =>
   by_cases hm : m < l.length
   ·have cb : decide (i < (l.length : Int)) = true := decide_eq_true (by have := HI.out; omega)
    have p0 : 0 ≤ i := by have := HI.out; omega
    have q0 : i < (l.length : Int) := by have := HI.out; omega
    obtain ⟨x, hx⟩ : ∃ x, x = rd_T35 l i := ⟨_, rfl⟩
    obtain ⟨ad, A3, c3, A4, c4, A5, c5, e, hx0, hx1, hx2, hx3, hx4, hx5, l3, f3, l4, f4, l5, f5⟩ := at_F (Kd.F_below HF.out HD.out) i p0 q0 x hx
    subst e
    have H' := H.out
    rw [show l.drop m = x :: l.drop (m + 1) by rw [hx, rd_T35, List.getD_eq_getElem?_getD, show i.toNat = m by have := HI.out; omega, List.getElem?_eq_getElem hm]; exact List.drop_eq_getElem_cons hm, resF] at H'
    clear H hx hx1 hx2 hx3 hx4 hx5 l3 f3 l4 f4 l5 f5
    by_cases hid : x.f0.toList = id.toList
    ·rw [if_pos hid] at H'
     have H := Aside0.mk H'
     clear H'
     have hib : (x.f0.toList == id.toList) = true := beq_iff_eq.mpr hid
     go_wp2_with (first
      | (go_at_call 35; (with_reducible refine (loc_at_walk k l i r P0 N0 (some ad) c0 _ (Nat.le_trans HN.out (below_size HD.out)) (Kd.F_below HF.out HD.out) HC.out H.out).mono ?_); rintro e wq ⟨P3, d3, P4, d4, P5, d5, rfl, m3, y3, m4, y4, m5, y5, hbR⟩; have SZ := Aside0.mk (And.intro (blk_lt B4.out) (below_size HD.out)); replace B4 := Aside0.mk (blk_below B4.out hbR); replace HD := Aside0.mk (below_step HD.out hbR); have FR := Aside0.mk (And.intro m3 (And.intro (Foot.bound y3) (And.intro m4 (And.intro (Foot.bound y4) (And.intro m5 (Foot.bound y5)))))); clear m3 y3 m4 y4 m5 y5 hbR; have qz0 : wq.cell? ⟨g4, 0, none⟩ = some (.string (⟨#[]⟩ : ByteArray)) := (blk_cell B4.out 0).trans rfl; have qf0 := blk_frozen B4.out 0; have qz1 : wq.cell? ⟨g4, 1, none⟩ = some (.int .i64 0) := (blk_cell B4.out 1).trans rfl; have qf1 := blk_frozen B4.out 1; have qz2 : wq.cell? ⟨g4, 2, none⟩ = some (.int .i64 0) := (blk_cell B4.out 2).trans rfl; have qf2 := blk_frozen B4.out 2; have qz3 : wq.cell? ⟨g4, 3, none⟩ = some (.slice none 0 0) := (blk_cell B4.out 3).trans rfl; have qf3 := blk_frozen B4.out 3; have qz4 : wq.cell? ⟨g4, 4, none⟩ = some (.slice none 0 0) := (blk_cell B4.out 4).trans rfl; have qf4 := blk_frozen B4.out 4; have qz5 : wq.cell? ⟨g4, 5, none⟩ = some (.slice none 0 0) := (blk_cell B4.out 5).trans rfl; have qf5 := blk_frozen B4.out 5))
     obtain ⟨m3, y3, m4, y4, m5, y5⟩ := FR.out
     have B4' := set6_blk B4.out (.string r.f0) (.int .i64 r.f1) (.int .i64 r.f2) (.slice P3 r.f3.length d3) (.slice P4 r.f4.length d4) (.slice P5 r.f5.length d5)
     have s : ∀ b, (((P0 b ∧ b < N0) ∨ wr.heap.size ≤ b) ∧ b < wq.heap.size) → b < wq.heap.size → (set6 wq g4 (.string r.f0) (.int .i64 r.f1) (.int .i64 r.f2) (.slice P3 r.f3.length d3) (.slice P4 r.f4.length d4) (.slice P5 r.f5.length d5)).heap[b]? = wq.heap[b]? := fun b hb _ => set6_far wq g4 b (.string r.f0) (.int .i64 r.f1) (.int .i64 r.f2) (.slice P3 r.f3.length d3) (.slice P4 r.f4.length d4) (.slice P5 r.f5.length d5) (by have := SZ.out; have := HN.out; have := G4.out; rcases hb.1 with h | h <;> omega)
     refine bodyPost_ret (results_ct rfl _ _ g4 35 #[.string r.f0, .int .i64 r.f1, .int .i64 r.f2, .slice P3 r.f3.length d3, .slice P4 r.f4.length d4, .slice P5 r.f5.length d5] (0, 0) _ rfl B4' Tryd.underlying35 rfl (by kernel_rfl)) rfl ?_
     have o : ∀ b, (((P0 b ∧ b < N0) ∨ wr.heap.size ≤ b) ∧ b < wq.heap.size) → (P0 b ∧ b < N0) ∨ w.heap.size ≤ b := fun b hb => hb.1.elim .inl (fun h => .inr (Nat.le_trans SZ.out.2 h))
     exact ⟨P3, d3, P4, d4, P5, d5, by first | rfl | simp, m3, Kd.F_mono (Kd.F_step y3 s) o, m4, Kd.F_mono (Kd.F_step y4 s) o, m5, Kd.F_mono (Kd.F_step y5 s) o, set6_below _ _ _ _ _ _ HD.out G4.out⟩
    ·rw [if_neg hid] at H'
     have H := Aside0.mk H'
     clear H'
     have hib : (x.f0.toList == id.toList) = false := beq_eq_false_iff_ne.mpr hid
     go_wp2
     go_roundg k1
     case measure => have := HJ.out; omega
     case rel => exact ⟨m + 1, wrap64 (i + 1), rfl, ⟨by have := HI.out; have := HL.out; unfold wrap64; omega⟩, ⟨by have := HJ.out; omega⟩, ⟨by have := HI.out; have := HL.out; rw [show wrap64 (i + 1) = i + 1 by unfold wrap64; omega]; exact H.out⟩, B4, HD⟩
   ·have := H.out
    rw [List.drop_eq_nil_of_le (by omega)] at this
    cases this
def interlocutorlaw6_within.f (a0 : Int) (a1 : Int) : Option (Int) := if a1 = 0 then (none) else (if (Int.tmod a0 a1) < 0 then (some (wrap64 ((Int.tmod a0 a1) + a1))) else (some (Int.tmod a0 a1)))
set_option maxHeartbeats 8000000 in
set_option maxRecDepth 100000 in
theorem interlocutorlaw6_within.calls (a0 : Int) (a1 : Int) (r : Int) (w : World) (h : interlocutorlaw6_within.f a0 a1 = some r) :
  Calls Tryd.prog 18 #[.int .i64 a0, .int .i64 a1] w fun e w' => e = .returned (.int .i64 r) ∧ Drawn0 w w' := by
 have H : (if a1 = 0 then (none) else (if (Int.tmod a0 a1) < 0 then (some (wrap64 ((Int.tmod a0 a1) + a1))) else (some (Int.tmod a0 a1)))) = some r := h
 clear h
 by_cases c3 : a1 = 0
 ·rw [if_pos c3] at H
  exact absurd H (by simp)
 ·rw [if_neg c3] at H
  have c3b0 : (a1 == 0) = false := beq_eq_false_iff_ne.mpr c3
  have c3b1 : (a1 != 0) = true := bne_iff_ne.mpr c3
  by_cases c4 : (Int.tmod a0 a1) < 0
  ·rw [if_pos c4] at H
   have c4b0 : decide ((Int.tmod a0 a1) < 0) = true := decide_eq_true c4
   clear c4
   obtain rfl := Option.some.inj H
   go_enter Tryd.func18, Tryd.ntmps18
   go_wp2
   go_ret
   exact ⟨by first | rfl | (simp; done) | (simp [*]; done), by repeat (first | exact Drawn0.refl _ | apply Drawn0.step)⟩
  ·rw [if_neg c4] at H
   have c4b0 : decide ((Int.tmod a0 a1) < 0) = false := decide_eq_false c4
   clear c4
   obtain rfl := Option.some.inj H
   go_enter Tryd.func18, Tryd.ntmps18
   go_wp2
   go_ret
   exact ⟨by first | rfl | (simp; done) | (simp [*]; done), by repeat (first | exact Drawn0.refl _ | apply Drawn0.step)⟩
end Go.Proofs.YtjijikgandkphaaDoor.G
