import Derived.Test.YtjijikgandkphaaDoorGx0
namespace Go.Proofs.YtjijikgandkphaaDoor.G
open Go.RowKit Go.Proofs.YtjijikgandkphaaDoorW.PrintWords Go.Proofs.YtjijikgandkphaaDoorW.PrintLast Go.Proofs.YtjijikgandkphaaDoorW.PrintMore Go.Proofs.YtjijikgandkphaaDoorW.VWords Go.Proofs.YtjijikgandkphaaDoorW.Tab
attribute [local go_sem] max2_int min2_int max_two min_two max_three min_three max_four min_four
set_option linter.unusedVariables false
set_option linter.unusedSimpArgs false
def wantsF (op : Int) : Int × Int := if op = 0 ∨ op = 7 ∨ op = 8 ∨ op = 11 then (1, 1) else if op = 2 ∨ op = 5 ∨ op = 9 ∨ op = 12 ∨ op = 13 ∨ op = 14 ∨ op = 15 then (2, 2) else if op = 1 ∨ op = 6 then (3, 3) else if op = 3 ∨ op = 4 then (2, 3) else if op = 10 then (1, 6) else (1, 0)
def interlocutorref4_wants.f (a0 : Int) : Option (Int × Int) := some (wantsF a0)
set_option maxHeartbeats 4000000 in
set_option maxRecDepth 100000 in
theorem wants_any (a0 : Int) (w : World) :
    Calls Tryd.prog 80 #[.int .i64 a0] w fun e w' => e = .returned (.tuple #[.int .i64 (wantsF a0).1, .int .i64 (wantsF a0).2]) ∧ Drawn0 w w' := by
  by_cases hc : a0 ∈ ([0, 1, 2, 3, 4, 5, 6, 7, 8, 9, 10, 11, 12, 13, 14, 15] : List Int)
  · simp only [List.mem_cons, List.not_mem_nil, or_false] at hc
    rcases hc with rfl | rfl | rfl | rfl | rfl | rfl | rfl | rfl | rfl | rfl | rfl | rfl | rfl | rfl | rfl | rfl
    all_goals
      go_enter Tryd.func80, Tryd.ntmps80
      go_wp2
      go_ret2
      exact ⟨rfl, Drawn0.refl _⟩
  · simp only [List.mem_cons, List.not_mem_nil, or_false, not_or] at hc
    obtain ⟨h0, h1, h2, h3, h4, h5, h6, h7, h8, h9, h10, h11, h12, h13, h14, h15⟩ := hc
    have e : wantsF a0 = (1, 0) := by simp only [wantsF, h0, h1, h2, h3, h4, h5, h6, h7, h8, h9, h10, h11, h12, h13, h14, h15, or_self, if_false]
    rw [e]
    have b : ∀ n : Int, a0 ≠ n → (a0 == n) = false := fun n h => by simpa using h
    replace h0 := b _ h0
    replace h1 := b _ h1
    replace h2 := b _ h2
    replace h3 := b _ h3
    replace h4 := b _ h4
    replace h5 := b _ h5
    replace h6 := b _ h6
    replace h7 := b _ h7
    replace h8 := b _ h8
    replace h9 := b _ h9
    replace h10 := b _ h10
    replace h11 := b _ h11
    replace h12 := b _ h12
    replace h13 := b _ h13
    replace h14 := b _ h14
    replace h15 := b _ h15
    clear e b
    go_enter Tryd.func80, Tryd.ntmps80
    go_wp2
    go_ret2
    exact ⟨rfl, Drawn0.refl _⟩
def rightA (a : Int) (n : Nat) (c : Int) : Bool := !decide (a < 0) && !decide (20 ≤ a) && !decide ((n : Int) < 1) && !decide (6 < (n : Int)) && !decide (c < 0) && !decide (100 < c)
def rightB : List Int → Bool
  | [] => true
  | s :: l => if decide (20 ≤ s) = true then false else if decide (s < -61) = true then false else rightB l
def rightC (n : Nat) : List Int → Bool
  | [] => true
  | s :: l => if decide (s < 0) = true then false else if decide ((n : Int) ≤ s) = true then false else rightC n l
def rightD (op : Int) (m : Nat) : Bool := !decide ((m : Int) < (wantsF op).1) && !decide ((wantsF op).2 < (m : Int))
def rightF (a : Int) (l1 : List Int) (op : Int) (l3 : List Int) (c : Int) : Bool := rightA a l1.length c && (rightB l1 && (rightD op l3.length && rightC l1.length l3))
theorem drop_rd (l : List Int) (n : Nat) (i : Int) (hi : i = (n : Int)) (hn : n < l.length) : l.drop n = rd l i :: l.drop (n + 1) := by
  subst hi
  rw [List.drop_eq_getElem_cons hn, rd, Int.toNat_natCast, List.getD_eq_getElem?_getD, List.getElem?_eq_getElem hn]
  rfl
def interlocutorref4_Right.f (a0_0 : Int) (l0_1 : List Int) (a0_2 : Int) (l0_3 : List Int) (a0_4 : Int) : Option Bool := some (rightF a0_0 l0_1 a0_2 l0_3 a0_4)
set_option maxHeartbeats 8000000 in
set_option maxRecDepth 100000 in
theorem right_any (a : Int) (A1 : Option Addr) (c1 : Nat) (l1 : List Int) (op : Int) (A3 : Option Addr) (c3 : Nat) (l3 : List Int) (c : Int) (w : World) (h1 : Kd.C (Kd.int .i64) w A1 l1.length l1) (h3 : Kd.C (Kd.int .i64) w A3 l3.length l3) :
    Calls Tryd.prog 68 #[.agg #[.int .i64 a, .slice A1 l1.length c1, .int .i64 op, .slice A3 l3.length c3, .int .i64 c]] w fun e w' => e = .returned (.bool (rightF a l1 op l3 c)) ∧ Below w.heap.size w w' := by
  have hu108 := Tryd.underlying96
  have hu106 := Tryd.underlying94
  have hu25 := Tryd.underlying36
  have H1 := Aside0.mk h1
  have H3 := Aside0.mk h3
  have HN := Aside0.mk h1.2.1
  have HM := Aside0.mk h3.2.1
  clear h1 h3
  have HR : Aside0 (rightF a l1 op l3 c = (rightA a l1.length c && (rightB l1 && (rightD op l3.length && rightC l1.length l3)))) := ⟨rfl⟩
  generalize rightF a l1 op l3 c = r at HR ⊢
  have HQ : Aside0 (rightA a l1.length c = (!decide (a < 0) && !decide (20 ≤ a) && !decide ((l1.length : Int) < 1) && !decide (6 < (l1.length : Int)) && !decide (c < 0) && !decide (100 < c))) := ⟨rfl⟩
  generalize rightA a l1.length c = q at HR HQ
  cases d0 : decide (a < 0) with
  | true =>
    have e : r = false := by rw [HR.out, HQ.out]; simp [d0]
    subst e
    go_enter Tryd.func68, Tryd.ntmps68
    go_wp2_with (first | ((with_reducible refine gate_dst (N := 1) rfl ?_); refine box_event ?hg (N := 1) ?hd (cs := #[.int .i64 a, .slice A1 l1.length c1, .int .i64 op, .slice A3 l3.length c3, .int .i64 c]) (t := 96) ?hr ?_; (case hd => rfl); (case hg => rfl); (case hr => first | (go_simp; done) | (go_simp; rfl)); intro g hg wg hbox hb; have HK := Aside0.mk hbox; have HD := Aside0.mk hb; clear hbox hb hg; have z0 : wg.cell? ⟨g, 0, none⟩ = some (.int .i64 a) := (blk_cell HK.out 0).trans rfl; have z1 : wg.cell? ⟨g, 1, none⟩ = some (.slice A1 l1.length c1) := (blk_cell HK.out 1).trans rfl; have z2 : wg.cell? ⟨g, 2, none⟩ = some (.int .i64 op) := (blk_cell HK.out 2).trans rfl; have z3 : wg.cell? ⟨g, 3, none⟩ = some (.slice A3 l3.length c3) := (blk_cell HK.out 3).trans rfl; have z4 : wg.cell? ⟨g, 4, none⟩ = some (.int .i64 c) := (blk_cell HK.out 4).trans rfl))
    go_ret
    exact ⟨rfl, HD.out⟩
  | false =>
   cases d1 : decide (20 ≤ a) with
   | true =>
     have e : r = false := by rw [HR.out, HQ.out]; simp [d0, d1]
     subst e
     go_enter Tryd.func68, Tryd.ntmps68
     go_wp2_with (first | ((with_reducible refine gate_dst (N := 1) rfl ?_); refine box_event ?hg (N := 1) ?hd (cs := #[.int .i64 a, .slice A1 l1.length c1, .int .i64 op, .slice A3 l3.length c3, .int .i64 c]) (t := 96) ?hr ?_; (case hd => rfl); (case hg => rfl); (case hr => first | (go_simp; done) | (go_simp; rfl)); intro g hg wg hbox hb; have HK := Aside0.mk hbox; have HD := Aside0.mk hb; clear hbox hb hg; have z0 : wg.cell? ⟨g, 0, none⟩ = some (.int .i64 a) := (blk_cell HK.out 0).trans rfl; have z1 : wg.cell? ⟨g, 1, none⟩ = some (.slice A1 l1.length c1) := (blk_cell HK.out 1).trans rfl; have z2 : wg.cell? ⟨g, 2, none⟩ = some (.int .i64 op) := (blk_cell HK.out 2).trans rfl; have z3 : wg.cell? ⟨g, 3, none⟩ = some (.slice A3 l3.length c3) := (blk_cell HK.out 3).trans rfl; have z4 : wg.cell? ⟨g, 4, none⟩ = some (.int .i64 c) := (blk_cell HK.out 4).trans rfl))
     go_ret
     exact ⟨rfl, HD.out⟩
   | false =>
    cases d2 : decide ((l1.length : Int) < 1) with
    | true =>
      have e : r = false := by rw [HR.out, HQ.out]; simp [d0, d1, d2]
      subst e
      go_enter Tryd.func68, Tryd.ntmps68
      go_wp2_with (first | ((with_reducible refine gate_dst (N := 1) rfl ?_); refine box_event ?hg (N := 1) ?hd (cs := #[.int .i64 a, .slice A1 l1.length c1, .int .i64 op, .slice A3 l3.length c3, .int .i64 c]) (t := 96) ?hr ?_; (case hd => rfl); (case hg => rfl); (case hr => first | (go_simp; done) | (go_simp; rfl)); intro g hg wg hbox hb; have HK := Aside0.mk hbox; have HD := Aside0.mk hb; clear hbox hb hg; have z0 : wg.cell? ⟨g, 0, none⟩ = some (.int .i64 a) := (blk_cell HK.out 0).trans rfl; have z1 : wg.cell? ⟨g, 1, none⟩ = some (.slice A1 l1.length c1) := (blk_cell HK.out 1).trans rfl; have z2 : wg.cell? ⟨g, 2, none⟩ = some (.int .i64 op) := (blk_cell HK.out 2).trans rfl; have z3 : wg.cell? ⟨g, 3, none⟩ = some (.slice A3 l3.length c3) := (blk_cell HK.out 3).trans rfl; have z4 : wg.cell? ⟨g, 4, none⟩ = some (.int .i64 c) := (blk_cell HK.out 4).trans rfl))
      go_ret
      exact ⟨rfl, HD.out⟩
    | false =>
     cases d3 : decide (6 < (l1.length : Int)) with
     | true =>
       have e : r = false := by rw [HR.out, HQ.out]; simp [d0, d1, d2, d3]
       subst e
       go_enter Tryd.func68, Tryd.ntmps68
       go_wp2_with (first | ((with_reducible refine gate_dst (N := 1) rfl ?_); refine box_event ?hg (N := 1) ?hd (cs := #[.int .i64 a, .slice A1 l1.length c1, .int .i64 op, .slice A3 l3.length c3, .int .i64 c]) (t := 96) ?hr ?_; (case hd => rfl); (case hg => rfl); (case hr => first | (go_simp; done) | (go_simp; rfl)); intro g hg wg hbox hb; have HK := Aside0.mk hbox; have HD := Aside0.mk hb; clear hbox hb hg; have z0 : wg.cell? ⟨g, 0, none⟩ = some (.int .i64 a) := (blk_cell HK.out 0).trans rfl; have z1 : wg.cell? ⟨g, 1, none⟩ = some (.slice A1 l1.length c1) := (blk_cell HK.out 1).trans rfl; have z2 : wg.cell? ⟨g, 2, none⟩ = some (.int .i64 op) := (blk_cell HK.out 2).trans rfl; have z3 : wg.cell? ⟨g, 3, none⟩ = some (.slice A3 l3.length c3) := (blk_cell HK.out 3).trans rfl; have z4 : wg.cell? ⟨g, 4, none⟩ = some (.int .i64 c) := (blk_cell HK.out 4).trans rfl))
       go_ret
       exact ⟨rfl, HD.out⟩
     | false =>
      cases d4 : decide (c < 0) with
      | true =>
        have e : r = false := by rw [HR.out, HQ.out]; simp [d0, d1, d2, d3, d4]
        subst e
        go_enter Tryd.func68, Tryd.ntmps68
        go_wp2_with (first | ((with_reducible refine gate_dst (N := 1) rfl ?_); refine box_event ?hg (N := 1) ?hd (cs := #[.int .i64 a, .slice A1 l1.length c1, .int .i64 op, .slice A3 l3.length c3, .int .i64 c]) (t := 96) ?hr ?_; (case hd => rfl); (case hg => rfl); (case hr => first | (go_simp; done) | (go_simp; rfl)); intro g hg wg hbox hb; have HK := Aside0.mk hbox; have HD := Aside0.mk hb; clear hbox hb hg; have z0 : wg.cell? ⟨g, 0, none⟩ = some (.int .i64 a) := (blk_cell HK.out 0).trans rfl; have z1 : wg.cell? ⟨g, 1, none⟩ = some (.slice A1 l1.length c1) := (blk_cell HK.out 1).trans rfl; have z2 : wg.cell? ⟨g, 2, none⟩ = some (.int .i64 op) := (blk_cell HK.out 2).trans rfl; have z3 : wg.cell? ⟨g, 3, none⟩ = some (.slice A3 l3.length c3) := (blk_cell HK.out 3).trans rfl; have z4 : wg.cell? ⟨g, 4, none⟩ = some (.int .i64 c) := (blk_cell HK.out 4).trans rfl))
        go_ret
        exact ⟨rfl, HD.out⟩
      | false =>
       cases d5 : decide (100 < c) with
       | true =>
         have e : r = false := by rw [HR.out, HQ.out]; simp [d0, d1, d2, d3, d4, d5]
         subst e
         go_enter Tryd.func68, Tryd.ntmps68
         go_wp2_with (first | ((with_reducible refine gate_dst (N := 1) rfl ?_); refine box_event ?hg (N := 1) ?hd (cs := #[.int .i64 a, .slice A1 l1.length c1, .int .i64 op, .slice A3 l3.length c3, .int .i64 c]) (t := 96) ?hr ?_; (case hd => rfl); (case hg => rfl); (case hr => first | (go_simp; done) | (go_simp; rfl)); intro g hg wg hbox hb; have HK := Aside0.mk hbox; have HD := Aside0.mk hb; clear hbox hb hg; have z0 : wg.cell? ⟨g, 0, none⟩ = some (.int .i64 a) := (blk_cell HK.out 0).trans rfl; have z1 : wg.cell? ⟨g, 1, none⟩ = some (.slice A1 l1.length c1) := (blk_cell HK.out 1).trans rfl; have z2 : wg.cell? ⟨g, 2, none⟩ = some (.int .i64 op) := (blk_cell HK.out 2).trans rfl; have z3 : wg.cell? ⟨g, 3, none⟩ = some (.slice A3 l3.length c3) := (blk_cell HK.out 3).trans rfl; have z4 : wg.cell? ⟨g, 4, none⟩ = some (.int .i64 c) := (blk_cell HK.out 4).trans rfl))
         go_ret
         exact ⟨rfl, HD.out⟩
       | false =>
         have e : q = true := by rw [HQ.out]; simp [d0, d1, d2, d3, d4, d5]
         subst e
         have HL := Aside0.mk (of_decide_eq_false d3)
         clear HQ
         go_enter Tryd.func68, Tryd.ntmps68
         go_wp2_with (first | ((with_reducible refine gate_dst (N := 1) rfl ?_); refine box_event ?hg (N := 1) ?hd (cs := #[.int .i64 a, .slice A1 l1.length c1, .int .i64 op, .slice A3 l3.length c3, .int .i64 c]) (t := 96) ?hr ?_; (case hd => rfl); (case hg => rfl); (case hr => first | (go_simp; done) | (go_simp; rfl)); intro g hg wg hbox hb; have HK := Aside0.mk hbox; have HD := Aside0.mk hb; clear hbox hb hg; have z0 : wg.cell? ⟨g, 0, none⟩ = some (.int .i64 a) := (blk_cell HK.out 0).trans rfl; have z1 : wg.cell? ⟨g, 1, none⟩ = some (.slice A1 l1.length c1) := (blk_cell HK.out 1).trans rfl; have z2 : wg.cell? ⟨g, 2, none⟩ = some (.int .i64 op) := (blk_cell HK.out 2).trans rfl; have z3 : wg.cell? ⟨g, 3, none⟩ = some (.slice A3 l3.length c3) := (blk_cell HK.out 3).trans rfl; have z4 : wg.cell? ⟨g, 4, none⟩ = some (.int .i64 c) := (blk_cell HK.out 4).trans rfl))
         go_loopg [3] (l1.length + 1) (fun kq v3 w' => ∃ (n : Nat) (i : Int), v3 = .int .i64 i ∧ Aside0 (i = (n : Int)) ∧ Aside0 (n ≤ l1.length ∧ kq + n = l1.length + 1) ∧ Aside0 (r = (rightB (l1.drop n) && (rightD op l3.length && rightC l1.length l3))) ∧ Aside0 (w'.heap[g]? = some (.cells #[.int .i64 a, .slice A1 l1.length c1, .int .i64 op, .slice A3 l3.length c3, .int .i64 c] 96 (0, 0))) ∧ Aside0 (Below w.heap.size w w'))
         case atStart => exact ⟨0, 0, rfl, ⟨rfl⟩, ⟨by omega, rfl⟩, ⟨by rw [HR.out]; rfl⟩, HK, HD⟩
         case round =>
           clear HK HD HR
           obtain ⟨n, i, rfl, HI, HJ, HR, HK, HD⟩ := hrel
           have z1 : World.cell? _ ⟨g, 1, none⟩ = some (.slice A1 l1.length c1) := (blk_cell HK.out 1).trans rfl
           cases gk with
           | zero => exact absurd HJ.out (by omega)
           | succ k1 =>
             by_cases hn : n < l1.length
             · have cb : decide (i < (l1.length : Int)) = true := decide_eq_true (by have := HI.out; omega)
               have p0 : 0 ≤ i := by have := HI.out; omega
               have q0 : i < (l1.length : Int) := by have := HI.out; omega
               obtain ⟨ad, e, hx⟩ := Kd.at_int (Kd.C_below H1.out HD.out) i p0 q0
               subst e
               have HR' := Aside0.mk (show r = (rightB (rd l1 i :: l1.drop (n + 1)) && (rightD op l3.length && rightC l1.length l3)) by rw [← drop_rd l1 n i HI.out hn]; exact HR.out)
               clear HR
               cases e1 : decide (20 ≤ rd l1 i) with
               | true =>
                 have e : r = false := by rw [HR'.out]; simp only [rightB, e1, if_true, Bool.false_and]
                 subst e
                 go_wp2
                 go_ret
                 exact ⟨rfl, HD.out⟩
               | false =>
                 cases e2 : decide (rd l1 i < -61) with
                 | true =>
                   have e : r = false := by rw [HR'.out]; simp only [rightB, e1, e2, if_true, Bool.false_and, if_neg Bool.false_ne_true]
                   subst e
                   go_wp2
                   go_ret
                   exact ⟨rfl, HD.out⟩
                 | false =>
                   go_wp2
                   go_roundg k1
                   case measure => have := HJ.out; omega
                   case rel => exact ⟨n + 1, _, rfl, ⟨by have := HI.out; have := HN.out; first | omega | (unfold wrap64; omega)⟩, ⟨by have := HJ.out; omega⟩, ⟨by rw [HR'.out]; simp only [rightB, e1, e2, if_neg Bool.false_ne_true]⟩, HK, HD⟩
             · have cb : decide (i < (l1.length : Int)) = false := decide_eq_false (by have := HI.out; omega)
               have HR' := Aside0.mk (show r = (rightD op l3.length && rightC l1.length l3) by rw [HR.out, List.drop_eq_nil_of_le (by omega)]; rfl)
               clear HR
               have z2 : World.cell? _ ⟨g, 2, none⟩ = some (.int .i64 op) := (blk_cell HK.out 2).trans rfl
               have HV : Aside0 (rightD op l3.length = (!decide ((l3.length : Int) < (wantsF op).1) && !decide ((wantsF op).2 < (l3.length : Int)))) := ⟨rfl⟩
               generalize rightD op l3.length = q at HR' HV
               obtain ⟨lo, hlo⟩ : ∃ t, t = (wantsF op).1 := ⟨_, rfl⟩
               obtain ⟨hi, hhi⟩ : ∃ t, t = (wantsF op).2 := ⟨_, rfl⟩
               rw [← hlo, ← hhi] at HV
               have HT := Aside0.mk (show ∀ w, Calls Tryd.prog 80 #[.int .i64 op] w fun e w' => e = .returned (.tuple #[.int .i64 lo, .int .i64 hi]) ∧ Drawn0 w w' by rw [hlo, hhi]; exact wants_any op)
               clear hlo hhi
               cases e1 : decide ((l3.length : Int) < lo) with
               | true =>
                 have e : q = false := by rw [HV.out, e1]; rfl
                 subst e
                 have e : r = false := by rw [HR'.out]; rfl
                 subst e
                 go_wp2_with (first | (go_at_call 80; (with_reducible refine (HT.out _).mono ?_); rintro e w9 ⟨rfl, hd⟩; obtain ⟨m_, rfl⟩ := hd.out; replace HK := Aside0.mk (blk_drewN HK.out m_); replace HD := Aside0.mk (pw_below_drewN HD.out m_); have z3 : World.cell? _ ⟨g, 3, none⟩ = some (.slice A3 l3.length c3) := (blk_cell HK.out 3).trans rfl))
                 go_ret
                 exact ⟨rfl, HD.out⟩
               | false =>
                 cases e2 : decide (hi < (l3.length : Int)) with
                 | true =>
                   have e : q = false := by rw [HV.out, e1, e2]; rfl
                   subst e
                   have e : r = false := by rw [HR'.out]; rfl
                   subst e
                   go_wp2_with (first | (go_at_call 80; (with_reducible refine (HT.out _).mono ?_); rintro e w9 ⟨rfl, hd⟩; obtain ⟨m_, rfl⟩ := hd.out; replace HK := Aside0.mk (blk_drewN HK.out m_); replace HD := Aside0.mk (pw_below_drewN HD.out m_); have z3 : World.cell? _ ⟨g, 3, none⟩ = some (.slice A3 l3.length c3) := (blk_cell HK.out 3).trans rfl))
                   go_ret
                   exact ⟨rfl, HD.out⟩
                 | false =>
                   have e : q = true := by rw [HV.out, e1, e2]; rfl
                   subst e
                   go_wp2_with (first | (go_at_call 80; (with_reducible refine (HT.out _).mono ?_); rintro e w9 ⟨rfl, hd⟩; obtain ⟨m_, rfl⟩ := hd.out; replace HK := Aside0.mk (blk_drewN HK.out m_); replace HD := Aside0.mk (pw_below_drewN HD.out m_); have z3 : World.cell? _ ⟨g, 3, none⟩ = some (.slice A3 l3.length c3) := (blk_cell HK.out 3).trans rfl))
                   go_loopg [6] (l3.length + 1) (fun kq v6 w' => ∃ (n : Nat) (i : Int), v6 = .int .i64 i ∧ Aside0 (i = (n : Int)) ∧ Aside0 (n ≤ l3.length ∧ kq + n = l3.length + 1) ∧ Aside0 (r = rightC l1.length (l3.drop n)) ∧ Aside0 (w'.heap[g]? = some (.cells #[.int .i64 a, .slice A1 l1.length c1, .int .i64 op, .slice A3 l3.length c3, .int .i64 c] 96 (0, 0))) ∧ Aside0 (Below w.heap.size w w'))
                   case atStart => exact ⟨0, 0, rfl, ⟨rfl⟩, ⟨by omega, rfl⟩, ⟨by rw [HR'.out]; rfl⟩, HK, HD⟩
                   case round =>
                     clear HK HD HR' z1 z2 HI HJ hn cb
                     obtain ⟨n, i, rfl, HI, HJ, HR, HK, HD⟩ := hrel
                     have z1 : World.cell? _ ⟨g, 1, none⟩ = some (.slice A1 l1.length c1) := (blk_cell HK.out 1).trans rfl
                     have z3 : World.cell? _ ⟨g, 3, none⟩ = some (.slice A3 l3.length c3) := (blk_cell HK.out 3).trans rfl
                     cases gk with
                     | zero => exact absurd HJ.out (by omega)
                     | succ k2 =>
                       by_cases hn : n < l3.length
                       · have cb : decide (i < (l3.length : Int)) = true := decide_eq_true (by have := HI.out; omega)
                         have p0 : 0 ≤ i := by have := HI.out; omega
                         have q0 : i < (l3.length : Int) := by have := HI.out; omega
                         obtain ⟨ad, e, hx⟩ := Kd.at_int (Kd.C_below H3.out HD.out) i p0 q0
                         subst e
                         have HR' := Aside0.mk (show r = rightC l1.length (rd l3 i :: l3.drop (n + 1)) by rw [← drop_rd l3 n i HI.out hn]; exact HR.out)
                         clear HR
                         cases e1 : decide (rd l3 i < 0) with
                         | true =>
                           have e : r = false := by rw [HR'.out]; simp only [rightC, e1, if_true]
                           subst e
                           go_wp2
                           repeat (go_quiet (fail); try go_wp2)
                           go_ret
                           exact ⟨rfl, pw_below_drewN HD.out _⟩
                         | false =>
                           cases e2 : decide ((l1.length : Int) ≤ rd l3 i) with
                           | true =>
                             have e : r = false := by rw [HR'.out]; simp only [rightC, e1, e2, if_true, if_neg Bool.false_ne_true]
                             subst e
                             go_wp2
                             repeat (go_quiet (fail); try go_wp2)
                             go_ret
                             exact ⟨rfl, pw_below_drewN HD.out _⟩
                           | false =>
                             go_wp2
                             repeat (go_quiet (fail); try go_wp2)
                             go_roundg k2
                             case measure => have := HJ.out; omega
                             case rel => exact ⟨n + 1, _, rfl, ⟨by have := HI.out; have := HM.out; first | omega | (unfold wrap64; omega)⟩, ⟨by have := HJ.out; omega⟩, ⟨by rw [HR'.out]; simp only [rightC, e1, e2, if_neg Bool.false_ne_true]⟩, ⟨blk_drewN HK.out _⟩, ⟨pw_below_drewN HD.out _⟩⟩
                       · have cb : decide (i < (l3.length : Int)) = false := decide_eq_false (by have := HI.out; omega)
                         have e : r = true := by rw [HR.out, List.drop_eq_nil_of_le (by omega)]; rfl
                         subst e
                         go_wp2
                         go_ret
                         exact ⟨rfl, HD.out⟩
theorem interlocutorref4_Right.calls (a0_0 : Int) (A0_1 : Option Addr) (c0_1 : Nat) (l0_1 : List Int) (a0_2 : Int) (A0_3 : Option Addr) (c0_3 : Nat) (l0_3 : List Int) (a0_4 : Int) (r : Bool) (w : World) (hr0_1 : Kd.C (Kd.int .i64) w A0_1 l0_1.length l0_1) (hc0_1 : l0_1.length ≤ c0_1) (hr0_3 : Kd.C (Kd.int .i64) w A0_3 l0_3.length l0_3) (hc0_3 : l0_3.length ≤ c0_3) (h : interlocutorref4_Right.f a0_0 l0_1 a0_2 l0_3 a0_4 = some r) :
    Calls Tryd.prog 68 #[.agg #[.int .i64 a0_0, .slice A0_1 l0_1.length c0_1, .int .i64 a0_2, .slice A0_3 l0_3.length c0_3, .int .i64 a0_4]] w fun e w' => e = .returned (.bool r) ∧ Below w.heap.size w w' := by
  obtain rfl := Option.some.inj h
  exact right_any a0_0 A0_1 c0_1 l0_1 a0_2 A0_3 c0_3 l0_3 a0_4 w hr0_1 hr0_3
end Go.Proofs.YtjijikgandkphaaDoor.G
