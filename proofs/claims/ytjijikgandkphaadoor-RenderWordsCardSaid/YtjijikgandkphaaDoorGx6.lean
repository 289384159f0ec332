import Derived.Test.YtjijikgandkphaaDoorGx0
import Derived.Test.YtjijikgandkphaaDoorGx4
import Derived.Test.YtjijikgandkphaaDoorGx5
namespace Go.Proofs.YtjijikgandkphaaDoor.G
open Go.RowKit Go.Proofs.YtjijikgandkphaaDoorW.PrintWords Go.Proofs.YtjijikgandkphaaDoorW.PrintLast Go.Proofs.YtjijikgandkphaaDoorW.PrintMore Go.Proofs.YtjijikgandkphaaDoorW.VWords Go.Proofs.YtjijikgandkphaaDoorW.Tab
attribute [local go_sem] max2_int min2_int max_two min_two max_three min_three max_four min_four
set_option linter.unusedVariables false
set_option linter.unusedSimpArgs false
abbrev fset5 (w : World) (g : Nat) (a b c d e : Value) : World := ((((w.setCell ⟨g, 0, none⟩ a).setCell ⟨g, 1, none⟩ b).setCell ⟨g, 2, none⟩ c).setCell ⟨g, 3, none⟩ d).setCell ⟨g, 4, none⟩ e
theorem fset5_far (w : World) (g b : Nat) (v0 v1 v2 v3 v4 : Value) (h : b ≠ g) : (fset5 w g v0 v1 v2 v3 v4).heap[b]? = w.heap[b]? := by
 unfold fset5
 rw [Below.heap_setCell _ _ _ _ h, Below.heap_setCell _ _ _ _ h, Below.heap_setCell _ _ _ _ h, Below.heap_setCell _ _ _ _ h, Below.heap_setCell _ _ _ _ h]
theorem fset5_blk {w : World} {g t : Nat} {x0 x1 x2 x3 x4 : Value} (h : w.heap[g]? = some (.cells #[x0, x1, x2, x3, x4] t (0, 0))) (v0 v1 v2 v3 v4 : Value) : (fset5 w g v0 v1 v2 v3 v4).heap[g]? = some (.cells #[v0, v1, v2, v3, v4] t (0, 0)) :=
 blk_set (blk_set (blk_set (blk_set (blk_set h 0 v0) 1 v1) 2 v2) 3 v3) 4 v4
theorem fset5_below {w W : World} {g : Nat} (h : Below w.heap.size w W) (n : w.heap.size ≤ g) (v0 v1 v2 v3 v4 : Value) : Below w.heap.size w (fset5 W g v0 v1 v2 v3 v4) := below_set (below_set (below_set (below_set (below_set h n) n) n) n) n
def plainF (n : Int) : Option S81 := (render_plain.f n).map fun t => ⟨t.1, t.2.1, t.2.2.1, t.2.2.2.1, t.2.2.2.2⟩
theorem plain_walk (n : Int) (f : S81) (w : World) (h : plainF n = some f) (hT_ : TabOK w) : Calls Tryd.prog 39 #[.int .i64 n] w fun e w' => e = .returned (.agg #[.int .i64 f.f0, .string f.f1, .bool f.f2, .bool f.f3, .bool f.f4]) ∧ Below w.heap.size w w' := by
 obtain ⟨⟨t0, t1, t2, t3, t4⟩, ht, e⟩ := Option.map_eq_some_iff.mp h
 subst e
 exact render_plain.calls n t0 t1 t2 t3 t4 w ht hT_
def behindF (n d : Int) : Option S81 :=
 if 0 < d then (strconv_Itoa.f (mx n (wrap64 (-n)))).bind fun s => (strings_Repeat.f (⟨#[48]⟩ : ByteArray) (mx (wrap64 (d - (s.size : Int))) 0)).bind fun z => if z.size + s.size ≤ 9223372036854775807 then some ⟨mx n (wrap64 (-n)), z ++ s, false, false, false⟩ else none
 else some ⟨mx n (wrap64 (-n)), ⟨#[]⟩, false, false, false⟩
set_option maxHeartbeats 8000000 in
set_option maxRecDepth 100000 in
theorem behind_walk (n d : Int) (f : S81) (w : World) (h : behindF n d = some f) (hT_ : TabOK w) :
  Calls Tryd.prog 56 #[.int .i64 n, .int .i64 d] w fun e w' => e = .returned (.agg #[.int .i64 f.f0, .string f.f1, .bool f.f2, .bool f.f3, .bool f.f4]) ∧ Below w.heap.size w w' := by
 have hu81 := Tryd.underlying81
 have HT := Aside0.mk hT_
 have HD := Aside0.mk (Below.refl w.heap.size w)
 clear hT_
 obtain ⟨m, hm⟩ : ∃ z : Int, (if n < wrap64 (-n) then wrap64 (-n) else n) = z := ⟨_, rfl⟩
 have hm2 : mx n (wrap64 (-n)) = m := hm
 rw [behindF, hm2] at h
 clear hm2
 by_cases c : 0 < d
 rotate_left
 ·rw [if_neg c] at h
  cases h
  have c1 : decide (0 < d) = false := decide_eq_false c
  clear c
  go_enter Tryd.func56, Tryd.ntmps56
  go_wp2_with (first
   | ((with_reducible refine gate_dst (N := 4) rfl ?_); refine box_event ?hg (N := 4) ?hd (cs := #[.int .i64 0, .string (⟨#[]⟩ : ByteArray), .bool false, .bool false, .bool false]) (t := 81) ?hr ?_; (case hd => rfl); (case hg => rfl); (case hr => first | (go_simp; done) | (go_simp; rfl)); intro g4 hg_ w4 hbox hb; have No4 := Aside0.mk (show w.heap.size ≤ g4 by rw [hg_]; exact below_size HD.out); have K4 := Aside0.mk hbox; replace HD := Aside0.mk (below_step HD.out hb); clear hbox hb hg_)
   | ((with_reducible refine gate_dst (N := 5) rfl ?_); refine box_event ?hg (N := 5) ?hd (cs := #[.int .i64 0, .string (⟨#[]⟩ : ByteArray), .bool false, .bool false, .bool false]) (t := 81) ?hr ?_; (case hd => rfl); (case hg => rfl); (case hr => first | (go_simp; done) | (go_simp; rfl)); intro g5 hg_ w5 hbox hb; have No5 := Aside0.mk (show w.heap.size ≤ g5 by rw [hg_]; exact below_size HD.out); have e4_5 : g4 ≠ g5 := (by rw [hg_]; exact Nat.ne_of_lt (blk_lt K4.out)); have e5_4 := Ne.symm e4_5; replace K4 := Aside0.mk (blk_below K4.out hb); have K5 := Aside0.mk hbox; replace HD := Aside0.mk (below_step HD.out hb); clear hbox hb hg_; have y5_0 : w5.cell? ⟨g5, 0, none⟩ = some (.int .i64 0) := (blk_cell K5.out 0).trans rfl; have f5_0 := blk_frozen K5.out 0; have y5_1 : w5.cell? ⟨g5, 1, none⟩ = some (.string (⟨#[]⟩ : ByteArray)) := (blk_cell K5.out 1).trans rfl; have f5_1 := blk_frozen K5.out 1; have y5_2 : w5.cell? ⟨g5, 2, none⟩ = some (.bool false) := (blk_cell K5.out 2).trans rfl; have f5_2 := blk_frozen K5.out 2; have y5_3 : w5.cell? ⟨g5, 3, none⟩ = some (.bool false) := (blk_cell K5.out 3).trans rfl; have f5_3 := blk_frozen K5.out 3; have y5_4 : w5.cell? ⟨g5, 4, none⟩ = some (.bool false) := (blk_cell K5.out 4).trans rfl; have f5_4 := blk_frozen K5.out 4; have y4_0 : w5.cell? ⟨g4, 0, none⟩ = some (.int .i64 0) := (blk_cell K4.out 0).trans rfl; have f4_0 := blk_frozen K4.out 0; have y4_1 : w5.cell? ⟨g4, 1, none⟩ = some (.string (⟨#[]⟩ : ByteArray)) := (blk_cell K4.out 1).trans rfl; have f4_1 := blk_frozen K4.out 1; have y4_2 : w5.cell? ⟨g4, 2, none⟩ = some (.bool false) := (blk_cell K4.out 2).trans rfl; have f4_2 := blk_frozen K4.out 2; have y4_3 : w5.cell? ⟨g4, 3, none⟩ = some (.bool false) := (blk_cell K4.out 3).trans rfl; have f4_3 := blk_frozen K4.out 3; have y4_4 : w5.cell? ⟨g4, 4, none⟩ = some (.bool false) := (blk_cell K4.out 4).trans rfl; have f4_4 := blk_frozen K4.out 4))
  refine bodyPost_ret (results_cell_row rfl _ _ g4 81 #[.int .i64 m, .string (⟨#[]⟩ : ByteArray), .bool false, .bool false, .bool false] (0, 0) _ rfl (fset5_blk ((fset5_far w5 g5 g4 (.int .i64 m) (.string (⟨#[]⟩ : ByteArray)) (.bool false) (.bool false) (.bool false) e4_5).trans K4.out) (.int .i64 m) (.string (⟨#[]⟩ : ByteArray)) (.bool false) (.bool false) (.bool false)) Tryd.underlying81 rfl (by kernel_rfl)) rfl ?_
  exact ⟨rfl, fset5_below (fset5_below HD.out No5.out (.int .i64 m) (.string (⟨#[]⟩ : ByteArray)) (.bool false) (.bool false) (.bool false)) No4.out (.int .i64 m) (.string (⟨#[]⟩ : ByteArray)) (.bool false) (.bool false) (.bool false)⟩
 rw [if_pos c] at h
 have c1 : decide (0 < d) = true := decide_eq_true c
 clear c
 obtain ⟨s, hs, h⟩ := Option.bind_eq_some_iff.mp h
 obtain ⟨p, hp⟩ : ∃ q : Int, (if wrap64 (d - (s.size : Int)) < 0 then 0 else wrap64 (d - (s.size : Int))) = q := ⟨_, rfl⟩
 have hp2 : mx (wrap64 (d - (s.size : Int))) 0 = p := hp
 rw [hp2] at h
 obtain ⟨z, hz, h⟩ := Option.bind_eq_some_iff.mp h
 by_cases c : z.size + s.size ≤ 9223372036854775807
 rotate_left
 ·rw [if_neg c] at h
  cases h
 rw [if_pos c] at h
 cases h
 have c2 : (9223372036854775807 < z.size + s.size) = False := eq_false (Nat.not_lt.2 c)
 have HS := Aside0.mk hs
 have HZ := Aside0.mk hz
 clear hs hz hp2 c
 go_enter Tryd.func56, Tryd.ntmps56
 go_wp2_with (first
  | ((with_reducible refine gate_dst (N := 4) rfl ?_); refine box_event ?hg (N := 4) ?hd (cs := #[.int .i64 0, .string (⟨#[]⟩ : ByteArray), .bool false, .bool false, .bool false]) (t := 81) ?hr ?_; (case hd => rfl); (case hg => rfl); (case hr => first | (go_simp; done) | (go_simp; rfl)); intro g4 hg_ w4 hbox hb; have No4 := Aside0.mk (show w.heap.size ≤ g4 by rw [hg_]; exact below_size HD.out); have K4 := Aside0.mk hbox; replace HD := Aside0.mk (below_step HD.out hb); clear hbox hb hg_)
  | ((with_reducible refine gate_dst (N := 5) rfl ?_); refine box_event ?hg (N := 5) ?hd (cs := #[.int .i64 0, .string (⟨#[]⟩ : ByteArray), .bool false, .bool false, .bool false]) (t := 81) ?hr ?_; (case hd => rfl); (case hg => rfl); (case hr => first | (go_simp; done) | (go_simp; rfl)); intro g5 hg_ w5 hbox hb; have No5 := Aside0.mk (show w.heap.size ≤ g5 by rw [hg_]; exact below_size HD.out); have e4_5 : g4 ≠ g5 := (by rw [hg_]; exact Nat.ne_of_lt (blk_lt K4.out)); have e5_4 := Ne.symm e4_5; replace K4 := Aside0.mk (blk_below K4.out hb); have K5 := Aside0.mk hbox; replace HD := Aside0.mk (below_step HD.out hb); clear hbox hb hg_; have y5_0 : w5.cell? ⟨g5, 0, none⟩ = some (.int .i64 0) := (blk_cell K5.out 0).trans rfl; have f5_0 := blk_frozen K5.out 0; have y5_1 : w5.cell? ⟨g5, 1, none⟩ = some (.string (⟨#[]⟩ : ByteArray)) := (blk_cell K5.out 1).trans rfl; have f5_1 := blk_frozen K5.out 1; have y5_2 : w5.cell? ⟨g5, 2, none⟩ = some (.bool false) := (blk_cell K5.out 2).trans rfl; have f5_2 := blk_frozen K5.out 2; have y5_3 : w5.cell? ⟨g5, 3, none⟩ = some (.bool false) := (blk_cell K5.out 3).trans rfl; have f5_3 := blk_frozen K5.out 3; have y5_4 : w5.cell? ⟨g5, 4, none⟩ = some (.bool false) := (blk_cell K5.out 4).trans rfl; have f5_4 := blk_frozen K5.out 4; have y4_0 : w5.cell? ⟨g4, 0, none⟩ = some (.int .i64 0) := (blk_cell K4.out 0).trans rfl; have f4_0 := blk_frozen K4.out 0; have y4_1 : w5.cell? ⟨g4, 1, none⟩ = some (.string (⟨#[]⟩ : ByteArray)) := (blk_cell K4.out 1).trans rfl; have f4_1 := blk_frozen K4.out 1; have y4_2 : w5.cell? ⟨g4, 2, none⟩ = some (.bool false) := (blk_cell K4.out 2).trans rfl; have f4_2 := blk_frozen K4.out 2; have y4_3 : w5.cell? ⟨g4, 3, none⟩ = some (.bool false) := (blk_cell K4.out 3).trans rfl; have f4_3 := blk_frozen K4.out 3; have y4_4 : w5.cell? ⟨g4, 4, none⟩ = some (.bool false) := (blk_cell K4.out 4).trans rfl; have f4_4 := blk_frozen K4.out 4)
  | (go_at_call 53; (with_reducible refine (strconv_Itoa.calls m s _ HS.out ?hT_).mono ?_); (case hT_ => exact tab_below HT.out (fset5_below HD.out No5.out (.int .i64 m) (.string (⟨#[]⟩ : ByteArray)) (.bool false) (.bool false) (.bool false))); rintro e wi ⟨rfl, hb⟩; replace K4 := Aside0.mk (blk_below ((fset5_far w5 g5 g4 (.int .i64 m) (.string (⟨#[]⟩ : ByteArray)) (.bool false) (.bool false) (.bool false) e4_5).trans K4.out) hb); replace K5 := Aside0.mk (blk_below (fset5_blk K5.out (.int .i64 m) (.string (⟨#[]⟩ : ByteArray)) (.bool false) (.bool false) (.bool false)) hb); replace HD := Aside0.mk (below_step (fset5_below HD.out No5.out (.int .i64 m) (.string (⟨#[]⟩ : ByteArray)) (.bool false) (.bool false) (.bool false)) hb); clear hb)
  | (go_at_call 41; (with_reducible refine (strings_Repeat.calls _ p z _ HZ.out).mono ?_); rintro e wr ⟨rfl, hb⟩; replace K4 := Aside0.mk (blk_below K4.out hb); replace K5 := Aside0.mk (blk_below K5.out hb); replace HD := Aside0.mk (below_step HD.out hb); clear hb y4_0 f4_0 y4_1 f4_1 y4_2 f4_2 y4_3 f4_3 y4_4 f4_4 y5_0 f5_0 y5_1 f5_1 y5_2 f5_2 y5_3 f5_3 y5_4 f5_4; have y5_0 : wr.cell? ⟨g5, 0, none⟩ = some (.int .i64 m) := (blk_cell K5.out 0).trans rfl; have f5_0 := blk_frozen K5.out 0; have y5_1 : wr.cell? ⟨g5, 1, none⟩ = some (.string (⟨#[]⟩ : ByteArray)) := (blk_cell K5.out 1).trans rfl; have f5_1 := blk_frozen K5.out 1; have y5_2 : wr.cell? ⟨g5, 2, none⟩ = some (.bool false) := (blk_cell K5.out 2).trans rfl; have f5_2 := blk_frozen K5.out 2; have y5_3 : wr.cell? ⟨g5, 3, none⟩ = some (.bool false) := (blk_cell K5.out 3).trans rfl; have f5_3 := blk_frozen K5.out 3; have y5_4 : wr.cell? ⟨g5, 4, none⟩ = some (.bool false) := (blk_cell K5.out 4).trans rfl; have f5_4 := blk_frozen K5.out 4; have y4_0 : wr.cell? ⟨g4, 0, none⟩ = some (.int .i64 0) := (blk_cell K4.out 0).trans rfl; have f4_0 := blk_frozen K4.out 0; have y4_1 : wr.cell? ⟨g4, 1, none⟩ = some (.string (⟨#[]⟩ : ByteArray)) := (blk_cell K4.out 1).trans rfl; have f4_1 := blk_frozen K4.out 1; have y4_2 : wr.cell? ⟨g4, 2, none⟩ = some (.bool false) := (blk_cell K4.out 2).trans rfl; have f4_2 := blk_frozen K4.out 2; have y4_3 : wr.cell? ⟨g4, 3, none⟩ = some (.bool false) := (blk_cell K4.out 3).trans rfl; have f4_3 := blk_frozen K4.out 3; have y4_4 : wr.cell? ⟨g4, 4, none⟩ = some (.bool false) := (blk_cell K4.out 4).trans rfl; have f4_4 := blk_frozen K4.out 4))
 refine bodyPost_ret (results_cell_row rfl _ _ g4 81 #[.int .i64 m, .string (z ++ s), .bool false, .bool false, .bool false] (0, 0) _ rfl (fset5_blk (blk_far K4.out e4_5 _) (.int .i64 m) (.string (z ++ s)) (.bool false) (.bool false) (.bool false)) Tryd.underlying81 rfl (by kernel_rfl)) rfl ?_
 exact ⟨rfl, fset5_below (below_set HD.out No5.out) No4.out (.int .i64 m) (.string (z ++ s)) (.bool false) (.bool false) (.bool false)⟩
def splitF (k : Nat) (m d : Int) : Option (S81 × S81) :=
 (render_ten.f k d).bind fun t => if t = 0 then none else (plainF (wrap64 (Int.tdiv m t))).bind fun a => (behindF (Int.tmod m t) d).bind fun b => some (⟨a.f0, a.f1, decide (m < 0), a.f3, a.f4⟩, b)
set_option maxHeartbeats 8000000 in
set_option maxRecDepth 100000 in
theorem split_walk (k : Nat) (m d : Int) (p : S81 × S81) (w : World) (h : splitF k m d = some p) (hT_ : TabOK w) :
  Calls Tryd.prog 40 #[.int .i64 m, .int .i64 d] w fun e w' => e = .returned (.tuple #[.agg #[.int .i64 p.1.f0, .string p.1.f1, .bool p.1.f2, .bool p.1.f3, .bool p.1.f4], .agg #[.int .i64 p.2.f0, .string p.2.f1, .bool p.2.f2, .bool p.2.f3, .bool p.2.f4]]) ∧ Below w.heap.size w w' := by
 have hu81 := Tryd.underlying81
 have HT := Aside0.mk hT_
 have HD := Aside0.mk (Below.refl w.heap.size w)
 clear hT_
 obtain ⟨t, ht, h⟩ := Option.bind_eq_some_iff.mp h
 by_cases c : t = 0
 ·rw [if_pos c] at h
  cases h
 rw [if_neg c] at h
 obtain ⟨a, ha, h⟩ := Option.bind_eq_some_iff.mp h
 obtain ⟨b, hb, h⟩ := Option.bind_eq_some_iff.mp h
 have e := Option.some.inj h
 subst e
 obtain ⟨s2, hs2⟩ : ∃ z : Bool, decide (m < 0) = z := ⟨_, rfl⟩
 rw [hs2]
 have c0 : (t == 0) = false := beq_eq_false_iff_ne.mpr c
 have H1 := Aside0.mk ht
 have H2 := Aside0.mk ha
 have H3 := Aside0.mk hb
 clear ht ha hb h
 go_enter Tryd.func40, Tryd.ntmps40
 go_wp2_with (first
  | ((with_reducible refine gate_dst (N := 4) rfl ?_); refine box_event ?hg (N := 4) ?hd (cs := #[.int .i64 0, .string (⟨#[]⟩ : ByteArray), .bool false, .bool false, .bool false]) (t := 81) ?hr ?_; (case hd => rfl); (case hg => rfl); (case hr => first | (go_simp; done) | (go_simp; rfl)); intro g4 hg_ w4 hbox hb; have No4 := Aside0.mk (show w.heap.size ≤ g4 by rw [hg_]; exact below_size HD.out); have K4 := Aside0.mk hbox; replace HD := Aside0.mk (below_step HD.out hb); clear hbox hb hg_)
  | ((with_reducible refine gate_dst (N := 5) rfl ?_); refine box_event ?hg (N := 5) ?hd (cs := #[.int .i64 0, .string (⟨#[]⟩ : ByteArray), .bool false, .bool false, .bool false]) (t := 81) ?hr ?_; (case hd => rfl); (case hg => rfl); (case hr => first | (go_simp; done) | (go_simp; rfl)); intro g5 hg_ w5 hbox hb; have No5 := Aside0.mk (show w.heap.size ≤ g5 by rw [hg_]; exact below_size HD.out); have e4_5 : g4 ≠ g5 := (by rw [hg_]; exact Nat.ne_of_lt (blk_lt K4.out)); have e5_4 := Ne.symm e4_5; replace K4 := Aside0.mk (blk_below K4.out hb); have K5 := Aside0.mk hbox; replace HD := Aside0.mk (below_step HD.out hb); clear hbox hb hg_)
  | (go_at_call 55; (with_reducible refine (render_ten.calls k d t _ H1.out).mono ?_); rintro e wt ⟨rfl, hb0⟩; have hb := hb0.below; replace K4 := Aside0.mk (blk_below K4.out hb); replace K5 := Aside0.mk (blk_below K5.out hb); replace HD := Aside0.mk (below_step HD.out hb); clear hb hb0)
  | (go_at_call 39; (with_reducible refine (plain_walk _ a _ H2.out (tab_below HT.out HD.out)).mono ?_); rintro e wp ⟨rfl, hb⟩; replace K4 := Aside0.mk (blk_below K4.out hb); replace K5 := Aside0.mk (blk_below K5.out hb); replace HD := Aside0.mk (below_step HD.out hb); clear hb)
  | ((with_reducible refine gate_dst (N := 6) rfl ?_); refine box_event ?hg (N := 6) ?hd (cs := #[.int .i64 0, .string (⟨#[]⟩ : ByteArray), .bool false, .bool false, .bool false]) (t := 81) ?hr ?_; (case hd => rfl); (case hg => rfl); (case hr => first | (go_simp; done) | (go_simp; rfl)); intro g6 hg_ w6 hbox hb; have No6 := Aside0.mk (show w.heap.size ≤ g6 by rw [hg_]; exact below_size HD.out); have e4_6 : g4 ≠ g6 := (by rw [hg_]; exact Nat.ne_of_lt (blk_lt K4.out)); have e6_4 := Ne.symm e4_6; replace K4 := Aside0.mk (blk_below K4.out hb); have e5_6 : g5 ≠ g6 := (by rw [hg_]; exact Nat.ne_of_lt (blk_lt K5.out)); have e6_5 := Ne.symm e5_6; replace K5 := Aside0.mk (blk_below K5.out hb); have K6 := Aside0.mk hbox; replace HD := Aside0.mk (below_step HD.out hb); clear hbox hb hg_; have y6_0 : w6.cell? ⟨g6, 0, none⟩ = some (.int .i64 0) := (blk_cell K6.out 0).trans rfl; have f6_0 := blk_frozen K6.out 0; have y6_1 : w6.cell? ⟨g6, 1, none⟩ = some (.string (⟨#[]⟩ : ByteArray)) := (blk_cell K6.out 1).trans rfl; have f6_1 := blk_frozen K6.out 1; have y6_2 : w6.cell? ⟨g6, 2, none⟩ = some (.bool false) := (blk_cell K6.out 2).trans rfl; have f6_2 := blk_frozen K6.out 2; have y6_3 : w6.cell? ⟨g6, 3, none⟩ = some (.bool false) := (blk_cell K6.out 3).trans rfl; have f6_3 := blk_frozen K6.out 3; have y6_4 : w6.cell? ⟨g6, 4, none⟩ = some (.bool false) := (blk_cell K6.out 4).trans rfl; have f6_4 := blk_frozen K6.out 4))
 replace K4 := Aside0.mk (show ((fset5 w6 g6 (.int .i64 a.f0) (.string a.f1) (.bool a.f2) (.bool a.f3) (.bool a.f4)).setCell ⟨g6, 2, none⟩ (.bool s2)).heap[g4]? = _ from blk_far ((fset5_far w6 g6 g4 (.int .i64 a.f0) (.string a.f1) (.bool a.f2) (.bool a.f3) (.bool a.f4) e4_6).trans K4.out) e4_6 _)
 replace K5 := Aside0.mk (show ((fset5 w6 g6 (.int .i64 a.f0) (.string a.f1) (.bool a.f2) (.bool a.f3) (.bool a.f4)).setCell ⟨g6, 2, none⟩ (.bool s2)).heap[g5]? = _ from blk_far ((fset5_far w6 g6 g5 (.int .i64 a.f0) (.string a.f1) (.bool a.f2) (.bool a.f3) (.bool a.f4) e5_6).trans K5.out) e5_6 _)
 replace K6 := Aside0.mk (show ((fset5 w6 g6 (.int .i64 a.f0) (.string a.f1) (.bool a.f2) (.bool a.f3) (.bool a.f4)).setCell ⟨g6, 2, none⟩ (.bool s2)).heap[g6]? = some (.cells #[.int .i64 a.f0, .string a.f1, .bool s2, .bool a.f3, .bool a.f4] 81 (0, 0)) from blk_set (fset5_blk K6.out (.int .i64 a.f0) (.string a.f1) (.bool a.f2) (.bool a.f3) (.bool a.f4)) 2 (.bool s2))
 replace HD := Aside0.mk (show Below w.heap.size w ((fset5 w6 g6 (.int .i64 a.f0) (.string a.f1) (.bool a.f2) (.bool a.f3) (.bool a.f4)).setCell ⟨g6, 2, none⟩ (.bool s2)) from below_set (fset5_below HD.out No6.out (.int .i64 a.f0) (.string a.f1) (.bool a.f2) (.bool a.f3) (.bool a.f4)) No6.out)
 clear y6_0 f6_0 y6_1 f6_1 y6_2 f6_2 y6_3 f6_3 y6_4 f6_4
 change Code.wp _ _ _ _ ((fset5 w6 g6 (.int .i64 a.f0) (.string a.f1) (.bool a.f2) (.bool a.f3) (.bool a.f4)).setCell ⟨g6, 2, none⟩ (.bool s2))
 generalize ((fset5 w6 g6 (.int .i64 a.f0) (.string a.f1) (.bool a.f2) (.bool a.f3) (.bool a.f4)).setCell ⟨g6, 2, none⟩ (.bool s2)) = W at K4 K5 K6 HD ⊢
 replace HD := Aside0.mk (below_drew HD.out)
 replace K4 := Aside0.mk (blk_drew K4.out)
 replace K5 := Aside0.mk (blk_drew K5.out)
 replace K6 := Aside0.mk (blk_drew K6.out)
 refine start_ (n := 9) (S := fun w' => w'.cell? ⟨g6, 0, none⟩ = some (.int .i64 a.f0) ∧ w'.cell? ⟨g6, 1, none⟩ = some (.string a.f1) ∧ w'.cell? ⟨g6, 2, none⟩ = some (.bool s2) ∧ w'.cell? ⟨g6, 3, none⟩ = some (.bool a.f3) ∧ w'.cell? ⟨g6, 4, none⟩ = some (.bool a.f4)) (ds := []) #[false, false, false, false, false, false, false, false, false] (by kernel_rfl) rfl rfl ⟨(blk_cell K6.out 0).trans rfl, (blk_cell K6.out 1).trans rfl, (blk_cell K6.out 2).trans rfl, (blk_cell K6.out 3).trans rfl, (blk_cell K6.out 4).trans rfl⟩ (fun hHeld => ?_)
 generalize World.drew _ = wd at HD K4 K5 K6 hHeld ⊢
 refine take_ (i := 0) (N := (some 15)) (v := ?_) (a' := ?_) (oB 9 1) rfl rfl (by kernel_rfl) (fun _ _ _ h => h) (Or.inl ⟨by rfl, ?_⟩) hHeld ?_ ?_
 rotate_left
 ·rintro w' ⟨s0_, s1_, s2_, s3_, s4_⟩
  go_simp
  with_reducible rfl
 rotate_left
 ·simp only [Act.put, List.setIfInBounds_toArray, List.set_cons_zero, List.set_cons_succ, i64_w, i32_w]
  rfl
 refine pure_ (i := 1) (N := (some 16)) (v := ?_) (a' := ?_) (oB 9 3) rfl rfl (by kernel_rfl) (fun _ _ _ h => h) (Or.inl ⟨by rfl, ?_⟩) ?_ ?_
 rotate_left
 ·intro w'
  go_simp
  with_reducible rfl
 rotate_left
 ·simp only [Act.put, List.setIfInBounds_toArray, List.set_cons_zero, List.set_cons_succ, i64_w, i32_w]
  rfl
 refine pure_ (i := 2) (N := (some 17)) (v := ?_) (a' := ?_) (oB 9 7) rfl rfl (by kernel_rfl) (fun _ _ _ h => h) (Or.inl ⟨by rfl, ?_⟩) ?_ ?_
 rotate_left
 ·intro w'
  go_simp
  with_reducible rfl
 rotate_left
 ·simp only [Act.put, List.setIfInBounds_toArray, List.set_cons_zero, List.set_cons_succ, i64_w, i32_w]
  rfl
 refine pure_ (i := 5) (N := (some 20)) (v := ?_) (a' := ?_) (oB 9 39) rfl rfl (by kernel_rfl) (fun _ _ _ h => h) (Or.inl ⟨by rfl, ?_⟩) ?_ ?_
 rotate_left
 ·intro w'
  go_simp
  with_reducible rfl
 rotate_left
 ·simp only [Act.put, List.setIfInBounds_toArray, List.set_cons_zero, List.set_cons_succ, i64_w, i32_w]
  rfl
 refine one_ (i := 3) (N := (some 18)) (oB 9 47) rfl rfl (by kernel_rfl) (by decide) (fun K hK => ?_)
 refine goes_ Tryd.func55 (by kernel_rfl) rfl #[.int .i64 d] (by rfl) rfl rfl (by (try simp only [List.map_toArray, List.map_cons, List.map_nil]); first | done | rfl) ?_
 refine (render_ten.calls k d t _ H1.out).mono ?_
 rintro e wt2 ⟨rfl, hb0⟩
 refine ⟨_, rfl, ?_⟩
 have hb := hb0.below
 replace K4 := Aside0.mk (blk_below K4.out hb)
 replace K5 := Aside0.mk (blk_below K5.out hb)
 replace K6 := Aside0.mk (blk_below K6.out hb)
 replace HD := Aside0.mk (below_step HD.out hb)
 clear hb hb0
 change K (Act.put _ (some 18) _) _
 refine hK.out _ _ ⟨(blk_cell K6.out 0).trans rfl, (blk_cell K6.out 1).trans rfl, (blk_cell K6.out 2).trans rfl, (blk_cell K6.out 3).trans rfl, (blk_cell K6.out 4).trans rfl⟩ (fun hHeld => ?_)
 clear hK K
 refine nM ?_
 refine pure_ (i := 4) (N := (some 19)) (v := ?_) (a' := ?_) (oB 9 63) rfl rfl (by kernel_rfl) (fun _ _ _ h => h) (Or.inl ⟨by rfl, ?_⟩) ?_ ?_
 rotate_left
 ·intro w'
  go_simp
  with_reducible rfl
 rotate_left
 ·simp only [Act.put, List.setIfInBounds_toArray, List.set_cons_zero, List.set_cons_succ, i64_w, i32_w]
  rfl
 refine one_ (i := 6) (N := (some 21)) (oB 9 127) rfl rfl (by kernel_rfl) (by decide) (fun K hK => ?_)
 refine goes_ Tryd.func56 (by kernel_rfl) rfl #[.int .i64 (Int.tmod m t), .int .i64 d] (by rfl) rfl rfl (by (try simp only [List.map_toArray, List.map_cons, List.map_nil]); first | done | rfl) ?_
 refine (behind_walk _ d b _ H3.out (tab_below HT.out HD.out)).mono ?_
 rintro e wb ⟨rfl, hb⟩
 refine ⟨_, rfl, ?_⟩
 replace K4 := Aside0.mk (blk_below K4.out hb)
 replace K5 := Aside0.mk (blk_below K5.out hb)
 replace K6 := Aside0.mk (blk_below K6.out hb)
 replace HD := Aside0.mk (below_step HD.out hb)
 clear hb
 change K (Act.put _ (some 21) _) _
 refine hK.out _ _ ⟨(blk_cell K6.out 0).trans rfl, (blk_cell K6.out 1).trans rfl, (blk_cell K6.out 2).trans rfl, (blk_cell K6.out 3).trans rfl, (blk_cell K6.out 4).trans rfl⟩ (fun hHeld => ?_)
 clear hK K
 refine nM ?_
 refine one_ (i := 7) (N := none) (oB 9 255) rfl rfl (by kernel_rfl) (by decide) (fun K hK => ?_)
 have y4_0 : wb.cell? ⟨g4, 0, none⟩ = some (.int .i64 0) := (blk_cell K4.out 0).trans rfl
 have f4_0 := blk_frozen K4.out 0
 have y4_1 : wb.cell? ⟨g4, 1, none⟩ = some (.string (⟨#[]⟩ : ByteArray)) := (blk_cell K4.out 1).trans rfl
 have f4_1 := blk_frozen K4.out 1
 have y4_2 : wb.cell? ⟨g4, 2, none⟩ = some (.bool false) := (blk_cell K4.out 2).trans rfl
 have f4_2 := blk_frozen K4.out 2
 have y4_3 : wb.cell? ⟨g4, 3, none⟩ = some (.bool false) := (blk_cell K4.out 3).trans rfl
 have f4_3 := blk_frozen K4.out 3
 have y4_4 : wb.cell? ⟨g4, 4, none⟩ = some (.bool false) := (blk_cell K4.out 4).trans rfl
 have f4_4 := blk_frozen K4.out 4
 refine skip_ (w1 := ?_) (by rfl) rfl ?_ ?_
 rotate_left
 ·go_simp
  rfl
 clear y4_0 f4_0 y4_1 f4_1 y4_2 f4_2 y4_3 f4_3 y4_4 f4_4
 change K _ (fset5 wb g4 (.int .i64 a.f0) (.string a.f1) (.bool s2) (.bool a.f3) (.bool a.f4))
 replace K5 := Aside0.mk ((fset5_far wb g4 g5 (.int .i64 a.f0) (.string a.f1) (.bool s2) (.bool a.f3) (.bool a.f4) e5_4).trans K5.out)
 replace K6 := Aside0.mk ((fset5_far wb g4 g6 (.int .i64 a.f0) (.string a.f1) (.bool s2) (.bool a.f3) (.bool a.f4) e6_4).trans K6.out)
 replace K4 := Aside0.mk (fset5_blk K4.out (.int .i64 a.f0) (.string a.f1) (.bool s2) (.bool a.f3) (.bool a.f4))
 replace HD := Aside0.mk (fset5_below HD.out No4.out (.int .i64 a.f0) (.string a.f1) (.bool s2) (.bool a.f3) (.bool a.f4))
 generalize (fset5 wb g4 (.int .i64 a.f0) (.string a.f1) (.bool s2) (.bool a.f3) (.bool a.f4)) = wbx at K4 K5 K6 HD ⊢
 refine hK.out _ _ ⟨(blk_cell K6.out 0).trans rfl, (blk_cell K6.out 1).trans rfl, (blk_cell K6.out 2).trans rfl, (blk_cell K6.out 3).trans rfl, (blk_cell K6.out 4).trans rfl⟩ (fun hHeld => ?_)
 clear hK K
 refine one_ (i := 8) (N := none) (oB 9 511) rfl rfl (by kernel_rfl) (by decide) (fun K hK => ?_)
 have y5_0 : wbx.cell? ⟨g5, 0, none⟩ = some (.int .i64 0) := (blk_cell K5.out 0).trans rfl
 have f5_0 := blk_frozen K5.out 0
 have y5_1 : wbx.cell? ⟨g5, 1, none⟩ = some (.string (⟨#[]⟩ : ByteArray)) := (blk_cell K5.out 1).trans rfl
 have f5_1 := blk_frozen K5.out 1
 have y5_2 : wbx.cell? ⟨g5, 2, none⟩ = some (.bool false) := (blk_cell K5.out 2).trans rfl
 have f5_2 := blk_frozen K5.out 2
 have y5_3 : wbx.cell? ⟨g5, 3, none⟩ = some (.bool false) := (blk_cell K5.out 3).trans rfl
 have f5_3 := blk_frozen K5.out 3
 have y5_4 : wbx.cell? ⟨g5, 4, none⟩ = some (.bool false) := (blk_cell K5.out 4).trans rfl
 have f5_4 := blk_frozen K5.out 4
 refine skip_ (w1 := ?_) (by rfl) rfl ?_ ?_
 rotate_left
 ·go_simp
  rfl
 clear y5_0 f5_0 y5_1 f5_1 y5_2 f5_2 y5_3 f5_3 y5_4 f5_4
 change K _ (fset5 wbx g5 (.int .i64 b.f0) (.string b.f1) (.bool b.f2) (.bool b.f3) (.bool b.f4))
 replace K4 := Aside0.mk ((fset5_far wbx g5 g4 (.int .i64 b.f0) (.string b.f1) (.bool b.f2) (.bool b.f3) (.bool b.f4) e4_5).trans K4.out)
 replace K6 := Aside0.mk ((fset5_far wbx g5 g6 (.int .i64 b.f0) (.string b.f1) (.bool b.f2) (.bool b.f3) (.bool b.f4) e6_5).trans K6.out)
 replace K5 := Aside0.mk (fset5_blk K5.out (.int .i64 b.f0) (.string b.f1) (.bool b.f2) (.bool b.f3) (.bool b.f4))
 replace HD := Aside0.mk (fset5_below HD.out No5.out (.int .i64 b.f0) (.string b.f1) (.bool b.f2) (.bool b.f3) (.bool b.f4))
 generalize (fset5 wbx g5 (.int .i64 b.f0) (.string b.f1) (.bool b.f2) (.bool b.f3) (.bool b.f4)) = wbxx at K5 K4 K6 HD ⊢
 refine hK.out _ _ ⟨(blk_cell K6.out 0).trans rfl, (blk_cell K6.out 1).trans rfl, (blk_cell K6.out 2).trans rfl, (blk_cell K6.out 3).trans rfl, (blk_cell K6.out 4).trans rfl⟩ (fun hHeld => ?_)
 clear hK K
 refine done_ (by kernel_rfl) ?_
 go_wp2
 refine bodyPost_ret (results_cc rfl _ _ g4 g5 81 81 #[.int .i64 a.f0, .string a.f1, .bool s2, .bool a.f3, .bool a.f4] #[.int .i64 b.f0, .string b.f1, .bool b.f2, .bool b.f3, .bool b.f4] (0, 0) (0, 0) _ _ rfl K4.out Tryd.underlying81 rfl (by kernel_rfl) rfl K5.out Tryd.underlying81 rfl (by kernel_rfl)) rfl ?_
 exact ⟨rfl, HD.out⟩
theorem two_ints {w : World} {A : Option Addr} {l : List Int} (hC : Kd.C (Kd.int .i64) w A l.length l) (h : 1 < l.length) : ∃ ad, A = some ad ∧ w.cell? ad = some (.int .i64 (rd l 0)) ∧ w.cell? ⟨ad.block, ad.off + 1, none⟩ = some (.int .i64 (rd l 1)) := by
 obtain ⟨ad, e, h0⟩ := Kd.at_int hC 0 (by decide) (by omega)
 obtain ⟨ad1, e1, h1⟩ := Kd.at_int hC 1 (by decide) (by omega)
 obtain rfl : ad = ad1 := by rw [e] at e1; injection e1
 refine ⟨ad, e, ?_, ?_⟩
 ·rw [show ((0 : Int)).toNat = 0 from rfl, Addr.add_zero'] at h0
  exact h0
 ·rw [show ((1 : Int)).toNat = 1 from rfl] at h1
  simpa only [Go.Addr.add, Nat.reduceEqDiff, ↓reduceIte] using h1
def decimalF (k : Nat) (l : List Int) : Option (List S81) := if 1 < l.length then (splitF k (rd l 0) (rd l 1)).bind fun p => some [p.1, ⟨p.2.f0, p.2.f1, p.2.f2, true, p.2.f4⟩] else none
def moneyF (k : Nat) (l : List Int) : Option (List S81) := if 1 < l.length then (splitF k (rd l 1) (Int.tmod (rd l 0) 10)).bind fun p => (plainF (rd l 0)).bind fun a => some [a, p.1, ⟨p.2.f0, p.2.f1, p.2.f2, p.2.f3, true⟩] else none
def durF (l : List Int) : Option (List S81) := if 0 < l.length then (plainF (rd l 0)).bind fun a => (plainF (wrap64 (Int.tdiv (rd l 0) 3600))).bind fun b => (plainF (Int.tmod (wrap64 (Int.tdiv (rd l 0) 60)) 60)).bind fun c => (plainF (Int.tmod (rd l 0) 60)).bind fun d => some [a, b, c, d] else none
set_option maxHeartbeats 8000000 in
set_option maxRecDepth 100000 in
theorem decimal_walk (k : Nat) (kd : Int) (A : Option Addr) (c : Nat) (l : List Int) (r : List S81) (w : World) (hC : Kd.C (Kd.int .i64) w A l.length l) (h : decimalF k l = some r) (hT_ : TabOK w) :
  Calls Tryd.prog 26 #[.agg #[.int .i64 kd, .slice A l.length c]] w fun e w' => ∃ v : Value, e = .returned v ∧ Kd.R k81 81 w' w.heap.size (fun _ => True) v r ∧ Below w.heap.size w w' := by
 have hu81 := Tryd.underlying81
 have hu71 := Tryd.underlying71
 have hu36 := Tryd.underlying36
 have HT := Aside0.mk hT_
 have HD := Aside0.mk (Below.refl w.heap.size w)
 clear hT_
 by_cases c1 : 1 < l.length
 rotate_left
 ·rw [decimalF, if_neg c1] at h
  cases h
 rw [decimalF, if_pos c1] at h
 obtain ⟨ad, e, y0, y1⟩ := two_ints hC c1
 subst e
 obtain ⟨p, hp, h⟩ := Option.bind_eq_some_iff.mp h
 have e := Option.some.inj h
 have HE := Aside0.mk e
 have HP := Aside0.mk hp
 have Yo0 := Aside0.mk y0
 have Yo1 := Aside0.mk y1
 have k0 : (0 < l.length) = True := eq_true (by omega)
 have k1 : (1 < l.length) = True := eq_true c1
 have k2 : ((0 : Int) < (l.length : Int)) = True := eq_true (by omega)
 have k3 : ((1 : Int) < (l.length : Int)) = True := eq_true (by omega)
 clear hp h e c1 hC y0 y1
 go_enter Tryd.func26, Tryd.ntmps26
 go_wp2_with (first
  | ((with_reducible refine gate_dst (N := 1) rfl ?_); refine box_event ?hg (N := 1) ?hd (cs := #[.int .i64 kd, .slice (some ad) l.length c]) (t := 71) ?hr ?_; (case hd => rfl); (case hg => rfl); (case hr => first | (go_simp; done) | (go_simp; rfl)); intro g1 hg_ w1 hbox hb; have No1 := Aside0.mk (show w.heap.size ≤ g1 by rw [hg_]; exact below_size HD.out); have K1 := Aside0.mk hbox; replace HD := Aside0.mk (below_step HD.out hb); clear hbox hb hg_))
 replace HD := Aside0.mk (below_drew HD.out)
 replace K1 := Aside0.mk (blk_drew K1.out)
 refine start_ (n := 16) (S := fun w' => Below w.heap.size w w' ∧ w'.heap[g1]? = some (.cells #[.int .i64 kd, .slice (some ad) l.length c] 71 (0, 0))) (ds := []) #[false, false, false, false, false, false, false, false, false, false, false, false, false, false, false, false] (by kernel_rfl) rfl rfl ⟨HD.out, K1.out⟩ (fun hHeld => ?_)
 generalize World.drew _ = wd at HD K1 hHeld ⊢
 refine pure_ (i := 0) (N := (some 6)) (v := ?_) (a' := ?_) (oB 16 1) rfl rfl (by kernel_rfl) (fun _ _ _ h => h) (Or.inl ⟨by rfl, ?_⟩) ?_ ?_
 rotate_left
 ·intro w'
  go_simp
  with_reducible rfl
 rotate_left
 ·simp only [Act.put, List.setIfInBounds_toArray, List.set_cons_zero, List.set_cons_succ, i64_w, i32_w]
  rfl
 refine pure_ (i := 4) (N := (some 10)) (v := ?_) (a' := ?_) (oB 16 17) rfl rfl (by kernel_rfl) (fun _ _ _ h => h) (Or.inl ⟨by rfl, ?_⟩) ?_ ?_
 rotate_left
 ·intro w'
  go_simp
  with_reducible rfl
 rotate_left
 ·simp only [Act.put, List.setIfInBounds_toArray, List.set_cons_zero, List.set_cons_succ, i64_w, i32_w]
  rfl
 refine take_ (i := 1) (N := (some 7)) (v := ?_) (a' := ?_) (oB 16 19) rfl rfl (by kernel_rfl) (fun _ _ _ h => h) (Or.inl ⟨by rfl, ?_⟩) hHeld ?_ ?_
 rotate_left
 ·rintro w' ⟨hB_, hK_⟩
  have s0 : w'.cell? ⟨g1, 1, none⟩ = some (.slice (some ad) l.length c) := (blk_cell hK_ 1).trans rfl
  have s1 := pw_cell_below hB_ Yo0.out
  have s2 := pw_cell_below hB_ Yo1.out
  go_simp
  with_reducible rfl
 rotate_left
 ·simp only [Act.put, List.setIfInBounds_toArray, List.set_cons_zero, List.set_cons_succ, i64_w, i32_w]
  rfl
 refine take_ (i := 5) (N := (some 11)) (v := ?_) (a' := ?_) (oB 16 51) rfl rfl (by kernel_rfl) (fun _ _ _ h => h) (Or.inl ⟨by rfl, ?_⟩) hHeld ?_ ?_
 rotate_left
 ·rintro w' ⟨hB_, hK_⟩
  have s0 : w'.cell? ⟨g1, 1, none⟩ = some (.slice (some ad) l.length c) := (blk_cell hK_ 1).trans rfl
  have s1 := pw_cell_below hB_ Yo0.out
  have s2 := pw_cell_below hB_ Yo1.out
  go_simp
  with_reducible rfl
 rotate_left
 ·simp only [Act.put, List.setIfInBounds_toArray, List.set_cons_zero, List.set_cons_succ, i64_w, i32_w]
  rfl
 refine pure_ (i := 2) (N := (some 8)) (v := ?_) (a' := ?_) (oB 16 55) rfl rfl (by kernel_rfl) (fun _ _ _ h => h) (Or.inl ⟨by rfl, ?_⟩) ?_ ?_
 rotate_left
 ·intro w'
  go_simp
  with_reducible rfl
 rotate_left
 ·simp only [Act.put, List.setIfInBounds_toArray, List.set_cons_zero, List.set_cons_succ, i64_w, i32_w]
  rfl
 refine pure_ (i := 6) (N := (some 12)) (v := ?_) (a' := ?_) (oB 16 119) rfl rfl (by kernel_rfl) (fun _ _ _ h => h) (Or.inl ⟨by rfl, ?_⟩) ?_ ?_
 rotate_left
 ·intro w'
  go_simp
  with_reducible rfl
 rotate_left
 ·simp only [Act.put, List.setIfInBounds_toArray, List.set_cons_zero, List.set_cons_succ, i64_w, i32_w]
  rfl
 refine take_ (i := 3) (N := (some 9)) (v := ?_) (a' := ?_) (oB 16 127) rfl rfl (by kernel_rfl) (fun _ _ _ h => h) (Or.inl ⟨by rfl, ?_⟩) hHeld ?_ ?_
 rotate_left
 ·rintro w' ⟨hB_, hK_⟩
  have s0 : w'.cell? ⟨g1, 1, none⟩ = some (.slice (some ad) l.length c) := (blk_cell hK_ 1).trans rfl
  have s1 := pw_cell_below hB_ Yo0.out
  have s2 := pw_cell_below hB_ Yo1.out
  go_simp
  with_reducible rfl
 rotate_left
 ·simp only [Act.put, List.setIfInBounds_toArray, List.set_cons_zero, List.set_cons_succ, i64_w, i32_w]
  rfl
 refine take_ (i := 7) (N := (some 13)) (v := ?_) (a' := ?_) (oB 16 255) rfl rfl (by kernel_rfl) (fun _ _ _ h => h) (Or.inl ⟨by rfl, ?_⟩) hHeld ?_ ?_
 rotate_left
 ·rintro w' ⟨hB_, hK_⟩
  have s0 : w'.cell? ⟨g1, 1, none⟩ = some (.slice (some ad) l.length c) := (blk_cell hK_ 1).trans rfl
  have s1 := pw_cell_below hB_ Yo0.out
  have s2 := pw_cell_below hB_ Yo1.out
  go_simp
  with_reducible rfl
 rotate_left
 ·simp only [Act.put, List.setIfInBounds_toArray, List.set_cons_zero, List.set_cons_succ, i64_w, i32_w]
  rfl
 refine join_ (σ := Nat × Nat) 2 (oB 16 16383) (fun s => [(14, .tuple #[.agg #[.int .i64 p.1.f0, .string p.1.f1, .bool p.1.f2, .bool p.1.f3, .bool p.1.f4], .agg #[.int .i64 p.2.f0, .string p.2.f1, .bool p.2.f2, .bool p.2.f3, .bool p.2.f4]]), (5, .tuple #[.agg #[.int .i64 p.1.f0, .string p.1.f1, .bool p.1.f2, .bool p.1.f3, .bool p.1.f4], .agg #[.int .i64 p.2.f0, .string p.2.f1, .bool p.2.f2, .bool p.2.f3, .bool p.2.f4]]), (15, .agg #[.int .i64 p.1.f0, .string p.1.f1, .bool p.1.f2, .bool p.1.f3, .bool p.1.f4]), (16, .agg #[.int .i64 p.2.f0, .string p.2.f1, .bool p.2.f2, .bool p.2.f3, .bool p.2.f4]), (3, .pointer (some ⟨s.1, 0, none⟩)), (4, .pointer (some ⟨s.2, 0, none⟩))]) (fun s w' => Below w.heap.size w w' ∧ w'.heap[g1]? = some (.cells #[.int .i64 kd, .slice (some ad) l.length c] 71 (0, 0)) ∧ w'.heap[s.1]? = some (.cells #[.int .i64 0, .string (⟨#[]⟩ : ByteArray), .bool false, .bool false, .bool false] 81 (0, 0)) ∧ w'.heap[s.2]? = some (.cells #[.int .i64 0, .string (⟨#[]⟩ : ByteArray), .bool false, .bool false, .bool false] 81 (0, 0)) ∧ w.heap.size ≤ s.1 ∧ w.heap.size ≤ s.2 ∧ s.1 ≠ s.2 ∧ g1 ≠ s.1 ∧ g1 ≠ s.2) ?_ ?_
 rotate_left
 ·intro hCont
  refine three_ (i := 8) (j := 12) (k := 13) (Ni := some 14) (Nj := some 3) (Nk := some 4) (oB 16 511) (oB 16 4351) (oB 16 8447) rfl rfl rfl rfl rfl rfl (by kernel_rfl) (by decide) (by decide) (by decide) (fun K hK => ?_) (fun K hK => ?_) (fun K hK => ?_)
  ·skip
   refine goes_ Tryd.func40 (by kernel_rfl) rfl #[.int .i64 (rd l 0), .int .i64 (rd l 1)] (by rfl) rfl rfl (by (try simp only [List.map_toArray, List.map_cons, List.map_nil]); first | done | rfl) ?_
   refine (split_walk k _ _ p _ HP.out (tab_below HT.out HD.out)).mono ?_
   rintro e ws ⟨rfl, hb⟩
   refine ⟨_, rfl, ?_⟩
   replace K1 := Aside0.mk (blk_below K1.out hb)
   replace HD := Aside0.mk (below_step HD.out hb)
   try replace K3 := Aside0.mk (blk_below K3.out hb)
   try replace K4 := Aside0.mk (blk_below K4.out hb)
   clear hb
   change K (Act.put _ (some 14) _) _
   refine hK.out _ _ ⟨HD.out, K1.out⟩ (fun hHeld => ?_)
   clear hK K
   refine nM ?_
   refine pure_ (i := 9) (N := (some 5)) (v := ?_) (a' := ?_) (oB 16 1023) rfl rfl (by kernel_rfl) (fun _ _ _ h => h) (Or.inl ⟨by rfl, ?_⟩) ?_ ?_
   rotate_left
   ·intro w'
    go_simp
    with_reducible rfl
   rotate_left
   ·simp only [Act.put, List.setIfInBounds_toArray, List.set_cons_zero, List.set_cons_succ, i64_w, i32_w]
    rfl
   refine pure_ (i := 10) (N := (some 15)) (v := ?_) (a' := ?_) (oB 16 2047) rfl rfl (by kernel_rfl) (fun _ _ _ h => h) (Or.inl ⟨by rfl, ?_⟩) ?_ ?_
   rotate_left
   ·intro w'
    go_simp
    with_reducible rfl
   rotate_left
   ·simp only [Act.put, List.setIfInBounds_toArray, List.set_cons_zero, List.set_cons_succ, i64_w, i32_w]
    rfl
   refine pure_ (i := 11) (N := (some 16)) (v := ?_) (a' := ?_) (oB 16 4095) rfl rfl (by kernel_rfl) (fun _ _ _ h => h) (Or.inl ⟨by rfl, ?_⟩) ?_ ?_
   rotate_left
   ·intro w'
    go_simp
    with_reducible rfl
   rotate_left
   ·simp only [Act.put, List.setIfInBounds_toArray, List.set_cons_zero, List.set_cons_succ, i64_w, i32_w]
    rfl
   refine two_ (i := 12) (j := 13) (Ni := some 3) (Nj := some 4) (oB 16 8191) (oB 16 12287) rfl rfl rfl rfl (by kernel_rfl) (by decide) (by decide) (fun K hK => ?_) (fun K hK => ?_)
   ·skip
    refine box_step ?hg (N := 3) ?hd (cs := #[.int .i64 0, .string (⟨#[]⟩ : ByteArray), .bool false, .bool false, .bool false]) (t := 81) ?hr ?_; (case hd => rfl); (case hg => rfl); (case hr => first | (go_simp; done) | (go_simp; rfl))
    intro g3 hg_ w3 hbox hb
    have No3 := Aside0.mk (show w.heap.size ≤ g3 by rw [hg_]; exact below_size HD.out)
    have e13 := Aside0.mk (show g1 ≠ g3 by rw [hg_]; exact Nat.ne_of_lt (blk_lt K1.out))
    try have e34 := Aside0.mk (show g4 ≠ g3 by rw [hg_]; exact Nat.ne_of_lt (blk_lt K4.out))
    replace K1 := Aside0.mk (blk_below K1.out hb)
    try replace K4 := Aside0.mk (blk_below K4.out hb)
    have K3 := Aside0.mk hbox
    replace HD := Aside0.mk (below_step HD.out hb)
    clear hbox hb hg_
    change K (Act.put _ (some 3) _) _
    refine hK.out _ _ ⟨HD.out, K1.out⟩ (fun hHeld => ?_)
    clear hK K
    refine nM ?_
    refine one_ (i := 13) (N := (some 4)) (oB 16 16383) rfl rfl (by kernel_rfl) (by decide) (fun K hK => ?_)
    refine box_step ?hg (N := 4) ?hd (cs := #[.int .i64 0, .string (⟨#[]⟩ : ByteArray), .bool false, .bool false, .bool false]) (t := 81) ?hr ?_; (case hd => rfl); (case hg => rfl); (case hr => first | (go_simp; done) | (go_simp; rfl))
    intro g4 hg_ w4 hbox hb
    have No4 := Aside0.mk (show w.heap.size ≤ g4 by rw [hg_]; exact below_size HD.out)
    have e14 := Aside0.mk (show g1 ≠ g4 by rw [hg_]; exact Nat.ne_of_lt (blk_lt K1.out))
    try have e34 := Aside0.mk (show g3 ≠ g4 by rw [hg_]; exact Nat.ne_of_lt (blk_lt K3.out))
    replace K1 := Aside0.mk (blk_below K1.out hb)
    try replace K3 := Aside0.mk (blk_below K3.out hb)
    have K4 := Aside0.mk hbox
    replace HD := Aside0.mk (below_step HD.out hb)
    clear hbox hb hg_
    change K (Act.put _ (some 4) _) _
    refine hK.out _ _ ⟨HD.out, K1.out⟩ (fun hHeld => ?_)
    clear hK K
    refine nM ?_
    exact nJ (hCont (g3, g4) _ ⟨HD.out, K1.out, K3.out, K4.out, No3.out, No4.out, (by first | exact e34.out | exact Ne.symm e34.out), e13.out, e14.out⟩)
   ·skip
    refine box_step ?hg (N := 4) ?hd (cs := #[.int .i64 0, .string (⟨#[]⟩ : ByteArray), .bool false, .bool false, .bool false]) (t := 81) ?hr ?_; (case hd => rfl); (case hg => rfl); (case hr => first | (go_simp; done) | (go_simp; rfl))
    intro g4 hg_ w4 hbox hb
    have No4 := Aside0.mk (show w.heap.size ≤ g4 by rw [hg_]; exact below_size HD.out)
    have e14 := Aside0.mk (show g1 ≠ g4 by rw [hg_]; exact Nat.ne_of_lt (blk_lt K1.out))
    try have e34 := Aside0.mk (show g3 ≠ g4 by rw [hg_]; exact Nat.ne_of_lt (blk_lt K3.out))
    replace K1 := Aside0.mk (blk_below K1.out hb)
    try replace K3 := Aside0.mk (blk_below K3.out hb)
    have K4 := Aside0.mk hbox
    replace HD := Aside0.mk (below_step HD.out hb)
    clear hbox hb hg_
    change K (Act.put _ (some 4) _) _
    refine hK.out _ _ ⟨HD.out, K1.out⟩ (fun hHeld => ?_)
    clear hK K
    refine nM ?_
    refine one_ (i := 12) (N := (some 3)) (oB 16 16383) rfl rfl (by kernel_rfl) (by decide) (fun K hK => ?_)
    refine box_step ?hg (N := 3) ?hd (cs := #[.int .i64 0, .string (⟨#[]⟩ : ByteArray), .bool false, .bool false, .bool false]) (t := 81) ?hr ?_; (case hd => rfl); (case hg => rfl); (case hr => first | (go_simp; done) | (go_simp; rfl))
    intro g3 hg_ w3 hbox hb
    have No3 := Aside0.mk (show w.heap.size ≤ g3 by rw [hg_]; exact below_size HD.out)
    have e13 := Aside0.mk (show g1 ≠ g3 by rw [hg_]; exact Nat.ne_of_lt (blk_lt K1.out))
    try have e34 := Aside0.mk (show g4 ≠ g3 by rw [hg_]; exact Nat.ne_of_lt (blk_lt K4.out))
    replace K1 := Aside0.mk (blk_below K1.out hb)
    try replace K4 := Aside0.mk (blk_below K4.out hb)
    have K3 := Aside0.mk hbox
    replace HD := Aside0.mk (below_step HD.out hb)
    clear hbox hb hg_
    change K (Act.put _ (some 3) _) _
    refine hK.out _ _ ⟨HD.out, K1.out⟩ (fun hHeld => ?_)
    clear hK K
    refine nM ?_
    exact nJ (hCont (g3, g4) _ ⟨HD.out, K1.out, K3.out, K4.out, No3.out, No4.out, (by first | exact e34.out | exact Ne.symm e34.out), e13.out, e14.out⟩)
  ·skip
   refine box_step ?hg (N := 3) ?hd (cs := #[.int .i64 0, .string (⟨#[]⟩ : ByteArray), .bool false, .bool false, .bool false]) (t := 81) ?hr ?_; (case hd => rfl); (case hg => rfl); (case hr => first | (go_simp; done) | (go_simp; rfl))
   intro g3 hg_ w3 hbox hb
   have No3 := Aside0.mk (show w.heap.size ≤ g3 by rw [hg_]; exact below_size HD.out)
   have e13 := Aside0.mk (show g1 ≠ g3 by rw [hg_]; exact Nat.ne_of_lt (blk_lt K1.out))
   try have e34 := Aside0.mk (show g4 ≠ g3 by rw [hg_]; exact Nat.ne_of_lt (blk_lt K4.out))
   replace K1 := Aside0.mk (blk_below K1.out hb)
   try replace K4 := Aside0.mk (blk_below K4.out hb)
   have K3 := Aside0.mk hbox
   replace HD := Aside0.mk (below_step HD.out hb)
   clear hbox hb hg_
   change K (Act.put _ (some 3) _) _
   refine hK.out _ _ ⟨HD.out, K1.out⟩ (fun hHeld => ?_)
   clear hK K
   refine nM ?_
   refine two_ (i := 8) (j := 13) (Ni := some 14) (Nj := some 4) (oB 16 4607) (oB 16 12543) rfl rfl rfl rfl (by kernel_rfl) (by decide) (by decide) (fun K hK => ?_) (fun K hK => ?_)
   ·skip
    refine goes_ Tryd.func40 (by kernel_rfl) rfl #[.int .i64 (rd l 0), .int .i64 (rd l 1)] (by rfl) rfl rfl (by (try simp only [List.map_toArray, List.map_cons, List.map_nil]); first | done | rfl) ?_
    refine (split_walk k _ _ p _ HP.out (tab_below HT.out HD.out)).mono ?_
    rintro e ws ⟨rfl, hb⟩
    refine ⟨_, rfl, ?_⟩
    replace K1 := Aside0.mk (blk_below K1.out hb)
    replace HD := Aside0.mk (below_step HD.out hb)
    try replace K3 := Aside0.mk (blk_below K3.out hb)
    try replace K4 := Aside0.mk (blk_below K4.out hb)
    clear hb
    change K (Act.put _ (some 14) _) _
    refine hK.out _ _ ⟨HD.out, K1.out⟩ (fun hHeld => ?_)
    clear hK K
    refine nM ?_
    refine pure_ (i := 9) (N := (some 5)) (v := ?_) (a' := ?_) (oB 16 5119) rfl rfl (by kernel_rfl) (fun _ _ _ h => h) (Or.inl ⟨by rfl, ?_⟩) ?_ ?_
    rotate_left
    ·intro w'
     go_simp
     with_reducible rfl
    rotate_left
    ·simp only [Act.put, List.setIfInBounds_toArray, List.set_cons_zero, List.set_cons_succ, i64_w, i32_w]
     rfl
    refine pure_ (i := 10) (N := (some 15)) (v := ?_) (a' := ?_) (oB 16 6143) rfl rfl (by kernel_rfl) (fun _ _ _ h => h) (Or.inl ⟨by rfl, ?_⟩) ?_ ?_
    rotate_left
    ·intro w'
     go_simp
     with_reducible rfl
    rotate_left
    ·simp only [Act.put, List.setIfInBounds_toArray, List.set_cons_zero, List.set_cons_succ, i64_w, i32_w]
     rfl
    refine pure_ (i := 11) (N := (some 16)) (v := ?_) (a' := ?_) (oB 16 8191) rfl rfl (by kernel_rfl) (fun _ _ _ h => h) (Or.inl ⟨by rfl, ?_⟩) ?_ ?_
    rotate_left
    ·intro w'
     go_simp
     with_reducible rfl
    rotate_left
    ·simp only [Act.put, List.setIfInBounds_toArray, List.set_cons_zero, List.set_cons_succ, i64_w, i32_w]
     rfl
    refine one_ (i := 13) (N := (some 4)) (oB 16 16383) rfl rfl (by kernel_rfl) (by decide) (fun K hK => ?_)
    refine box_step ?hg (N := 4) ?hd (cs := #[.int .i64 0, .string (⟨#[]⟩ : ByteArray), .bool false, .bool false, .bool false]) (t := 81) ?hr ?_; (case hd => rfl); (case hg => rfl); (case hr => first | (go_simp; done) | (go_simp; rfl))
    intro g4 hg_ w4 hbox hb
    have No4 := Aside0.mk (show w.heap.size ≤ g4 by rw [hg_]; exact below_size HD.out)
    have e14 := Aside0.mk (show g1 ≠ g4 by rw [hg_]; exact Nat.ne_of_lt (blk_lt K1.out))
    try have e34 := Aside0.mk (show g3 ≠ g4 by rw [hg_]; exact Nat.ne_of_lt (blk_lt K3.out))
    replace K1 := Aside0.mk (blk_below K1.out hb)
    try replace K3 := Aside0.mk (blk_below K3.out hb)
    have K4 := Aside0.mk hbox
    replace HD := Aside0.mk (below_step HD.out hb)
    clear hbox hb hg_
    change K (Act.put _ (some 4) _) _
    refine hK.out _ _ ⟨HD.out, K1.out⟩ (fun hHeld => ?_)
    clear hK K
    refine nM ?_
    exact nJ (hCont (g3, g4) _ ⟨HD.out, K1.out, K3.out, K4.out, No3.out, No4.out, (by first | exact e34.out | exact Ne.symm e34.out), e13.out, e14.out⟩)
   ·skip
    refine box_step ?hg (N := 4) ?hd (cs := #[.int .i64 0, .string (⟨#[]⟩ : ByteArray), .bool false, .bool false, .bool false]) (t := 81) ?hr ?_; (case hd => rfl); (case hg => rfl); (case hr => first | (go_simp; done) | (go_simp; rfl))
    intro g4 hg_ w4 hbox hb
    have No4 := Aside0.mk (show w.heap.size ≤ g4 by rw [hg_]; exact below_size HD.out)
    have e14 := Aside0.mk (show g1 ≠ g4 by rw [hg_]; exact Nat.ne_of_lt (blk_lt K1.out))
    try have e34 := Aside0.mk (show g3 ≠ g4 by rw [hg_]; exact Nat.ne_of_lt (blk_lt K3.out))
    replace K1 := Aside0.mk (blk_below K1.out hb)
    try replace K3 := Aside0.mk (blk_below K3.out hb)
    have K4 := Aside0.mk hbox
    replace HD := Aside0.mk (below_step HD.out hb)
    clear hbox hb hg_
    change K (Act.put _ (some 4) _) _
    refine hK.out _ _ ⟨HD.out, K1.out⟩ (fun hHeld => ?_)
    clear hK K
    refine nM ?_
    refine one_ (i := 8) (N := (some 14)) (oB 16 12799) rfl rfl (by kernel_rfl) (by decide) (fun K hK => ?_)
    refine goes_ Tryd.func40 (by kernel_rfl) rfl #[.int .i64 (rd l 0), .int .i64 (rd l 1)] (by rfl) rfl rfl (by (try simp only [List.map_toArray, List.map_cons, List.map_nil]); first | done | rfl) ?_
    refine (split_walk k _ _ p _ HP.out (tab_below HT.out HD.out)).mono ?_
    rintro e ws ⟨rfl, hb⟩
    refine ⟨_, rfl, ?_⟩
    replace K1 := Aside0.mk (blk_below K1.out hb)
    replace HD := Aside0.mk (below_step HD.out hb)
    try replace K3 := Aside0.mk (blk_below K3.out hb)
    try replace K4 := Aside0.mk (blk_below K4.out hb)
    clear hb
    change K (Act.put _ (some 14) _) _
    refine hK.out _ _ ⟨HD.out, K1.out⟩ (fun hHeld => ?_)
    clear hK K
    refine nM ?_
    refine pure_ (i := 9) (N := (some 5)) (v := ?_) (a' := ?_) (oB 16 13311) rfl rfl (by kernel_rfl) (fun _ _ _ h => h) (Or.inl ⟨by rfl, ?_⟩) ?_ ?_
    rotate_left
    ·intro w'
     go_simp
     with_reducible rfl
    rotate_left
    ·simp only [Act.put, List.setIfInBounds_toArray, List.set_cons_zero, List.set_cons_succ, i64_w, i32_w]
     rfl
    refine pure_ (i := 10) (N := (some 15)) (v := ?_) (a' := ?_) (oB 16 14335) rfl rfl (by kernel_rfl) (fun _ _ _ h => h) (Or.inl ⟨by rfl, ?_⟩) ?_ ?_
    rotate_left
    ·intro w'
     go_simp
     with_reducible rfl
    rotate_left
    ·simp only [Act.put, List.setIfInBounds_toArray, List.set_cons_zero, List.set_cons_succ, i64_w, i32_w]
     rfl
    refine pure_ (i := 11) (N := (some 16)) (v := ?_) (a' := ?_) (oB 16 16383) rfl rfl (by kernel_rfl) (fun _ _ _ h => h) (Or.inl ⟨by rfl, ?_⟩) ?_ ?_
    rotate_left
    ·intro w'
     go_simp
     with_reducible rfl
    rotate_left
    ·simp only [Act.put, List.setIfInBounds_toArray, List.set_cons_zero, List.set_cons_succ, i64_w, i32_w]
     rfl
    exact nJ (hCont (g3, g4) _ ⟨HD.out, K1.out, K3.out, K4.out, No3.out, No4.out, (by first | exact e34.out | exact Ne.symm e34.out), e13.out, e14.out⟩)
  ·skip
   refine box_step ?hg (N := 4) ?hd (cs := #[.int .i64 0, .string (⟨#[]⟩ : ByteArray), .bool false, .bool false, .bool false]) (t := 81) ?hr ?_; (case hd => rfl); (case hg => rfl); (case hr => first | (go_simp; done) | (go_simp; rfl))
   intro g4 hg_ w4 hbox hb
   have No4 := Aside0.mk (show w.heap.size ≤ g4 by rw [hg_]; exact below_size HD.out)
   have e14 := Aside0.mk (show g1 ≠ g4 by rw [hg_]; exact Nat.ne_of_lt (blk_lt K1.out))
   try have e34 := Aside0.mk (show g3 ≠ g4 by rw [hg_]; exact Nat.ne_of_lt (blk_lt K3.out))
   replace K1 := Aside0.mk (blk_below K1.out hb)
   try replace K3 := Aside0.mk (blk_below K3.out hb)
   have K4 := Aside0.mk hbox
   replace HD := Aside0.mk (below_step HD.out hb)
   clear hbox hb hg_
   change K (Act.put _ (some 4) _) _
   refine hK.out _ _ ⟨HD.out, K1.out⟩ (fun hHeld => ?_)
   clear hK K
   refine nM ?_
   refine two_ (i := 8) (j := 12) (Ni := some 14) (Nj := some 3) (oB 16 8703) (oB 16 12543) rfl rfl rfl rfl (by kernel_rfl) (by decide) (by decide) (fun K hK => ?_) (fun K hK => ?_)
   ·skip
    refine goes_ Tryd.func40 (by kernel_rfl) rfl #[.int .i64 (rd l 0), .int .i64 (rd l 1)] (by rfl) rfl rfl (by (try simp only [List.map_toArray, List.map_cons, List.map_nil]); first | done | rfl) ?_
    refine (split_walk k _ _ p _ HP.out (tab_below HT.out HD.out)).mono ?_
    rintro e ws ⟨rfl, hb⟩
    refine ⟨_, rfl, ?_⟩
    replace K1 := Aside0.mk (blk_below K1.out hb)
    replace HD := Aside0.mk (below_step HD.out hb)
    try replace K3 := Aside0.mk (blk_below K3.out hb)
    try replace K4 := Aside0.mk (blk_below K4.out hb)
    clear hb
    change K (Act.put _ (some 14) _) _
    refine hK.out _ _ ⟨HD.out, K1.out⟩ (fun hHeld => ?_)
    clear hK K
    refine nM ?_
    refine pure_ (i := 9) (N := (some 5)) (v := ?_) (a' := ?_) (oB 16 9215) rfl rfl (by kernel_rfl) (fun _ _ _ h => h) (Or.inl ⟨by rfl, ?_⟩) ?_ ?_
    rotate_left
    ·intro w'
     go_simp
     with_reducible rfl
    rotate_left
    ·simp only [Act.put, List.setIfInBounds_toArray, List.set_cons_zero, List.set_cons_succ, i64_w, i32_w]
     rfl
    refine pure_ (i := 10) (N := (some 15)) (v := ?_) (a' := ?_) (oB 16 10239) rfl rfl (by kernel_rfl) (fun _ _ _ h => h) (Or.inl ⟨by rfl, ?_⟩) ?_ ?_
    rotate_left
    ·intro w'
     go_simp
     with_reducible rfl
    rotate_left
    ·simp only [Act.put, List.setIfInBounds_toArray, List.set_cons_zero, List.set_cons_succ, i64_w, i32_w]
     rfl
    refine pure_ (i := 11) (N := (some 16)) (v := ?_) (a' := ?_) (oB 16 12287) rfl rfl (by kernel_rfl) (fun _ _ _ h => h) (Or.inl ⟨by rfl, ?_⟩) ?_ ?_
    rotate_left
    ·intro w'
     go_simp
     with_reducible rfl
    rotate_left
    ·simp only [Act.put, List.setIfInBounds_toArray, List.set_cons_zero, List.set_cons_succ, i64_w, i32_w]
     rfl
    refine one_ (i := 12) (N := (some 3)) (oB 16 16383) rfl rfl (by kernel_rfl) (by decide) (fun K hK => ?_)
    refine box_step ?hg (N := 3) ?hd (cs := #[.int .i64 0, .string (⟨#[]⟩ : ByteArray), .bool false, .bool false, .bool false]) (t := 81) ?hr ?_; (case hd => rfl); (case hg => rfl); (case hr => first | (go_simp; done) | (go_simp; rfl))
    intro g3 hg_ w3 hbox hb
    have No3 := Aside0.mk (show w.heap.size ≤ g3 by rw [hg_]; exact below_size HD.out)
    have e13 := Aside0.mk (show g1 ≠ g3 by rw [hg_]; exact Nat.ne_of_lt (blk_lt K1.out))
    try have e34 := Aside0.mk (show g4 ≠ g3 by rw [hg_]; exact Nat.ne_of_lt (blk_lt K4.out))
    replace K1 := Aside0.mk (blk_below K1.out hb)
    try replace K4 := Aside0.mk (blk_below K4.out hb)
    have K3 := Aside0.mk hbox
    replace HD := Aside0.mk (below_step HD.out hb)
    clear hbox hb hg_
    change K (Act.put _ (some 3) _) _
    refine hK.out _ _ ⟨HD.out, K1.out⟩ (fun hHeld => ?_)
    clear hK K
    refine nM ?_
    exact nJ (hCont (g3, g4) _ ⟨HD.out, K1.out, K3.out, K4.out, No3.out, No4.out, (by first | exact e34.out | exact Ne.symm e34.out), e13.out, e14.out⟩)
   ·skip
    refine box_step ?hg (N := 3) ?hd (cs := #[.int .i64 0, .string (⟨#[]⟩ : ByteArray), .bool false, .bool false, .bool false]) (t := 81) ?hr ?_; (case hd => rfl); (case hg => rfl); (case hr => first | (go_simp; done) | (go_simp; rfl))
    intro g3 hg_ w3 hbox hb
    have No3 := Aside0.mk (show w.heap.size ≤ g3 by rw [hg_]; exact below_size HD.out)
    have e13 := Aside0.mk (show g1 ≠ g3 by rw [hg_]; exact Nat.ne_of_lt (blk_lt K1.out))
    try have e34 := Aside0.mk (show g4 ≠ g3 by rw [hg_]; exact Nat.ne_of_lt (blk_lt K4.out))
    replace K1 := Aside0.mk (blk_below K1.out hb)
    try replace K4 := Aside0.mk (blk_below K4.out hb)
    have K3 := Aside0.mk hbox
    replace HD := Aside0.mk (below_step HD.out hb)
    clear hbox hb hg_
    change K (Act.put _ (some 3) _) _
    refine hK.out _ _ ⟨HD.out, K1.out⟩ (fun hHeld => ?_)
    clear hK K
    refine nM ?_
    refine one_ (i := 8) (N := (some 14)) (oB 16 12799) rfl rfl (by kernel_rfl) (by decide) (fun K hK => ?_)
    refine goes_ Tryd.func40 (by kernel_rfl) rfl #[.int .i64 (rd l 0), .int .i64 (rd l 1)] (by rfl) rfl rfl (by (try simp only [List.map_toArray, List.map_cons, List.map_nil]); first | done | rfl) ?_
    refine (split_walk k _ _ p _ HP.out (tab_below HT.out HD.out)).mono ?_
    rintro e ws ⟨rfl, hb⟩
    refine ⟨_, rfl, ?_⟩
    replace K1 := Aside0.mk (blk_below K1.out hb)
    replace HD := Aside0.mk (below_step HD.out hb)
    try replace K3 := Aside0.mk (blk_below K3.out hb)
    try replace K4 := Aside0.mk (blk_below K4.out hb)
    clear hb
    change K (Act.put _ (some 14) _) _
    refine hK.out _ _ ⟨HD.out, K1.out⟩ (fun hHeld => ?_)
    clear hK K
    refine nM ?_
    refine pure_ (i := 9) (N := (some 5)) (v := ?_) (a' := ?_) (oB 16 13311) rfl rfl (by kernel_rfl) (fun _ _ _ h => h) (Or.inl ⟨by rfl, ?_⟩) ?_ ?_
    rotate_left
    ·intro w'
     go_simp
     with_reducible rfl
    rotate_left
    ·simp only [Act.put, List.setIfInBounds_toArray, List.set_cons_zero, List.set_cons_succ, i64_w, i32_w]
     rfl
    refine pure_ (i := 10) (N := (some 15)) (v := ?_) (a' := ?_) (oB 16 14335) rfl rfl (by kernel_rfl) (fun _ _ _ h => h) (Or.inl ⟨by rfl, ?_⟩) ?_ ?_
    rotate_left
    ·intro w'
     go_simp
     with_reducible rfl
    rotate_left
    ·simp only [Act.put, List.setIfInBounds_toArray, List.set_cons_zero, List.set_cons_succ, i64_w, i32_w]
     rfl
    refine pure_ (i := 11) (N := (some 16)) (v := ?_) (a' := ?_) (oB 16 16383) rfl rfl (by kernel_rfl) (fun _ _ _ h => h) (Or.inl ⟨by rfl, ?_⟩) ?_ ?_
    rotate_left
    ·intro w'
     go_simp
     with_reducible rfl
    rotate_left
    ·simp only [Act.put, List.setIfInBounds_toArray, List.set_cons_zero, List.set_cons_succ, i64_w, i32_w]
     rfl
    exact nJ (hCont (g3, g4) _ ⟨HD.out, K1.out, K3.out, K4.out, No3.out, No4.out, (by first | exact e34.out | exact Ne.symm e34.out), e13.out, e14.out⟩)
 clear K1 HD hHeld
 rintro ⟨g3, g4⟩ wj ⟨hD, hK1, hK3, hK4, hN3, hN4, e3_4, e13, e14⟩
 have e4_3 := Ne.symm e3_4
 have HD := Aside0.mk hD
 have K1 := Aside0.mk hK1
 have K3 := Aside0.mk hK3
 have K4 := Aside0.mk hK4
 have No3 := Aside0.mk hN3
 have No4 := Aside0.mk hN4
 clear hD hK1 hK3 hK4 hN3 hN4
 refine norm_ (a' := ?_) ?_ ?_
 rotate_left
 ·simp only [putAll, Act.put, List.setIfInBounds_toArray, List.set_cons_zero, List.set_cons_succ]
  rfl
 refine one_ (i := 14) (N := none) (oB 16 32767) rfl rfl (by kernel_rfl) (by decide) (fun K hK => ?_)
 have y3_0 : wj.cell? ⟨g3, 0, none⟩ = some (.int .i64 0) := (blk_cell K3.out 0).trans rfl
 have f3_0 := blk_frozen K3.out 0
 have y3_1 : wj.cell? ⟨g3, 1, none⟩ = some (.string (⟨#[]⟩ : ByteArray)) := (blk_cell K3.out 1).trans rfl
 have f3_1 := blk_frozen K3.out 1
 have y3_2 : wj.cell? ⟨g3, 2, none⟩ = some (.bool false) := (blk_cell K3.out 2).trans rfl
 have f3_2 := blk_frozen K3.out 2
 have y3_3 : wj.cell? ⟨g3, 3, none⟩ = some (.bool false) := (blk_cell K3.out 3).trans rfl
 have f3_3 := blk_frozen K3.out 3
 have y3_4 : wj.cell? ⟨g3, 4, none⟩ = some (.bool false) := (blk_cell K3.out 4).trans rfl
 have f3_4 := blk_frozen K3.out 4
 refine skip_ (w1 := ?_) (by rfl) rfl ?_ ?_
 rotate_left
 ·go_simp
  rfl
 clear y3_0 f3_0 y3_1 f3_1 y3_2 f3_2 y3_3 f3_3 y3_4 f3_4
 change K _ (fset5 wj g3 (.int .i64 p.1.f0) (.string p.1.f1) (.bool p.1.f2) (.bool p.1.f3) (.bool p.1.f4))
 replace K1 := Aside0.mk ((fset5_far wj g3 g1 (.int .i64 p.1.f0) (.string p.1.f1) (.bool p.1.f2) (.bool p.1.f3) (.bool p.1.f4) e13).trans K1.out)
 replace K4 := Aside0.mk ((fset5_far wj g3 g4 (.int .i64 p.1.f0) (.string p.1.f1) (.bool p.1.f2) (.bool p.1.f3) (.bool p.1.f4) e4_3).trans K4.out)
 replace K3 := Aside0.mk (fset5_blk K3.out (.int .i64 p.1.f0) (.string p.1.f1) (.bool p.1.f2) (.bool p.1.f3) (.bool p.1.f4))
 replace HD := Aside0.mk (fset5_below HD.out No3.out (.int .i64 p.1.f0) (.string p.1.f1) (.bool p.1.f2) (.bool p.1.f3) (.bool p.1.f4))
 generalize (fset5 wj g3 (.int .i64 p.1.f0) (.string p.1.f1) (.bool p.1.f2) (.bool p.1.f3) (.bool p.1.f4)) = wjx at K1 K3 K4 HD ⊢
 refine hK.out _ _ ⟨HD.out, K1.out⟩ (fun hHeld => ?_)
 clear hK K
 refine one_ (i := 15) (N := none) (oB 16 65535) rfl rfl (by kernel_rfl) (by decide) (fun K hK => ?_)
 have y4_0 : wjx.cell? ⟨g4, 0, none⟩ = some (.int .i64 0) := (blk_cell K4.out 0).trans rfl
 have f4_0 := blk_frozen K4.out 0
 have y4_1 : wjx.cell? ⟨g4, 1, none⟩ = some (.string (⟨#[]⟩ : ByteArray)) := (blk_cell K4.out 1).trans rfl
 have f4_1 := blk_frozen K4.out 1
 have y4_2 : wjx.cell? ⟨g4, 2, none⟩ = some (.bool false) := (blk_cell K4.out 2).trans rfl
 have f4_2 := blk_frozen K4.out 2
 have y4_3 : wjx.cell? ⟨g4, 3, none⟩ = some (.bool false) := (blk_cell K4.out 3).trans rfl
 have f4_3 := blk_frozen K4.out 3
 have y4_4 : wjx.cell? ⟨g4, 4, none⟩ = some (.bool false) := (blk_cell K4.out 4).trans rfl
 have f4_4 := blk_frozen K4.out 4
 refine skip_ (w1 := ?_) (by rfl) rfl ?_ ?_
 rotate_left
 ·go_simp
  rfl
 clear y4_0 f4_0 y4_1 f4_1 y4_2 f4_2 y4_3 f4_3 y4_4 f4_4
 change K _ (fset5 wjx g4 (.int .i64 p.2.f0) (.string p.2.f1) (.bool p.2.f2) (.bool p.2.f3) (.bool p.2.f4))
 replace K1 := Aside0.mk ((fset5_far wjx g4 g1 (.int .i64 p.2.f0) (.string p.2.f1) (.bool p.2.f2) (.bool p.2.f3) (.bool p.2.f4) e14).trans K1.out)
 replace K3 := Aside0.mk ((fset5_far wjx g4 g3 (.int .i64 p.2.f0) (.string p.2.f1) (.bool p.2.f2) (.bool p.2.f3) (.bool p.2.f4) e3_4).trans K3.out)
 replace K4 := Aside0.mk (fset5_blk K4.out (.int .i64 p.2.f0) (.string p.2.f1) (.bool p.2.f2) (.bool p.2.f3) (.bool p.2.f4))
 replace HD := Aside0.mk (fset5_below HD.out No4.out (.int .i64 p.2.f0) (.string p.2.f1) (.bool p.2.f2) (.bool p.2.f3) (.bool p.2.f4))
 generalize (fset5 wjx g4 (.int .i64 p.2.f0) (.string p.2.f1) (.bool p.2.f2) (.bool p.2.f3) (.bool p.2.f4)) = wjxx at K1 K3 K4 HD ⊢
 refine hK.out _ _ ⟨HD.out, K1.out⟩ (fun hHeld => ?_)
 clear hK K
 refine done_ (by kernel_rfl) ?_
 clear hHeld
 have y3_0 : wjxx.cell? ⟨g3, 0, none⟩ = some (.int .i64 p.1.f0) := (blk_cell K3.out 0).trans rfl
 have f3_0 := blk_frozen K3.out 0
 have y3_1 : wjxx.cell? ⟨g3, 1, none⟩ = some (.string p.1.f1) := (blk_cell K3.out 1).trans rfl
 have f3_1 := blk_frozen K3.out 1
 have y3_2 : wjxx.cell? ⟨g3, 2, none⟩ = some (.bool p.1.f2) := (blk_cell K3.out 2).trans rfl
 have f3_2 := blk_frozen K3.out 2
 have y3_3 : wjxx.cell? ⟨g3, 3, none⟩ = some (.bool p.1.f3) := (blk_cell K3.out 3).trans rfl
 have f3_3 := blk_frozen K3.out 3
 have y3_4 : wjxx.cell? ⟨g3, 4, none⟩ = some (.bool p.1.f4) := (blk_cell K3.out 4).trans rfl
 have f3_4 := blk_frozen K3.out 4
 have y4_0 : wjxx.cell? ⟨g4, 0, none⟩ = some (.int .i64 p.2.f0) := (blk_cell K4.out 0).trans rfl
 have f4_0 := blk_frozen K4.out 0
 have y4_1 : wjxx.cell? ⟨g4, 1, none⟩ = some (.string p.2.f1) := (blk_cell K4.out 1).trans rfl
 have f4_1 := blk_frozen K4.out 1
 have y4_2 : wjxx.cell? ⟨g4, 2, none⟩ = some (.bool p.2.f2) := (blk_cell K4.out 2).trans rfl
 have f4_2 := blk_frozen K4.out 2
 have y4_3 : wjxx.cell? ⟨g4, 3, none⟩ = some (.bool p.2.f3) := (blk_cell K4.out 3).trans rfl
 have f4_3 := blk_frozen K4.out 3
 have y4_4 : wjxx.cell? ⟨g4, 4, none⟩ = some (.bool p.2.f4) := (blk_cell K4.out 4).trans rfl
 have f4_4 := blk_frozen K4.out 4
 go_wp2_with (first | ((with_reducible refine gate_dst (N := 20) rfl ?_); refine Kd.R_lit k81 _ 81 ?hg (N := 20) ?hd (xs := [p.1, (⟨p.2.f0, p.2.f1, p.2.f2, true, p.2.f4⟩ : S81)]) (inner := [.int .i64 p.1.f0, .string p.1.f1, .bool p.1.f2, .bool p.1.f3, .bool p.1.f4, .int .i64 p.2.f0, .string p.2.f1, .bool p.2.f2, .bool true, .bool p.2.f4]) (ok := fun _ => True) (okp := fun _ => True) ?hr ?hp (fun _ hk => hk) trivial (Below.refl _ _) (Nat.le_refl _) (by simp) ?_; (case hd => rfl); (case hg => rfl); (case hr => first | (go_simp; done) | (go_simp; rfl)); (case hp => exact (Reps.c5 (k81_mkM _ _ _ p.1) (Reps.c5 (k81_mkM _ _ _ (⟨p.2.f0, p.2.f1, p.2.f2, true, p.2.f4⟩ : S81)) (Reps.none _ _)))); intro vr wr ho hb hg_ hnew_; clear hg_ hnew_; have HR := Aside0.mk ho; have HE2 := Aside0.mk hb; clear ho hb))
 go_ret
 have hD : Below w.heap.size w (wjxx.setCell ⟨g4, 3, none⟩ (.bool true)) := below_set HD.out No4.out
 exact ⟨vr, rfl, by rw [← HE.out]; exact Kd.R_lower HR.out (below_size hD), below_step hD HE2.out⟩
set_option maxHeartbeats 8000000 in
set_option maxRecDepth 100000 in
theorem money_walk (k : Nat) (kd : Int) (A : Option Addr) (c : Nat) (l : List Int) (r : List S81) (w : World) (hC : Kd.C (Kd.int .i64) w A l.length l) (h : moneyF k l = some r) (hT_ : TabOK w) :
  Calls Tryd.prog 27 #[.agg #[.int .i64 kd, .slice A l.length c]] w fun e w' => ∃ v : Value, e = .returned v ∧ Kd.R k81 81 w' w.heap.size (fun _ => True) v r ∧ Below w.heap.size w w' := by
 have hu81 := Tryd.underlying81
 have hu71 := Tryd.underlying71
 have hu36 := Tryd.underlying36
 have HT := Aside0.mk hT_
 have HD := Aside0.mk (Below.refl w.heap.size w)
 clear hT_
 by_cases c1 : 1 < l.length
 rotate_left
 ·rw [moneyF, if_neg c1] at h
  cases h
 rw [moneyF, if_pos c1] at h
 obtain ⟨ad, e, y0, y1⟩ := two_ints hC c1
 subst e
 obtain ⟨p, hp, h⟩ := Option.bind_eq_some_iff.mp h
 obtain ⟨a, ha, h⟩ := Option.bind_eq_some_iff.mp h
 have HA := Aside0.mk ha
 clear ha
 have e := Option.some.inj h
 have HE := Aside0.mk e
 have HP := Aside0.mk hp
 have Yo0 := Aside0.mk y0
 have Yo1 := Aside0.mk y1
 have k0 : (0 < l.length) = True := eq_true (by omega)
 have k1 : (1 < l.length) = True := eq_true c1
 have k2 : ((0 : Int) < (l.length : Int)) = True := eq_true (by omega)
 have k3 : ((1 : Int) < (l.length : Int)) = True := eq_true (by omega)
 clear hp h e c1 hC y0 y1
 go_enter Tryd.func27, Tryd.ntmps27
 go_wp2_with (first
  | ((with_reducible refine gate_dst (N := 1) rfl ?_); refine box_event ?hg (N := 1) ?hd (cs := #[.int .i64 kd, .slice (some ad) l.length c]) (t := 71) ?hr ?_; (case hd => rfl); (case hg => rfl); (case hr => first | (go_simp; done) | (go_simp; rfl)); intro g1 hg_ w1 hbox hb; have No1 := Aside0.mk (show w.heap.size ≤ g1 by rw [hg_]; exact below_size HD.out); have K1 := Aside0.mk hbox; replace HD := Aside0.mk (below_step HD.out hb); clear hbox hb hg_))
 replace HD := Aside0.mk (below_drew HD.out)
 replace K1 := Aside0.mk (blk_drew K1.out)
 refine start_ (n := 17) (S := fun w' => Below w.heap.size w w' ∧ w'.heap[g1]? = some (.cells #[.int .i64 kd, .slice (some ad) l.length c] 71 (0, 0))) (ds := []) #[false, false, false, false, false, false, false, false, false, false, false, false, false, false, false, false, false] (by kernel_rfl) rfl rfl ⟨HD.out, K1.out⟩ (fun hHeld => ?_)
 generalize World.drew _ = wd at HD K1 hHeld ⊢
 refine pure_ (i := 0) (N := (some 6)) (v := ?_) (a' := ?_) (oB 17 1) rfl rfl (by kernel_rfl) (fun _ _ _ h => h) (Or.inl ⟨by rfl, ?_⟩) ?_ ?_
 rotate_left
 ·intro w'
  go_simp
  with_reducible rfl
 rotate_left
 ·simp only [Act.put, List.setIfInBounds_toArray, List.set_cons_zero, List.set_cons_succ, i64_w, i32_w]
  rfl
 refine pure_ (i := 4) (N := (some 10)) (v := ?_) (a' := ?_) (oB 17 17) rfl rfl (by kernel_rfl) (fun _ _ _ h => h) (Or.inl ⟨by rfl, ?_⟩) ?_ ?_
 rotate_left
 ·intro w'
  go_simp
  with_reducible rfl
 rotate_left
 ·simp only [Act.put, List.setIfInBounds_toArray, List.set_cons_zero, List.set_cons_succ, i64_w, i32_w]
  rfl
 refine take_ (i := 1) (N := (some 7)) (v := ?_) (a' := ?_) (oB 17 19) rfl rfl (by kernel_rfl) (fun _ _ _ h => h) (Or.inl ⟨by rfl, ?_⟩) hHeld ?_ ?_
 rotate_left
 ·rintro w' ⟨hB_, hK_⟩
  have s0 : w'.cell? ⟨g1, 1, none⟩ = some (.slice (some ad) l.length c) := (blk_cell hK_ 1).trans rfl
  have s1 := pw_cell_below hB_ Yo0.out
  have s2 := pw_cell_below hB_ Yo1.out
  go_simp
  with_reducible rfl
 rotate_left
 ·simp only [Act.put, List.setIfInBounds_toArray, List.set_cons_zero, List.set_cons_succ, i64_w, i32_w]
  rfl
 refine take_ (i := 5) (N := (some 11)) (v := ?_) (a' := ?_) (oB 17 51) rfl rfl (by kernel_rfl) (fun _ _ _ h => h) (Or.inl ⟨by rfl, ?_⟩) hHeld ?_ ?_
 rotate_left
 ·rintro w' ⟨hB_, hK_⟩
  have s0 : w'.cell? ⟨g1, 1, none⟩ = some (.slice (some ad) l.length c) := (blk_cell hK_ 1).trans rfl
  have s1 := pw_cell_below hB_ Yo0.out
  have s2 := pw_cell_below hB_ Yo1.out
  go_simp
  with_reducible rfl
 rotate_left
 ·simp only [Act.put, List.setIfInBounds_toArray, List.set_cons_zero, List.set_cons_succ, i64_w, i32_w]
  rfl
 refine pure_ (i := 2) (N := (some 8)) (v := ?_) (a' := ?_) (oB 17 55) rfl rfl (by kernel_rfl) (fun _ _ _ h => h) (Or.inl ⟨by rfl, ?_⟩) ?_ ?_
 rotate_left
 ·intro w'
  go_simp
  with_reducible rfl
 rotate_left
 ·simp only [Act.put, List.setIfInBounds_toArray, List.set_cons_zero, List.set_cons_succ, i64_w, i32_w]
  rfl
 refine pure_ (i := 6) (N := (some 12)) (v := ?_) (a' := ?_) (oB 17 119) rfl rfl (by kernel_rfl) (fun _ _ _ h => h) (Or.inl ⟨by rfl, ?_⟩) ?_ ?_
 rotate_left
 ·intro w'
  go_simp
  with_reducible rfl
 rotate_left
 ·simp only [Act.put, List.setIfInBounds_toArray, List.set_cons_zero, List.set_cons_succ, i64_w, i32_w]
  rfl
 refine take_ (i := 3) (N := (some 9)) (v := ?_) (a' := ?_) (oB 17 127) rfl rfl (by kernel_rfl) (fun _ _ _ h => h) (Or.inl ⟨by rfl, ?_⟩) hHeld ?_ ?_
 rotate_left
 ·rintro w' ⟨hB_, hK_⟩
  have s0 : w'.cell? ⟨g1, 1, none⟩ = some (.slice (some ad) l.length c) := (blk_cell hK_ 1).trans rfl
  have s1 := pw_cell_below hB_ Yo0.out
  have s2 := pw_cell_below hB_ Yo1.out
  go_simp
  with_reducible rfl
 rotate_left
 ·simp only [Act.put, List.setIfInBounds_toArray, List.set_cons_zero, List.set_cons_succ, i64_w, i32_w]
  rfl
 refine take_ (i := 7) (N := (some 13)) (v := ?_) (a' := ?_) (oB 17 255) rfl rfl (by kernel_rfl) (fun _ _ _ h => h) (Or.inl ⟨by rfl, ?_⟩) hHeld ?_ ?_
 rotate_left
 ·rintro w' ⟨hB_, hK_⟩
  have s0 : w'.cell? ⟨g1, 1, none⟩ = some (.slice (some ad) l.length c) := (blk_cell hK_ 1).trans rfl
  have s1 := pw_cell_below hB_ Yo0.out
  have s2 := pw_cell_below hB_ Yo1.out
  go_simp
  with_reducible rfl
 rotate_left
 ·simp only [Act.put, List.setIfInBounds_toArray, List.set_cons_zero, List.set_cons_succ, i64_w, i32_w]
  rfl
 refine pure_ (i := 8) (N := (some 14)) (v := ?_) (a' := ?_) (oB 17 511) rfl rfl (by kernel_rfl) (fun _ _ _ h => h) (Or.inl ⟨by rfl, ?_⟩) ?_ ?_
 rotate_left
 ·intro w'
  go_simp
  with_reducible rfl
 rotate_left
 ·simp only [Act.put, List.setIfInBounds_toArray, List.set_cons_zero, List.set_cons_succ, i64_w, i32_w]
  rfl
 refine join_ (σ := Nat × Nat) 2 (oB 17 32767) (fun s => [(15, .tuple #[.agg #[.int .i64 p.1.f0, .string p.1.f1, .bool p.1.f2, .bool p.1.f3, .bool p.1.f4], .agg #[.int .i64 p.2.f0, .string p.2.f1, .bool p.2.f2, .bool p.2.f3, .bool p.2.f4]]), (5, .tuple #[.agg #[.int .i64 p.1.f0, .string p.1.f1, .bool p.1.f2, .bool p.1.f3, .bool p.1.f4], .agg #[.int .i64 p.2.f0, .string p.2.f1, .bool p.2.f2, .bool p.2.f3, .bool p.2.f4]]), (16, .agg #[.int .i64 p.1.f0, .string p.1.f1, .bool p.1.f2, .bool p.1.f3, .bool p.1.f4]), (17, .agg #[.int .i64 p.2.f0, .string p.2.f1, .bool p.2.f2, .bool p.2.f3, .bool p.2.f4]), (3, .pointer (some ⟨s.1, 0, none⟩)), (4, .pointer (some ⟨s.2, 0, none⟩))]) (fun s w' => Below w.heap.size w w' ∧ w'.heap[g1]? = some (.cells #[.int .i64 kd, .slice (some ad) l.length c] 71 (0, 0)) ∧ w'.heap[s.1]? = some (.cells #[.int .i64 0, .string (⟨#[]⟩ : ByteArray), .bool false, .bool false, .bool false] 81 (0, 0)) ∧ w'.heap[s.2]? = some (.cells #[.int .i64 0, .string (⟨#[]⟩ : ByteArray), .bool false, .bool false, .bool false] 81 (0, 0)) ∧ w.heap.size ≤ s.1 ∧ w.heap.size ≤ s.2 ∧ s.1 ≠ s.2 ∧ g1 ≠ s.1 ∧ g1 ≠ s.2) ?_ ?_
 rotate_left
 ·intro hCont
  refine three_ (i := 9) (j := 13) (k := 14) (Ni := some 15) (Nj := some 3) (Nk := some 4) (oB 17 1023) (oB 17 8703) (oB 17 16895) rfl rfl rfl rfl rfl rfl (by kernel_rfl) (by decide) (by decide) (by decide) (fun K hK => ?_) (fun K hK => ?_) (fun K hK => ?_)
  ·skip
   refine goes_ Tryd.func40 (by kernel_rfl) rfl #[.int .i64 (rd l 1), .int .i64 (Int.tmod (rd l 0) 10)] (by rfl) rfl rfl (by (try simp only [List.map_toArray, List.map_cons, List.map_nil]); first | done | rfl) ?_
   refine (split_walk k _ _ p _ HP.out (tab_below HT.out HD.out)).mono ?_
   rintro e ws ⟨rfl, hb⟩
   refine ⟨_, rfl, ?_⟩
   replace K1 := Aside0.mk (blk_below K1.out hb)
   replace HD := Aside0.mk (below_step HD.out hb)
   try replace K3 := Aside0.mk (blk_below K3.out hb)
   try replace K4 := Aside0.mk (blk_below K4.out hb)
   clear hb
   change K (Act.put _ (some 15) _) _
   refine hK.out _ _ ⟨HD.out, K1.out⟩ (fun hHeld => ?_)
   clear hK K
   refine nM ?_
   refine pure_ (i := 10) (N := (some 5)) (v := ?_) (a' := ?_) (oB 17 2047) rfl rfl (by kernel_rfl) (fun _ _ _ h => h) (Or.inl ⟨by rfl, ?_⟩) ?_ ?_
   rotate_left
   ·intro w'
    go_simp
    with_reducible rfl
   rotate_left
   ·simp only [Act.put, List.setIfInBounds_toArray, List.set_cons_zero, List.set_cons_succ, i64_w, i32_w]
    rfl
   refine pure_ (i := 11) (N := (some 16)) (v := ?_) (a' := ?_) (oB 17 4095) rfl rfl (by kernel_rfl) (fun _ _ _ h => h) (Or.inl ⟨by rfl, ?_⟩) ?_ ?_
   rotate_left
   ·intro w'
    go_simp
    with_reducible rfl
   rotate_left
   ·simp only [Act.put, List.setIfInBounds_toArray, List.set_cons_zero, List.set_cons_succ, i64_w, i32_w]
    rfl
   refine pure_ (i := 12) (N := (some 17)) (v := ?_) (a' := ?_) (oB 17 8191) rfl rfl (by kernel_rfl) (fun _ _ _ h => h) (Or.inl ⟨by rfl, ?_⟩) ?_ ?_
   rotate_left
   ·intro w'
    go_simp
    with_reducible rfl
   rotate_left
   ·simp only [Act.put, List.setIfInBounds_toArray, List.set_cons_zero, List.set_cons_succ, i64_w, i32_w]
    rfl
   refine two_ (i := 13) (j := 14) (Ni := some 3) (Nj := some 4) (oB 17 16383) (oB 17 24575) rfl rfl rfl rfl (by kernel_rfl) (by decide) (by decide) (fun K hK => ?_) (fun K hK => ?_)
   ·skip
    refine box_step ?hg (N := 3) ?hd (cs := #[.int .i64 0, .string (⟨#[]⟩ : ByteArray), .bool false, .bool false, .bool false]) (t := 81) ?hr ?_; (case hd => rfl); (case hg => rfl); (case hr => first | (go_simp; done) | (go_simp; rfl))
    intro g3 hg_ w3 hbox hb
    have No3 := Aside0.mk (show w.heap.size ≤ g3 by rw [hg_]; exact below_size HD.out)
    have e13 := Aside0.mk (show g1 ≠ g3 by rw [hg_]; exact Nat.ne_of_lt (blk_lt K1.out))
    try have e34 := Aside0.mk (show g4 ≠ g3 by rw [hg_]; exact Nat.ne_of_lt (blk_lt K4.out))
    replace K1 := Aside0.mk (blk_below K1.out hb)
    try replace K4 := Aside0.mk (blk_below K4.out hb)
    have K3 := Aside0.mk hbox
    replace HD := Aside0.mk (below_step HD.out hb)
    clear hbox hb hg_
    change K (Act.put _ (some 3) _) _
    refine hK.out _ _ ⟨HD.out, K1.out⟩ (fun hHeld => ?_)
    clear hK K
    refine nM ?_
    refine one_ (i := 14) (N := (some 4)) (oB 17 32767) rfl rfl (by kernel_rfl) (by decide) (fun K hK => ?_)
    refine box_step ?hg (N := 4) ?hd (cs := #[.int .i64 0, .string (⟨#[]⟩ : ByteArray), .bool false, .bool false, .bool false]) (t := 81) ?hr ?_; (case hd => rfl); (case hg => rfl); (case hr => first | (go_simp; done) | (go_simp; rfl))
    intro g4 hg_ w4 hbox hb
    have No4 := Aside0.mk (show w.heap.size ≤ g4 by rw [hg_]; exact below_size HD.out)
    have e14 := Aside0.mk (show g1 ≠ g4 by rw [hg_]; exact Nat.ne_of_lt (blk_lt K1.out))
    try have e34 := Aside0.mk (show g3 ≠ g4 by rw [hg_]; exact Nat.ne_of_lt (blk_lt K3.out))
    replace K1 := Aside0.mk (blk_below K1.out hb)
    try replace K3 := Aside0.mk (blk_below K3.out hb)
    have K4 := Aside0.mk hbox
    replace HD := Aside0.mk (below_step HD.out hb)
    clear hbox hb hg_
    change K (Act.put _ (some 4) _) _
    refine hK.out _ _ ⟨HD.out, K1.out⟩ (fun hHeld => ?_)
    clear hK K
    refine nM ?_
    exact nJ (hCont (g3, g4) _ ⟨HD.out, K1.out, K3.out, K4.out, No3.out, No4.out, (by first | exact e34.out | exact Ne.symm e34.out), e13.out, e14.out⟩)
   ·skip
    refine box_step ?hg (N := 4) ?hd (cs := #[.int .i64 0, .string (⟨#[]⟩ : ByteArray), .bool false, .bool false, .bool false]) (t := 81) ?hr ?_; (case hd => rfl); (case hg => rfl); (case hr => first | (go_simp; done) | (go_simp; rfl))
    intro g4 hg_ w4 hbox hb
    have No4 := Aside0.mk (show w.heap.size ≤ g4 by rw [hg_]; exact below_size HD.out)
    have e14 := Aside0.mk (show g1 ≠ g4 by rw [hg_]; exact Nat.ne_of_lt (blk_lt K1.out))
    try have e34 := Aside0.mk (show g3 ≠ g4 by rw [hg_]; exact Nat.ne_of_lt (blk_lt K3.out))
    replace K1 := Aside0.mk (blk_below K1.out hb)
    try replace K3 := Aside0.mk (blk_below K3.out hb)
    have K4 := Aside0.mk hbox
    replace HD := Aside0.mk (below_step HD.out hb)
    clear hbox hb hg_
    change K (Act.put _ (some 4) _) _
    refine hK.out _ _ ⟨HD.out, K1.out⟩ (fun hHeld => ?_)
    clear hK K
    refine nM ?_
    refine one_ (i := 13) (N := (some 3)) (oB 17 32767) rfl rfl (by kernel_rfl) (by decide) (fun K hK => ?_)
    refine box_step ?hg (N := 3) ?hd (cs := #[.int .i64 0, .string (⟨#[]⟩ : ByteArray), .bool false, .bool false, .bool false]) (t := 81) ?hr ?_; (case hd => rfl); (case hg => rfl); (case hr => first | (go_simp; done) | (go_simp; rfl))
    intro g3 hg_ w3 hbox hb
    have No3 := Aside0.mk (show w.heap.size ≤ g3 by rw [hg_]; exact below_size HD.out)
    have e13 := Aside0.mk (show g1 ≠ g3 by rw [hg_]; exact Nat.ne_of_lt (blk_lt K1.out))
    try have e34 := Aside0.mk (show g4 ≠ g3 by rw [hg_]; exact Nat.ne_of_lt (blk_lt K4.out))
    replace K1 := Aside0.mk (blk_below K1.out hb)
    try replace K4 := Aside0.mk (blk_below K4.out hb)
    have K3 := Aside0.mk hbox
    replace HD := Aside0.mk (below_step HD.out hb)
    clear hbox hb hg_
    change K (Act.put _ (some 3) _) _
    refine hK.out _ _ ⟨HD.out, K1.out⟩ (fun hHeld => ?_)
    clear hK K
    refine nM ?_
    exact nJ (hCont (g3, g4) _ ⟨HD.out, K1.out, K3.out, K4.out, No3.out, No4.out, (by first | exact e34.out | exact Ne.symm e34.out), e13.out, e14.out⟩)
  ·skip
   refine box_step ?hg (N := 3) ?hd (cs := #[.int .i64 0, .string (⟨#[]⟩ : ByteArray), .bool false, .bool false, .bool false]) (t := 81) ?hr ?_; (case hd => rfl); (case hg => rfl); (case hr => first | (go_simp; done) | (go_simp; rfl))
   intro g3 hg_ w3 hbox hb
   have No3 := Aside0.mk (show w.heap.size ≤ g3 by rw [hg_]; exact below_size HD.out)
   have e13 := Aside0.mk (show g1 ≠ g3 by rw [hg_]; exact Nat.ne_of_lt (blk_lt K1.out))
   try have e34 := Aside0.mk (show g4 ≠ g3 by rw [hg_]; exact Nat.ne_of_lt (blk_lt K4.out))
   replace K1 := Aside0.mk (blk_below K1.out hb)
   try replace K4 := Aside0.mk (blk_below K4.out hb)
   have K3 := Aside0.mk hbox
   replace HD := Aside0.mk (below_step HD.out hb)
   clear hbox hb hg_
   change K (Act.put _ (some 3) _) _
   refine hK.out _ _ ⟨HD.out, K1.out⟩ (fun hHeld => ?_)
   clear hK K
   refine nM ?_
   refine two_ (i := 9) (j := 14) (Ni := some 15) (Nj := some 4) (oB 17 9215) (oB 17 25087) rfl rfl rfl rfl (by kernel_rfl) (by decide) (by decide) (fun K hK => ?_) (fun K hK => ?_)
   ·skip
    refine goes_ Tryd.func40 (by kernel_rfl) rfl #[.int .i64 (rd l 1), .int .i64 (Int.tmod (rd l 0) 10)] (by rfl) rfl rfl (by (try simp only [List.map_toArray, List.map_cons, List.map_nil]); first | done | rfl) ?_
    refine (split_walk k _ _ p _ HP.out (tab_below HT.out HD.out)).mono ?_
    rintro e ws ⟨rfl, hb⟩
    refine ⟨_, rfl, ?_⟩
    replace K1 := Aside0.mk (blk_below K1.out hb)
    replace HD := Aside0.mk (below_step HD.out hb)
    try replace K3 := Aside0.mk (blk_below K3.out hb)
    try replace K4 := Aside0.mk (blk_below K4.out hb)
    clear hb
    change K (Act.put _ (some 15) _) _
    refine hK.out _ _ ⟨HD.out, K1.out⟩ (fun hHeld => ?_)
    clear hK K
    refine nM ?_
    refine pure_ (i := 10) (N := (some 5)) (v := ?_) (a' := ?_) (oB 17 10239) rfl rfl (by kernel_rfl) (fun _ _ _ h => h) (Or.inl ⟨by rfl, ?_⟩) ?_ ?_
    rotate_left
    ·intro w'
     go_simp
     with_reducible rfl
    rotate_left
    ·simp only [Act.put, List.setIfInBounds_toArray, List.set_cons_zero, List.set_cons_succ, i64_w, i32_w]
     rfl
    refine pure_ (i := 11) (N := (some 16)) (v := ?_) (a' := ?_) (oB 17 12287) rfl rfl (by kernel_rfl) (fun _ _ _ h => h) (Or.inl ⟨by rfl, ?_⟩) ?_ ?_
    rotate_left
    ·intro w'
     go_simp
     with_reducible rfl
    rotate_left
    ·simp only [Act.put, List.setIfInBounds_toArray, List.set_cons_zero, List.set_cons_succ, i64_w, i32_w]
     rfl
    refine pure_ (i := 12) (N := (some 17)) (v := ?_) (a' := ?_) (oB 17 16383) rfl rfl (by kernel_rfl) (fun _ _ _ h => h) (Or.inl ⟨by rfl, ?_⟩) ?_ ?_
    rotate_left
    ·intro w'
     go_simp
     with_reducible rfl
    rotate_left
    ·simp only [Act.put, List.setIfInBounds_toArray, List.set_cons_zero, List.set_cons_succ, i64_w, i32_w]
     rfl
    refine one_ (i := 14) (N := (some 4)) (oB 17 32767) rfl rfl (by kernel_rfl) (by decide) (fun K hK => ?_)
    refine box_step ?hg (N := 4) ?hd (cs := #[.int .i64 0, .string (⟨#[]⟩ : ByteArray), .bool false, .bool false, .bool false]) (t := 81) ?hr ?_; (case hd => rfl); (case hg => rfl); (case hr => first | (go_simp; done) | (go_simp; rfl))
    intro g4 hg_ w4 hbox hb
    have No4 := Aside0.mk (show w.heap.size ≤ g4 by rw [hg_]; exact below_size HD.out)
    have e14 := Aside0.mk (show g1 ≠ g4 by rw [hg_]; exact Nat.ne_of_lt (blk_lt K1.out))
    try have e34 := Aside0.mk (show g3 ≠ g4 by rw [hg_]; exact Nat.ne_of_lt (blk_lt K3.out))
    replace K1 := Aside0.mk (blk_below K1.out hb)
    try replace K3 := Aside0.mk (blk_below K3.out hb)
    have K4 := Aside0.mk hbox
    replace HD := Aside0.mk (below_step HD.out hb)
    clear hbox hb hg_
    change K (Act.put _ (some 4) _) _
    refine hK.out _ _ ⟨HD.out, K1.out⟩ (fun hHeld => ?_)
    clear hK K
    refine nM ?_
    exact nJ (hCont (g3, g4) _ ⟨HD.out, K1.out, K3.out, K4.out, No3.out, No4.out, (by first | exact e34.out | exact Ne.symm e34.out), e13.out, e14.out⟩)
   ·skip
    refine box_step ?hg (N := 4) ?hd (cs := #[.int .i64 0, .string (⟨#[]⟩ : ByteArray), .bool false, .bool false, .bool false]) (t := 81) ?hr ?_; (case hd => rfl); (case hg => rfl); (case hr => first | (go_simp; done) | (go_simp; rfl))
    intro g4 hg_ w4 hbox hb
    have No4 := Aside0.mk (show w.heap.size ≤ g4 by rw [hg_]; exact below_size HD.out)
    have e14 := Aside0.mk (show g1 ≠ g4 by rw [hg_]; exact Nat.ne_of_lt (blk_lt K1.out))
    try have e34 := Aside0.mk (show g3 ≠ g4 by rw [hg_]; exact Nat.ne_of_lt (blk_lt K3.out))
    replace K1 := Aside0.mk (blk_below K1.out hb)
    try replace K3 := Aside0.mk (blk_below K3.out hb)
    have K4 := Aside0.mk hbox
    replace HD := Aside0.mk (below_step HD.out hb)
    clear hbox hb hg_
    change K (Act.put _ (some 4) _) _
    refine hK.out _ _ ⟨HD.out, K1.out⟩ (fun hHeld => ?_)
    clear hK K
    refine nM ?_
    refine one_ (i := 9) (N := (some 15)) (oB 17 25599) rfl rfl (by kernel_rfl) (by decide) (fun K hK => ?_)
    refine goes_ Tryd.func40 (by kernel_rfl) rfl #[.int .i64 (rd l 1), .int .i64 (Int.tmod (rd l 0) 10)] (by rfl) rfl rfl (by (try simp only [List.map_toArray, List.map_cons, List.map_nil]); first | done | rfl) ?_
    refine (split_walk k _ _ p _ HP.out (tab_below HT.out HD.out)).mono ?_
    rintro e ws ⟨rfl, hb⟩
    refine ⟨_, rfl, ?_⟩
    replace K1 := Aside0.mk (blk_below K1.out hb)
    replace HD := Aside0.mk (below_step HD.out hb)
    try replace K3 := Aside0.mk (blk_below K3.out hb)
    try replace K4 := Aside0.mk (blk_below K4.out hb)
    clear hb
    change K (Act.put _ (some 15) _) _
    refine hK.out _ _ ⟨HD.out, K1.out⟩ (fun hHeld => ?_)
    clear hK K
    refine nM ?_
    refine pure_ (i := 10) (N := (some 5)) (v := ?_) (a' := ?_) (oB 17 26623) rfl rfl (by kernel_rfl) (fun _ _ _ h => h) (Or.inl ⟨by rfl, ?_⟩) ?_ ?_
    rotate_left
    ·intro w'
     go_simp
     with_reducible rfl
    rotate_left
    ·simp only [Act.put, List.setIfInBounds_toArray, List.set_cons_zero, List.set_cons_succ, i64_w, i32_w]
     rfl
    refine pure_ (i := 11) (N := (some 16)) (v := ?_) (a' := ?_) (oB 17 28671) rfl rfl (by kernel_rfl) (fun _ _ _ h => h) (Or.inl ⟨by rfl, ?_⟩) ?_ ?_
    rotate_left
    ·intro w'
     go_simp
     with_reducible rfl
    rotate_left
    ·simp only [Act.put, List.setIfInBounds_toArray, List.set_cons_zero, List.set_cons_succ, i64_w, i32_w]
     rfl
    refine pure_ (i := 12) (N := (some 17)) (v := ?_) (a' := ?_) (oB 17 32767) rfl rfl (by kernel_rfl) (fun _ _ _ h => h) (Or.inl ⟨by rfl, ?_⟩) ?_ ?_
    rotate_left
    ·intro w'
     go_simp
     with_reducible rfl
    rotate_left
    ·simp only [Act.put, List.setIfInBounds_toArray, List.set_cons_zero, List.set_cons_succ, i64_w, i32_w]
     rfl
    exact nJ (hCont (g3, g4) _ ⟨HD.out, K1.out, K3.out, K4.out, No3.out, No4.out, (by first | exact e34.out | exact Ne.symm e34.out), e13.out, e14.out⟩)
  ·skip
   refine box_step ?hg (N := 4) ?hd (cs := #[.int .i64 0, .string (⟨#[]⟩ : ByteArray), .bool false, .bool false, .bool false]) (t := 81) ?hr ?_; (case hd => rfl); (case hg => rfl); (case hr => first | (go_simp; done) | (go_simp; rfl))
   intro g4 hg_ w4 hbox hb
   have No4 := Aside0.mk (show w.heap.size ≤ g4 by rw [hg_]; exact below_size HD.out)
   have e14 := Aside0.mk (show g1 ≠ g4 by rw [hg_]; exact Nat.ne_of_lt (blk_lt K1.out))
   try have e34 := Aside0.mk (show g3 ≠ g4 by rw [hg_]; exact Nat.ne_of_lt (blk_lt K3.out))
   replace K1 := Aside0.mk (blk_below K1.out hb)
   try replace K3 := Aside0.mk (blk_below K3.out hb)
   have K4 := Aside0.mk hbox
   replace HD := Aside0.mk (below_step HD.out hb)
   clear hbox hb hg_
   change K (Act.put _ (some 4) _) _
   refine hK.out _ _ ⟨HD.out, K1.out⟩ (fun hHeld => ?_)
   clear hK K
   refine nM ?_
   refine two_ (i := 9) (j := 13) (Ni := some 15) (Nj := some 3) (oB 17 17407) (oB 17 25087) rfl rfl rfl rfl (by kernel_rfl) (by decide) (by decide) (fun K hK => ?_) (fun K hK => ?_)
   ·skip
    refine goes_ Tryd.func40 (by kernel_rfl) rfl #[.int .i64 (rd l 1), .int .i64 (Int.tmod (rd l 0) 10)] (by rfl) rfl rfl (by (try simp only [List.map_toArray, List.map_cons, List.map_nil]); first | done | rfl) ?_
    refine (split_walk k _ _ p _ HP.out (tab_below HT.out HD.out)).mono ?_
    rintro e ws ⟨rfl, hb⟩
    refine ⟨_, rfl, ?_⟩
    replace K1 := Aside0.mk (blk_below K1.out hb)
    replace HD := Aside0.mk (below_step HD.out hb)
    try replace K3 := Aside0.mk (blk_below K3.out hb)
    try replace K4 := Aside0.mk (blk_below K4.out hb)
    clear hb
    change K (Act.put _ (some 15) _) _
    refine hK.out _ _ ⟨HD.out, K1.out⟩ (fun hHeld => ?_)
    clear hK K
    refine nM ?_
    refine pure_ (i := 10) (N := (some 5)) (v := ?_) (a' := ?_) (oB 17 18431) rfl rfl (by kernel_rfl) (fun _ _ _ h => h) (Or.inl ⟨by rfl, ?_⟩) ?_ ?_
    rotate_left
    ·intro w'
     go_simp
     with_reducible rfl
    rotate_left
    ·simp only [Act.put, List.setIfInBounds_toArray, List.set_cons_zero, List.set_cons_succ, i64_w, i32_w]
     rfl
    refine pure_ (i := 11) (N := (some 16)) (v := ?_) (a' := ?_) (oB 17 20479) rfl rfl (by kernel_rfl) (fun _ _ _ h => h) (Or.inl ⟨by rfl, ?_⟩) ?_ ?_
    rotate_left
    ·intro w'
     go_simp
     with_reducible rfl
    rotate_left
    ·simp only [Act.put, List.setIfInBounds_toArray, List.set_cons_zero, List.set_cons_succ, i64_w, i32_w]
     rfl
    refine pure_ (i := 12) (N := (some 17)) (v := ?_) (a' := ?_) (oB 17 24575) rfl rfl (by kernel_rfl) (fun _ _ _ h => h) (Or.inl ⟨by rfl, ?_⟩) ?_ ?_
    rotate_left
    ·intro w'
     go_simp
     with_reducible rfl
    rotate_left
    ·simp only [Act.put, List.setIfInBounds_toArray, List.set_cons_zero, List.set_cons_succ, i64_w, i32_w]
     rfl
    refine one_ (i := 13) (N := (some 3)) (oB 17 32767) rfl rfl (by kernel_rfl) (by decide) (fun K hK => ?_)
    refine box_step ?hg (N := 3) ?hd (cs := #[.int .i64 0, .string (⟨#[]⟩ : ByteArray), .bool false, .bool false, .bool false]) (t := 81) ?hr ?_; (case hd => rfl); (case hg => rfl); (case hr => first | (go_simp; done) | (go_simp; rfl))
    intro g3 hg_ w3 hbox hb
    have No3 := Aside0.mk (show w.heap.size ≤ g3 by rw [hg_]; exact below_size HD.out)
    have e13 := Aside0.mk (show g1 ≠ g3 by rw [hg_]; exact Nat.ne_of_lt (blk_lt K1.out))
    try have e34 := Aside0.mk (show g4 ≠ g3 by rw [hg_]; exact Nat.ne_of_lt (blk_lt K4.out))
    replace K1 := Aside0.mk (blk_below K1.out hb)
    try replace K4 := Aside0.mk (blk_below K4.out hb)
    have K3 := Aside0.mk hbox
    replace HD := Aside0.mk (below_step HD.out hb)
    clear hbox hb hg_
    change K (Act.put _ (some 3) _) _
    refine hK.out _ _ ⟨HD.out, K1.out⟩ (fun hHeld => ?_)
    clear hK K
    refine nM ?_
    exact nJ (hCont (g3, g4) _ ⟨HD.out, K1.out, K3.out, K4.out, No3.out, No4.out, (by first | exact e34.out | exact Ne.symm e34.out), e13.out, e14.out⟩)
   ·skip
    refine box_step ?hg (N := 3) ?hd (cs := #[.int .i64 0, .string (⟨#[]⟩ : ByteArray), .bool false, .bool false, .bool false]) (t := 81) ?hr ?_; (case hd => rfl); (case hg => rfl); (case hr => first | (go_simp; done) | (go_simp; rfl))
    intro g3 hg_ w3 hbox hb
    have No3 := Aside0.mk (show w.heap.size ≤ g3 by rw [hg_]; exact below_size HD.out)
    have e13 := Aside0.mk (show g1 ≠ g3 by rw [hg_]; exact Nat.ne_of_lt (blk_lt K1.out))
    try have e34 := Aside0.mk (show g4 ≠ g3 by rw [hg_]; exact Nat.ne_of_lt (blk_lt K4.out))
    replace K1 := Aside0.mk (blk_below K1.out hb)
    try replace K4 := Aside0.mk (blk_below K4.out hb)
    have K3 := Aside0.mk hbox
    replace HD := Aside0.mk (below_step HD.out hb)
    clear hbox hb hg_
    change K (Act.put _ (some 3) _) _
    refine hK.out _ _ ⟨HD.out, K1.out⟩ (fun hHeld => ?_)
    clear hK K
    refine nM ?_
    refine one_ (i := 9) (N := (some 15)) (oB 17 25599) rfl rfl (by kernel_rfl) (by decide) (fun K hK => ?_)
    refine goes_ Tryd.func40 (by kernel_rfl) rfl #[.int .i64 (rd l 1), .int .i64 (Int.tmod (rd l 0) 10)] (by rfl) rfl rfl (by (try simp only [List.map_toArray, List.map_cons, List.map_nil]); first | done | rfl) ?_
    refine (split_walk k _ _ p _ HP.out (tab_below HT.out HD.out)).mono ?_
    rintro e ws ⟨rfl, hb⟩
    refine ⟨_, rfl, ?_⟩
    replace K1 := Aside0.mk (blk_below K1.out hb)
    replace HD := Aside0.mk (below_step HD.out hb)
    try replace K3 := Aside0.mk (blk_below K3.out hb)
    try replace K4 := Aside0.mk (blk_below K4.out hb)
    clear hb
    change K (Act.put _ (some 15) _) _
    refine hK.out _ _ ⟨HD.out, K1.out⟩ (fun hHeld => ?_)
    clear hK K
    refine nM ?_
    refine pure_ (i := 10) (N := (some 5)) (v := ?_) (a' := ?_) (oB 17 26623) rfl rfl (by kernel_rfl) (fun _ _ _ h => h) (Or.inl ⟨by rfl, ?_⟩) ?_ ?_
    rotate_left
    ·intro w'
     go_simp
     with_reducible rfl
    rotate_left
    ·simp only [Act.put, List.setIfInBounds_toArray, List.set_cons_zero, List.set_cons_succ, i64_w, i32_w]
     rfl
    refine pure_ (i := 11) (N := (some 16)) (v := ?_) (a' := ?_) (oB 17 28671) rfl rfl (by kernel_rfl) (fun _ _ _ h => h) (Or.inl ⟨by rfl, ?_⟩) ?_ ?_
    rotate_left
    ·intro w'
     go_simp
     with_reducible rfl
    rotate_left
    ·simp only [Act.put, List.setIfInBounds_toArray, List.set_cons_zero, List.set_cons_succ, i64_w, i32_w]
     rfl
    refine pure_ (i := 12) (N := (some 17)) (v := ?_) (a' := ?_) (oB 17 32767) rfl rfl (by kernel_rfl) (fun _ _ _ h => h) (Or.inl ⟨by rfl, ?_⟩) ?_ ?_
    rotate_left
    ·intro w'
     go_simp
     with_reducible rfl
    rotate_left
    ·simp only [Act.put, List.setIfInBounds_toArray, List.set_cons_zero, List.set_cons_succ, i64_w, i32_w]
     rfl
    exact nJ (hCont (g3, g4) _ ⟨HD.out, K1.out, K3.out, K4.out, No3.out, No4.out, (by first | exact e34.out | exact Ne.symm e34.out), e13.out, e14.out⟩)
 clear K1 HD hHeld
 rintro ⟨g3, g4⟩ wj ⟨hD, hK1, hK3, hK4, hN3, hN4, e3_4, e13, e14⟩
 have e4_3 := Ne.symm e3_4
 have HD := Aside0.mk hD
 have K1 := Aside0.mk hK1
 have K3 := Aside0.mk hK3
 have K4 := Aside0.mk hK4
 have No3 := Aside0.mk hN3
 have No4 := Aside0.mk hN4
 clear hD hK1 hK3 hK4 hN3 hN4
 refine norm_ (a' := ?_) ?_ ?_
 rotate_left
 ·simp only [putAll, Act.put, List.setIfInBounds_toArray, List.set_cons_zero, List.set_cons_succ]
  rfl
 refine one_ (i := 15) (N := none) (oB 17 65535) rfl rfl (by kernel_rfl) (by decide) (fun K hK => ?_)
 have y3_0 : wj.cell? ⟨g3, 0, none⟩ = some (.int .i64 0) := (blk_cell K3.out 0).trans rfl
 have f3_0 := blk_frozen K3.out 0
 have y3_1 : wj.cell? ⟨g3, 1, none⟩ = some (.string (⟨#[]⟩ : ByteArray)) := (blk_cell K3.out 1).trans rfl
 have f3_1 := blk_frozen K3.out 1
 have y3_2 : wj.cell? ⟨g3, 2, none⟩ = some (.bool false) := (blk_cell K3.out 2).trans rfl
 have f3_2 := blk_frozen K3.out 2
 have y3_3 : wj.cell? ⟨g3, 3, none⟩ = some (.bool false) := (blk_cell K3.out 3).trans rfl
 have f3_3 := blk_frozen K3.out 3
 have y3_4 : wj.cell? ⟨g3, 4, none⟩ = some (.bool false) := (blk_cell K3.out 4).trans rfl
 have f3_4 := blk_frozen K3.out 4
 refine skip_ (w1 := ?_) (by rfl) rfl ?_ ?_
 rotate_left
 ·go_simp
  rfl
 clear y3_0 f3_0 y3_1 f3_1 y3_2 f3_2 y3_3 f3_3 y3_4 f3_4
 change K _ (fset5 wj g3 (.int .i64 p.1.f0) (.string p.1.f1) (.bool p.1.f2) (.bool p.1.f3) (.bool p.1.f4))
 replace K1 := Aside0.mk ((fset5_far wj g3 g1 (.int .i64 p.1.f0) (.string p.1.f1) (.bool p.1.f2) (.bool p.1.f3) (.bool p.1.f4) e13).trans K1.out)
 replace K4 := Aside0.mk ((fset5_far wj g3 g4 (.int .i64 p.1.f0) (.string p.1.f1) (.bool p.1.f2) (.bool p.1.f3) (.bool p.1.f4) e4_3).trans K4.out)
 replace K3 := Aside0.mk (fset5_blk K3.out (.int .i64 p.1.f0) (.string p.1.f1) (.bool p.1.f2) (.bool p.1.f3) (.bool p.1.f4))
 replace HD := Aside0.mk (fset5_below HD.out No3.out (.int .i64 p.1.f0) (.string p.1.f1) (.bool p.1.f2) (.bool p.1.f3) (.bool p.1.f4))
 generalize (fset5 wj g3 (.int .i64 p.1.f0) (.string p.1.f1) (.bool p.1.f2) (.bool p.1.f3) (.bool p.1.f4)) = wjx at K1 K3 K4 HD ⊢
 refine hK.out _ _ ⟨HD.out, K1.out⟩ (fun hHeld => ?_)
 clear hK K
 refine one_ (i := 16) (N := none) (oB 17 131071) rfl rfl (by kernel_rfl) (by decide) (fun K hK => ?_)
 have y4_0 : wjx.cell? ⟨g4, 0, none⟩ = some (.int .i64 0) := (blk_cell K4.out 0).trans rfl
 have f4_0 := blk_frozen K4.out 0
 have y4_1 : wjx.cell? ⟨g4, 1, none⟩ = some (.string (⟨#[]⟩ : ByteArray)) := (blk_cell K4.out 1).trans rfl
 have f4_1 := blk_frozen K4.out 1
 have y4_2 : wjx.cell? ⟨g4, 2, none⟩ = some (.bool false) := (blk_cell K4.out 2).trans rfl
 have f4_2 := blk_frozen K4.out 2
 have y4_3 : wjx.cell? ⟨g4, 3, none⟩ = some (.bool false) := (blk_cell K4.out 3).trans rfl
 have f4_3 := blk_frozen K4.out 3
 have y4_4 : wjx.cell? ⟨g4, 4, none⟩ = some (.bool false) := (blk_cell K4.out 4).trans rfl
 have f4_4 := blk_frozen K4.out 4
 refine skip_ (w1 := ?_) (by rfl) rfl ?_ ?_
 rotate_left
 ·go_simp
  rfl
 clear y4_0 f4_0 y4_1 f4_1 y4_2 f4_2 y4_3 f4_3 y4_4 f4_4
 change K _ (fset5 wjx g4 (.int .i64 p.2.f0) (.string p.2.f1) (.bool p.2.f2) (.bool p.2.f3) (.bool p.2.f4))
 replace K1 := Aside0.mk ((fset5_far wjx g4 g1 (.int .i64 p.2.f0) (.string p.2.f1) (.bool p.2.f2) (.bool p.2.f3) (.bool p.2.f4) e14).trans K1.out)
 replace K3 := Aside0.mk ((fset5_far wjx g4 g3 (.int .i64 p.2.f0) (.string p.2.f1) (.bool p.2.f2) (.bool p.2.f3) (.bool p.2.f4) e3_4).trans K3.out)
 replace K4 := Aside0.mk (fset5_blk K4.out (.int .i64 p.2.f0) (.string p.2.f1) (.bool p.2.f2) (.bool p.2.f3) (.bool p.2.f4))
 replace HD := Aside0.mk (fset5_below HD.out No4.out (.int .i64 p.2.f0) (.string p.2.f1) (.bool p.2.f2) (.bool p.2.f3) (.bool p.2.f4))
 generalize (fset5 wjx g4 (.int .i64 p.2.f0) (.string p.2.f1) (.bool p.2.f2) (.bool p.2.f3) (.bool p.2.f4)) = wjxx at K1 K3 K4 HD ⊢
 refine hK.out _ _ ⟨HD.out, K1.out⟩ (fun hHeld => ?_)
 clear hK K
 refine done_ (by kernel_rfl) ?_
 clear hHeld
 have y3_0 : wjxx.cell? ⟨g3, 0, none⟩ = some (.int .i64 p.1.f0) := (blk_cell K3.out 0).trans rfl
 have f3_0 := blk_frozen K3.out 0
 have y3_1 : wjxx.cell? ⟨g3, 1, none⟩ = some (.string p.1.f1) := (blk_cell K3.out 1).trans rfl
 have f3_1 := blk_frozen K3.out 1
 have y3_2 : wjxx.cell? ⟨g3, 2, none⟩ = some (.bool p.1.f2) := (blk_cell K3.out 2).trans rfl
 have f3_2 := blk_frozen K3.out 2
 have y3_3 : wjxx.cell? ⟨g3, 3, none⟩ = some (.bool p.1.f3) := (blk_cell K3.out 3).trans rfl
 have f3_3 := blk_frozen K3.out 3
 have y3_4 : wjxx.cell? ⟨g3, 4, none⟩ = some (.bool p.1.f4) := (blk_cell K3.out 4).trans rfl
 have f3_4 := blk_frozen K3.out 4
 have y4_0 : wjxx.cell? ⟨g4, 0, none⟩ = some (.int .i64 p.2.f0) := (blk_cell K4.out 0).trans rfl
 have f4_0 := blk_frozen K4.out 0
 have y4_1 : wjxx.cell? ⟨g4, 1, none⟩ = some (.string p.2.f1) := (blk_cell K4.out 1).trans rfl
 have f4_1 := blk_frozen K4.out 1
 have y4_2 : wjxx.cell? ⟨g4, 2, none⟩ = some (.bool p.2.f2) := (blk_cell K4.out 2).trans rfl
 have f4_2 := blk_frozen K4.out 2
 have y4_3 : wjxx.cell? ⟨g4, 3, none⟩ = some (.bool p.2.f3) := (blk_cell K4.out 3).trans rfl
 have f4_3 := blk_frozen K4.out 3
 have y4_4 : wjxx.cell? ⟨g4, 4, none⟩ = some (.bool p.2.f4) := (blk_cell K4.out 4).trans rfl
 have f4_4 := blk_frozen K4.out 4
 go_wp2_with fail
 replace K1 := Aside0.mk (show (wjxx.setCell ⟨g4, 4, none⟩ (.bool true)).heap[g1]? = _ from blk_far K1.out e14 _)
 replace K3 := Aside0.mk (show (wjxx.setCell ⟨g4, 4, none⟩ (.bool true)).heap[g3]? = _ from blk_far K3.out e3_4 _)
 replace K4 := Aside0.mk (show (wjxx.setCell ⟨g4, 4, none⟩ (.bool true)).heap[g4]? = some (.cells #[.int .i64 p.2.f0, .string p.2.f1, .bool p.2.f2, .bool p.2.f3, .bool true] 81 (0, 0)) from blk_set K4.out 4 (.bool true))
 replace HD := Aside0.mk (show Below w.heap.size w (wjxx.setCell ⟨g4, 4, none⟩ (.bool true)) from below_set HD.out No4.out)
 clear y3_0 f3_0 y3_1 f3_1 y3_2 f3_2 y3_3 f3_3 y3_4 f3_4 y4_0 f4_0 y4_1 f4_1 y4_2 f4_2 y4_3 f4_3 y4_4 f4_4 
 change Code.wp _ _ _ _ (wjxx.setCell ⟨g4, 4, none⟩ (.bool true))
 generalize (wjxx.setCell ⟨g4, 4, none⟩ (.bool true)) = W at K1 K3 K4 HD ⊢
 replace HD := Aside0.mk (below_drew HD.out)
 replace K1 := Aside0.mk (blk_drew K1.out)
 replace K3 := Aside0.mk (blk_drew K3.out)
 replace K4 := Aside0.mk (blk_drew K4.out)
 refine start_ (n := 9) (S := fun w' => Below w.heap.size w w' ∧ w'.heap[g1]? = some (.cells #[.int .i64 kd, .slice (some ad) l.length c] 71 (0, 0)) ∧ w'.heap[g3]? = some (.cells #[.int .i64 p.1.f0, .string p.1.f1, .bool p.1.f2, .bool p.1.f3, .bool p.1.f4] 81 (0, 0)) ∧ w'.heap[g4]? = some (.cells #[.int .i64 p.2.f0, .string p.2.f1, .bool p.2.f2, .bool p.2.f3, .bool true] 81 (0, 0))) (ds := []) #[false, false, false, false, false, false, false, false, false] (by kernel_rfl) rfl rfl ⟨HD.out, K1.out, K3.out, K4.out⟩ (fun hHeld => ?_)
 generalize World.drew _ = we at HD K1 K3 K4 hHeld ⊢
 refine pure_ (i := 0) (N := (some 19)) (v := ?_) (a' := ?_) (oB 9 1) rfl rfl (by kernel_rfl) (fun _ _ _ h => h) (Or.inl ⟨by rfl, ?_⟩) ?_ ?_
 rotate_left
 ·intro w'
  go_simp
  with_reducible rfl
 rotate_left
 ·simp only [Act.put, List.setIfInBounds_toArray, List.set_cons_zero, List.set_cons_succ, i64_w, i32_w]
  rfl
 refine take_ (i := 1) (N := (some 20)) (v := ?_) (a' := ?_) (oB 9 3) rfl rfl (by kernel_rfl) (fun _ _ _ h => h) (Or.inl ⟨by rfl, ?_⟩) hHeld ?_ ?_
 rotate_left
 ·rintro w' ⟨hB_, hK_, hK3_, hK4_⟩
  have s0 : w'.cell? ⟨g1, 1, none⟩ = some (.slice (some ad) l.length c) := (blk_cell hK_ 1).trans rfl
  have s1 := pw_cell_below hB_ Yo0.out
  go_simp
  with_reducible rfl
 rotate_left
 ·simp only [Act.put, List.setIfInBounds_toArray, List.set_cons_zero, List.set_cons_succ, i64_w, i32_w]
  rfl
 refine pure_ (i := 2) (N := (some 21)) (v := ?_) (a' := ?_) (oB 9 7) rfl rfl (by kernel_rfl) (fun _ _ _ h => h) (Or.inl ⟨by rfl, ?_⟩) ?_ ?_
 rotate_left
 ·intro w'
  go_simp
  with_reducible rfl
 rotate_left
 ·simp only [Act.put, List.setIfInBounds_toArray, List.set_cons_zero, List.set_cons_succ, i64_w, i32_w]
  rfl
 refine take_ (i := 3) (N := (some 22)) (v := ?_) (a' := ?_) (oB 9 15) rfl rfl (by kernel_rfl) (fun _ _ _ h => h) (Or.inl ⟨by rfl, ?_⟩) hHeld ?_ ?_
 rotate_left
 ·rintro w' ⟨hB_, hK_, hK3_, hK4_⟩
  have s0 : w'.cell? ⟨g1, 1, none⟩ = some (.slice (some ad) l.length c) := (blk_cell hK_ 1).trans rfl
  have s1 := pw_cell_below hB_ Yo0.out
  go_simp
  with_reducible rfl
 rotate_left
 ·simp only [Act.put, List.setIfInBounds_toArray, List.set_cons_zero, List.set_cons_succ, i64_w, i32_w]
  rfl
 refine take_ (i := 5) (N := (some 24)) (v := ?_) (a' := ?_) (oB 9 47) rfl rfl (by kernel_rfl) (fun _ _ _ h => h) (Or.inl ⟨by rfl, ?_⟩) hHeld ?_ ?_
 rotate_left
 ·rintro w' ⟨hB_, hK_, hK3_, hK4_⟩
  have s0 : w'.cell? ⟨g3, 0, none⟩ = some (.int .i64 p.1.f0) := (blk_cell hK3_ 0).trans rfl
  have s1 : w'.cell? ⟨g3, 1, none⟩ = some (.string p.1.f1) := (blk_cell hK3_ 1).trans rfl
  have s2 : w'.cell? ⟨g3, 2, none⟩ = some (.bool p.1.f2) := (blk_cell hK3_ 2).trans rfl
  have s3 : w'.cell? ⟨g3, 3, none⟩ = some (.bool p.1.f3) := (blk_cell hK3_ 3).trans rfl
  have s4 : w'.cell? ⟨g3, 4, none⟩ = some (.bool p.1.f4) := (blk_cell hK3_ 4).trans rfl
  go_simp
  with_reducible rfl
 rotate_left
 ·simp only [Act.put, List.setIfInBounds_toArray, List.set_cons_zero, List.set_cons_succ, i64_w, i32_w]
  rfl
 refine take_ (i := 6) (N := (some 25)) (v := ?_) (a' := ?_) (oB 9 111) rfl rfl (by kernel_rfl) (fun _ _ _ h => h) (Or.inl ⟨by rfl, ?_⟩) hHeld ?_ ?_
 rotate_left
 ·rintro w' ⟨hB_, hK_, hK3_, hK4_⟩
  have s0 : w'.cell? ⟨g4, 0, none⟩ = some (.int .i64 p.2.f0) := (blk_cell hK4_ 0).trans rfl
  have s1 : w'.cell? ⟨g4, 1, none⟩ = some (.string p.2.f1) := (blk_cell hK4_ 1).trans rfl
  have s2 : w'.cell? ⟨g4, 2, none⟩ = some (.bool p.2.f2) := (blk_cell hK4_ 2).trans rfl
  have s3 : w'.cell? ⟨g4, 3, none⟩ = some (.bool p.2.f3) := (blk_cell hK4_ 3).trans rfl
  have s4 : w'.cell? ⟨g4, 4, none⟩ = some (.bool true) := (blk_cell hK4_ 4).trans rfl
  go_simp
  with_reducible rfl
 rotate_left
 ·simp only [Act.put, List.setIfInBounds_toArray, List.set_cons_zero, List.set_cons_succ, i64_w, i32_w]
  rfl
 refine one_ (i := 4) (N := (some 23)) (oB 9 127) rfl rfl (by kernel_rfl) (by decide) (fun K hK => ?_)
 refine goes_ Tryd.func39 (by kernel_rfl) rfl #[.int .i64 (rd l 0)] (by rfl) rfl rfl (by (try simp only [List.map_toArray, List.map_cons, List.map_nil]); first | done | rfl) ?_
 refine (plain_walk _ a _ HA.out (tab_below HT.out HD.out)).mono ?_
 rintro e wp ⟨rfl, hb⟩
 refine ⟨_, rfl, ?_⟩
 replace K1 := Aside0.mk (blk_below K1.out hb)
 replace K3 := Aside0.mk (blk_below K3.out hb)
 replace K4 := Aside0.mk (blk_below K4.out hb)
 replace HD := Aside0.mk (below_step HD.out hb)
 clear hb
 change K (Act.put _ (some 23) _) _
 refine hK.out _ _ ⟨HD.out, K1.out, K3.out, K4.out⟩ (fun hHeld => ?_)
 clear hK K
 refine nM ?_
 refine one_ (i := 7) (N := (some 26)) (oB 9 255) rfl rfl (by kernel_rfl) (by decide) (fun K hK => ?_)
 refine Kd.R_lit_step k81 _ 81 ?hg (N := 26) ?hd (xs := [a, p.1, (⟨p.2.f0, p.2.f1, p.2.f2, p.2.f3, true⟩ : S81)]) (inner := [.int .i64 a.f0, .string a.f1, .bool a.f2, .bool a.f3, .bool a.f4, .int .i64 p.1.f0, .string p.1.f1, .bool p.1.f2, .bool p.1.f3, .bool p.1.f4, .int .i64 p.2.f0, .string p.2.f1, .bool p.2.f2, .bool p.2.f3, .bool true]) (ok := fun _ => True) (okp := fun _ => True) ?hr ?hp (fun _ hk => hk) trivial (Below.refl _ _) (Nat.le_refl _) (by simp) ?_; (case hd => rfl); (case hg => rfl); (case hr => first | (go_simp; done) | (go_simp; rfl)); (case hp => exact (Reps.c5 (k81_mkM _ _ _ a) (Reps.c5 (k81_mkM _ _ _ p.1) (Reps.c5 (k81_mkM _ _ _ (⟨p.2.f0, p.2.f1, p.2.f2, p.2.f3, true⟩ : S81)) (Reps.none _ _)))))
 intro vr wr ho hb hg_ hnew_
 clear hg_ hnew_
 have HR := Aside0.mk (Kd.R_lower ho (below_size HD.out))
 replace K1 := Aside0.mk (blk_below K1.out hb)
 replace K3 := Aside0.mk (blk_below K3.out hb)
 replace K4 := Aside0.mk (blk_below K4.out hb)
 replace HD := Aside0.mk (below_step HD.out hb)
 clear ho hb
 change K (Act.put _ (some 26) _) _
 refine hK.out _ _ ⟨HD.out, K1.out, K3.out, K4.out⟩ (fun hHeld => ?_)
 clear hK K
 refine nM ?_
 refine pure_ (i := 8) (N := (some 2)) (v := ?_) (a' := ?_) (oB 9 511) rfl rfl (by kernel_rfl) (fun _ _ _ h => h) (Or.inl ⟨by rfl, ?_⟩) ?_ ?_
 rotate_left
 ·intro w'
  go_simp
  with_reducible rfl
 rotate_left
 ·simp only [Act.put, List.setIfInBounds_toArray, List.set_cons_zero, List.set_cons_succ, i64_w, i32_w]
  rfl
 refine done_ (by kernel_rfl) ?_
 go_wp2
 go_ret
 exact ⟨vr, rfl, by rw [← HE.out]; exact HR.out, HD.out⟩
set_option maxHeartbeats 8000000 in
set_option maxRecDepth 100000 in
theorem dur_walk (k : Nat) (kd : Int) (A : Option Addr) (c : Nat) (l : List Int) (r : List S81) (w : World) (hC : Kd.C (Kd.int .i64) w A l.length l) (h : durF l = some r) (hT_ : TabOK w) :
  Calls Tryd.prog 28 #[.agg #[.int .i64 kd, .slice A l.length c]] w fun e w' => ∃ v : Value, e = .returned v ∧ Kd.R k81 81 w' w.heap.size (fun _ => True) v r ∧ Below w.heap.size w w' := by
 have hu81 := Tryd.underlying81
 have hu71 := Tryd.underlying71
 have hu36 := Tryd.underlying36
 have HT := Aside0.mk hT_
 have HD := Aside0.mk (Below.refl w.heap.size w)
 clear hT_
 by_cases c1 : 0 < l.length
 rotate_left
 ·rw [durF, if_neg c1] at h
  cases h
 rw [durF, if_pos c1] at h
 obtain ⟨ad, e, y0⟩ := Kd.at_int hC 0 (by decide) (by omega)
 rw [show ((0 : Int)).toNat = 0 from rfl, Addr.add_zero'] at y0
 subst e
 obtain ⟨fa, hfa, h⟩ := Option.bind_eq_some_iff.mp h
 have Hfa := Aside0.mk hfa
 clear hfa
 obtain ⟨fb, hfb, h⟩ := Option.bind_eq_some_iff.mp h
 have Hfb := Aside0.mk hfb
 clear hfb
 obtain ⟨fc, hfc, h⟩ := Option.bind_eq_some_iff.mp h
 have Hfc := Aside0.mk hfc
 clear hfc
 obtain ⟨fd, hfd, h⟩ := Option.bind_eq_some_iff.mp h
 have Hfd := Aside0.mk hfd
 clear hfd
 have e := Option.some.inj h
 have HE := Aside0.mk e
 have Yo0 := Aside0.mk y0
 have k0 : (0 < l.length) = True := eq_true (by omega)
 have k2 : ((0 : Int) < (l.length : Int)) = True := eq_true (by omega)
 clear h e c1 hC y0
 go_enter Tryd.func28, Tryd.ntmps28
 go_wp2_with (first
  | ((with_reducible refine gate_dst (N := 1) rfl ?_); refine box_event ?hg (N := 1) ?hd (cs := #[.int .i64 kd, .slice (some ad) l.length c]) (t := 71) ?hr ?_; (case hd => rfl); (case hg => rfl); (case hr => first | (go_simp; done) | (go_simp; rfl)); intro g1 hg_ w1 hbox hb; have No1 := Aside0.mk (show w.heap.size ≤ g1 by rw [hg_]; exact below_size HD.out); have K1 := Aside0.mk hbox; replace HD := Aside0.mk (below_step HD.out hb); clear hbox hb hg_; have s0 : w1.cell? ⟨g1, 1, none⟩ = some (.slice (some ad) l.length c) := (blk_cell K1.out 1).trans rfl; have s1 := pw_cell_below HD.out Yo0.out)
  | (go_at_call 39; (with_reducible refine (plain_walk _ fa _ Hfa.out (tab_below HT.out HD.out)).mono ?_); rintro e wfa ⟨rfl, hb⟩; replace HD := Aside0.mk (below_step HD.out hb); clear hb)
  | (go_at_call 39; (with_reducible refine (plain_walk _ fb _ Hfb.out (tab_below HT.out HD.out)).mono ?_); rintro e wfb ⟨rfl, hb⟩; replace HD := Aside0.mk (below_step HD.out hb); clear hb)
  | (go_at_call 39; (with_reducible refine (plain_walk _ fc _ Hfc.out (tab_below HT.out HD.out)).mono ?_); rintro e wfc ⟨rfl, hb⟩; replace HD := Aside0.mk (below_step HD.out hb); clear hb)
  | (go_at_call 39; (with_reducible refine (plain_walk _ fd _ Hfd.out (tab_below HT.out HD.out)).mono ?_); rintro e wfd ⟨rfl, hb⟩; replace HD := Aside0.mk (below_step HD.out hb); clear hb)
  | ((with_reducible refine gate_dst (N := 20) rfl ?_); refine Kd.R_lit k81 _ 81 ?hg (N := 20) ?hd (xs := [fa, fb, fc, fd]) (inner := [.int .i64 fa.f0, .string fa.f1, .bool fa.f2, .bool fa.f3, .bool fa.f4, .int .i64 fb.f0, .string fb.f1, .bool fb.f2, .bool fb.f3, .bool fb.f4, .int .i64 fc.f0, .string fc.f1, .bool fc.f2, .bool fc.f3, .bool fc.f4, .int .i64 fd.f0, .string fd.f1, .bool fd.f2, .bool fd.f3, .bool fd.f4]) (ok := fun _ => True) (okp := fun _ => True) ?hr ?hp (fun _ hk => hk) trivial (Below.refl _ _) (Nat.le_refl _) (by simp) ?_; (case hd => rfl); (case hg => rfl); (case hr => first | (go_simp; done) | (go_simp; rfl)); (case hp => exact (Reps.c5 (k81_mkM _ _ _ fa) (Reps.c5 (k81_mkM _ _ _ fb) (Reps.c5 (k81_mkM _ _ _ fc) (Reps.c5 (k81_mkM _ _ _ fd) (Reps.none _ _)))))); intro vr wr ho hb hg_ hnew_; clear hg_ hnew_; have HR := Aside0.mk ho; have HE2 := Aside0.mk hb; clear ho hb))
 go_ret
 exact ⟨vr, rfl, by rw [← HE.out]; exact Kd.R_lower HR.out (below_size HD.out), below_step HD.out HE2.out⟩
def fieldsF (k : Nat) (kd : Int) (l : List Int) : Option (List S81) :=
 if kd = 7 then decimalF k l else if kd = 8 then moneyF k l else if kd = 9 then durF l else render_value_plains.f k kd l
set_option maxHeartbeats 8000000 in
set_option maxRecDepth 100000 in
theorem fields_walk (k : Nat) (kd : Int) (A : Option Addr) (c : Nat) (l : List Int) (r : List S81) (w : World) (hC : Kd.C (Kd.int .i64) w A l.length l) (hc : l.length ≤ c) (h : fieldsF k kd l = some r) (hT_ : TabOK w) :
  Calls Tryd.prog 14 #[.agg #[.int .i64 kd, .slice A l.length c]] w fun e w' => ∃ v : Value, e = .returned v ∧ Kd.R k81 81 w' w.heap.size (fun _ => True) v r ∧ Below w.heap.size w w' := by
 have hu38 := Tryd.underlying38
 have HT := Aside0.mk hT_
 have HD := Aside0.mk (Below.refl w.heap.size w)
 have HC := Aside0.mk hC
 have HCC := Aside0.mk hc
 clear hT_ hC hc
 rw [fieldsF] at h
 by_cases c7 : kd = 7
 ·rw [if_pos c7] at h
  have d7 : (kd == 7) = true := beq_iff_eq.mpr c7
  clear c7
  have H := Aside0.mk h
  clear h
  go_enter Tryd.func14, Tryd.ntmps14
  go_wp2_with (first
   | ((with_reducible refine gate_dst (N := 1) rfl ?_); refine box_event ?hg (N := 1) ?hd (cs := #[.int .i64 kd, .slice A l.length c]) (t := 38) ?hr ?_; (case hd => rfl); (case hg => rfl); (case hr => first | (go_simp; done) | (go_simp; rfl)); intro g1 hg_ w1 hbox hb; have No1 := Aside0.mk (show w.heap.size ≤ g1 by rw [hg_]; exact below_size HD.out); have K1 := Aside0.mk hbox; replace HD := Aside0.mk (below_step HD.out hb); clear hbox hb hg_; have s0 : w1.cell? ⟨g1, 0, none⟩ = some (.int .i64 kd) := (blk_cell K1.out 0).trans rfl; have s1 : w1.cell? ⟨g1, 1, none⟩ = some (.slice A l.length c) := (blk_cell K1.out 1).trans rfl)
   | ((with_reducible refine gate_dyn (sl := 12) rfl ?_); refine goesV_ (some 14) rfl rfl 12 #[] #[] Tryd.func26 (by kernel_rfl) rfl #[.agg #[.int .i64 kd, .slice A l.length c]] rfl rfl (by (try simp only [List.map_toArray, List.map_cons, List.map_nil]); first | done | rfl | (simp <;> rfl)) ?_; (with_reducible refine (decimal_walk k kd _ c l r _ (Kd.C_below HC.out HD.out) H.out (tab_below HT.out HD.out)).mono ?_); rintro e wz ⟨v, rfl, ho, hb⟩; refine ⟨_, rfl, ?_⟩; have HR := Aside0.mk (Kd.R_lower ho (below_size HD.out)); replace HD := Aside0.mk (below_step HD.out hb); clear ho hb))
  go_ret
  exact ⟨v, rfl, HR.out, HD.out⟩
 rw [if_neg c7] at h
 have d7 : (kd == 7) = false := beq_eq_false_iff_ne.mpr c7
 clear c7
 by_cases c8 : kd = 8
 ·rw [if_pos c8] at h
  have d8 : (kd == 8) = true := beq_iff_eq.mpr c8
  clear c8
  have H := Aside0.mk h
  clear h
  go_enter Tryd.func14, Tryd.ntmps14
  go_wp2_with (first
   | ((with_reducible refine gate_dst (N := 1) rfl ?_); refine box_event ?hg (N := 1) ?hd (cs := #[.int .i64 kd, .slice A l.length c]) (t := 38) ?hr ?_; (case hd => rfl); (case hg => rfl); (case hr => first | (go_simp; done) | (go_simp; rfl)); intro g1 hg_ w1 hbox hb; have No1 := Aside0.mk (show w.heap.size ≤ g1 by rw [hg_]; exact below_size HD.out); have K1 := Aside0.mk hbox; replace HD := Aside0.mk (below_step HD.out hb); clear hbox hb hg_; have s0 : w1.cell? ⟨g1, 0, none⟩ = some (.int .i64 kd) := (blk_cell K1.out 0).trans rfl; have s1 : w1.cell? ⟨g1, 1, none⟩ = some (.slice A l.length c) := (blk_cell K1.out 1).trans rfl)
   | ((with_reducible refine gate_dyn (sl := 12) rfl ?_); refine goesV_ (some 14) rfl rfl 12 #[] #[] Tryd.func27 (by kernel_rfl) rfl #[.agg #[.int .i64 kd, .slice A l.length c]] rfl rfl (by (try simp only [List.map_toArray, List.map_cons, List.map_nil]); first | done | rfl | (simp <;> rfl)) ?_; (with_reducible refine (money_walk k kd _ c l r _ (Kd.C_below HC.out HD.out) H.out (tab_below HT.out HD.out)).mono ?_); rintro e wz ⟨v, rfl, ho, hb⟩; refine ⟨_, rfl, ?_⟩; have HR := Aside0.mk (Kd.R_lower ho (below_size HD.out)); replace HD := Aside0.mk (below_step HD.out hb); clear ho hb))
  go_ret
  exact ⟨v, rfl, HR.out, HD.out⟩
 rw [if_neg c8] at h
 have d8 : (kd == 8) = false := beq_eq_false_iff_ne.mpr c8
 clear c8
 by_cases c9 : kd = 9
 ·rw [if_pos c9] at h
  have d9 : (kd == 9) = true := beq_iff_eq.mpr c9
  clear c9
  have H := Aside0.mk h
  clear h
  go_enter Tryd.func14, Tryd.ntmps14
  go_wp2_with (first
   | ((with_reducible refine gate_dst (N := 1) rfl ?_); refine box_event ?hg (N := 1) ?hd (cs := #[.int .i64 kd, .slice A l.length c]) (t := 38) ?hr ?_; (case hd => rfl); (case hg => rfl); (case hr => first | (go_simp; done) | (go_simp; rfl)); intro g1 hg_ w1 hbox hb; have No1 := Aside0.mk (show w.heap.size ≤ g1 by rw [hg_]; exact below_size HD.out); have K1 := Aside0.mk hbox; replace HD := Aside0.mk (below_step HD.out hb); clear hbox hb hg_; have s0 : w1.cell? ⟨g1, 0, none⟩ = some (.int .i64 kd) := (blk_cell K1.out 0).trans rfl; have s1 : w1.cell? ⟨g1, 1, none⟩ = some (.slice A l.length c) := (blk_cell K1.out 1).trans rfl)
   | ((with_reducible refine gate_dyn (sl := 12) rfl ?_); refine goesV_ (some 14) rfl rfl 12 #[] #[] Tryd.func28 (by kernel_rfl) rfl #[.agg #[.int .i64 kd, .slice A l.length c]] rfl rfl (by (try simp only [List.map_toArray, List.map_cons, List.map_nil]); first | done | rfl | (simp <;> rfl)) ?_; (with_reducible refine (dur_walk k kd _ c l r _ (Kd.C_below HC.out HD.out) H.out (tab_below HT.out HD.out)).mono ?_); rintro e wz ⟨v, rfl, ho, hb⟩; refine ⟨_, rfl, ?_⟩; have HR := Aside0.mk (Kd.R_lower ho (below_size HD.out)); replace HD := Aside0.mk (below_step HD.out hb); clear ho hb))
  go_ret
  exact ⟨v, rfl, HR.out, HD.out⟩
 rw [if_neg c9] at h
 have d9 : (kd == 9) = false := beq_eq_false_iff_ne.mpr c9
 clear c9
 have H := Aside0.mk h
 clear h
 go_enter Tryd.func14, Tryd.ntmps14
 go_wp2_with (first
  | ((with_reducible refine gate_dst (N := 1) rfl ?_); refine box_event ?hg (N := 1) ?hd (cs := #[.int .i64 kd, .slice A l.length c]) (t := 38) ?hr ?_; (case hd => rfl); (case hg => rfl); (case hr => first | (go_simp; done) | (go_simp; rfl)); intro g1 hg_ w1 hbox hb; have No1 := Aside0.mk (show w.heap.size ≤ g1 by rw [hg_]; exact below_size HD.out); have K1 := Aside0.mk hbox; replace HD := Aside0.mk (below_step HD.out hb); clear hbox hb hg_; have s0 : w1.cell? ⟨g1, 0, none⟩ = some (.int .i64 kd) := (blk_cell K1.out 0).trans rfl; have s1 : w1.cell? ⟨g1, 1, none⟩ = some (.slice A l.length c) := (blk_cell K1.out 1).trans rfl)
  | ((with_reducible refine gate_dyn (sl := 12) rfl ?_); refine goesV_ (some 14) rfl rfl 12 #[] #[] Tryd.func25 (by kernel_rfl) rfl #[.agg #[.int .i64 kd, .slice A l.length c]] rfl rfl (by (try simp only [List.map_toArray, List.map_cons, List.map_nil]); first | done | rfl | (simp <;> rfl)) ?_; (with_reducible refine (render_value_plains.calls k kd _ c l r _ (Kd.C_below HC.out HD.out) HCC.out H.out (tab_below HT.out HD.out)).mono ?_); rintro e wz ⟨v, rfl, ho, hb⟩; refine ⟨_, rfl, ?_⟩; have HR := Aside0.mk (Kd.R_lower ho (below_size HD.out)); replace HD := Aside0.mk (below_step HD.out hb); clear ho hb))
 go_ret
 exact ⟨v, rfl, HR.out, HD.out⟩
end Go.Proofs.YtjijikgandkphaaDoor.G
