import Derived.Test.YtjijikgandkphaaDoorGx0
import Derived.Test.YtjijikgandkphaaDoorGx9
import Derived.Test.YtjijikgandkphaaDoorGx22
namespace Go.Proofs.YtjijikgandkphaaDoor.G
open Go.RowKit Go.Proofs.YtjijikgandkphaaDoorW.PrintWords Go.Proofs.YtjijikgandkphaaDoorW.PrintLast Go.Proofs.YtjijikgandkphaaDoorW.PrintMore Go.Proofs.YtjijikgandkphaaDoorW.VWords Go.Proofs.YtjijikgandkphaaDoorW.Tab
attribute [local go_sem] max2_int min2_int max_two min_two max_three min_three max_four min_four
set_option linter.unusedVariables false
set_option linter.unusedSimpArgs false
abbrev N6 : Bool := false
abbrev Y6 : Bool := true
theorem pq6 : (∀ (t : Array Value) d (n : Nat) (v : Value), Act.put ⟨t, d⟩ (some n) v = ⟨t.setIfInBounds n v, d⟩) ∧ (∀ (l : List Value) (n : Nat) (v : Value), l.toArray.setIfInBounds n v = (l.set n v).toArray) ∧ (∀ (x v : Value) (l : List Value), (x :: l).set 0 v = v :: l) ∧ (∀ (x v : Value) (l : List Value) (n : Nat), (x :: l).set (n + 1) v = x :: l.set n v) ∧ (∀ z : Int, IntKind.i64.wrap z = wrap64 z) ∧ (∀ z : Int, IntKind.i32.wrap z = wrap32 z) := ⟨fun _ _ _ _ => rfl, fun _ _ _ => List.setIfInBounds_toArray .., fun _ _ _ => List.set_cons_zero .., fun _ _ _ _ => List.set_cons_succ .., i64_w, i32_w⟩
mutual
def interlocutorlaw11_RenderWords.l0 : Nat → List Int → ByteArray → Int → Int → ByteArray → Int → Int → List (S24) → Option (Bool)
  | 0, _, _, _, _, _, _, _, _ => none
  | k + 1, x0, x6, x7, x8, x277000, x277001, x277002, x277003 => if x8 < (x0.length : Int) then (interlocutorlaw11_RenderWords.j1 k x0 x6 x7 x8 (decide (x8 < 15)) x277000 x277001 x277002 x277003) else (interlocutorlaw11_RenderWords.j1 k x0 x6 x7 x8 false x277000 x277001 x277002 x277003)
def interlocutorlaw11_RenderWords.j1 : Nat → List Int → ByteArray → Int → Int → Bool → ByteArray → Int → Int → List (S24) → Option (Bool)
  | 0, _, _, _, _, _, _, _, _, _ => none
  | k + 1, x0, x6, x7, x8, x24, x277000, x277001, x277002, x277003 => if x24 = true then (if 0 ≤ x8 then (if x8 ≤ (wrap64 (x8 + 1)) then (if (wrap64 (x8 + 1)) ≤ 15 then (if x8 < (x0.length : Int) then ((interlocutorlaw11_within.f (rd x0 x8) 2).bind fun t290 => ((interlocutorlaw11_within.f (wrap64 (Int.tdiv (rd x0 x8) 2)) 4).bind fun t292 => (if x277003.length < 4398046511104 then ((some (x277003 ++ [(⟨(⟨#[97, 98, 99, 100, 101, 102, 103, 104, 105, 106, 107, 108, 109, 110, 111]⟩ : ByteArray).extract (x8 : Int).toNat ((wrap64 (x8 + 1)) : Int).toNat, wrap64 (1 + t290), wrap64 (1 + t292)⟩ : S24)] : List (S24))).bind fun y294 => (if x6.toList = ([] : List UInt8) then (if (wrap64 (1 + t290)) = 1 then (if (wrap64 (1 + t292)) = x7 then (interlocutorlaw11_RenderWords.l0 k x0 ((⟨#[97, 98, 99, 100, 101, 102, 103, 104, 105, 106, 107, 108, 109, 110, 111]⟩ : ByteArray).extract (x8 : Int).toNat ((wrap64 (x8 + 1)) : Int).toNat) x7 (wrap64 (x8 + 1)) x277000 x277001 x277002 y294) else (interlocutorlaw11_RenderWords.l0 k x0 x6 x7 (wrap64 (x8 + 1)) x277000 x277001 x277002 y294)) else (interlocutorlaw11_RenderWords.l0 k x0 x6 x7 (wrap64 (x8 + 1)) x277000 x277001 x277002 y294)) else (interlocutorlaw11_RenderWords.l0 k x0 x6 x7 (wrap64 (x8 + 1)) x277000 x277001 x277002 y294))) else (none)))) else (none)) else (none)) else (none)) else (none)) else ((render_Write.f k x277000 x277001 x277002 x277003 ([] : List (S96)) (([(⟨4, (([(⟨2, (⟨#[]⟩ : ByteArray), 1, 0, 1⟩ : S27)] : List (S27)))⟩ : S31)] : List (S31))) 0 4 (([2000, x7, 1] : List Int))).bind fun bt287 => (if x6.toList = ([] : List UInt8) then (if bt287.2 = 7 then (some (bt287.1.toList == ([] : List UInt8))) else (some false)) else (if bt287.2 = 0 then (some (bt287.1.toList == x6.toList)) else (some false))))
end
def interlocutorlaw11_RenderWords.f (k : Nat) (l0 : List Int) (a1 : Int) : Option (Bool) := (interlocutorlaw11_known.f k).bind fun t275 => (if t275 = true then ((interlocutorlaw11_within.f a1 12).bind fun t277 => (interlocutorlaw11_RenderWords.l0 k l0 (⟨#[]⟩ : ByteArray) (wrap64 (1 + t277)) 0 (⟨#[]⟩ : ByteArray) 0 0 ([] : List (S24)))) else (some false))
theorem interlocutorlaw11_RenderWords.mono_l : ∀ k, (∀ y0 y1 y2 y3 y4 y5 y6 y7, LeO (interlocutorlaw11_RenderWords.l0 k y0 y1 y2 y3 y4 y5 y6 y7) (interlocutorlaw11_RenderWords.l0 (k + 1) y0 y1 y2 y3 y4 y5 y6 y7)) ∧ (∀ y0 y1 y2 y3 y4 y5 y6 y7 y8, LeO (interlocutorlaw11_RenderWords.j1 k y0 y1 y2 y3 y4 y5 y6 y7 y8) (interlocutorlaw11_RenderWords.j1 (k + 1) y0 y1 y2 y3 y4 y5 y6 y7 y8))
  | 0 => ⟨fun _ _ _ _ _ _ _ _ r h => by simp [interlocutorlaw11_RenderWords.l0] at h, fun _ _ _ _ _ _ _ _ _ r h => by simp [interlocutorlaw11_RenderWords.j1] at h⟩
  | k + 1 => by
    obtain ⟨ih0, ih1⟩ := interlocutorlaw11_RenderWords.mono_l k
    refine ⟨?_, ?_⟩
    · intro y0 y1 y2 y3 y4 y5 y6 y7
      unfold interlocutorlaw11_RenderWords.l0
      repeat' first
      | (with_reducible exact ih0 _ _ _ _ _ _ _ _)
      | (with_reducible exact ih1 _ _ _ _ _ _ _ _ _)
      | (with_reducible exact interlocutorlaw11_known.mono _)
      | (with_reducible exact render_Write.mono _ _ _ _ _ _ _ _ _ _)
      | (with_reducible exact LeO.refl _)
      | (with_reducible exact LeO.none _)
      | (with_reducible refine LeO.ite ?_ ?_)
      | (with_reducible refine LeO.bind ?_ (fun _ => ?_))
      | exact ih0 _ _ _ _ _ _ _ _
      | exact ih1 _ _ _ _ _ _ _ _ _
      | exact interlocutorlaw11_known.mono _
      | exact render_Write.mono _ _ _ _ _ _ _ _ _ _
      | exact LeO.none _
      | refine LeO.ite ?_ ?_
      | refine LeO.bind ?_ (fun _ => ?_)
    · intro y0 y1 y2 y3 y4 y5 y6 y7 y8
      unfold interlocutorlaw11_RenderWords.j1
      repeat' first
      | (with_reducible exact ih0 _ _ _ _ _ _ _ _)
      | (with_reducible exact ih1 _ _ _ _ _ _ _ _ _)
      | (with_reducible exact interlocutorlaw11_known.mono _)
      | (with_reducible exact render_Write.mono _ _ _ _ _ _ _ _ _ _)
      | (with_reducible exact LeO.refl _)
      | (with_reducible exact LeO.none _)
      | (with_reducible refine LeO.ite ?_ ?_)
      | (with_reducible refine LeO.bind ?_ (fun _ => ?_))
      | exact ih0 _ _ _ _ _ _ _ _
      | exact ih1 _ _ _ _ _ _ _ _ _
      | exact interlocutorlaw11_known.mono _
      | exact render_Write.mono _ _ _ _ _ _ _ _ _ _
      | exact LeO.none _
      | refine LeO.ite ?_ ?_
      | refine LeO.bind ?_ (fun _ => ?_)
def interlocutorlaw11_RenderWords.T9 : Bool × List (List Nat × List Nat) := (true, [([], []), ([], []), ([1], [1]), ([0, 2], [0, 2]), ([], []), ([], []), ([4, 5], [4, 5]), ([6], [6]), ([7], [7]), ([8], [8]), ([], []), ([], []), ([10, 11], [10, 11]), ([12], [12]), ([13], [13]), ([14, 8], [14]), ([15], [15]), ([3, 9, 16], [3, 9, 16]), ([], []), ([18, 17, 15, 0, 1, 2, 3, 4, 5, 6, 7, 8, 9, 10, 11, 12, 13, 14, 15, 16, 17, 18], [17, 18])])
def interlocutorlaw11_RenderWords.B9 : List Nat := [0, 0, 2, 7, 0, 0, 48, 112, 240, 496, 0, 0, 3072, 7168, 15360, 32240, 65008, 131071, 0, 524287]
theorem interlocutorlaw11_RenderWords.tab9 : rtab .any (opsOf Tryd.f6 9) = interlocutorlaw11_RenderWords.T9 := by kernel_rfl
theorem interlocutorlaw11_RenderWords.bits9 : waitsOk interlocutorlaw11_RenderWords.T9.2 interlocutorlaw11_RenderWords.B9 = true := by kernel_rfl
set_option maxHeartbeats 8000000 in
set_option maxRecDepth 100000 in
theorem interlocutorlaw11_RenderWords.calls (k : Nat) (A0 : Option Addr) (c0 : Nat) (l0 : List Int) (a1 : Int) (r : Bool) (w : World) (hr0 : Kd.C (Kd.int .i64) w A0 l0.length l0) (hc0 : l0.length ≤ c0) (h : interlocutorlaw11_RenderWords.f k l0 a1 = some r) (hT_ : TabOK w) :
    Calls Tryd.prog 6 #[.slice A0 l0.length c0, .int .i64 a1] w fun e w' => e = .returned (.bool r) ∧ Below w.heap.size w w' := by
  have HTB_ := Aside0.mk hT_
  clear hT_
  have hu35 := Tryd.underlying35
  have hu24 := Tryd.underlying24
  have hu27 := Tryd.underlying27
  have hu31 := Tryd.underlying31
  have hu38 := Tryd.underlying38
  have HR0 := Aside0.mk hr0
  have HC0 := Aside0.mk hc0
  clear hr0 hc0
  have HB := Aside0.mk (Below.refl w.heap.size w)
  have H : ((interlocutorlaw11_known.f k).bind fun t275 => (if t275 = true then ((interlocutorlaw11_within.f a1 12).bind fun t277 => (interlocutorlaw11_RenderWords.l0 k l0 (⟨#[]⟩ : ByteArray) (wrap64 (1 + t277)) 0 (⟨#[]⟩ : ByteArray) 0 0 ([] : List (S24)))) else (some false))) = some r := h
  clear h
  replace H := Option.bind_eq_some_iff.mp H
  obtain ⟨t275, A30, H⟩ := H
  replace H : (if t275 = true then ((interlocutorlaw11_within.f a1 12).bind fun t277 => (interlocutorlaw11_RenderWords.l0 k l0 (⟨#[]⟩ : ByteArray) (wrap64 (1 + t277)) 0 (⟨#[]⟩ : ByteArray) 0 0 ([] : List (S24)))) else (some false)) = some r := H
  have A3 := Aside0.mk A30
  clear A30
  by_cases c4 : t275 = true
  rotate_left
  · replace c4 := Bool.eq_false_iff.mpr c4
    subst c4
    have H1 : (some false) = some r := by rw [if_neg (show ¬ (false = true) by decide)] at H; exact H
    clear H
    have H := H1
    clear H1
    obtain rfl := Option.some.inj H
    go_enter Tryd.func6, Tryd.ntmps6
    go_wp2_with (first | ((with_reducible refine gate_callee (f := 7) rfl ?_); refine goesL_ (some 12) rfl rfl Tryd.func7 (by kernel_rfl) rfl #[] rfl (by (try simp only [List.map_toArray, List.map_cons, List.map_nil]); first | done | rfl | (simp only [List.length_drop, List.length_take]; rfl)) ?_; (with_reducible refine (interlocutorlaw11_known.calls k  false _ A3.out ?hT_).mono ?_); (case hT_ => first | exact HTB_.out | exact tab_below HTB_.out (by repeat (first | (with_reducible first | exact HB.out | apply below_alloc | apply pw_below_drewN | apply below_drew1 | refine below_set ?_ (Aside0.out ‹_›)) | exact HB.out))); rintro e w124 ⟨rfl, hb⟩; refine ⟨_, rfl, ?_⟩; have n0_ := Aside0.mk (below_step (by exact wU HB.out) hb); clear HB; have HB := n0_; clear n0_; (try clear hb); (try clear hb2); (try clear hk); (try clear hi)))
    go_ret
    exact ⟨by first | rfl | (simp [errW_none, errW_some] <;> rfl) | (simp [*, errW_none, errW_some] <;> rfl), by exact wU HB.out⟩
  subst c4
  have H1 : ((interlocutorlaw11_within.f a1 12).bind fun t277 => (interlocutorlaw11_RenderWords.l0 k l0 (⟨#[]⟩ : ByteArray) (wrap64 (1 + t277)) 0 (⟨#[]⟩ : ByteArray) 0 0 ([] : List (S24)))) = some r := by rw [if_pos rfl] at H; exact H
  clear H
  have H := H1
  clear H1
  replace H := Option.bind_eq_some_iff.mp H
  obtain ⟨t277, A50, H⟩ := H
  replace H : (interlocutorlaw11_RenderWords.l0 k l0 (⟨#[]⟩ : ByteArray) (wrap64 (1 + t277)) 0 (⟨#[]⟩ : ByteArray) 0 0 ([] : List (S24))) = some r := H
  have A5 := Aside0.mk A50
  clear A50
  have H' := Aside0.mk H
  clear H
  go_enter Tryd.func6, Tryd.ntmps6
  go_wp2_with (first | ((with_reducible refine gate_callee (f := 7) rfl ?_); refine goesL_ (some 12) rfl rfl Tryd.func7 (by kernel_rfl) rfl #[] rfl (by (try simp only [List.map_toArray, List.map_cons, List.map_nil]); first | done | rfl | (simp only [List.length_drop, List.length_take]; rfl)) ?_; (with_reducible refine (interlocutorlaw11_known.calls k  true _ A3.out ?hT_).mono ?_); (case hT_ => first | exact HTB_.out | exact tab_below HTB_.out (by repeat (first | (with_reducible first | exact HB.out | apply below_alloc | apply pw_below_drewN | apply below_drew1 | refine below_set ?_ (Aside0.out ‹_›)) | exact HB.out))); rintro e w6 ⟨rfl, hb⟩; refine ⟨_, rfl, ?_⟩; have n0_ := Aside0.mk (below_step (by exact wU HB.out) hb); clear HB; have HB := n0_; clear n0_; (try clear hb); (try clear hb2); (try clear hk); (try clear hi)) | ((with_reducible refine gate_dst (N := 5) rfl ?_); refine box_event ?hg (N := 5) ?hd (cs := #[.string (⟨#[]⟩ : ByteArray), .int .i64 0, .int .i64 0, .slice none 0 0, .slice none 0 0, .slice none 0 0]) (t := 35) ?hr ?_; (case hd => rfl); (case hg => rfl); (case hr => first | (go_simp; done) | (go_simp; rfl)); intro gb276 hg w7 hbox hb; have n0_ := Aside0.mk (below_step (by exact wU HB.out) hb); have n1_ := Aside0.mk (hbox); have n2_ := Aside0.mk ((by rw [hg]; exact (below_size (by exact wU HB.out)) : w.heap.size ≤ gb276)); have n3_ := Aside0.mk ((by rw [hg]; exact (below_size (by exact wU HB.out)) : w.heap.size ≤ gb276)); clear HB; have HB := n0_; have BK276 := n1_; have GW276 := n2_; have GE276 := n3_; clear n0_ n1_ n2_ n3_; clear hb hbox hg) | ((with_reducible refine gate_callee (f := 9) rfl ?_); refine goesL_ (some 15) rfl rfl Tryd.func9 (by kernel_rfl) rfl #[.int .i64 a1, .int .i64 12] rfl (by (try simp only [List.map_toArray, List.map_cons, List.map_nil]); first | done | rfl | (simp only [List.length_drop, List.length_take]; rfl)) ?_; (with_reducible refine (interlocutorlaw11_within.calls a1 12 t277 _ A5.out).mono ?_); rintro e w' ⟨rfl, ⟨nd, rfl⟩⟩; refine ⟨_, rfl, ?_⟩))
  go_loopg [6, 8] k (fun kq v6 v8 w' => ∃ (x6_1 : ByteArray) (x8_1 : Int) (x277003_1 : List (S24)) (u277003 : Value), v6 = .string x6_1 ∧ v8 = .int .i64 x8_1 ∧ Aside0 (interlocutorlaw11_RenderWords.l0 kq l0 x6_1 (wrap64 (1 + t277)) x8_1 (⟨#[]⟩ : ByteArray) 0 0 x277003_1 = some r) ∧ Aside0 (kq ≤ k) ∧ Aside0 (Kd.R k24 24 w' w.heap.size (fun _ => True) u277003 x277003_1) ∧ Aside0 (w'.heap[gb276]? = some (.cells #[.string (⟨#[]⟩ : ByteArray), .int .i64 0, .int .i64 0, u277003, (.slice none 0 0), (.slice none 0 0)] 35 (0, 0))) ∧ Aside0 (Below w.heap.size w w'))
  case atStart => exact ⟨((⟨#[]⟩ : ByteArray)), (0), (([] : List (S24))), (.slice none 0 0), (by first | rfl | (simp; done) | (simp [*]; done)), (by first | rfl | (simp; done) | (simp [*]; done)), H', ⟨Nat.le_refl _⟩, ⟨by first | exact Kd.R_nil _ _ _ _ _ | exact Kd.N_nil _ _ _ _ _ | exact Kd.V_nil _ _ _ _ _ | exact Kd.Q_nil _ _ _ _ _ | exact Kd.S_nil _ _ _ _ _⟩, ⟨by (with_reducible repeat (first | refine blk_drewN ?_ _ | refine blk_drew ?_ | refine blk_alloc ?_ _)); exact BK276.out⟩, ⟨by exact wS HB.out GE276.out⟩⟩
  case round =>
   clear H'
   try clear p2
   try clear c4
   try clear c6
   try clear p6
   try clear c7
   obtain ⟨x6_1, x8_1, x277003_1, u277003, rfl, rfl, HA, HK1, HO_277003, BK276, HB⟩ := hrel
   cases gk with
   | zero => exact absurd HA.out (by simp [interlocutorlaw11_RenderWords.l0])
   | succ k1 =>
    have H := HA.out
    clear HA
    simp only [interlocutorlaw11_RenderWords.l0] at H
    have HC8 := Aside0.mk H
    clear H
    go_upto_region 7 with (fail)
    go_cut [24] (fun v24 wc => ∃ (kq : Nat) (x24_7 : Bool), v24 = .bool x24_7 ∧ Aside0 (interlocutorlaw11_RenderWords.j1 kq l0 x6_1 (wrap64 (1 + t277)) x8_1 x24_7 (⟨#[]⟩ : ByteArray) 0 0 x277003_1 = some r) ∧ Aside0 (kq ≤ k1) ∧ Aside0 (Kd.R k24 24 wc w.heap.size (fun _ => True) u277003 x277003_1) ∧ Aside0 (wc.heap[gb276]? = some (.cells #[.string (⟨#[]⟩ : ByteArray), .int .i64 0, .int .i64 0, u277003, (.slice none 0 0), (.slice none 0 0)] 35 (0, 0))) ∧ Aside0 (Below w.heap.size w wc))
    case first =>
     have H := HC8.out
     clear HC8
     by_cases c9 : x8_1 < (l0.length : Int)
     rotate_left
     · rw [if_neg c9] at H
       have c9b0 : decide (x8_1 < (l0.length : Int)) = false := decide_eq_false c9
       clear c9
       (first | rw [c9b0] | (simp only [i64_w, i32_w]; rw [c9b0]) | skip)
       have H' := Aside0.mk H
       clear H
       go_wp2
       go_meet
       case rel => exact ⟨_, (false), (by first | rfl | (simp; done) | (simp [*]; done)), H', ⟨by have := HK1.out; first | omega | exact Nat.le_refl _⟩, ⟨by exact rU HO_277003.out⟩, ⟨by (with_reducible repeat (first | refine blk_drewN ?_ _ | refine blk_drew ?_ | refine blk_alloc ?_ _)); exact BK276.out⟩, ⟨by exact wS HB.out GE276.out⟩⟩
     rw [if_pos c9] at H
     have c9b0 : decide (x8_1 < (l0.length : Int)) = true := decide_eq_true c9
     clear c9
     (first | rw [c9b0] | (simp only [i64_w, i32_w]; rw [c9b0]) | skip)
     have H' := Aside0.mk H
     clear H
     go_wp2
     go_meet
     case rel => exact ⟨_, (decide (x8_1 < 15)), (by first | rfl | (simp; done) | (simp [*]; done)), H', ⟨by have := HK1.out; first | omega | exact Nat.le_refl _⟩, ⟨by exact rU HO_277003.out⟩, ⟨by (with_reducible repeat (first | refine blk_drewN ?_ _ | refine blk_drew ?_ | refine blk_alloc ?_ _)); exact BK276.out⟩, ⟨by exact wS HB.out GE276.out⟩⟩
    case rest =>
     clear HC8
     try clear p2
     try clear c4
     try clear c6
     try clear p6
     try clear c7
     try clear c9
     try clear c9b0
     try clear p2
     try clear p6
     obtain ⟨kq, x24_7, rfl, HA, HJ7, HO_277003, BK276, HB⟩ := hcut
     cases kq with
     | zero => exact absurd HA.out (by simp [interlocutorlaw11_RenderWords.j1])
     | succ kj7 =>
      have H := HA.out
      clear HA
      simp only [interlocutorlaw11_RenderWords.j1] at H
      by_cases c10 : x24_7 = true
      rotate_left
      · replace c10 := Bool.eq_false_iff.mpr c10
        subst c10
        have H1 : ((render_Write.f kj7 (⟨#[]⟩ : ByteArray) 0 0 x277003_1 ([] : List (S96)) (([(⟨4, (([(⟨2, (⟨#[]⟩ : ByteArray), 1, 0, 1⟩ : S27)] : List (S27)))⟩ : S31)] : List (S31))) 0 4 (([2000, (wrap64 (1 + t277)), 1] : List Int))).bind fun bt287 => (if x6_1.toList = ([] : List UInt8) then (if bt287.2 = 7 then (some (bt287.1.toList == ([] : List UInt8))) else (some false)) else (if bt287.2 = 0 then (some (bt287.1.toList == x6_1.toList)) else (some false)))) = some r := by rw [if_neg (show ¬ (false = true) by decide)] at H; exact H
        clear H
        have H := H1
        clear H1
        obtain ⟨y278, hy278⟩ : ∃ y_ : List (S27), y_ = (([(⟨2, (⟨#[]⟩ : ByteArray), 1, 0, 1⟩ : S27)] : List (S27))) := ⟨_, rfl⟩
        replace H : ((render_Write.f kj7 (⟨#[]⟩ : ByteArray) 0 0 x277003_1 ([] : List (S96)) (([(⟨4, y278⟩ : S31)] : List (S31))) 0 4 (([2000, (wrap64 (1 + t277)), 1] : List Int))).bind fun bt287 => (if x6_1.toList = ([] : List UInt8) then (if bt287.2 = 7 then (some (bt287.1.toList == ([] : List UInt8))) else (some false)) else (if bt287.2 = 0 then (some (bt287.1.toList == x6_1.toList)) else (some false)))) = some r := by first | (rw [hy278]; with_reducible exact H) | (have H2_ := (Option.bind_some _ _).symm.trans H; rw [hy278]; with_reducible exact H2_) | (have H2_ := (Option.bind_some _ _).symm.trans H; with_reducible exact H2_) | with_reducible exact H | (rw [hy278]; exact H) | exact H
        have Ny278 := Aside0.mk hy278
        clear hy278
        obtain ⟨y281, hy281⟩ : ∃ y_ : List (S31), y_ = (([(⟨4, y278⟩ : S31)] : List (S31))) := ⟨_, rfl⟩
        replace H : ((render_Write.f kj7 (⟨#[]⟩ : ByteArray) 0 0 x277003_1 ([] : List (S96)) y281 0 4 (([2000, (wrap64 (1 + t277)), 1] : List Int))).bind fun bt287 => (if x6_1.toList = ([] : List UInt8) then (if bt287.2 = 7 then (some (bt287.1.toList == ([] : List UInt8))) else (some false)) else (if bt287.2 = 0 then (some (bt287.1.toList == x6_1.toList)) else (some false)))) = some r := by first | (rw [hy281]; with_reducible exact H) | (have H2_ := (Option.bind_some _ _).symm.trans H; rw [hy281]; with_reducible exact H2_) | (have H2_ := (Option.bind_some _ _).symm.trans H; with_reducible exact H2_) | with_reducible exact H | (rw [hy281]; exact H) | exact H
        have Ny281 := Aside0.mk hy281
        clear hy281
        obtain ⟨y284, hy284⟩ : ∃ y_ : List Int, y_ = (([2000, (wrap64 (1 + t277)), 1] : List Int)) := ⟨_, rfl⟩
        replace H : ((render_Write.f kj7 (⟨#[]⟩ : ByteArray) 0 0 x277003_1 ([] : List (S96)) y281 0 4 y284).bind fun bt287 => (if x6_1.toList = ([] : List UInt8) then (if bt287.2 = 7 then (some (bt287.1.toList == ([] : List UInt8))) else (some false)) else (if bt287.2 = 0 then (some (bt287.1.toList == x6_1.toList)) else (some false)))) = some r := by first | (rw [hy284]; with_reducible exact H) | (have H2_ := (Option.bind_some _ _).symm.trans H; rw [hy284]; with_reducible exact H2_) | (have H2_ := (Option.bind_some _ _).symm.trans H; with_reducible exact H2_) | with_reducible exact H | (rw [hy284]; exact H) | exact H
        have Ny284 := Aside0.mk hy284
        clear hy284
        replace H := Option.bind_eq_some_iff.mp H
        obtain ⟨⟨t287, t288⟩, A720, H⟩ := H
        replace H : (if x6_1.toList = ([] : List UInt8) then (if t288 = 7 then (some (t287.toList == ([] : List UInt8))) else (some false)) else (if t288 = 0 then (some (t287.toList == x6_1.toList)) else (some false))) = some r := H
        have A72 := Aside0.mk A720
        clear A720
        by_cases c73 : x6_1.toList = ([] : List UInt8)
        · rw [if_pos c73] at H
          have c73b0 : (x6_1.toList == ([] : List UInt8)) = true := beq_iff_eq.mpr c73
          have c73b1 : (x6_1.toList != ([] : List UInt8)) = false := bne_eq_false_iff_eq.mpr c73
          clear c73
          by_cases c74 : t288 = 7
          rotate_left
          · rw [if_neg c74] at H
            have c74b0 : (t288 == 7) = false := beq_eq_false_iff_ne.mpr c74
            have c74b1 : (t288 != 7) = true := bne_iff_ne.mpr c74
            obtain rfl := Option.some.inj H
            go_wp2_with (first | ((with_reducible refine gate_dst (N := 67) rfl ?_); refine Kd.R_lit k27 _ 27 ?hg (N := 67) ?hd (xs := ([(⟨2, (⟨#[]⟩ : ByteArray), 1, 0, 1⟩ : S27)] : List (S27))) (inner := [.int .i64 2, .string (⟨#[]⟩ : ByteArray), .int .i64 1, .int .i64 0, .int .i64 1]) (ok := fun _ => True) (okp := fun _ => True) ?hr ?hp (fun _ hk => hk) trivial (Below.refl _ _) (Nat.le_refl _) (by simp) ?_; (case hd => rfl); (case hg => rfl); (case hr => first | (go_simp; done) | (go_simp; rfl)); (case hp => exact (Reps.c5 (show Kd.M k27 _ _ _ (⟨2, (⟨#[]⟩ : ByteArray), 1, 0, 1⟩ : S27) [.int .i64 2, .string (⟨#[]⟩ : ByteArray), .int .i64 1, .int .i64 0, .int .i64 1] from (k27_mkM _ _ _ (⟨2, (⟨#[]⟩ : ByteArray), 1, 0, 1⟩ : S27) )) (Reps.none _ _))); intro v279 w87 ho88 hb hg_ hnew_; clear hg_ hnew_; (first | rw [← Ny278.out] at ho88 | (simp only [Int.reduceToNat] at ho88; rw [← Ny278.out] at ho88)); have n0_ := Aside0.mk (Kd.R_below (by exact rU HO_277003.out) hb); have n1_ := Aside0.mk (Kd.R_lower ho88 (below_size (by exact wS HB.out GE276.out))); have n2_ := Aside0.mk (blk_below (g := gb276) (o := .cells #[.string (⟨#[]⟩ : ByteArray), .int .i64 0, .int .i64 0, u277003, .slice none 0 0, .slice none 0 0] 35 (0, 0)) (by (with_reducible repeat (first | refine blk_drewN ?_ _ | refine blk_drew ?_ | refine blk_alloc ?_ _)); exact BK276.out) hb); have n3_ := Aside0.mk (below_step (by exact wS HB.out GE276.out) hb); clear HO_277003; clear BK276; clear HB; have HO_277003 := n0_; have HO280 := n1_; have BK276 := n2_; have HB := n3_; clear n0_ n1_ n2_ n3_; clear hb ho88; obtain ⟨Ao89, co89, eo89⟩ := Kd.R_slice HO280.out; subst eo89) | ((with_reducible refine gate_dst (N := 69) rfl ?_); refine Kd.N_lit k31 _ 31 ?hg (N' := 69) ?hd (xs := ([(⟨4, y278⟩ : S31)] : List (S31))) (inner := [.int .i64 4, .slice Ao89 y278.length co89]) (ok := (fun k_ => some k_ ≠ (u277003 : Value).ownBlock ∧ k_ ≠ gb276)) (okp := (fun k_ => some k_ ≠ (u277003 : Value).ownBlock ∧ k_ ≠ gb276)) ?hr ?hp (fun _ hk => hk) ((show ∀ k_, w87.heap.size ≤ k_ → (fun k_ => some k_ ≠ (u277003 : Value).ownBlock ∧ k_ ≠ gb276) k_ from fun k_ hk => ⟨Kd.fresh' (Kd.R_lt (by exact rU HO_277003.out)) k_ hk, Kd.freshB (g := gb276) (o := .cells #[.string (⟨#[]⟩ : ByteArray), .int .i64 0, .int .i64 0, u277003, .slice none 0 0, .slice none 0 0] 35 (0, 0)) (by (with_reducible repeat (first | refine blk_drewN ?_ _ | refine blk_drew ?_ | refine blk_alloc ?_ _)); exact BK276.out) k_ hk⟩) _ (Nat.le_refl _)) (Below.refl _ _) (Nat.le_refl _) (by simp) ?_; (case hd => rfl); (case hg => rfl); (case hr => first | (go_simp; done) | (go_simp; rfl)); (case hp => exact (Reps.c2 (show Kd.FK k31 _ _ (⟨4, y278⟩ : S31) [.int .i64 4, .slice Ao89 y278.length co89] from (k31_mkF _ _ (⟨4, y278⟩ : S31) (Kd.R_reads' (Kd.R_mono (ok' := (fun k_ => some k_ ≠ (u277003 : Value).ownBlock ∧ k_ ≠ gb276)) (Kd.R_types (Kd.R_apart' (HO280.out) (Kd.R_typed HO_277003.out) (by decide)) BK276.out (by decide)) (fun k_ hk => ⟨hk.1.2, hk.2⟩))).2.1 (Kd.R_F (Kd.R_mono (ok' := (fun k_ => some k_ ≠ (u277003 : Value).ownBlock ∧ k_ ≠ gb276)) (Kd.R_types (Kd.R_apart' (HO280.out) (Kd.R_typed HO_277003.out) (by decide)) BK276.out (by decide)) (fun k_ hk => ⟨hk.1.2, hk.2⟩))))) (Reps.none _ _))); intro v282 w90 ho91 hb hg_ hnew_; clear hg_ hnew_; (first | rw [← Ny281.out] at ho91 | (simp only [Int.reduceToNat] at ho91; rw [← Ny281.out] at ho91)); have n0_ := Aside0.mk (Kd.R_below (by exact rU HO_277003.out) hb); have n1_ := Aside0.mk (Kd.N_lower ho91 (below_size (by exact wS HB.out GE276.out))); have n2_ := Aside0.mk (blk_below (g := gb276) (o := .cells #[.string (⟨#[]⟩ : ByteArray), .int .i64 0, .int .i64 0, u277003, .slice none 0 0, .slice none 0 0] 35 (0, 0)) (by (with_reducible repeat (first | refine blk_drewN ?_ _ | refine blk_drew ?_ | refine blk_alloc ?_ _)); exact BK276.out) hb); have n3_ := Aside0.mk (below_step (by exact wS HB.out GE276.out) hb); clear HO_277003; clear BK276; clear HB; clear HO280; have HO_277003 := n0_; have HO283 := n1_; have BK276 := n2_; have HB := n3_; clear n0_ n1_ n2_ n3_; clear hb ho91; obtain ⟨Ao92, co92, eo92⟩ := Kd.N_slice HO283.out; subst eo92; have hcz93_0 : w90.cell? ⟨gb276, 0, none⟩ = some (.string (⟨#[]⟩ : ByteArray)) := (blk_cell BK276.out 0).trans rfl; have hcz93_1 : w90.cell? ⟨gb276, 1, none⟩ = some (.int .i64 0) := (blk_cell BK276.out 1).trans rfl; have hcz93_2 : w90.cell? ⟨gb276, 2, none⟩ = some (.int .i64 0) := (blk_cell BK276.out 2).trans rfl; have hcz93_3 : w90.cell? ⟨gb276, 3, none⟩ = some (u277003) := (blk_cell BK276.out 3).trans rfl; have hcz93_4 : w90.cell? ⟨gb276, 4, none⟩ = some (.slice none 0 0) := (blk_cell BK276.out 4).trans rfl; have hcz93_5 : w90.cell? ⟨gb276, 5, none⟩ = some (.slice none 0 0) := (blk_cell BK276.out 5).trans rfl; have hfz93_0 := blk_frozen BK276.out 0; have hfz93_1 := blk_frozen BK276.out 1; have hfz93_2 := blk_frozen BK276.out 2; have hfz93_3 := blk_frozen BK276.out 3; have hfz93_4 := blk_frozen BK276.out 4; have hfz93_5 := blk_frozen BK276.out 5) | ((with_reducible refine gate_dst (N := 74) rfl ?_); refine Kd.R_lit (Kd.int .i64) _ 3 ?hg (N := 74) ?hd (xs := ([2000, (wrap64 (1 + t277)), 1] : List Int)) (inner := [.int .i64 2000, .int .i64 (wrap64 (1 + t277)), .int .i64 1]) (ok := fun _ => True) (okp := fun _ => True) ?hr ?hp (fun _ hk => hk) trivial (Below.refl _ _) (Nat.le_refl _) (by simp) ?_; (case hd => rfl); (case hg => rfl); (case hr => first | (go_simp; done) | (go_simp; rfl)); (case hp => exact (Reps.one (show Kd.M (Kd.int .i64) _ _ _ 2000 [.int .i64 2000] from rfl) (Reps.one (show Kd.M (Kd.int .i64) _ _ _ (wrap64 (1 + t277)) [.int .i64 (wrap64 (1 + t277))] from rfl) (Reps.one (show Kd.M (Kd.int .i64) _ _ _ 1 [.int .i64 1] from rfl) (Reps.none _ _))))); intro v285 w94 ho95 hb hg_ hnew_; clear hg_ hnew_; (first | rw [← Ny284.out] at ho95 | (simp only [Int.reduceToNat] at ho95; rw [← Ny284.out] at ho95)); have n0_ := Aside0.mk (Kd.R_below (by exact rU ((Kd.R_mono (Kd.R_far (p := ⟨gb276, 5, none⟩) (Kd.R_types HO_277003.out BK276.out (by decide)) (fun _ hk => hk.2) (.slice Ao92 y281.length co92)) (fun _ h_ => h_.1)))) hb); have n1_ := Aside0.mk (Kd.N_elder' (by exact nU ((Kd.N_mono (Kd.N_far (p := ⟨gb276, 5, none⟩) (Kd.N_mono HO283.out (fun k_ hk => (⟨hk, hk.2⟩ : _ ∧ k_ ≠ gb276))) (fun _ hk => hk.2) (.slice Ao92 y281.length co92)) (fun _ h_ => h_.1)))) (Kd.R_base ho95) hb); have n2_ := Aside0.mk (Kd.R_lower ho95 (below_size (by exact wS HB.out GE276.out))); have n3_ := Aside0.mk (blk_below (g := gb276) (o := .cells #[.string (⟨#[]⟩ : ByteArray), .int .i64 0, .int .i64 0, u277003, .slice none 0 0, .slice Ao92 y281.length co92] 35 (0, 0)) (by (with_reducible repeat (first | refine blk_drewN ?_ _ | refine blk_drew ?_ | refine blk_alloc ?_ _)); refine blk_put (cs := #[.string (⟨#[]⟩ : ByteArray), .int .i64 0, .int .i64 0, u277003, .slice none 0 0, .slice none 0 0]) ?_ 5 _ rfl; (with_reducible repeat (first | refine blk_drewN ?_ _ | refine blk_drew ?_ | refine blk_alloc ?_ _)); exact BK276.out) hb); have n4_ := Aside0.mk (below_step (by exact wS HB.out GE276.out) hb); clear HO_277003; clear HO283; clear BK276; clear HB; have HO_277003 := n0_; have HO283 := n1_; have HO286 := n2_; have BK276 := n3_; have HB := n4_; clear n0_ n1_ n2_ n3_ n4_; clear hb ho95; obtain ⟨Ao96, co96, eo96⟩ := Kd.R_slice HO286.out; subst eo96; obtain ⟨Ao97, co97, eo97⟩ := Kd.R_slice HO_277003.out; subst eo97) | ((with_reducible refine gate_callee (f := 10) rfl ?_); refine goesL_ (some 76) rfl rfl Tryd.func10 (by kernel_rfl) rfl #[.agg #[.string (⟨#[]⟩ : ByteArray), .int .i64 0, .int .i64 0, .slice Ao97 x277003_1.length co97, .slice none 0 0, .slice Ao92 y281.length co92], .int .i64 0, .agg #[.int .i64 4, .slice Ao96 y284.length co96]] rfl (by (try simp only [List.map_toArray, List.map_cons, List.map_nil]); first | done | rfl | (simp only [List.length_drop, List.length_take]; rfl)) ?_; (refine (render_Write.calls kj7 (⟨#[]⟩ : ByteArray) 0 0 _ _ x277003_1 _ _ ([] : List (S96)) _ _ y281 0 4 _ _ y284 t287 t288 _ ?side1 ?side2 ?side3 ?side4 ?side5 ?side6 ?side7 ?side8 A72.out ?hT_).mono ?_); (case hT_ => first | exact HTB_.out | exact tab_below HTB_.out (by repeat (first | (with_reducible first | exact HB.out | apply below_alloc | apply pw_below_drewN | apply below_drew1 | refine below_set ?_ (Aside0.out ‹_›)) | exact HB.out))); (case side1 => repeat (first | exact (Kd.R_reads' HO_277003.out).2.2 | (with_reducible refine Kd.C_alloc ?_ _) | (with_reducible refine Kd.C_drewN ?_ _) | (with_reducible refine Kd.C_drew ?_))); (case side2 => exact (Kd.R_reads' HO_277003.out).2.1); (case side3 => exact Kd.C_nil _ _); (case side4 => exact Nat.le_refl _); (case side5 => repeat (first | exact (Kd.N_reads' HO283.out).2.2 | (with_reducible refine Kd.C_alloc ?_ _) | (with_reducible refine Kd.C_drewN ?_ _) | (with_reducible refine Kd.C_drew ?_))); (case side6 => exact (Kd.N_reads' HO283.out).2.1); (case side7 => repeat (first | exact (Kd.R_reads' HO286.out).2.2 | (with_reducible refine Kd.C_alloc ?_ _) | (with_reducible refine Kd.C_drewN ?_ _) | (with_reducible refine Kd.C_drew ?_))); (case side8 => exact (Kd.R_reads' HO286.out).2.1); rintro e w98 ⟨rfl, hb⟩; refine ⟨_, rfl, ?_⟩; have n0_ := Aside0.mk (Kd.R_below (by exact rU HO_277003.out) hb); have n1_ := Aside0.mk (Kd.N_below (by exact nU HO283.out) hb); have n2_ := Aside0.mk (Kd.R_below (by exact rU HO286.out) hb); have n3_ := Aside0.mk (blk_below (g := gb276) (o := .cells #[.string (⟨#[]⟩ : ByteArray), .int .i64 0, .int .i64 0, .slice Ao97 x277003_1.length co97, .slice none 0 0, .slice Ao92 y281.length co92] 35 (0, 0)) (by (with_reducible repeat (first | refine blk_drewN ?_ _ | refine blk_drew ?_ | refine blk_alloc ?_ _)); exact BK276.out) hb); have n4_ := Aside0.mk (below_step (by exact wS HB.out GE276.out) hb); clear HO_277003; clear HO283; clear HO286; clear BK276; clear HB; have HO_277003 := n0_; have HO283 := n1_; have HO286 := n2_; have BK276 := n3_; have HB := n4_; clear n0_ n1_ n2_ n3_ n4_; (try clear hb); (try clear hb2); (try clear hk); (try clear hi)))
            go_ret
            exact ⟨by first | rfl | (simp [errW_none, errW_some] <;> rfl) | (simp [*, errW_none, errW_some] <;> rfl), by exact wS HB.out GE276.out⟩
          rw [if_pos c74] at H
          have c74b0 : (t288 == 7) = true := beq_iff_eq.mpr c74
          have c74b1 : (t288 != 7) = false := bne_eq_false_iff_eq.mpr c74
          clear c74
          obtain rfl := Option.some.inj H
          go_wp2_with (first | ((with_reducible refine gate_dst (N := 67) rfl ?_); refine Kd.R_lit k27 _ 27 ?hg (N := 67) ?hd (xs := ([(⟨2, (⟨#[]⟩ : ByteArray), 1, 0, 1⟩ : S27)] : List (S27))) (inner := [.int .i64 2, .string (⟨#[]⟩ : ByteArray), .int .i64 1, .int .i64 0, .int .i64 1]) (ok := fun _ => True) (okp := fun _ => True) ?hr ?hp (fun _ hk => hk) trivial (Below.refl _ _) (Nat.le_refl _) (by simp) ?_; (case hd => rfl); (case hg => rfl); (case hr => first | (go_simp; done) | (go_simp; rfl)); (case hp => exact (Reps.c5 (show Kd.M k27 _ _ _ (⟨2, (⟨#[]⟩ : ByteArray), 1, 0, 1⟩ : S27) [.int .i64 2, .string (⟨#[]⟩ : ByteArray), .int .i64 1, .int .i64 0, .int .i64 1] from (k27_mkM _ _ _ (⟨2, (⟨#[]⟩ : ByteArray), 1, 0, 1⟩ : S27) )) (Reps.none _ _))); intro v279 w75 ho76 hb hg_ hnew_; clear hg_ hnew_; (first | rw [← Ny278.out] at ho76 | (simp only [Int.reduceToNat] at ho76; rw [← Ny278.out] at ho76)); have n0_ := Aside0.mk (Kd.R_below (by exact rU HO_277003.out) hb); have n1_ := Aside0.mk (Kd.R_lower ho76 (below_size (by exact wS HB.out GE276.out))); have n2_ := Aside0.mk (blk_below (g := gb276) (o := .cells #[.string (⟨#[]⟩ : ByteArray), .int .i64 0, .int .i64 0, u277003, .slice none 0 0, .slice none 0 0] 35 (0, 0)) (by (with_reducible repeat (first | refine blk_drewN ?_ _ | refine blk_drew ?_ | refine blk_alloc ?_ _)); exact BK276.out) hb); have n3_ := Aside0.mk (below_step (by exact wS HB.out GE276.out) hb); clear HO_277003; clear BK276; clear HB; have HO_277003 := n0_; have HO280 := n1_; have BK276 := n2_; have HB := n3_; clear n0_ n1_ n2_ n3_; clear hb ho76; obtain ⟨Ao77, co77, eo77⟩ := Kd.R_slice HO280.out; subst eo77) | ((with_reducible refine gate_dst (N := 69) rfl ?_); refine Kd.N_lit k31 _ 31 ?hg (N' := 69) ?hd (xs := ([(⟨4, y278⟩ : S31)] : List (S31))) (inner := [.int .i64 4, .slice Ao77 y278.length co77]) (ok := (fun k_ => some k_ ≠ (u277003 : Value).ownBlock ∧ k_ ≠ gb276)) (okp := (fun k_ => some k_ ≠ (u277003 : Value).ownBlock ∧ k_ ≠ gb276)) ?hr ?hp (fun _ hk => hk) ((show ∀ k_, w75.heap.size ≤ k_ → (fun k_ => some k_ ≠ (u277003 : Value).ownBlock ∧ k_ ≠ gb276) k_ from fun k_ hk => ⟨Kd.fresh' (Kd.R_lt (by exact rU HO_277003.out)) k_ hk, Kd.freshB (g := gb276) (o := .cells #[.string (⟨#[]⟩ : ByteArray), .int .i64 0, .int .i64 0, u277003, .slice none 0 0, .slice none 0 0] 35 (0, 0)) (by (with_reducible repeat (first | refine blk_drewN ?_ _ | refine blk_drew ?_ | refine blk_alloc ?_ _)); exact BK276.out) k_ hk⟩) _ (Nat.le_refl _)) (Below.refl _ _) (Nat.le_refl _) (by simp) ?_; (case hd => rfl); (case hg => rfl); (case hr => first | (go_simp; done) | (go_simp; rfl)); (case hp => exact (Reps.c2 (show Kd.FK k31 _ _ (⟨4, y278⟩ : S31) [.int .i64 4, .slice Ao77 y278.length co77] from (k31_mkF _ _ (⟨4, y278⟩ : S31) (Kd.R_reads' (Kd.R_mono (ok' := (fun k_ => some k_ ≠ (u277003 : Value).ownBlock ∧ k_ ≠ gb276)) (Kd.R_types (Kd.R_apart' (HO280.out) (Kd.R_typed HO_277003.out) (by decide)) BK276.out (by decide)) (fun k_ hk => ⟨hk.1.2, hk.2⟩))).2.1 (Kd.R_F (Kd.R_mono (ok' := (fun k_ => some k_ ≠ (u277003 : Value).ownBlock ∧ k_ ≠ gb276)) (Kd.R_types (Kd.R_apart' (HO280.out) (Kd.R_typed HO_277003.out) (by decide)) BK276.out (by decide)) (fun k_ hk => ⟨hk.1.2, hk.2⟩))))) (Reps.none _ _))); intro v282 w78 ho79 hb hg_ hnew_; clear hg_ hnew_; (first | rw [← Ny281.out] at ho79 | (simp only [Int.reduceToNat] at ho79; rw [← Ny281.out] at ho79)); have n0_ := Aside0.mk (Kd.R_below (by exact rU HO_277003.out) hb); have n1_ := Aside0.mk (Kd.N_lower ho79 (below_size (by exact wS HB.out GE276.out))); have n2_ := Aside0.mk (blk_below (g := gb276) (o := .cells #[.string (⟨#[]⟩ : ByteArray), .int .i64 0, .int .i64 0, u277003, .slice none 0 0, .slice none 0 0] 35 (0, 0)) (by (with_reducible repeat (first | refine blk_drewN ?_ _ | refine blk_drew ?_ | refine blk_alloc ?_ _)); exact BK276.out) hb); have n3_ := Aside0.mk (below_step (by exact wS HB.out GE276.out) hb); clear HO_277003; clear BK276; clear HB; clear HO280; have HO_277003 := n0_; have HO283 := n1_; have BK276 := n2_; have HB := n3_; clear n0_ n1_ n2_ n3_; clear hb ho79; obtain ⟨Ao80, co80, eo80⟩ := Kd.N_slice HO283.out; subst eo80; have hcz81_0 : w78.cell? ⟨gb276, 0, none⟩ = some (.string (⟨#[]⟩ : ByteArray)) := (blk_cell BK276.out 0).trans rfl; have hcz81_1 : w78.cell? ⟨gb276, 1, none⟩ = some (.int .i64 0) := (blk_cell BK276.out 1).trans rfl; have hcz81_2 : w78.cell? ⟨gb276, 2, none⟩ = some (.int .i64 0) := (blk_cell BK276.out 2).trans rfl; have hcz81_3 : w78.cell? ⟨gb276, 3, none⟩ = some (u277003) := (blk_cell BK276.out 3).trans rfl; have hcz81_4 : w78.cell? ⟨gb276, 4, none⟩ = some (.slice none 0 0) := (blk_cell BK276.out 4).trans rfl; have hcz81_5 : w78.cell? ⟨gb276, 5, none⟩ = some (.slice none 0 0) := (blk_cell BK276.out 5).trans rfl; have hfz81_0 := blk_frozen BK276.out 0; have hfz81_1 := blk_frozen BK276.out 1; have hfz81_2 := blk_frozen BK276.out 2; have hfz81_3 := blk_frozen BK276.out 3; have hfz81_4 := blk_frozen BK276.out 4; have hfz81_5 := blk_frozen BK276.out 5) | ((with_reducible refine gate_dst (N := 74) rfl ?_); refine Kd.R_lit (Kd.int .i64) _ 3 ?hg (N := 74) ?hd (xs := ([2000, (wrap64 (1 + t277)), 1] : List Int)) (inner := [.int .i64 2000, .int .i64 (wrap64 (1 + t277)), .int .i64 1]) (ok := fun _ => True) (okp := fun _ => True) ?hr ?hp (fun _ hk => hk) trivial (Below.refl _ _) (Nat.le_refl _) (by simp) ?_; (case hd => rfl); (case hg => rfl); (case hr => first | (go_simp; done) | (go_simp; rfl)); (case hp => exact (Reps.one (show Kd.M (Kd.int .i64) _ _ _ 2000 [.int .i64 2000] from rfl) (Reps.one (show Kd.M (Kd.int .i64) _ _ _ (wrap64 (1 + t277)) [.int .i64 (wrap64 (1 + t277))] from rfl) (Reps.one (show Kd.M (Kd.int .i64) _ _ _ 1 [.int .i64 1] from rfl) (Reps.none _ _))))); intro v285 w82 ho83 hb hg_ hnew_; clear hg_ hnew_; (first | rw [← Ny284.out] at ho83 | (simp only [Int.reduceToNat] at ho83; rw [← Ny284.out] at ho83)); have n0_ := Aside0.mk (Kd.R_below (by exact rU ((Kd.R_mono (Kd.R_far (p := ⟨gb276, 5, none⟩) (Kd.R_types HO_277003.out BK276.out (by decide)) (fun _ hk => hk.2) (.slice Ao80 y281.length co80)) (fun _ h_ => h_.1)))) hb); have n1_ := Aside0.mk (Kd.N_elder' (by exact nU ((Kd.N_mono (Kd.N_far (p := ⟨gb276, 5, none⟩) (Kd.N_mono HO283.out (fun k_ hk => (⟨hk, hk.2⟩ : _ ∧ k_ ≠ gb276))) (fun _ hk => hk.2) (.slice Ao80 y281.length co80)) (fun _ h_ => h_.1)))) (Kd.R_base ho83) hb); have n2_ := Aside0.mk (Kd.R_lower ho83 (below_size (by exact wS HB.out GE276.out))); have n3_ := Aside0.mk (blk_below (g := gb276) (o := .cells #[.string (⟨#[]⟩ : ByteArray), .int .i64 0, .int .i64 0, u277003, .slice none 0 0, .slice Ao80 y281.length co80] 35 (0, 0)) (by (with_reducible repeat (first | refine blk_drewN ?_ _ | refine blk_drew ?_ | refine blk_alloc ?_ _)); refine blk_put (cs := #[.string (⟨#[]⟩ : ByteArray), .int .i64 0, .int .i64 0, u277003, .slice none 0 0, .slice none 0 0]) ?_ 5 _ rfl; (with_reducible repeat (first | refine blk_drewN ?_ _ | refine blk_drew ?_ | refine blk_alloc ?_ _)); exact BK276.out) hb); have n4_ := Aside0.mk (below_step (by exact wS HB.out GE276.out) hb); clear HO_277003; clear HO283; clear BK276; clear HB; have HO_277003 := n0_; have HO283 := n1_; have HO286 := n2_; have BK276 := n3_; have HB := n4_; clear n0_ n1_ n2_ n3_ n4_; clear hb ho83; obtain ⟨Ao84, co84, eo84⟩ := Kd.R_slice HO286.out; subst eo84; obtain ⟨Ao85, co85, eo85⟩ := Kd.R_slice HO_277003.out; subst eo85) | ((with_reducible refine gate_callee (f := 10) rfl ?_); refine goesL_ (some 76) rfl rfl Tryd.func10 (by kernel_rfl) rfl #[.agg #[.string (⟨#[]⟩ : ByteArray), .int .i64 0, .int .i64 0, .slice Ao85 x277003_1.length co85, .slice none 0 0, .slice Ao80 y281.length co80], .int .i64 0, .agg #[.int .i64 4, .slice Ao84 y284.length co84]] rfl (by (try simp only [List.map_toArray, List.map_cons, List.map_nil]); first | done | rfl | (simp only [List.length_drop, List.length_take]; rfl)) ?_; (refine (render_Write.calls kj7 (⟨#[]⟩ : ByteArray) 0 0 _ _ x277003_1 _ _ ([] : List (S96)) _ _ y281 0 4 _ _ y284 t287 t288 _ ?side1 ?side2 ?side3 ?side4 ?side5 ?side6 ?side7 ?side8 A72.out ?hT_).mono ?_); (case hT_ => first | exact HTB_.out | exact tab_below HTB_.out (by repeat (first | (with_reducible first | exact HB.out | apply below_alloc | apply pw_below_drewN | apply below_drew1 | refine below_set ?_ (Aside0.out ‹_›)) | exact HB.out))); (case side1 => repeat (first | exact (Kd.R_reads' HO_277003.out).2.2 | (with_reducible refine Kd.C_alloc ?_ _) | (with_reducible refine Kd.C_drewN ?_ _) | (with_reducible refine Kd.C_drew ?_))); (case side2 => exact (Kd.R_reads' HO_277003.out).2.1); (case side3 => exact Kd.C_nil _ _); (case side4 => exact Nat.le_refl _); (case side5 => repeat (first | exact (Kd.N_reads' HO283.out).2.2 | (with_reducible refine Kd.C_alloc ?_ _) | (with_reducible refine Kd.C_drewN ?_ _) | (with_reducible refine Kd.C_drew ?_))); (case side6 => exact (Kd.N_reads' HO283.out).2.1); (case side7 => repeat (first | exact (Kd.R_reads' HO286.out).2.2 | (with_reducible refine Kd.C_alloc ?_ _) | (with_reducible refine Kd.C_drewN ?_ _) | (with_reducible refine Kd.C_drew ?_))); (case side8 => exact (Kd.R_reads' HO286.out).2.1); rintro e w86 ⟨rfl, hb⟩; refine ⟨_, rfl, ?_⟩; have n0_ := Aside0.mk (Kd.R_below (by exact rU HO_277003.out) hb); have n1_ := Aside0.mk (Kd.N_below (by exact nU HO283.out) hb); have n2_ := Aside0.mk (Kd.R_below (by exact rU HO286.out) hb); have n3_ := Aside0.mk (blk_below (g := gb276) (o := .cells #[.string (⟨#[]⟩ : ByteArray), .int .i64 0, .int .i64 0, .slice Ao85 x277003_1.length co85, .slice none 0 0, .slice Ao80 y281.length co80] 35 (0, 0)) (by (with_reducible repeat (first | refine blk_drewN ?_ _ | refine blk_drew ?_ | refine blk_alloc ?_ _)); exact BK276.out) hb); have n4_ := Aside0.mk (below_step (by exact wS HB.out GE276.out) hb); clear HO_277003; clear HO283; clear HO286; clear BK276; clear HB; have HO_277003 := n0_; have HO283 := n1_; have HO286 := n2_; have BK276 := n3_; have HB := n4_; clear n0_ n1_ n2_ n3_ n4_; (try clear hb); (try clear hb2); (try clear hk); (try clear hi)))
          go_ret
          exact ⟨by first | rfl | (simp [errW_none, errW_some] <;> rfl) | (simp [*, errW_none, errW_some] <;> rfl), by exact wS HB.out GE276.out⟩
        rw [if_neg c73] at H
        have c73b0 : (x6_1.toList == ([] : List UInt8)) = false := beq_eq_false_iff_ne.mpr c73
        have c73b1 : (x6_1.toList != ([] : List UInt8)) = true := bne_iff_ne.mpr c73
        by_cases c99 : t288 = 0
        rotate_left
        · rw [if_neg c99] at H
          have c99b0 : (t288 == 0) = false := beq_eq_false_iff_ne.mpr c99
          have c99b1 : (t288 != 0) = true := bne_iff_ne.mpr c99
          obtain rfl := Option.some.inj H
          go_wp2_with (first | ((with_reducible refine gate_dst (N := 67) rfl ?_); refine Kd.R_lit k27 _ 27 ?hg (N := 67) ?hd (xs := ([(⟨2, (⟨#[]⟩ : ByteArray), 1, 0, 1⟩ : S27)] : List (S27))) (inner := [.int .i64 2, .string (⟨#[]⟩ : ByteArray), .int .i64 1, .int .i64 0, .int .i64 1]) (ok := fun _ => True) (okp := fun _ => True) ?hr ?hp (fun _ hk => hk) trivial (Below.refl _ _) (Nat.le_refl _) (by simp) ?_; (case hd => rfl); (case hg => rfl); (case hr => first | (go_simp; done) | (go_simp; rfl)); (case hp => exact (Reps.c5 (show Kd.M k27 _ _ _ (⟨2, (⟨#[]⟩ : ByteArray), 1, 0, 1⟩ : S27) [.int .i64 2, .string (⟨#[]⟩ : ByteArray), .int .i64 1, .int .i64 0, .int .i64 1] from (k27_mkM _ _ _ (⟨2, (⟨#[]⟩ : ByteArray), 1, 0, 1⟩ : S27) )) (Reps.none _ _))); intro v279 w112 ho113 hb hg_ hnew_; clear hg_ hnew_; (first | rw [← Ny278.out] at ho113 | (simp only [Int.reduceToNat] at ho113; rw [← Ny278.out] at ho113)); have n0_ := Aside0.mk (Kd.R_below (by exact rU HO_277003.out) hb); have n1_ := Aside0.mk (Kd.R_lower ho113 (below_size (by exact wS HB.out GE276.out))); have n2_ := Aside0.mk (blk_below (g := gb276) (o := .cells #[.string (⟨#[]⟩ : ByteArray), .int .i64 0, .int .i64 0, u277003, .slice none 0 0, .slice none 0 0] 35 (0, 0)) (by (with_reducible repeat (first | refine blk_drewN ?_ _ | refine blk_drew ?_ | refine blk_alloc ?_ _)); exact BK276.out) hb); have n3_ := Aside0.mk (below_step (by exact wS HB.out GE276.out) hb); clear HO_277003; clear BK276; clear HB; have HO_277003 := n0_; have HO280 := n1_; have BK276 := n2_; have HB := n3_; clear n0_ n1_ n2_ n3_; clear hb ho113; obtain ⟨Ao114, co114, eo114⟩ := Kd.R_slice HO280.out; subst eo114) | ((with_reducible refine gate_dst (N := 69) rfl ?_); refine Kd.N_lit k31 _ 31 ?hg (N' := 69) ?hd (xs := ([(⟨4, y278⟩ : S31)] : List (S31))) (inner := [.int .i64 4, .slice Ao114 y278.length co114]) (ok := (fun k_ => some k_ ≠ (u277003 : Value).ownBlock ∧ k_ ≠ gb276)) (okp := (fun k_ => some k_ ≠ (u277003 : Value).ownBlock ∧ k_ ≠ gb276)) ?hr ?hp (fun _ hk => hk) ((show ∀ k_, w112.heap.size ≤ k_ → (fun k_ => some k_ ≠ (u277003 : Value).ownBlock ∧ k_ ≠ gb276) k_ from fun k_ hk => ⟨Kd.fresh' (Kd.R_lt (by exact rU HO_277003.out)) k_ hk, Kd.freshB (g := gb276) (o := .cells #[.string (⟨#[]⟩ : ByteArray), .int .i64 0, .int .i64 0, u277003, .slice none 0 0, .slice none 0 0] 35 (0, 0)) (by (with_reducible repeat (first | refine blk_drewN ?_ _ | refine blk_drew ?_ | refine blk_alloc ?_ _)); exact BK276.out) k_ hk⟩) _ (Nat.le_refl _)) (Below.refl _ _) (Nat.le_refl _) (by simp) ?_; (case hd => rfl); (case hg => rfl); (case hr => first | (go_simp; done) | (go_simp; rfl)); (case hp => exact (Reps.c2 (show Kd.FK k31 _ _ (⟨4, y278⟩ : S31) [.int .i64 4, .slice Ao114 y278.length co114] from (k31_mkF _ _ (⟨4, y278⟩ : S31) (Kd.R_reads' (Kd.R_mono (ok' := (fun k_ => some k_ ≠ (u277003 : Value).ownBlock ∧ k_ ≠ gb276)) (Kd.R_types (Kd.R_apart' (HO280.out) (Kd.R_typed HO_277003.out) (by decide)) BK276.out (by decide)) (fun k_ hk => ⟨hk.1.2, hk.2⟩))).2.1 (Kd.R_F (Kd.R_mono (ok' := (fun k_ => some k_ ≠ (u277003 : Value).ownBlock ∧ k_ ≠ gb276)) (Kd.R_types (Kd.R_apart' (HO280.out) (Kd.R_typed HO_277003.out) (by decide)) BK276.out (by decide)) (fun k_ hk => ⟨hk.1.2, hk.2⟩))))) (Reps.none _ _))); intro v282 w115 ho116 hb hg_ hnew_; clear hg_ hnew_; (first | rw [← Ny281.out] at ho116 | (simp only [Int.reduceToNat] at ho116; rw [← Ny281.out] at ho116)); have n0_ := Aside0.mk (Kd.R_below (by exact rU HO_277003.out) hb); have n1_ := Aside0.mk (Kd.N_lower ho116 (below_size (by exact wS HB.out GE276.out))); have n2_ := Aside0.mk (blk_below (g := gb276) (o := .cells #[.string (⟨#[]⟩ : ByteArray), .int .i64 0, .int .i64 0, u277003, .slice none 0 0, .slice none 0 0] 35 (0, 0)) (by (with_reducible repeat (first | refine blk_drewN ?_ _ | refine blk_drew ?_ | refine blk_alloc ?_ _)); exact BK276.out) hb); have n3_ := Aside0.mk (below_step (by exact wS HB.out GE276.out) hb); clear HO_277003; clear BK276; clear HB; clear HO280; have HO_277003 := n0_; have HO283 := n1_; have BK276 := n2_; have HB := n3_; clear n0_ n1_ n2_ n3_; clear hb ho116; obtain ⟨Ao117, co117, eo117⟩ := Kd.N_slice HO283.out; subst eo117; have hcz118_0 : w115.cell? ⟨gb276, 0, none⟩ = some (.string (⟨#[]⟩ : ByteArray)) := (blk_cell BK276.out 0).trans rfl; have hcz118_1 : w115.cell? ⟨gb276, 1, none⟩ = some (.int .i64 0) := (blk_cell BK276.out 1).trans rfl; have hcz118_2 : w115.cell? ⟨gb276, 2, none⟩ = some (.int .i64 0) := (blk_cell BK276.out 2).trans rfl; have hcz118_3 : w115.cell? ⟨gb276, 3, none⟩ = some (u277003) := (blk_cell BK276.out 3).trans rfl; have hcz118_4 : w115.cell? ⟨gb276, 4, none⟩ = some (.slice none 0 0) := (blk_cell BK276.out 4).trans rfl; have hcz118_5 : w115.cell? ⟨gb276, 5, none⟩ = some (.slice none 0 0) := (blk_cell BK276.out 5).trans rfl; have hfz118_0 := blk_frozen BK276.out 0; have hfz118_1 := blk_frozen BK276.out 1; have hfz118_2 := blk_frozen BK276.out 2; have hfz118_3 := blk_frozen BK276.out 3; have hfz118_4 := blk_frozen BK276.out 4; have hfz118_5 := blk_frozen BK276.out 5) | ((with_reducible refine gate_dst (N := 74) rfl ?_); refine Kd.R_lit (Kd.int .i64) _ 3 ?hg (N := 74) ?hd (xs := ([2000, (wrap64 (1 + t277)), 1] : List Int)) (inner := [.int .i64 2000, .int .i64 (wrap64 (1 + t277)), .int .i64 1]) (ok := fun _ => True) (okp := fun _ => True) ?hr ?hp (fun _ hk => hk) trivial (Below.refl _ _) (Nat.le_refl _) (by simp) ?_; (case hd => rfl); (case hg => rfl); (case hr => first | (go_simp; done) | (go_simp; rfl)); (case hp => exact (Reps.one (show Kd.M (Kd.int .i64) _ _ _ 2000 [.int .i64 2000] from rfl) (Reps.one (show Kd.M (Kd.int .i64) _ _ _ (wrap64 (1 + t277)) [.int .i64 (wrap64 (1 + t277))] from rfl) (Reps.one (show Kd.M (Kd.int .i64) _ _ _ 1 [.int .i64 1] from rfl) (Reps.none _ _))))); intro v285 w119 ho120 hb hg_ hnew_; clear hg_ hnew_; (first | rw [← Ny284.out] at ho120 | (simp only [Int.reduceToNat] at ho120; rw [← Ny284.out] at ho120)); have n0_ := Aside0.mk (Kd.R_below (by exact rU ((Kd.R_mono (Kd.R_far (p := ⟨gb276, 5, none⟩) (Kd.R_types HO_277003.out BK276.out (by decide)) (fun _ hk => hk.2) (.slice Ao117 y281.length co117)) (fun _ h_ => h_.1)))) hb); have n1_ := Aside0.mk (Kd.N_elder' (by exact nU ((Kd.N_mono (Kd.N_far (p := ⟨gb276, 5, none⟩) (Kd.N_mono HO283.out (fun k_ hk => (⟨hk, hk.2⟩ : _ ∧ k_ ≠ gb276))) (fun _ hk => hk.2) (.slice Ao117 y281.length co117)) (fun _ h_ => h_.1)))) (Kd.R_base ho120) hb); have n2_ := Aside0.mk (Kd.R_lower ho120 (below_size (by exact wS HB.out GE276.out))); have n3_ := Aside0.mk (blk_below (g := gb276) (o := .cells #[.string (⟨#[]⟩ : ByteArray), .int .i64 0, .int .i64 0, u277003, .slice none 0 0, .slice Ao117 y281.length co117] 35 (0, 0)) (by (with_reducible repeat (first | refine blk_drewN ?_ _ | refine blk_drew ?_ | refine blk_alloc ?_ _)); refine blk_put (cs := #[.string (⟨#[]⟩ : ByteArray), .int .i64 0, .int .i64 0, u277003, .slice none 0 0, .slice none 0 0]) ?_ 5 _ rfl; (with_reducible repeat (first | refine blk_drewN ?_ _ | refine blk_drew ?_ | refine blk_alloc ?_ _)); exact BK276.out) hb); have n4_ := Aside0.mk (below_step (by exact wS HB.out GE276.out) hb); clear HO_277003; clear HO283; clear BK276; clear HB; have HO_277003 := n0_; have HO283 := n1_; have HO286 := n2_; have BK276 := n3_; have HB := n4_; clear n0_ n1_ n2_ n3_ n4_; clear hb ho120; obtain ⟨Ao121, co121, eo121⟩ := Kd.R_slice HO286.out; subst eo121; obtain ⟨Ao122, co122, eo122⟩ := Kd.R_slice HO_277003.out; subst eo122) | ((with_reducible refine gate_callee (f := 10) rfl ?_); refine goesL_ (some 76) rfl rfl Tryd.func10 (by kernel_rfl) rfl #[.agg #[.string (⟨#[]⟩ : ByteArray), .int .i64 0, .int .i64 0, .slice Ao122 x277003_1.length co122, .slice none 0 0, .slice Ao117 y281.length co117], .int .i64 0, .agg #[.int .i64 4, .slice Ao121 y284.length co121]] rfl (by (try simp only [List.map_toArray, List.map_cons, List.map_nil]); first | done | rfl | (simp only [List.length_drop, List.length_take]; rfl)) ?_; (refine (render_Write.calls kj7 (⟨#[]⟩ : ByteArray) 0 0 _ _ x277003_1 _ _ ([] : List (S96)) _ _ y281 0 4 _ _ y284 t287 t288 _ ?side1 ?side2 ?side3 ?side4 ?side5 ?side6 ?side7 ?side8 A72.out ?hT_).mono ?_); (case hT_ => first | exact HTB_.out | exact tab_below HTB_.out (by repeat (first | (with_reducible first | exact HB.out | apply below_alloc | apply pw_below_drewN | apply below_drew1 | refine below_set ?_ (Aside0.out ‹_›)) | exact HB.out))); (case side1 => repeat (first | exact (Kd.R_reads' HO_277003.out).2.2 | (with_reducible refine Kd.C_alloc ?_ _) | (with_reducible refine Kd.C_drewN ?_ _) | (with_reducible refine Kd.C_drew ?_))); (case side2 => exact (Kd.R_reads' HO_277003.out).2.1); (case side3 => exact Kd.C_nil _ _); (case side4 => exact Nat.le_refl _); (case side5 => repeat (first | exact (Kd.N_reads' HO283.out).2.2 | (with_reducible refine Kd.C_alloc ?_ _) | (with_reducible refine Kd.C_drewN ?_ _) | (with_reducible refine Kd.C_drew ?_))); (case side6 => exact (Kd.N_reads' HO283.out).2.1); (case side7 => repeat (first | exact (Kd.R_reads' HO286.out).2.2 | (with_reducible refine Kd.C_alloc ?_ _) | (with_reducible refine Kd.C_drewN ?_ _) | (with_reducible refine Kd.C_drew ?_))); (case side8 => exact (Kd.R_reads' HO286.out).2.1); rintro e w123 ⟨rfl, hb⟩; refine ⟨_, rfl, ?_⟩; have n0_ := Aside0.mk (Kd.R_below (by exact rU HO_277003.out) hb); have n1_ := Aside0.mk (Kd.N_below (by exact nU HO283.out) hb); have n2_ := Aside0.mk (Kd.R_below (by exact rU HO286.out) hb); have n3_ := Aside0.mk (blk_below (g := gb276) (o := .cells #[.string (⟨#[]⟩ : ByteArray), .int .i64 0, .int .i64 0, .slice Ao122 x277003_1.length co122, .slice none 0 0, .slice Ao117 y281.length co117] 35 (0, 0)) (by (with_reducible repeat (first | refine blk_drewN ?_ _ | refine blk_drew ?_ | refine blk_alloc ?_ _)); exact BK276.out) hb); have n4_ := Aside0.mk (below_step (by exact wS HB.out GE276.out) hb); clear HO_277003; clear HO283; clear HO286; clear BK276; clear HB; have HO_277003 := n0_; have HO283 := n1_; have HO286 := n2_; have BK276 := n3_; have HB := n4_; clear n0_ n1_ n2_ n3_ n4_; (try clear hb); (try clear hb2); (try clear hk); (try clear hi)))
          go_ret
          exact ⟨by first | rfl | (simp [errW_none, errW_some] <;> rfl) | (simp [*, errW_none, errW_some] <;> rfl), by exact wS HB.out GE276.out⟩
        rw [if_pos c99] at H
        have c99b0 : (t288 == 0) = true := beq_iff_eq.mpr c99
        have c99b1 : (t288 != 0) = false := bne_eq_false_iff_eq.mpr c99
        clear c99
        obtain rfl := Option.some.inj H
        go_wp2_with (first | ((with_reducible refine gate_dst (N := 67) rfl ?_); refine Kd.R_lit k27 _ 27 ?hg (N := 67) ?hd (xs := ([(⟨2, (⟨#[]⟩ : ByteArray), 1, 0, 1⟩ : S27)] : List (S27))) (inner := [.int .i64 2, .string (⟨#[]⟩ : ByteArray), .int .i64 1, .int .i64 0, .int .i64 1]) (ok := fun _ => True) (okp := fun _ => True) ?hr ?hp (fun _ hk => hk) trivial (Below.refl _ _) (Nat.le_refl _) (by simp) ?_; (case hd => rfl); (case hg => rfl); (case hr => first | (go_simp; done) | (go_simp; rfl)); (case hp => exact (Reps.c5 (show Kd.M k27 _ _ _ (⟨2, (⟨#[]⟩ : ByteArray), 1, 0, 1⟩ : S27) [.int .i64 2, .string (⟨#[]⟩ : ByteArray), .int .i64 1, .int .i64 0, .int .i64 1] from (k27_mkM _ _ _ (⟨2, (⟨#[]⟩ : ByteArray), 1, 0, 1⟩ : S27) )) (Reps.none _ _))); intro v279 w100 ho101 hb hg_ hnew_; clear hg_ hnew_; (first | rw [← Ny278.out] at ho101 | (simp only [Int.reduceToNat] at ho101; rw [← Ny278.out] at ho101)); have n0_ := Aside0.mk (Kd.R_below (by exact rU HO_277003.out) hb); have n1_ := Aside0.mk (Kd.R_lower ho101 (below_size (by exact wS HB.out GE276.out))); have n2_ := Aside0.mk (blk_below (g := gb276) (o := .cells #[.string (⟨#[]⟩ : ByteArray), .int .i64 0, .int .i64 0, u277003, .slice none 0 0, .slice none 0 0] 35 (0, 0)) (by (with_reducible repeat (first | refine blk_drewN ?_ _ | refine blk_drew ?_ | refine blk_alloc ?_ _)); exact BK276.out) hb); have n3_ := Aside0.mk (below_step (by exact wS HB.out GE276.out) hb); clear HO_277003; clear BK276; clear HB; have HO_277003 := n0_; have HO280 := n1_; have BK276 := n2_; have HB := n3_; clear n0_ n1_ n2_ n3_; clear hb ho101; obtain ⟨Ao102, co102, eo102⟩ := Kd.R_slice HO280.out; subst eo102) | ((with_reducible refine gate_dst (N := 69) rfl ?_); refine Kd.N_lit k31 _ 31 ?hg (N' := 69) ?hd (xs := ([(⟨4, y278⟩ : S31)] : List (S31))) (inner := [.int .i64 4, .slice Ao102 y278.length co102]) (ok := (fun k_ => some k_ ≠ (u277003 : Value).ownBlock ∧ k_ ≠ gb276)) (okp := (fun k_ => some k_ ≠ (u277003 : Value).ownBlock ∧ k_ ≠ gb276)) ?hr ?hp (fun _ hk => hk) ((show ∀ k_, w100.heap.size ≤ k_ → (fun k_ => some k_ ≠ (u277003 : Value).ownBlock ∧ k_ ≠ gb276) k_ from fun k_ hk => ⟨Kd.fresh' (Kd.R_lt (by exact rU HO_277003.out)) k_ hk, Kd.freshB (g := gb276) (o := .cells #[.string (⟨#[]⟩ : ByteArray), .int .i64 0, .int .i64 0, u277003, .slice none 0 0, .slice none 0 0] 35 (0, 0)) (by (with_reducible repeat (first | refine blk_drewN ?_ _ | refine blk_drew ?_ | refine blk_alloc ?_ _)); exact BK276.out) k_ hk⟩) _ (Nat.le_refl _)) (Below.refl _ _) (Nat.le_refl _) (by simp) ?_; (case hd => rfl); (case hg => rfl); (case hr => first | (go_simp; done) | (go_simp; rfl)); (case hp => exact (Reps.c2 (show Kd.FK k31 _ _ (⟨4, y278⟩ : S31) [.int .i64 4, .slice Ao102 y278.length co102] from (k31_mkF _ _ (⟨4, y278⟩ : S31) (Kd.R_reads' (Kd.R_mono (ok' := (fun k_ => some k_ ≠ (u277003 : Value).ownBlock ∧ k_ ≠ gb276)) (Kd.R_types (Kd.R_apart' (HO280.out) (Kd.R_typed HO_277003.out) (by decide)) BK276.out (by decide)) (fun k_ hk => ⟨hk.1.2, hk.2⟩))).2.1 (Kd.R_F (Kd.R_mono (ok' := (fun k_ => some k_ ≠ (u277003 : Value).ownBlock ∧ k_ ≠ gb276)) (Kd.R_types (Kd.R_apart' (HO280.out) (Kd.R_typed HO_277003.out) (by decide)) BK276.out (by decide)) (fun k_ hk => ⟨hk.1.2, hk.2⟩))))) (Reps.none _ _))); intro v282 w103 ho104 hb hg_ hnew_; clear hg_ hnew_; (first | rw [← Ny281.out] at ho104 | (simp only [Int.reduceToNat] at ho104; rw [← Ny281.out] at ho104)); have n0_ := Aside0.mk (Kd.R_below (by exact rU HO_277003.out) hb); have n1_ := Aside0.mk (Kd.N_lower ho104 (below_size (by exact wS HB.out GE276.out))); have n2_ := Aside0.mk (blk_below (g := gb276) (o := .cells #[.string (⟨#[]⟩ : ByteArray), .int .i64 0, .int .i64 0, u277003, .slice none 0 0, .slice none 0 0] 35 (0, 0)) (by (with_reducible repeat (first | refine blk_drewN ?_ _ | refine blk_drew ?_ | refine blk_alloc ?_ _)); exact BK276.out) hb); have n3_ := Aside0.mk (below_step (by exact wS HB.out GE276.out) hb); clear HO_277003; clear BK276; clear HB; clear HO280; have HO_277003 := n0_; have HO283 := n1_; have BK276 := n2_; have HB := n3_; clear n0_ n1_ n2_ n3_; clear hb ho104; obtain ⟨Ao105, co105, eo105⟩ := Kd.N_slice HO283.out; subst eo105; have hcz106_0 : w103.cell? ⟨gb276, 0, none⟩ = some (.string (⟨#[]⟩ : ByteArray)) := (blk_cell BK276.out 0).trans rfl; have hcz106_1 : w103.cell? ⟨gb276, 1, none⟩ = some (.int .i64 0) := (blk_cell BK276.out 1).trans rfl; have hcz106_2 : w103.cell? ⟨gb276, 2, none⟩ = some (.int .i64 0) := (blk_cell BK276.out 2).trans rfl; have hcz106_3 : w103.cell? ⟨gb276, 3, none⟩ = some (u277003) := (blk_cell BK276.out 3).trans rfl; have hcz106_4 : w103.cell? ⟨gb276, 4, none⟩ = some (.slice none 0 0) := (blk_cell BK276.out 4).trans rfl; have hcz106_5 : w103.cell? ⟨gb276, 5, none⟩ = some (.slice none 0 0) := (blk_cell BK276.out 5).trans rfl; have hfz106_0 := blk_frozen BK276.out 0; have hfz106_1 := blk_frozen BK276.out 1; have hfz106_2 := blk_frozen BK276.out 2; have hfz106_3 := blk_frozen BK276.out 3; have hfz106_4 := blk_frozen BK276.out 4; have hfz106_5 := blk_frozen BK276.out 5) | ((with_reducible refine gate_dst (N := 74) rfl ?_); refine Kd.R_lit (Kd.int .i64) _ 3 ?hg (N := 74) ?hd (xs := ([2000, (wrap64 (1 + t277)), 1] : List Int)) (inner := [.int .i64 2000, .int .i64 (wrap64 (1 + t277)), .int .i64 1]) (ok := fun _ => True) (okp := fun _ => True) ?hr ?hp (fun _ hk => hk) trivial (Below.refl _ _) (Nat.le_refl _) (by simp) ?_; (case hd => rfl); (case hg => rfl); (case hr => first | (go_simp; done) | (go_simp; rfl)); (case hp => exact (Reps.one (show Kd.M (Kd.int .i64) _ _ _ 2000 [.int .i64 2000] from rfl) (Reps.one (show Kd.M (Kd.int .i64) _ _ _ (wrap64 (1 + t277)) [.int .i64 (wrap64 (1 + t277))] from rfl) (Reps.one (show Kd.M (Kd.int .i64) _ _ _ 1 [.int .i64 1] from rfl) (Reps.none _ _))))); intro v285 w107 ho108 hb hg_ hnew_; clear hg_ hnew_; (first | rw [← Ny284.out] at ho108 | (simp only [Int.reduceToNat] at ho108; rw [← Ny284.out] at ho108)); have n0_ := Aside0.mk (Kd.R_below (by exact rU ((Kd.R_mono (Kd.R_far (p := ⟨gb276, 5, none⟩) (Kd.R_types HO_277003.out BK276.out (by decide)) (fun _ hk => hk.2) (.slice Ao105 y281.length co105)) (fun _ h_ => h_.1)))) hb); have n1_ := Aside0.mk (Kd.N_elder' (by exact nU ((Kd.N_mono (Kd.N_far (p := ⟨gb276, 5, none⟩) (Kd.N_mono HO283.out (fun k_ hk => (⟨hk, hk.2⟩ : _ ∧ k_ ≠ gb276))) (fun _ hk => hk.2) (.slice Ao105 y281.length co105)) (fun _ h_ => h_.1)))) (Kd.R_base ho108) hb); have n2_ := Aside0.mk (Kd.R_lower ho108 (below_size (by exact wS HB.out GE276.out))); have n3_ := Aside0.mk (blk_below (g := gb276) (o := .cells #[.string (⟨#[]⟩ : ByteArray), .int .i64 0, .int .i64 0, u277003, .slice none 0 0, .slice Ao105 y281.length co105] 35 (0, 0)) (by (with_reducible repeat (first | refine blk_drewN ?_ _ | refine blk_drew ?_ | refine blk_alloc ?_ _)); refine blk_put (cs := #[.string (⟨#[]⟩ : ByteArray), .int .i64 0, .int .i64 0, u277003, .slice none 0 0, .slice none 0 0]) ?_ 5 _ rfl; (with_reducible repeat (first | refine blk_drewN ?_ _ | refine blk_drew ?_ | refine blk_alloc ?_ _)); exact BK276.out) hb); have n4_ := Aside0.mk (below_step (by exact wS HB.out GE276.out) hb); clear HO_277003; clear HO283; clear BK276; clear HB; have HO_277003 := n0_; have HO283 := n1_; have HO286 := n2_; have BK276 := n3_; have HB := n4_; clear n0_ n1_ n2_ n3_ n4_; clear hb ho108; obtain ⟨Ao109, co109, eo109⟩ := Kd.R_slice HO286.out; subst eo109; obtain ⟨Ao110, co110, eo110⟩ := Kd.R_slice HO_277003.out; subst eo110) | ((with_reducible refine gate_callee (f := 10) rfl ?_); refine goesL_ (some 76) rfl rfl Tryd.func10 (by kernel_rfl) rfl #[.agg #[.string (⟨#[]⟩ : ByteArray), .int .i64 0, .int .i64 0, .slice Ao110 x277003_1.length co110, .slice none 0 0, .slice Ao105 y281.length co105], .int .i64 0, .agg #[.int .i64 4, .slice Ao109 y284.length co109]] rfl (by (try simp only [List.map_toArray, List.map_cons, List.map_nil]); first | done | rfl | (simp only [List.length_drop, List.length_take]; rfl)) ?_; (refine (render_Write.calls kj7 (⟨#[]⟩ : ByteArray) 0 0 _ _ x277003_1 _ _ ([] : List (S96)) _ _ y281 0 4 _ _ y284 t287 t288 _ ?side1 ?side2 ?side3 ?side4 ?side5 ?side6 ?side7 ?side8 A72.out ?hT_).mono ?_); (case hT_ => first | exact HTB_.out | exact tab_below HTB_.out (by repeat (first | (with_reducible first | exact HB.out | apply below_alloc | apply pw_below_drewN | apply below_drew1 | refine below_set ?_ (Aside0.out ‹_›)) | exact HB.out))); (case side1 => repeat (first | exact (Kd.R_reads' HO_277003.out).2.2 | (with_reducible refine Kd.C_alloc ?_ _) | (with_reducible refine Kd.C_drewN ?_ _) | (with_reducible refine Kd.C_drew ?_))); (case side2 => exact (Kd.R_reads' HO_277003.out).2.1); (case side3 => exact Kd.C_nil _ _); (case side4 => exact Nat.le_refl _); (case side5 => repeat (first | exact (Kd.N_reads' HO283.out).2.2 | (with_reducible refine Kd.C_alloc ?_ _) | (with_reducible refine Kd.C_drewN ?_ _) | (with_reducible refine Kd.C_drew ?_))); (case side6 => exact (Kd.N_reads' HO283.out).2.1); (case side7 => repeat (first | exact (Kd.R_reads' HO286.out).2.2 | (with_reducible refine Kd.C_alloc ?_ _) | (with_reducible refine Kd.C_drewN ?_ _) | (with_reducible refine Kd.C_drew ?_))); (case side8 => exact (Kd.R_reads' HO286.out).2.1); rintro e w111 ⟨rfl, hb⟩; refine ⟨_, rfl, ?_⟩; have n0_ := Aside0.mk (Kd.R_below (by exact rU HO_277003.out) hb); have n1_ := Aside0.mk (Kd.N_below (by exact nU HO283.out) hb); have n2_ := Aside0.mk (Kd.R_below (by exact rU HO286.out) hb); have n3_ := Aside0.mk (blk_below (g := gb276) (o := .cells #[.string (⟨#[]⟩ : ByteArray), .int .i64 0, .int .i64 0, .slice Ao110 x277003_1.length co110, .slice none 0 0, .slice Ao105 y281.length co105] 35 (0, 0)) (by (with_reducible repeat (first | refine blk_drewN ?_ _ | refine blk_drew ?_ | refine blk_alloc ?_ _)); exact BK276.out) hb); have n4_ := Aside0.mk (below_step (by exact wS HB.out GE276.out) hb); clear HO_277003; clear HO283; clear HO286; clear BK276; clear HB; have HO_277003 := n0_; have HO283 := n1_; have HO286 := n2_; have BK276 := n3_; have HB := n4_; clear n0_ n1_ n2_ n3_ n4_; (try clear hb); (try clear hb2); (try clear hk); (try clear hi)))
        go_ret
        exact ⟨by first | rfl | (simp [errW_none, errW_some] <;> rfl) | (simp [*, errW_none, errW_some] <;> rfl), by exact wS HB.out GE276.out⟩
      subst c10
      have H1 : (if 0 ≤ x8_1 then (if x8_1 ≤ (wrap64 (x8_1 + 1)) then (if (wrap64 (x8_1 + 1)) ≤ 15 then (if x8_1 < (l0.length : Int) then ((interlocutorlaw11_within.f (rd l0 x8_1) 2).bind fun t290 => ((interlocutorlaw11_within.f (wrap64 (Int.tdiv (rd l0 x8_1) 2)) 4).bind fun t292 => (if x277003_1.length < 4398046511104 then ((some (x277003_1 ++ [(⟨(⟨#[97, 98, 99, 100, 101, 102, 103, 104, 105, 106, 107, 108, 109, 110, 111]⟩ : ByteArray).extract (x8_1 : Int).toNat ((wrap64 (x8_1 + 1)) : Int).toNat, wrap64 (1 + t290), wrap64 (1 + t292)⟩ : S24)] : List (S24))).bind fun y294 => (if x6_1.toList = ([] : List UInt8) then (if (wrap64 (1 + t290)) = 1 then (if (wrap64 (1 + t292)) = (wrap64 (1 + t277)) then (interlocutorlaw11_RenderWords.l0 kj7 l0 ((⟨#[97, 98, 99, 100, 101, 102, 103, 104, 105, 106, 107, 108, 109, 110, 111]⟩ : ByteArray).extract (x8_1 : Int).toNat ((wrap64 (x8_1 + 1)) : Int).toNat) (wrap64 (1 + t277)) (wrap64 (x8_1 + 1)) (⟨#[]⟩ : ByteArray) 0 0 y294) else (interlocutorlaw11_RenderWords.l0 kj7 l0 x6_1 (wrap64 (1 + t277)) (wrap64 (x8_1 + 1)) (⟨#[]⟩ : ByteArray) 0 0 y294)) else (interlocutorlaw11_RenderWords.l0 kj7 l0 x6_1 (wrap64 (1 + t277)) (wrap64 (x8_1 + 1)) (⟨#[]⟩ : ByteArray) 0 0 y294)) else (interlocutorlaw11_RenderWords.l0 kj7 l0 x6_1 (wrap64 (1 + t277)) (wrap64 (x8_1 + 1)) (⟨#[]⟩ : ByteArray) 0 0 y294))) else (none)))) else (none)) else (none)) else (none)) else (none)) = some r := by rw [if_pos rfl] at H; exact H
      clear H
      have H := H1
      clear H1
      by_cases c11 : 0 ≤ x8_1
      rotate_left
      · rw [if_neg c11] at H
        exact absurd H (by simp)
      rw [if_pos c11] at H
      have c11b0 := eq_true c11
      have c11b1 : decide (0 ≤ x8_1) = true := decide_eq_true c11
      clear c11
      by_cases c12 : x8_1 ≤ (wrap64 (x8_1 + 1))
      rotate_left
      · rw [if_neg c12] at H
        exact absurd H (by simp)
      rw [if_pos c12] at H
      have c12b0 := eq_true c12
      have c12b1 : decide (x8_1 ≤ (wrap64 (x8_1 + 1))) = true := decide_eq_true c12
      by_cases c13 : (wrap64 (x8_1 + 1)) ≤ 15
      rotate_left
      · rw [if_neg c13] at H
        exact absurd H (by simp)
      rw [if_pos c13] at H
      have c13b0 := eq_true c13
      have c13b1 : decide ((wrap64 (x8_1 + 1)) ≤ 15) = true := decide_eq_true c13
      by_cases c14 : x8_1 < (l0.length : Int)
      rotate_left
      · rw [if_neg c14] at H
        exact absurd H (by simp)
      rw [if_pos c14] at H
      have c14b0 : decide (x8_1 < (l0.length : Int)) = true := decide_eq_true c14
      clear c14
      replace H := Option.bind_eq_some_iff.mp H
      obtain ⟨t290, A150, H⟩ := H
      replace H : ((interlocutorlaw11_within.f (wrap64 (Int.tdiv (rd l0 x8_1) 2)) 4).bind fun t292 => (if x277003_1.length < 4398046511104 then ((some (x277003_1 ++ [(⟨(⟨#[97, 98, 99, 100, 101, 102, 103, 104, 105, 106, 107, 108, 109, 110, 111]⟩ : ByteArray).extract (x8_1 : Int).toNat ((wrap64 (x8_1 + 1)) : Int).toNat, wrap64 (1 + t290), wrap64 (1 + t292)⟩ : S24)] : List (S24))).bind fun y294 => (if x6_1.toList = ([] : List UInt8) then (if (wrap64 (1 + t290)) = 1 then (if (wrap64 (1 + t292)) = (wrap64 (1 + t277)) then (interlocutorlaw11_RenderWords.l0 kj7 l0 ((⟨#[97, 98, 99, 100, 101, 102, 103, 104, 105, 106, 107, 108, 109, 110, 111]⟩ : ByteArray).extract (x8_1 : Int).toNat ((wrap64 (x8_1 + 1)) : Int).toNat) (wrap64 (1 + t277)) (wrap64 (x8_1 + 1)) (⟨#[]⟩ : ByteArray) 0 0 y294) else (interlocutorlaw11_RenderWords.l0 kj7 l0 x6_1 (wrap64 (1 + t277)) (wrap64 (x8_1 + 1)) (⟨#[]⟩ : ByteArray) 0 0 y294)) else (interlocutorlaw11_RenderWords.l0 kj7 l0 x6_1 (wrap64 (1 + t277)) (wrap64 (x8_1 + 1)) (⟨#[]⟩ : ByteArray) 0 0 y294)) else (interlocutorlaw11_RenderWords.l0 kj7 l0 x6_1 (wrap64 (1 + t277)) (wrap64 (x8_1 + 1)) (⟨#[]⟩ : ByteArray) 0 0 y294))) else (none))) = some r := H
      have A15 := Aside0.mk A150
      clear A150
      replace H := Option.bind_eq_some_iff.mp H
      obtain ⟨t292, A160, H⟩ := H
      replace H : (if x277003_1.length < 4398046511104 then ((some (x277003_1 ++ [(⟨(⟨#[97, 98, 99, 100, 101, 102, 103, 104, 105, 106, 107, 108, 109, 110, 111]⟩ : ByteArray).extract (x8_1 : Int).toNat ((wrap64 (x8_1 + 1)) : Int).toNat, wrap64 (1 + t290), wrap64 (1 + t292)⟩ : S24)] : List (S24))).bind fun y294 => (if x6_1.toList = ([] : List UInt8) then (if (wrap64 (1 + t290)) = 1 then (if (wrap64 (1 + t292)) = (wrap64 (1 + t277)) then (interlocutorlaw11_RenderWords.l0 kj7 l0 ((⟨#[97, 98, 99, 100, 101, 102, 103, 104, 105, 106, 107, 108, 109, 110, 111]⟩ : ByteArray).extract (x8_1 : Int).toNat ((wrap64 (x8_1 + 1)) : Int).toNat) (wrap64 (1 + t277)) (wrap64 (x8_1 + 1)) (⟨#[]⟩ : ByteArray) 0 0 y294) else (interlocutorlaw11_RenderWords.l0 kj7 l0 x6_1 (wrap64 (1 + t277)) (wrap64 (x8_1 + 1)) (⟨#[]⟩ : ByteArray) 0 0 y294)) else (interlocutorlaw11_RenderWords.l0 kj7 l0 x6_1 (wrap64 (1 + t277)) (wrap64 (x8_1 + 1)) (⟨#[]⟩ : ByteArray) 0 0 y294)) else (interlocutorlaw11_RenderWords.l0 kj7 l0 x6_1 (wrap64 (1 + t277)) (wrap64 (x8_1 + 1)) (⟨#[]⟩ : ByteArray) 0 0 y294))) else (none)) = some r := H
      have A16 := Aside0.mk A160
      clear A160
      by_cases c17 : x277003_1.length < 4398046511104
      rotate_left
      · rw [if_neg c17] at H
        exact absurd H (by simp)
      rw [if_pos c17] at H
      have LMc17 := Aside0.mk c17
      clear c17
      obtain ⟨y294, hy294⟩ : ∃ y_ : List (S24), y_ = (x277003_1 ++ [(⟨(⟨#[97, 98, 99, 100, 101, 102, 103, 104, 105, 106, 107, 108, 109, 110, 111]⟩ : ByteArray).extract (x8_1 : Int).toNat ((wrap64 (x8_1 + 1)) : Int).toNat, wrap64 (1 + t290), wrap64 (1 + t292)⟩ : S24)]) := ⟨_, rfl⟩
      replace H : (if x6_1.toList = ([] : List UInt8) then (if (wrap64 (1 + t290)) = 1 then (if (wrap64 (1 + t292)) = (wrap64 (1 + t277)) then (interlocutorlaw11_RenderWords.l0 kj7 l0 ((⟨#[97, 98, 99, 100, 101, 102, 103, 104, 105, 106, 107, 108, 109, 110, 111]⟩ : ByteArray).extract (x8_1 : Int).toNat ((wrap64 (x8_1 + 1)) : Int).toNat) (wrap64 (1 + t277)) (wrap64 (x8_1 + 1)) (⟨#[]⟩ : ByteArray) 0 0 y294) else (interlocutorlaw11_RenderWords.l0 kj7 l0 x6_1 (wrap64 (1 + t277)) (wrap64 (x8_1 + 1)) (⟨#[]⟩ : ByteArray) 0 0 y294)) else (interlocutorlaw11_RenderWords.l0 kj7 l0 x6_1 (wrap64 (1 + t277)) (wrap64 (x8_1 + 1)) (⟨#[]⟩ : ByteArray) 0 0 y294)) else (interlocutorlaw11_RenderWords.l0 kj7 l0 x6_1 (wrap64 (1 + t277)) (wrap64 (x8_1 + 1)) (⟨#[]⟩ : ByteArray) 0 0 y294)) = some r := by first | (rw [hy294]; with_reducible exact H) | (have H2_ := (Option.bind_some _ _).symm.trans H; rw [hy294]; with_reducible exact H2_) | (have H2_ := (Option.bind_some _ _).symm.trans H; with_reducible exact H2_) | with_reducible exact H | (rw [hy294]; exact H) | exact H
      have Ny294 := Aside0.mk hy294
      clear hy294
      by_cases c18 : x6_1.toList = ([] : List UInt8)
      rotate_left
      · rw [if_neg c18] at H
        have c18b0 : (x6_1.toList == ([] : List UInt8)) = false := beq_eq_false_iff_ne.mpr c18
        have c18b1 : (x6_1.toList != ([] : List UInt8)) = true := bne_iff_ne.mpr c18
        have H' := Aside0.mk H
        clear H
        try go_wp2
        have n0_ := Aside0.mk (Kd.R_drew HO_277003.out)
        have n1_ := Aside0.mk (blk_drew BK276.out)
        have n2_ := Aside0.mk (below_drew1 HB.out)
        clear HO_277003 BK276 HB
        have HO_277003 := n0_
        have BK276 := n1_
        have HB := n2_
        clear n0_ n1_ n2_
        have p289 : 0 ≤ (x8_1 : Int) := of_decide_eq_true (by first | (with_reducible assumption) | assumption)
        have q289 : x8_1 < (l0.length : Int) := of_decide_eq_true (by first | (with_reducible assumption) | assumption)
        obtain ⟨ad289, e289, hx289_0⟩ := Kd.at_int HR0.out x8_1 p289 q289
        have hw289_0 := hx289_0
        cases e289
        replace hx289_0 := (HB.out.cell (World.block_lt_of_cell? w _ hx289_0)).trans hx289_0
        replace p289 := eq_true p289
        replace q289 := eq_true q289
        have p291 : 0 ≤ (x8_1 : Int) := of_decide_eq_true (by first | (with_reducible assumption) | assumption)
        have q291 : x8_1 < (l0.length : Int) := of_decide_eq_true (by first | (with_reducible assumption) | assumption)
        obtain ⟨ad291, e291, hx291_0⟩ := Kd.at_int HR0.out x8_1 p291 q291
        have hw291_0 := hx291_0
        obtain rfl : ad289 = ad291 := (by injection e291)
        replace hx291_0 := (HB.out.cell (World.block_lt_of_cell? w _ hx291_0)).trans hx291_0
        replace p291 := eq_true p291
        replace q291 := eq_true q291
        refine start_ (n := 20) (S := fun w' => w'.cell? (ad289.add (x8_1).toNat) = some (.int .i64 (rd l0 x8_1)) ∧ w'.cell? (ad289.add (x8_1).toNat) = some (.int .i64 (rd l0 x8_1))) (ds := []) #[N6,N6,N6,N6,N6,N6,N6,N6,N6,N6,N6,N6,N6,N6,N6,N6,N6,N6,N6,N6] (by kernel_rfl) rfl rfl ⟨((HB.out.cell (World.block_lt_of_cell? w _ hw289_0)).trans hw289_0), ((HB.out.cell (World.block_lt_of_cell? w _ hw291_0)).trans hw291_0)⟩ (fun hHeld => ?_); refine with_tabW interlocutorlaw11_RenderWords.tab9 interlocutorlaw11_RenderWords.bits9 (fun HT_ HW_ => ?_)
        generalize wc.drew = w60 at HO_277003 BK276 HB hx289_0 hx291_0 hHeld ⊢
        refine pure_ (i := 0) (N := some 27) (v := ?_) (a' := ?_) #[Y6,N6,N6,N6,N6,N6,N6,N6,N6,N6,N6,N6,N6,N6,N6,N6,N6,N6,N6,N6] rfl rfl (any_of HT_.out (by kernel_rfl)) (fun _ _ _ h => h) (Or.inl ⟨by rfl, ?_⟩) ?_ ?_; rotate_left; (intro w'; go_simp; with_reducible rfl); rotate_left; (simp only [pq6]; rfl)
        refine pure_ (i := 1) (N := some 28) (v := ?_) (a' := ?_) #[Y6,Y6,N6,N6,N6,N6,N6,N6,N6,N6,N6,N6,N6,N6,N6,N6,N6,N6,N6,N6] rfl rfl (any_of HT_.out (by kernel_rfl)) (fun _ _ _ h => h) (Or.inl ⟨by rfl, ?_⟩) ?_ ?_; rotate_left; (intro w'; go_simp; with_reducible rfl); rotate_left; (simp only [pq6]; rfl)
        refine pure_ (i := 2) (N := some 29) (v := ?_) (a' := ?_) #[Y6,Y6,Y6,N6,N6,N6,N6,N6,N6,N6,N6,N6,N6,N6,N6,N6,N6,N6,N6,N6] rfl rfl (any_of HT_.out (by kernel_rfl)) (fun _ _ _ h => h) (Or.inl ⟨by rfl, ?_⟩) ?_ ?_; rotate_left; (intro w'; go_simp; with_reducible rfl); rotate_left; (simp only [pq6]; rfl)
        refine pure_ (i := 3) (N := some 30) (v := ?_) (a' := ?_) #[Y6,Y6,Y6,Y6,N6,N6,N6,N6,N6,N6,N6,N6,N6,N6,N6,N6,N6,N6,N6,N6] rfl rfl (any_of HT_.out (by kernel_rfl)) (fun _ _ _ h => h) (Or.inl ⟨by rfl, ?_⟩) ?_ ?_; rotate_left; (intro w'; go_simp; with_reducible rfl); rotate_left; (simp only [pq6]; rfl)
        refine pure_ (i := 4) (N := some 31) (v := ?_) (a' := ?_) #[Y6,Y6,Y6,Y6,Y6,N6,N6,N6,N6,N6,N6,N6,N6,N6,N6,N6,N6,N6,N6,N6] rfl rfl (any_of HT_.out (by kernel_rfl)) (fun _ _ _ h => h) (Or.inl ⟨by rfl, ?_⟩) ?_ ?_; rotate_left; (intro w'; go_simp; with_reducible rfl); rotate_left; (simp only [pq6]; rfl)
        refine pure_ (i := 5) (N := some 32) (v := ?_) (a' := ?_) #[Y6,Y6,Y6,Y6,Y6,Y6,N6,N6,N6,N6,N6,N6,N6,N6,N6,N6,N6,N6,N6,N6] rfl rfl (any_of HT_.out (by kernel_rfl)) (fun _ _ _ h => h) (Or.inl ⟨by rfl, ?_⟩) ?_ ?_; rotate_left; (intro w'; go_simp; with_reducible rfl); rotate_left; (simp only [pq6]; rfl)
        refine pure_ (i := 6) (N := some 33) (v := ?_) (a' := ?_) #[Y6,Y6,Y6,Y6,Y6,Y6,Y6,N6,N6,N6,N6,N6,N6,N6,N6,N6,N6,N6,N6,N6] rfl rfl (any_of HT_.out (by kernel_rfl)) (fun _ _ _ h => h) (Or.inl ⟨by rfl, ?_⟩) ?_ ?_; rotate_left; (intro w'; go_simp; with_reducible rfl); rotate_left; (simp only [pq6]; rfl)
        refine pure_ (i := 10) (N := some 37) (v := ?_) (a' := ?_) #[Y6,Y6,Y6,Y6,Y6,Y6,Y6,N6,N6,N6,Y6,N6,N6,N6,N6,N6,N6,N6,N6,N6] rfl rfl (any_of HT_.out (by kernel_rfl)) (fun _ _ _ h => h) (Or.inl ⟨by rfl, ?_⟩) ?_ ?_; rotate_left; (intro w'; go_simp; with_reducible rfl); rotate_left; (simp only [pq6]; rfl)
        refine pure_ (i := 11) (N := some 38) (v := ?_) (a' := ?_) #[Y6,Y6,Y6,Y6,Y6,Y6,Y6,N6,N6,N6,Y6,Y6,N6,N6,N6,N6,N6,N6,N6,N6] rfl rfl (any_of HT_.out (by kernel_rfl)) (fun _ _ _ h => h) (Or.inl ⟨by rfl, ?_⟩) ?_ ?_; rotate_left; (intro w'; go_simp; with_reducible rfl); rotate_left; (simp only [pq6]; rfl)
        refine pure_ (i := 12) (N := some 39) (v := ?_) (a' := ?_) #[Y6,Y6,Y6,Y6,Y6,Y6,Y6,N6,N6,N6,Y6,Y6,Y6,N6,N6,N6,N6,N6,N6,N6] rfl rfl (any_of HT_.out (by kernel_rfl)) (fun _ _ _ h => h) (Or.inl ⟨by rfl, ?_⟩) ?_ ?_; rotate_left; (intro w'; go_simp; with_reducible rfl); rotate_left; (simp only [pq6]; rfl)
        refine take_ (i := 7) (N := some 34) (v := ?_) (a' := ?_) #[Y6,Y6,Y6,Y6,Y6,Y6,Y6,Y6,N6,N6,Y6,Y6,Y6,N6,N6,N6,N6,N6,N6,N6] rfl rfl (take_ofW HT_.out HW_.out (by kernel_rfl)) (fun _ _ _ h => h) (Or.inl ⟨by rfl, ?_⟩) hHeld ?_ ?_
        rotate_left
        · rintro w' ⟨s0, s1⟩
          go_simp
          with_reducible rfl
        rotate_left
        · simp only [pq6]
          rfl
        refine take_ (i := 13) (N := some 40) (v := ?_) (a' := ?_) #[Y6,Y6,Y6,Y6,Y6,Y6,Y6,Y6,N6,N6,Y6,Y6,Y6,Y6,N6,N6,N6,N6,N6,N6] rfl rfl (take_ofW HT_.out HW_.out (by kernel_rfl)) (fun _ _ _ h => h) (Or.inl ⟨by rfl, ?_⟩) hHeld ?_ ?_
        rotate_left
        · rintro w' ⟨s0, s1⟩
          go_simp
          with_reducible rfl
        rotate_left
        · simp only [pq6]
          rfl
        refine pure_ (i := 14) (N := some 41) (v := ?_) (a' := ?_) #[Y6,Y6,Y6,Y6,Y6,Y6,Y6,Y6,N6,N6,Y6,Y6,Y6,Y6,Y6,N6,N6,N6,N6,N6] rfl rfl (any_of HT_.out (by kernel_rfl)) (fun _ _ _ h => h) (Or.inl ⟨by rfl, ?_⟩) ?_ ?_; rotate_left; (intro w'; go_simp; with_reducible rfl); rotate_left; (simp only [pq6]; rfl)
        refine join_ (σ := Nat) 1 #[Y6,Y6,Y6,Y6,Y6,Y6,Y6,Y6,Y6,Y6,Y6,Y6,Y6,Y6,Y6,Y6,Y6,Y6,Y6,N6] (fun s_ => [(35, .int .i64 t290), (42, .int .i64 t292), (9, .pointer (some ⟨s_, 0, none⟩)), (36, .int .i64 (wrap64 (1 + t290))), (43, .int .i64 (wrap64 (1 + t292))), (44, .agg #[.string ((⟨#[97, 98, 99, 100, 101, 102, 103, 104, 105, 106, 107, 108, 109, 110, 111]⟩ : ByteArray).extract (x8_1 : Int).toNat ((wrap64 (x8_1 + 1)) : Int).toNat), .int .i64 (wrap64 (1 + t290)), .int .i64 (wrap64 (1 + t292))])]) (fun s_ w' => (w'.cell? (ad289.add (x8_1).toNat) = some (.int .i64 (rd l0 x8_1)) ∧ w'.cell? (ad289.add (x8_1).toNat) = some (.int .i64 (rd l0 x8_1))) ∧ (Kd.R k24 24 w' w.heap.size (fun k_ => k_ ≠ s_) u277003 x277003_1) ∧ (w'.heap[gb276]? = some (.cells #[.string (⟨#[]⟩ : ByteArray), .int .i64 0, .int .i64 0, u277003, .slice none 0 0, .slice none 0 0] 35 (0, 0))) ∧ (w'.heap[s_]? = some (.cells #[.string (⟨#[]⟩ : ByteArray), .int .i64 0, .int .i64 0] 24 (0, 0))) ∧ (w.heap.size ≤ s_) ∧ (w.heap.size ≤ s_) ∧ (gb276 ≠ s_) ∧ (s_ ≠ gb276) ∧ (Below w.heap.size w w')) ?_ ?_
        rotate_left
        · intro hCont
          refine two_ (i := 8) (j := 18) (Ni := some 35) (Nj := some 9) #[Y6,Y6,Y6,Y6,Y6,Y6,Y6,Y6,Y6,N6,Y6,Y6,Y6,Y6,Y6,N6,N6,N6,N6,N6] #[Y6,Y6,Y6,Y6,Y6,Y6,Y6,Y6,N6,N6,Y6,Y6,Y6,Y6,Y6,N6,N6,N6,Y6,N6] rfl rfl rfl rfl (two_of HT_.out (by kernel_rfl)) (by decide) (by decide) (fun K hK => ?_) (fun K hK => ?_)
          rotate_left
          · skip
            refine box_step ?hg (N := 9) ?hd (cs := #[.string (⟨#[]⟩ : ByteArray), .int .i64 0, .int .i64 0]) (t := 24) ?hr ?_; (case hd => rfl); (case hg => rfl); (case hr => first | (go_simp; done) | (go_simp; rfl))
            intro gb293 hg w61 hbox hb
            have n0_ := Aside0.mk (Kd.R_below (Kd.R_elderB (by exact rU HO_277003.out) gb293 (Nat.le_of_eq hg.symm)) hb)
            have n1_ := Aside0.mk (blk_below (g := gb276) (o := .cells #[.string (⟨#[]⟩ : ByteArray), .int .i64 0, .int .i64 0, u277003, .slice none 0 0, .slice none 0 0] 35 (0, 0)) (by (with_reducible repeat (first | refine blk_drewN ?_ _ | refine blk_drew ?_ | refine blk_alloc ?_ _)); exact BK276.out) hb)
            have n2_ := Aside0.mk (below_step (by exact wS HB.out GE276.out) hb)
            have n3_ := Aside0.mk (hbox)
            have n4_ := Aside0.mk ((by rw [hg]; exact (below_size (by exact wS HB.out GE276.out)) : w.heap.size ≤ gb293))
            have n5_ := Aside0.mk ((by rw [hg]; exact (below_size (by exact wS HB.out GE276.out)) : w.heap.size ≤ gb293))
            have n6_ := Aside0.mk ((by rw [hg]; exact Nat.ne_of_lt (blk_lt (g := gb276) (o := .cells #[.string (⟨#[]⟩ : ByteArray), .int .i64 0, .int .i64 0, u277003, .slice none 0 0, .slice none 0 0] 35 (0, 0)) (by (with_reducible repeat (first | refine blk_drewN ?_ _ | refine blk_drew ?_ | refine blk_alloc ?_ _)); exact BK276.out)) : gb276 ≠ gb293))
            have n7_ := Aside0.mk ((by rw [hg]; exact Nat.ne_of_gt (blk_lt (g := gb276) (o := .cells #[.string (⟨#[]⟩ : ByteArray), .int .i64 0, .int .i64 0, u277003, .slice none 0 0, .slice none 0 0] 35 (0, 0)) (by (with_reducible repeat (first | refine blk_drewN ?_ _ | refine blk_drew ?_ | refine blk_alloc ?_ _)); exact BK276.out)) : gb293 ≠ gb276))
            clear HO_277003 BK276 HB
            have HO_277003 := n0_
            have BK276 := n1_
            have HB := n2_
            have BK293 := n3_
            have GW293 := n4_
            have GE293 := n5_
            have NB276_293 := n6_
            have NB293_276 := n7_
            clear n0_ n1_ n2_ n3_ n4_ n5_ n6_ n7_ hb hbox hg
            refine hK.out _ _ ⟨((HB.out.cell (World.block_lt_of_cell? w _ hw289_0)).trans hw289_0), ((HB.out.cell (World.block_lt_of_cell? w _ hw291_0)).trans hw291_0)⟩ (fun hHeld => ?_)
            clear hK K
            refine norm_ (a' := ?_) ?_ ?_
            rotate_left
            · show Act.put _ (some 9) _ = _
              simp only [pq6]
              rfl
            refine one_ (i := 8) (N := some 35) #[Y6,Y6,Y6,Y6,Y6,Y6,Y6,Y6,Y6,N6,Y6,Y6,Y6,Y6,Y6,N6,N6,N6,Y6,N6] rfl rfl (one_of HT_.out (by kernel_rfl)) (by decide) (fun K hK => ?_)
            refine goes_ Tryd.func9 (by kernel_rfl) rfl #[.int .i64 (rd l0 x8_1), .int .i64 2] (by rfl) rfl rfl (by (try simp only [List.map_toArray, List.map_cons, List.map_nil]); first | done | rfl | (simp only [List.length_drop, List.length_take]; rfl)) ?_
            with_reducible refine (interlocutorlaw11_within.calls (rd l0 x8_1) 2 t290 _ A15.out).mono ?_
            rintro e w' ⟨rfl, ⟨nd, rfl⟩⟩
            refine ⟨_, rfl, ?_⟩
            refine hK.out _ _ ⟨((HB.out.cell (World.block_lt_of_cell? w _ hw289_0)).trans hw289_0), ((HB.out.cell (World.block_lt_of_cell? w _ hw291_0)).trans hw291_0)⟩ (fun hHeld => ?_)
            clear hK K
            refine norm_ (a' := ?_) ?_ ?_
            rotate_left
            · show Act.put _ (some 35) _ = _
              simp only [pq6]
              rfl
            refine pure_ (i := 9) (N := some 36) (v := ?_) (a' := ?_) #[Y6,Y6,Y6,Y6,Y6,Y6,Y6,Y6,Y6,Y6,Y6,Y6,Y6,Y6,Y6,N6,N6,N6,Y6,N6] rfl rfl (any_of HT_.out (by kernel_rfl)) (fun _ _ _ h => h) (Or.inl ⟨by rfl, ?_⟩) ?_ ?_; rotate_left; (intro w'; go_simp; with_reducible rfl); rotate_left; (simp only [pq6]; rfl)
            refine one_ (i := 15) (N := some 42) #[Y6,Y6,Y6,Y6,Y6,Y6,Y6,Y6,Y6,Y6,Y6,Y6,Y6,Y6,Y6,Y6,N6,N6,Y6,N6] rfl rfl (one_of HT_.out (by kernel_rfl)) (by decide) (fun K hK => ?_)
            refine goes_ Tryd.func9 (by kernel_rfl) rfl #[.int .i64 (wrap64 (Int.tdiv (rd l0 x8_1) 2)), .int .i64 4] (by rfl) rfl rfl (by (try simp only [List.map_toArray, List.map_cons, List.map_nil]); first | done | rfl | (simp only [List.length_drop, List.length_take]; rfl)) ?_
            with_reducible refine (interlocutorlaw11_within.calls (wrap64 (Int.tdiv (rd l0 x8_1) 2)) 4 t292 _ A16.out).mono ?_
            rintro e w' ⟨rfl, ⟨nd, rfl⟩⟩
            refine ⟨_, rfl, ?_⟩
            refine hK.out _ _ ⟨((HB.out.cell (World.block_lt_of_cell? w _ hw289_0)).trans hw289_0), ((HB.out.cell (World.block_lt_of_cell? w _ hw291_0)).trans hw291_0)⟩ (fun hHeld => ?_)
            clear hK K
            refine norm_ (a' := ?_) ?_ ?_
            rotate_left
            · show Act.put _ (some 42) _ = _
              simp only [pq6]
              rfl
            refine pure_ (i := 16) (N := some 43) (v := ?_) (a' := ?_) #[Y6,Y6,Y6,Y6,Y6,Y6,Y6,Y6,Y6,Y6,Y6,Y6,Y6,Y6,Y6,Y6,Y6,N6,Y6,N6] rfl rfl (any_of HT_.out (by kernel_rfl)) (fun _ _ _ h => h) (Or.inl ⟨by rfl, ?_⟩) ?_ ?_; rotate_left; (intro w'; go_simp; with_reducible rfl); rotate_left; (simp only [pq6]; rfl)
            refine pure_ (i := 17) (N := some 44) (v := ?_) (a' := ?_) #[Y6,Y6,Y6,Y6,Y6,Y6,Y6,Y6,Y6,Y6,Y6,Y6,Y6,Y6,Y6,Y6,Y6,Y6,Y6,N6] rfl rfl (any_of HT_.out (by kernel_rfl)) (fun _ _ _ h => h) (Or.inl ⟨by rfl, ?_⟩) ?_ ?_; rotate_left; (intro w'; go_simp; with_reducible rfl); rotate_left; (simp only [pq6]; rfl)
            exact nJ (hCont (gb293) _ ⟨hHeld, (by exact rU (Kd.R_mono HO_277003.out (fun _ hk => hk.2))), (by (with_reducible repeat (first | refine blk_drewN ?_ _ | refine blk_drew ?_ | refine blk_alloc ?_ _)); exact BK276.out), (by (with_reducible repeat (first | refine blk_drewN ?_ _ | refine blk_drew ?_ | refine blk_alloc ?_ _)); exact BK293.out), GW293.out, GE293.out, NB276_293.out, NB293_276.out, (by exact wZ HB.out GE276.out GE293.out)⟩)
          skip
          refine goes_ Tryd.func9 (by kernel_rfl) rfl #[.int .i64 (rd l0 x8_1), .int .i64 2] (by rfl) rfl rfl (by (try simp only [List.map_toArray, List.map_cons, List.map_nil]); first | done | rfl | (simp only [List.length_drop, List.length_take]; rfl)) ?_
          with_reducible refine (interlocutorlaw11_within.calls (rd l0 x8_1) 2 t290 _ A15.out).mono ?_
          rintro e w' ⟨rfl, ⟨nd, rfl⟩⟩
          refine ⟨_, rfl, ?_⟩
          refine hK.out _ _ ⟨((HB.out.cell (World.block_lt_of_cell? w _ hw289_0)).trans hw289_0), ((HB.out.cell (World.block_lt_of_cell? w _ hw291_0)).trans hw291_0)⟩ (fun hHeld => ?_)
          clear hK K
          refine norm_ (a' := ?_) ?_ ?_
          rotate_left
          · show Act.put _ (some 35) _ = _
            simp only [pq6]
            rfl
          refine pure_ (i := 9) (N := some 36) (v := ?_) (a' := ?_) #[Y6,Y6,Y6,Y6,Y6,Y6,Y6,Y6,Y6,Y6,Y6,Y6,Y6,Y6,Y6,N6,N6,N6,N6,N6] rfl rfl (any_of HT_.out (by kernel_rfl)) (fun _ _ _ h => h) (Or.inl ⟨by rfl, ?_⟩) ?_ ?_; rotate_left; (intro w'; go_simp; with_reducible rfl); rotate_left; (simp only [pq6]; rfl)
          refine two_ (i := 15) (j := 18) (Ni := some 42) (Nj := some 9) #[Y6,Y6,Y6,Y6,Y6,Y6,Y6,Y6,Y6,Y6,Y6,Y6,Y6,Y6,Y6,Y6,N6,N6,N6,N6] #[Y6,Y6,Y6,Y6,Y6,Y6,Y6,Y6,Y6,Y6,Y6,Y6,Y6,Y6,Y6,N6,N6,N6,Y6,N6] rfl rfl rfl rfl (two_of HT_.out (by kernel_rfl)) (by decide) (by decide) (fun K hK => ?_) (fun K hK => ?_)
          · skip
            refine goes_ Tryd.func9 (by kernel_rfl) rfl #[.int .i64 (wrap64 (Int.tdiv (rd l0 x8_1) 2)), .int .i64 4] (by rfl) rfl rfl (by (try simp only [List.map_toArray, List.map_cons, List.map_nil]); first | done | rfl | (simp only [List.length_drop, List.length_take]; rfl)) ?_
            with_reducible refine (interlocutorlaw11_within.calls (wrap64 (Int.tdiv (rd l0 x8_1) 2)) 4 t292 _ A16.out).mono ?_
            rintro e w' ⟨rfl, ⟨nd, rfl⟩⟩
            refine ⟨_, rfl, ?_⟩
            refine hK.out _ _ ⟨((HB.out.cell (World.block_lt_of_cell? w _ hw289_0)).trans hw289_0), ((HB.out.cell (World.block_lt_of_cell? w _ hw291_0)).trans hw291_0)⟩ (fun hHeld => ?_)
            clear hK K
            refine norm_ (a' := ?_) ?_ ?_
            rotate_left
            · show Act.put _ (some 42) _ = _
              simp only [pq6]
              rfl
            refine pure_ (i := 16) (N := some 43) (v := ?_) (a' := ?_) #[Y6,Y6,Y6,Y6,Y6,Y6,Y6,Y6,Y6,Y6,Y6,Y6,Y6,Y6,Y6,Y6,Y6,N6,N6,N6] rfl rfl (any_of HT_.out (by kernel_rfl)) (fun _ _ _ h => h) (Or.inl ⟨by rfl, ?_⟩) ?_ ?_; rotate_left; (intro w'; go_simp; with_reducible rfl); rotate_left; (simp only [pq6]; rfl)
            refine pure_ (i := 17) (N := some 44) (v := ?_) (a' := ?_) #[Y6,Y6,Y6,Y6,Y6,Y6,Y6,Y6,Y6,Y6,Y6,Y6,Y6,Y6,Y6,Y6,Y6,Y6,N6,N6] rfl rfl (any_of HT_.out (by kernel_rfl)) (fun _ _ _ h => h) (Or.inl ⟨by rfl, ?_⟩) ?_ ?_; rotate_left; (intro w'; go_simp; with_reducible rfl); rotate_left; (simp only [pq6]; rfl)
            refine one_ (i := 18) (N := some 9) #[Y6,Y6,Y6,Y6,Y6,Y6,Y6,Y6,Y6,Y6,Y6,Y6,Y6,Y6,Y6,Y6,Y6,Y6,Y6,N6] rfl rfl (one_of HT_.out (by kernel_rfl)) (by decide) (fun K hK => ?_)
            refine box_step ?hg (N := 9) ?hd (cs := #[.string (⟨#[]⟩ : ByteArray), .int .i64 0, .int .i64 0]) (t := 24) ?hr ?_; (case hd => rfl); (case hg => rfl); (case hr => first | (go_simp; done) | (go_simp; rfl))
            intro gb293 hg w61 hbox hb
            have n0_ := Aside0.mk (Kd.R_below (Kd.R_elderB (by exact rU HO_277003.out) gb293 (Nat.le_of_eq hg.symm)) hb)
            have n1_ := Aside0.mk (blk_below (g := gb276) (o := .cells #[.string (⟨#[]⟩ : ByteArray), .int .i64 0, .int .i64 0, u277003, .slice none 0 0, .slice none 0 0] 35 (0, 0)) (by (with_reducible repeat (first | refine blk_drewN ?_ _ | refine blk_drew ?_ | refine blk_alloc ?_ _)); exact BK276.out) hb)
            have n2_ := Aside0.mk (below_step (by exact wS HB.out GE276.out) hb)
            have n3_ := Aside0.mk (hbox)
            have n4_ := Aside0.mk ((by rw [hg]; exact (below_size (by exact wS HB.out GE276.out)) : w.heap.size ≤ gb293))
            have n5_ := Aside0.mk ((by rw [hg]; exact (below_size (by exact wS HB.out GE276.out)) : w.heap.size ≤ gb293))
            have n6_ := Aside0.mk ((by rw [hg]; exact Nat.ne_of_lt (blk_lt (g := gb276) (o := .cells #[.string (⟨#[]⟩ : ByteArray), .int .i64 0, .int .i64 0, u277003, .slice none 0 0, .slice none 0 0] 35 (0, 0)) (by (with_reducible repeat (first | refine blk_drewN ?_ _ | refine blk_drew ?_ | refine blk_alloc ?_ _)); exact BK276.out)) : gb276 ≠ gb293))
            have n7_ := Aside0.mk ((by rw [hg]; exact Nat.ne_of_gt (blk_lt (g := gb276) (o := .cells #[.string (⟨#[]⟩ : ByteArray), .int .i64 0, .int .i64 0, u277003, .slice none 0 0, .slice none 0 0] 35 (0, 0)) (by (with_reducible repeat (first | refine blk_drewN ?_ _ | refine blk_drew ?_ | refine blk_alloc ?_ _)); exact BK276.out)) : gb293 ≠ gb276))
            clear HO_277003 BK276 HB
            have HO_277003 := n0_
            have BK276 := n1_
            have HB := n2_
            have BK293 := n3_
            have GW293 := n4_
            have GE293 := n5_
            have NB276_293 := n6_
            have NB293_276 := n7_
            clear n0_ n1_ n2_ n3_ n4_ n5_ n6_ n7_ hb hbox hg
            refine hK.out _ _ ⟨((HB.out.cell (World.block_lt_of_cell? w _ hw289_0)).trans hw289_0), ((HB.out.cell (World.block_lt_of_cell? w _ hw291_0)).trans hw291_0)⟩ (fun hHeld => ?_)
            clear hK K
            refine norm_ (a' := ?_) ?_ ?_
            rotate_left
            · show Act.put _ (some 9) _ = _
              simp only [pq6]
              rfl
            exact nJ (hCont (gb293) _ ⟨hHeld, (by exact rU (Kd.R_mono HO_277003.out (fun _ hk => hk.2))), (by (with_reducible repeat (first | refine blk_drewN ?_ _ | refine blk_drew ?_ | refine blk_alloc ?_ _)); exact BK276.out), (by (with_reducible repeat (first | refine blk_drewN ?_ _ | refine blk_drew ?_ | refine blk_alloc ?_ _)); exact BK293.out), GW293.out, GE293.out, NB276_293.out, NB293_276.out, (by exact wZ HB.out GE276.out GE293.out)⟩)
          skip
          refine box_step ?hg (N := 9) ?hd (cs := #[.string (⟨#[]⟩ : ByteArray), .int .i64 0, .int .i64 0]) (t := 24) ?hr ?_; (case hd => rfl); (case hg => rfl); (case hr => first | (go_simp; done) | (go_simp; rfl))
          intro gb293 hg w61 hbox hb
          have n0_ := Aside0.mk (Kd.R_below (Kd.R_elderB (by exact rU HO_277003.out) gb293 (Nat.le_of_eq hg.symm)) hb)
          have n1_ := Aside0.mk (blk_below (g := gb276) (o := .cells #[.string (⟨#[]⟩ : ByteArray), .int .i64 0, .int .i64 0, u277003, .slice none 0 0, .slice none 0 0] 35 (0, 0)) (by (with_reducible repeat (first | refine blk_drewN ?_ _ | refine blk_drew ?_ | refine blk_alloc ?_ _)); exact BK276.out) hb)
          have n2_ := Aside0.mk (below_step (by exact wS HB.out GE276.out) hb)
          have n3_ := Aside0.mk (hbox)
          have n4_ := Aside0.mk ((by rw [hg]; exact (below_size (by exact wS HB.out GE276.out)) : w.heap.size ≤ gb293))
          have n5_ := Aside0.mk ((by rw [hg]; exact (below_size (by exact wS HB.out GE276.out)) : w.heap.size ≤ gb293))
          have n6_ := Aside0.mk ((by rw [hg]; exact Nat.ne_of_lt (blk_lt (g := gb276) (o := .cells #[.string (⟨#[]⟩ : ByteArray), .int .i64 0, .int .i64 0, u277003, .slice none 0 0, .slice none 0 0] 35 (0, 0)) (by (with_reducible repeat (first | refine blk_drewN ?_ _ | refine blk_drew ?_ | refine blk_alloc ?_ _)); exact BK276.out)) : gb276 ≠ gb293))
          have n7_ := Aside0.mk ((by rw [hg]; exact Nat.ne_of_gt (blk_lt (g := gb276) (o := .cells #[.string (⟨#[]⟩ : ByteArray), .int .i64 0, .int .i64 0, u277003, .slice none 0 0, .slice none 0 0] 35 (0, 0)) (by (with_reducible repeat (first | refine blk_drewN ?_ _ | refine blk_drew ?_ | refine blk_alloc ?_ _)); exact BK276.out)) : gb293 ≠ gb276))
          clear HO_277003 BK276 HB
          have HO_277003 := n0_
          have BK276 := n1_
          have HB := n2_
          have BK293 := n3_
          have GW293 := n4_
          have GE293 := n5_
          have NB276_293 := n6_
          have NB293_276 := n7_
          clear n0_ n1_ n2_ n3_ n4_ n5_ n6_ n7_ hb hbox hg
          refine hK.out _ _ ⟨((HB.out.cell (World.block_lt_of_cell? w _ hw289_0)).trans hw289_0), ((HB.out.cell (World.block_lt_of_cell? w _ hw291_0)).trans hw291_0)⟩ (fun hHeld => ?_)
          clear hK K
          refine norm_ (a' := ?_) ?_ ?_
          rotate_left
          · show Act.put _ (some 9) _ = _
            simp only [pq6]
            rfl
          refine one_ (i := 15) (N := some 42) #[Y6,Y6,Y6,Y6,Y6,Y6,Y6,Y6,Y6,Y6,Y6,Y6,Y6,Y6,Y6,Y6,N6,N6,Y6,N6] rfl rfl (one_of HT_.out (by kernel_rfl)) (by decide) (fun K hK => ?_)
          refine goes_ Tryd.func9 (by kernel_rfl) rfl #[.int .i64 (wrap64 (Int.tdiv (rd l0 x8_1) 2)), .int .i64 4] (by rfl) rfl rfl (by (try simp only [List.map_toArray, List.map_cons, List.map_nil]); first | done | rfl | (simp only [List.length_drop, List.length_take]; rfl)) ?_
          with_reducible refine (interlocutorlaw11_within.calls (wrap64 (Int.tdiv (rd l0 x8_1) 2)) 4 t292 _ A16.out).mono ?_
          rintro e w' ⟨rfl, ⟨nd, rfl⟩⟩
          refine ⟨_, rfl, ?_⟩
          refine hK.out _ _ ⟨((HB.out.cell (World.block_lt_of_cell? w _ hw289_0)).trans hw289_0), ((HB.out.cell (World.block_lt_of_cell? w _ hw291_0)).trans hw291_0)⟩ (fun hHeld => ?_)
          clear hK K
          refine norm_ (a' := ?_) ?_ ?_
          rotate_left
          · show Act.put _ (some 42) _ = _
            simp only [pq6]
            rfl
          refine pure_ (i := 16) (N := some 43) (v := ?_) (a' := ?_) #[Y6,Y6,Y6,Y6,Y6,Y6,Y6,Y6,Y6,Y6,Y6,Y6,Y6,Y6,Y6,Y6,Y6,N6,Y6,N6] rfl rfl (any_of HT_.out (by kernel_rfl)) (fun _ _ _ h => h) (Or.inl ⟨by rfl, ?_⟩) ?_ ?_; rotate_left; (intro w'; go_simp; with_reducible rfl); rotate_left; (simp only [pq6]; rfl)
          refine pure_ (i := 17) (N := some 44) (v := ?_) (a' := ?_) #[Y6,Y6,Y6,Y6,Y6,Y6,Y6,Y6,Y6,Y6,Y6,Y6,Y6,Y6,Y6,Y6,Y6,Y6,Y6,N6] rfl rfl (any_of HT_.out (by kernel_rfl)) (fun _ _ _ h => h) (Or.inl ⟨by rfl, ?_⟩) ?_ ?_; rotate_left; (intro w'; go_simp; with_reducible rfl); rotate_left; (simp only [pq6]; rfl)
          exact nJ (hCont (gb293) _ ⟨hHeld, (by exact rU (Kd.R_mono HO_277003.out (fun _ hk => hk.2))), (by (with_reducible repeat (first | refine blk_drewN ?_ _ | refine blk_drew ?_ | refine blk_alloc ?_ _)); exact BK276.out), (by (with_reducible repeat (first | refine blk_drewN ?_ _ | refine blk_drew ?_ | refine blk_alloc ?_ _)); exact BK293.out), GW293.out, GE293.out, NB276_293.out, NB293_276.out, (by exact wZ HB.out GE276.out GE293.out)⟩)
        rintro gb293 w62 ⟨hS_, h0_, h1_, h2_, h3_, h4_, h5_, h6_, h7_⟩
        have n0_ : Aside0 (Kd.R k24 24 w62 w.heap.size (fun k_ => k_ ≠ gb293) u277003 x277003_1) := ⟨h0_⟩
        have n1_ : Aside0 (w62.heap[gb276]? = some (.cells #[.string (⟨#[]⟩ : ByteArray), .int .i64 0, .int .i64 0, u277003, .slice none 0 0, .slice none 0 0] 35 (0, 0))) := ⟨h1_⟩
        have n2_ : Aside0 (w62.heap[gb293]? = some (.cells #[.string (⟨#[]⟩ : ByteArray), .int .i64 0, .int .i64 0] 24 (0, 0))) := ⟨h2_⟩
        have n3_ : Aside0 (w.heap.size ≤ gb293) := ⟨h3_⟩
        have n4_ : Aside0 (w.heap.size ≤ gb293) := ⟨h4_⟩
        have n5_ : Aside0 (gb276 ≠ gb293) := ⟨h5_⟩
        have n6_ : Aside0 (gb293 ≠ gb276) := ⟨h6_⟩
        have n7_ : Aside0 (Below w.heap.size w w62) := ⟨h7_⟩
        clear HO_277003 BK276 HB h0_ h1_ h2_ h3_ h4_ h5_ h6_ h7_
        have HO_277003 := n0_
        have BK276 := n1_
        have BK293 := n2_
        have GW293 := n3_
        have GE293 := n4_
        have NB276_293 := n5_
        have NB293_276 := n6_
        have HB := n7_
        clear n0_ n1_ n2_ n3_ n4_ n5_ n6_ n7_
        have hHeld : w62.cell? (ad289.add (x8_1).toNat) = some (.int .i64 (rd l0 x8_1)) ∧ w62.cell? (ad289.add (x8_1).toNat) = some (.int .i64 (rd l0 x8_1)) := hS_
        refine norm_ (a' := ?_) ?_ ?_
        rotate_left
        · simp only [putAll, Act.put, List.setIfInBounds_toArray, List.set_cons_zero, List.set_cons_succ]
          rfl
        refine one_ (i := 19) (N := none) #[Y6,Y6,Y6,Y6,Y6,Y6,Y6,Y6,Y6,Y6,Y6,Y6,Y6,Y6,Y6,Y6,Y6,Y6,Y6,Y6] rfl rfl (one_of HT_.out (by kernel_rfl)) (by decide) (fun K hK => ?_)
        have hs63 : w62.cell? ⟨gb293, 0, none⟩ = some (.string (⟨#[]⟩ : ByteArray)) := (blk_cell BK293.out 0).trans rfl
        have hfs63 := blk_frozen BK293.out 0
        have hns63_0 := NB276_293.out
        have hms63_0 := NB293_276.out
        have hs64 : w62.cell? ⟨gb293, 1, none⟩ = some (.int .i64 0) := (blk_cell BK293.out 1).trans rfl
        have hfs64 := blk_frozen BK293.out 1
        have hns64_0 := NB276_293.out
        have hms64_0 := NB293_276.out
        have hs65 : w62.cell? ⟨gb293, 2, none⟩ = some (.int .i64 0) := (blk_cell BK293.out 2).trans rfl
        have hfs65 := blk_frozen BK293.out 2
        have hns65_0 := NB276_293.out
        have hms65_0 := NB293_276.out
        refine skip_ (w1 := ?_) (by rfl) rfl ?_ ?_
        rotate_left
        · go_simp
          rfl
        refine hK.out _ _ ⟨((cell_far (p := ⟨gb293, _, none⟩) (by first | exact Nat.ne_of_lt (Nat.lt_of_lt_of_le (by have := World.block_lt_of_cell? _ _ hw289_0; first | rwa [add_block] at this | exact this) GW293.out) | (rw [add_block]; exact Nat.ne_of_lt (Nat.lt_of_lt_of_le (by have := World.block_lt_of_cell? _ _ hw289_0; first | rwa [add_block] at this | exact this) GW293.out)) | (show (Addr.add _ _).block ≠ _; rw [add_block]; exact Nat.ne_of_lt (Nat.lt_of_lt_of_le (by have := World.block_lt_of_cell? _ _ hw289_0; first | rwa [add_block] at this | exact this) GW293.out)) | (dsimp only; exact Nat.ne_of_lt (Nat.lt_of_lt_of_le (by have := World.block_lt_of_cell? _ _ hw289_0; first | rwa [add_block] at this | exact this) GW293.out))) _).trans (((cell_far (p := ⟨gb293, _, none⟩) (by first | exact Nat.ne_of_lt (Nat.lt_of_lt_of_le (by have := World.block_lt_of_cell? _ _ hw289_0; first | rwa [add_block] at this | exact this) GW293.out) | (rw [add_block]; exact Nat.ne_of_lt (Nat.lt_of_lt_of_le (by have := World.block_lt_of_cell? _ _ hw289_0; first | rwa [add_block] at this | exact this) GW293.out)) | (show (Addr.add _ _).block ≠ _; rw [add_block]; exact Nat.ne_of_lt (Nat.lt_of_lt_of_le (by have := World.block_lt_of_cell? _ _ hw289_0; first | rwa [add_block] at this | exact this) GW293.out)) | (dsimp only; exact Nat.ne_of_lt (Nat.lt_of_lt_of_le (by have := World.block_lt_of_cell? _ _ hw289_0; first | rwa [add_block] at this | exact this) GW293.out))) _).trans (((cell_far (p := ⟨gb293, _, none⟩) (by first | exact Nat.ne_of_lt (Nat.lt_of_lt_of_le (by have := World.block_lt_of_cell? _ _ hw289_0; first | rwa [add_block] at this | exact this) GW293.out) | (rw [add_block]; exact Nat.ne_of_lt (Nat.lt_of_lt_of_le (by have := World.block_lt_of_cell? _ _ hw289_0; first | rwa [add_block] at this | exact this) GW293.out)) | (show (Addr.add _ _).block ≠ _; rw [add_block]; exact Nat.ne_of_lt (Nat.lt_of_lt_of_le (by have := World.block_lt_of_cell? _ _ hw289_0; first | rwa [add_block] at this | exact this) GW293.out)) | (dsimp only; exact Nat.ne_of_lt (Nat.lt_of_lt_of_le (by have := World.block_lt_of_cell? _ _ hw289_0; first | rwa [add_block] at this | exact this) GW293.out))) _).trans (hHeld.1)))))), ((cell_far (p := ⟨gb293, _, none⟩) (by first | exact Nat.ne_of_lt (Nat.lt_of_lt_of_le (by have := World.block_lt_of_cell? _ _ hw291_0; first | rwa [add_block] at this | exact this) GW293.out) | (rw [add_block]; exact Nat.ne_of_lt (Nat.lt_of_lt_of_le (by have := World.block_lt_of_cell? _ _ hw291_0; first | rwa [add_block] at this | exact this) GW293.out)) | (show (Addr.add _ _).block ≠ _; rw [add_block]; exact Nat.ne_of_lt (Nat.lt_of_lt_of_le (by have := World.block_lt_of_cell? _ _ hw291_0; first | rwa [add_block] at this | exact this) GW293.out)) | (dsimp only; exact Nat.ne_of_lt (Nat.lt_of_lt_of_le (by have := World.block_lt_of_cell? _ _ hw291_0; first | rwa [add_block] at this | exact this) GW293.out))) _).trans (((cell_far (p := ⟨gb293, _, none⟩) (by first | exact Nat.ne_of_lt (Nat.lt_of_lt_of_le (by have := World.block_lt_of_cell? _ _ hw291_0; first | rwa [add_block] at this | exact this) GW293.out) | (rw [add_block]; exact Nat.ne_of_lt (Nat.lt_of_lt_of_le (by have := World.block_lt_of_cell? _ _ hw291_0; first | rwa [add_block] at this | exact this) GW293.out)) | (show (Addr.add _ _).block ≠ _; rw [add_block]; exact Nat.ne_of_lt (Nat.lt_of_lt_of_le (by have := World.block_lt_of_cell? _ _ hw291_0; first | rwa [add_block] at this | exact this) GW293.out)) | (dsimp only; exact Nat.ne_of_lt (Nat.lt_of_lt_of_le (by have := World.block_lt_of_cell? _ _ hw291_0; first | rwa [add_block] at this | exact this) GW293.out))) _).trans (((cell_far (p := ⟨gb293, _, none⟩) (by first | exact Nat.ne_of_lt (Nat.lt_of_lt_of_le (by have := World.block_lt_of_cell? _ _ hw291_0; first | rwa [add_block] at this | exact this) GW293.out) | (rw [add_block]; exact Nat.ne_of_lt (Nat.lt_of_lt_of_le (by have := World.block_lt_of_cell? _ _ hw291_0; first | rwa [add_block] at this | exact this) GW293.out)) | (show (Addr.add _ _).block ≠ _; rw [add_block]; exact Nat.ne_of_lt (Nat.lt_of_lt_of_le (by have := World.block_lt_of_cell? _ _ hw291_0; first | rwa [add_block] at this | exact this) GW293.out)) | (dsimp only; exact Nat.ne_of_lt (Nat.lt_of_lt_of_le (by have := World.block_lt_of_cell? _ _ hw291_0; first | rwa [add_block] at this | exact this) GW293.out))) _).trans (hHeld.2))))))⟩ (fun hHeld => ?_)
        clear hK K
        refine done_ (done_of HT_.out (by kernel_rfl)) ?_
        have hnb66 := NB276_293.out
        have hnc66 := NB293_276.out
        have hcz67_0 : w62.cell? ⟨gb276, 0, none⟩ = some (.string (⟨#[]⟩ : ByteArray)) := (blk_cell BK276.out 0).trans rfl
        have hcz67_1 : w62.cell? ⟨gb276, 1, none⟩ = some (.int .i64 0) := (blk_cell BK276.out 1).trans rfl
        have hcz67_2 : w62.cell? ⟨gb276, 2, none⟩ = some (.int .i64 0) := (blk_cell BK276.out 2).trans rfl
        have hcz67_3 : w62.cell? ⟨gb276, 3, none⟩ = some (u277003) := (blk_cell BK276.out 3).trans rfl
        have hcz67_4 : w62.cell? ⟨gb276, 4, none⟩ = some (.slice none 0 0) := (blk_cell BK276.out 4).trans rfl
        have hcz67_5 : w62.cell? ⟨gb276, 5, none⟩ = some (.slice none 0 0) := (blk_cell BK276.out 5).trans rfl
        have hfz67_0 := blk_frozen BK276.out 0
        have hfz67_1 := blk_frozen BK276.out 1
        have hfz67_2 := blk_frozen BK276.out 2
        have hfz67_3 := blk_frozen BK276.out 3
        have hfz67_4 := blk_frozen BK276.out 4
        have hfz67_5 := blk_frozen BK276.out 5
        have hcz68_0 : w62.cell? ⟨gb293, 0, none⟩ = some (.string (⟨#[]⟩ : ByteArray)) := (blk_cell BK293.out 0).trans rfl
        have hcz68_1 : w62.cell? ⟨gb293, 1, none⟩ = some (.int .i64 0) := (blk_cell BK293.out 1).trans rfl
        have hcz68_2 : w62.cell? ⟨gb293, 2, none⟩ = some (.int .i64 0) := (blk_cell BK293.out 2).trans rfl
        have hfz68_0 := blk_frozen BK293.out 0
        have hfz68_1 := blk_frozen BK293.out 1
        have hfz68_2 := blk_frozen BK293.out 2
        try go_wp2_with (first | ((with_reducible refine gate_builtin (b := .append) (xs := #[.tmp 46, .tmp 48]) rfl ?_); at_builtin; refine Kd.R_append k24 (w0 := w) w.heap.size rfl (.tmp 46) (.tmp 48) 25 24 (.agg #[(.string ⟨#[]⟩), (.int .i64 0), (.int .i64 0)]) 32 rfl Tryd.underlying25 info24 rfl (by decide) (by omega) u277003 x277003_1 (⟨(⟨#[97, 98, 99, 100, 101, 102, 103, 104, 105, 106, 107, 108, 109, 110, 111]⟩ : ByteArray).extract (x8_1 : Int).toNat ((wrap64 (x8_1 + 1)) : Int).toNat, wrap64 (1 + t290), wrap64 (1 + t292)⟩ : S24) [.string ((⟨#[97, 98, 99, 100, 101, 102, 103, 104, 105, 106, 107, 108, 109, 110, 111]⟩ : ByteArray).extract (x8_1 : Int).toNat ((wrap64 (x8_1 + 1)) : Int).toNat), .int .i64 (wrap64 (1 + t290)), .int .i64 (wrap64 (1 + t292))] (fun k_ => k_ ≠ gb293) (fun _ => False) rfl (by first | (go_simp; done) | (go_simp; rfl)) ?aP (fun _ hk => hk.elim) ?aF ?aO ?aB ?aS ?aL ?_; (case aP => exact k24_mkM _ _ _ (⟨(⟨#[97, 98, 99, 100, 101, 102, 103, 104, 105, 106, 107, 108, 109, 110, 111]⟩ : ByteArray).extract (x8_1 : Int).toNat ((wrap64 (x8_1 + 1)) : Int).toNat, wrap64 (1 + t290), wrap64 (1 + t292)⟩ : S24)); (case aB => exact (by exact wZ HB.out GE276.out GE293.out)); (case aF => exact (fun k_ hk => Kd.freshB (g := gb293) (o := .cells #[.string ((⟨#[97, 98, 99, 100, 101, 102, 103, 104, 105, 106, 107, 108, 109, 110, 111]⟩ : ByteArray).extract (x8_1 : Int).toNat ((wrap64 (x8_1 + 1)) : Int).toNat), .int .i64 (wrap64 (1 + t290)), .int .i64 (wrap64 (1 + t292))] 24 (0, 0)) (by (with_reducible repeat (first | refine blk_drewN ?_ _ | refine blk_drew ?_ | refine blk_alloc ?_ _)); refine blk_put (cs := #[.string ((⟨#[97, 98, 99, 100, 101, 102, 103, 104, 105, 106, 107, 108, 109, 110, 111]⟩ : ByteArray).extract (x8_1 : Int).toNat ((wrap64 (x8_1 + 1)) : Int).toNat), .int .i64 (wrap64 (1 + t290)), .int .i64 0]) ?_ 2 _ rfl; (with_reducible repeat (first | refine blk_drewN ?_ _ | refine blk_drew ?_ | refine blk_alloc ?_ _)); refine blk_put (cs := #[.string ((⟨#[97, 98, 99, 100, 101, 102, 103, 104, 105, 106, 107, 108, 109, 110, 111]⟩ : ByteArray).extract (x8_1 : Int).toNat ((wrap64 (x8_1 + 1)) : Int).toNat), .int .i64 0, .int .i64 0]) ?_ 1 _ rfl; (with_reducible repeat (first | refine blk_drewN ?_ _ | refine blk_drew ?_ | refine blk_alloc ?_ _)); refine blk_put (cs := #[.string (⟨#[]⟩ : ByteArray), .int .i64 0, .int .i64 0]) ?_ 0 _ rfl; (with_reducible repeat (first | refine blk_drewN ?_ _ | refine blk_drew ?_ | refine blk_alloc ?_ _)); exact BK293.out) k_ hk)); (case aO => exact (by exact rU (Kd.R_mono (Kd.R_far (p := ⟨gb293, 2, none⟩) (Kd.R_far (p := ⟨gb293, 1, none⟩) (Kd.R_far (p := ⟨gb293, 0, none⟩) (Kd.R_mono HO_277003.out (fun k_ hk => (⟨hk, hk⟩ : _ ∧ k_ ≠ gb293))) (fun _ hk => hk.2) (.string ((⟨#[97, 98, 99, 100, 101, 102, 103, 104, 105, 106, 107, 108, 109, 110, 111]⟩ : ByteArray).extract (x8_1 : Int).toNat ((wrap64 (x8_1 + 1)) : Int).toNat))) (fun _ hk => hk.2) (.int .i64 (wrap64 (1 + t290)))) (fun _ hk => hk.2) (.int .i64 (wrap64 (1 + t292)))) (fun _ hk => hk.1)))); (case aS => exact (below_size (by exact wZ HB.out GE276.out GE293.out))); (case aL => have := LMc17.out; omega); intro v295 w69 ho hb hg hat; rw [← Ny294.out] at ho; have n0_ := Aside0.mk (blk_grown (g := gb276) (o := .cells #[.string (⟨#[]⟩ : ByteArray), .int .i64 0, .int .i64 0, u277003, .slice none 0 0, .slice none 0 0] 35 (0, 0)) (by (with_reducible repeat (first | refine blk_drewN ?_ _ | refine blk_drew ?_ | refine blk_alloc ?_ _)); refine blk_far ?_ NB276_293.out _; (with_reducible repeat (first | refine blk_drewN ?_ _ | refine blk_drew ?_ | refine blk_alloc ?_ _)); refine blk_far ?_ NB276_293.out _; (with_reducible repeat (first | refine blk_drewN ?_ _ | refine blk_drew ?_ | refine blk_alloc ?_ _)); refine blk_far ?_ NB276_293.out _; (with_reducible repeat (first | refine blk_drewN ?_ _ | refine blk_drew ?_ | refine blk_alloc ?_ _)); exact BK276.out) hg (Kd.R_ne HO_277003.out BK276.out (by decide))); have n1_ := Aside0.mk (blk_grown (g := gb293) (o := .cells #[.string ((⟨#[97, 98, 99, 100, 101, 102, 103, 104, 105, 106, 107, 108, 109, 110, 111]⟩ : ByteArray).extract (x8_1 : Int).toNat ((wrap64 (x8_1 + 1)) : Int).toNat), .int .i64 (wrap64 (1 + t290)), .int .i64 (wrap64 (1 + t292))] 24 (0, 0)) (by (with_reducible repeat (first | refine blk_drewN ?_ _ | refine blk_drew ?_ | refine blk_alloc ?_ _)); refine blk_put (cs := #[.string ((⟨#[97, 98, 99, 100, 101, 102, 103, 104, 105, 106, 107, 108, 109, 110, 111]⟩ : ByteArray).extract (x8_1 : Int).toNat ((wrap64 (x8_1 + 1)) : Int).toNat), .int .i64 (wrap64 (1 + t290)), .int .i64 0]) ?_ 2 _ rfl; (with_reducible repeat (first | refine blk_drewN ?_ _ | refine blk_drew ?_ | refine blk_alloc ?_ _)); refine blk_put (cs := #[.string ((⟨#[97, 98, 99, 100, 101, 102, 103, 104, 105, 106, 107, 108, 109, 110, 111]⟩ : ByteArray).extract (x8_1 : Int).toNat ((wrap64 (x8_1 + 1)) : Int).toNat), .int .i64 0, .int .i64 0]) ?_ 1 _ rfl; (with_reducible repeat (first | refine blk_drewN ?_ _ | refine blk_drew ?_ | refine blk_alloc ?_ _)); refine blk_put (cs := #[.string (⟨#[]⟩ : ByteArray), .int .i64 0, .int .i64 0]) ?_ 0 _ rfl; (with_reducible repeat (first | refine blk_drewN ?_ _ | refine blk_drew ?_ | refine blk_alloc ?_ _)); exact BK293.out) hg (Kd.R_away HO_277003.out (fun _ hk => hk))); have n2_ := Aside0.mk (hb); have n3_ := Aside0.mk (ho); clear BK276; clear BK293; clear HB; clear HO_277003; have BK276 := n0_; have BK293 := n1_; have HB := n2_; have HO296 := n3_; clear n0_ n1_ n2_ n3_; clear ho hb hg hat; obtain ⟨Ao70, co70, eo70⟩ := Kd.R_slice HO296.out; subst eo70; have hcz71_0 : w69.cell? ⟨gb276, 0, none⟩ = some (.string (⟨#[]⟩ : ByteArray)) := (blk_cell BK276.out 0).trans rfl; have hcz71_1 : w69.cell? ⟨gb276, 1, none⟩ = some (.int .i64 0) := (blk_cell BK276.out 1).trans rfl; have hcz71_2 : w69.cell? ⟨gb276, 2, none⟩ = some (.int .i64 0) := (blk_cell BK276.out 2).trans rfl; have hcz71_3 : w69.cell? ⟨gb276, 3, none⟩ = some (u277003) := (blk_cell BK276.out 3).trans rfl; have hcz71_4 : w69.cell? ⟨gb276, 4, none⟩ = some (.slice none 0 0) := (blk_cell BK276.out 4).trans rfl; have hcz71_5 : w69.cell? ⟨gb276, 5, none⟩ = some (.slice none 0 0) := (blk_cell BK276.out 5).trans rfl; have hfz71_0 := blk_frozen BK276.out 0; have hfz71_1 := blk_frozen BK276.out 1; have hfz71_2 := blk_frozen BK276.out 2; have hfz71_3 := blk_frozen BK276.out 3; have hfz71_4 := blk_frozen BK276.out 4; have hfz71_5 := blk_frozen BK276.out 5))
        go_roundg kj7
        case measure => have := HK1.out; have := HJ7.out; omega
        case rel => exact ⟨(x6_1), (wrap64 (x8_1 + 1)), (y294), (.slice Ao70 y294.length co70), (by first | rfl | (simp; done) | (simp [*]; done)), (by first | rfl | (simp; done) | (simp [*]; done)), H', ⟨by have := HK1.out; have := HJ7.out; omega⟩, ⟨by exact rU (Kd.R_mono (Kd.R_far (p := ⟨gb276, 3, none⟩) (Kd.R_types HO296.out BK276.out (by decide)) (fun _ hk => hk.2) (.slice Ao70 y294.length co70)) (fun _ hk => trivial))⟩, ⟨by (with_reducible repeat (first | refine blk_drewN ?_ _ | refine blk_drew ?_ | refine blk_alloc ?_ _)); refine blk_put (cs := #[.string (⟨#[]⟩ : ByteArray), .int .i64 0, .int .i64 0, u277003, .slice none 0 0, .slice none 0 0]) ?_ 3 _ rfl; (with_reducible repeat (first | refine blk_drewN ?_ _ | refine blk_drew ?_ | refine blk_alloc ?_ _)); exact BK276.out⟩, ⟨by exact wZ HB.out GE276.out GE293.out⟩⟩
      rw [if_pos c18] at H
      have c18b0 : (x6_1.toList == ([] : List UInt8)) = true := beq_iff_eq.mpr c18
      have c18b1 : (x6_1.toList != ([] : List UInt8)) = false := bne_eq_false_iff_eq.mpr c18
      clear c18
      by_cases c19 : (wrap64 (1 + t290)) = 1
      rotate_left
      · rw [if_neg c19] at H
        have c19b0 : ((wrap64 (1 + t290)) == 1) = false := beq_eq_false_iff_ne.mpr c19
        have c19b1 : ((wrap64 (1 + t290)) != 1) = true := bne_iff_ne.mpr c19
        have H' := Aside0.mk H
        clear H
        try go_wp2
        have n0_ := Aside0.mk (Kd.R_drew HO_277003.out)
        have n1_ := Aside0.mk (blk_drew BK276.out)
        have n2_ := Aside0.mk (below_drew1 HB.out)
        clear HO_277003 BK276 HB
        have HO_277003 := n0_
        have BK276 := n1_
        have HB := n2_
        clear n0_ n1_ n2_
        have p289 : 0 ≤ (x8_1 : Int) := of_decide_eq_true (by first | (with_reducible assumption) | assumption)
        have q289 : x8_1 < (l0.length : Int) := of_decide_eq_true (by first | (with_reducible assumption) | assumption)
        obtain ⟨ad289, e289, hx289_0⟩ := Kd.at_int HR0.out x8_1 p289 q289
        have hw289_0 := hx289_0
        cases e289
        replace hx289_0 := (HB.out.cell (World.block_lt_of_cell? w _ hx289_0)).trans hx289_0
        replace p289 := eq_true p289
        replace q289 := eq_true q289
        have p291 : 0 ≤ (x8_1 : Int) := of_decide_eq_true (by first | (with_reducible assumption) | assumption)
        have q291 : x8_1 < (l0.length : Int) := of_decide_eq_true (by first | (with_reducible assumption) | assumption)
        obtain ⟨ad291, e291, hx291_0⟩ := Kd.at_int HR0.out x8_1 p291 q291
        have hw291_0 := hx291_0
        obtain rfl : ad289 = ad291 := (by injection e291)
        replace hx291_0 := (HB.out.cell (World.block_lt_of_cell? w _ hx291_0)).trans hx291_0
        replace p291 := eq_true p291
        replace q291 := eq_true q291
        refine start_ (n := 20) (S := fun w' => w'.cell? (ad289.add (x8_1).toNat) = some (.int .i64 (rd l0 x8_1)) ∧ w'.cell? (ad289.add (x8_1).toNat) = some (.int .i64 (rd l0 x8_1))) (ds := []) #[N6,N6,N6,N6,N6,N6,N6,N6,N6,N6,N6,N6,N6,N6,N6,N6,N6,N6,N6,N6] (by kernel_rfl) rfl rfl ⟨((HB.out.cell (World.block_lt_of_cell? w _ hw289_0)).trans hw289_0), ((HB.out.cell (World.block_lt_of_cell? w _ hw291_0)).trans hw291_0)⟩ (fun hHeld => ?_); refine with_tabW interlocutorlaw11_RenderWords.tab9 interlocutorlaw11_RenderWords.bits9 (fun HT_ HW_ => ?_)
        generalize wc.drew = w47 at HO_277003 BK276 HB hx289_0 hx291_0 hHeld ⊢
        refine pure_ (i := 0) (N := some 27) (v := ?_) (a' := ?_) #[Y6,N6,N6,N6,N6,N6,N6,N6,N6,N6,N6,N6,N6,N6,N6,N6,N6,N6,N6,N6] rfl rfl (any_of HT_.out (by kernel_rfl)) (fun _ _ _ h => h) (Or.inl ⟨by rfl, ?_⟩) ?_ ?_; rotate_left; (intro w'; go_simp; with_reducible rfl); rotate_left; (simp only [pq6]; rfl)
        refine pure_ (i := 1) (N := some 28) (v := ?_) (a' := ?_) #[Y6,Y6,N6,N6,N6,N6,N6,N6,N6,N6,N6,N6,N6,N6,N6,N6,N6,N6,N6,N6] rfl rfl (any_of HT_.out (by kernel_rfl)) (fun _ _ _ h => h) (Or.inl ⟨by rfl, ?_⟩) ?_ ?_; rotate_left; (intro w'; go_simp; with_reducible rfl); rotate_left; (simp only [pq6]; rfl)
        refine pure_ (i := 2) (N := some 29) (v := ?_) (a' := ?_) #[Y6,Y6,Y6,N6,N6,N6,N6,N6,N6,N6,N6,N6,N6,N6,N6,N6,N6,N6,N6,N6] rfl rfl (any_of HT_.out (by kernel_rfl)) (fun _ _ _ h => h) (Or.inl ⟨by rfl, ?_⟩) ?_ ?_; rotate_left; (intro w'; go_simp; with_reducible rfl); rotate_left; (simp only [pq6]; rfl)
        refine pure_ (i := 3) (N := some 30) (v := ?_) (a' := ?_) #[Y6,Y6,Y6,Y6,N6,N6,N6,N6,N6,N6,N6,N6,N6,N6,N6,N6,N6,N6,N6,N6] rfl rfl (any_of HT_.out (by kernel_rfl)) (fun _ _ _ h => h) (Or.inl ⟨by rfl, ?_⟩) ?_ ?_; rotate_left; (intro w'; go_simp; with_reducible rfl); rotate_left; (simp only [pq6]; rfl)
        refine pure_ (i := 4) (N := some 31) (v := ?_) (a' := ?_) #[Y6,Y6,Y6,Y6,Y6,N6,N6,N6,N6,N6,N6,N6,N6,N6,N6,N6,N6,N6,N6,N6] rfl rfl (any_of HT_.out (by kernel_rfl)) (fun _ _ _ h => h) (Or.inl ⟨by rfl, ?_⟩) ?_ ?_; rotate_left; (intro w'; go_simp; with_reducible rfl); rotate_left; (simp only [pq6]; rfl)
        refine pure_ (i := 5) (N := some 32) (v := ?_) (a' := ?_) #[Y6,Y6,Y6,Y6,Y6,Y6,N6,N6,N6,N6,N6,N6,N6,N6,N6,N6,N6,N6,N6,N6] rfl rfl (any_of HT_.out (by kernel_rfl)) (fun _ _ _ h => h) (Or.inl ⟨by rfl, ?_⟩) ?_ ?_; rotate_left; (intro w'; go_simp; with_reducible rfl); rotate_left; (simp only [pq6]; rfl)
        refine pure_ (i := 6) (N := some 33) (v := ?_) (a' := ?_) #[Y6,Y6,Y6,Y6,Y6,Y6,Y6,N6,N6,N6,N6,N6,N6,N6,N6,N6,N6,N6,N6,N6] rfl rfl (any_of HT_.out (by kernel_rfl)) (fun _ _ _ h => h) (Or.inl ⟨by rfl, ?_⟩) ?_ ?_; rotate_left; (intro w'; go_simp; with_reducible rfl); rotate_left; (simp only [pq6]; rfl)
        refine pure_ (i := 10) (N := some 37) (v := ?_) (a' := ?_) #[Y6,Y6,Y6,Y6,Y6,Y6,Y6,N6,N6,N6,Y6,N6,N6,N6,N6,N6,N6,N6,N6,N6] rfl rfl (any_of HT_.out (by kernel_rfl)) (fun _ _ _ h => h) (Or.inl ⟨by rfl, ?_⟩) ?_ ?_; rotate_left; (intro w'; go_simp; with_reducible rfl); rotate_left; (simp only [pq6]; rfl)
        refine pure_ (i := 11) (N := some 38) (v := ?_) (a' := ?_) #[Y6,Y6,Y6,Y6,Y6,Y6,Y6,N6,N6,N6,Y6,Y6,N6,N6,N6,N6,N6,N6,N6,N6] rfl rfl (any_of HT_.out (by kernel_rfl)) (fun _ _ _ h => h) (Or.inl ⟨by rfl, ?_⟩) ?_ ?_; rotate_left; (intro w'; go_simp; with_reducible rfl); rotate_left; (simp only [pq6]; rfl)
        refine pure_ (i := 12) (N := some 39) (v := ?_) (a' := ?_) #[Y6,Y6,Y6,Y6,Y6,Y6,Y6,N6,N6,N6,Y6,Y6,Y6,N6,N6,N6,N6,N6,N6,N6] rfl rfl (any_of HT_.out (by kernel_rfl)) (fun _ _ _ h => h) (Or.inl ⟨by rfl, ?_⟩) ?_ ?_; rotate_left; (intro w'; go_simp; with_reducible rfl); rotate_left; (simp only [pq6]; rfl)
        refine take_ (i := 7) (N := some 34) (v := ?_) (a' := ?_) #[Y6,Y6,Y6,Y6,Y6,Y6,Y6,Y6,N6,N6,Y6,Y6,Y6,N6,N6,N6,N6,N6,N6,N6] rfl rfl (take_ofW HT_.out HW_.out (by kernel_rfl)) (fun _ _ _ h => h) (Or.inl ⟨by rfl, ?_⟩) hHeld ?_ ?_
        rotate_left
        · rintro w' ⟨s0, s1⟩
          go_simp
          with_reducible rfl
        rotate_left
        · simp only [pq6]
          rfl
        refine take_ (i := 13) (N := some 40) (v := ?_) (a' := ?_) #[Y6,Y6,Y6,Y6,Y6,Y6,Y6,Y6,N6,N6,Y6,Y6,Y6,Y6,N6,N6,N6,N6,N6,N6] rfl rfl (take_ofW HT_.out HW_.out (by kernel_rfl)) (fun _ _ _ h => h) (Or.inl ⟨by rfl, ?_⟩) hHeld ?_ ?_
        rotate_left
        · rintro w' ⟨s0, s1⟩
          go_simp
          with_reducible rfl
        rotate_left
        · simp only [pq6]
          rfl
        refine pure_ (i := 14) (N := some 41) (v := ?_) (a' := ?_) #[Y6,Y6,Y6,Y6,Y6,Y6,Y6,Y6,N6,N6,Y6,Y6,Y6,Y6,Y6,N6,N6,N6,N6,N6] rfl rfl (any_of HT_.out (by kernel_rfl)) (fun _ _ _ h => h) (Or.inl ⟨by rfl, ?_⟩) ?_ ?_; rotate_left; (intro w'; go_simp; with_reducible rfl); rotate_left; (simp only [pq6]; rfl)
        refine join_ (σ := Nat) 1 #[Y6,Y6,Y6,Y6,Y6,Y6,Y6,Y6,Y6,Y6,Y6,Y6,Y6,Y6,Y6,Y6,Y6,Y6,Y6,N6] (fun s_ => [(35, .int .i64 t290), (42, .int .i64 t292), (9, .pointer (some ⟨s_, 0, none⟩)), (36, .int .i64 (wrap64 (1 + t290))), (43, .int .i64 (wrap64 (1 + t292))), (44, .agg #[.string ((⟨#[97, 98, 99, 100, 101, 102, 103, 104, 105, 106, 107, 108, 109, 110, 111]⟩ : ByteArray).extract (x8_1 : Int).toNat ((wrap64 (x8_1 + 1)) : Int).toNat), .int .i64 (wrap64 (1 + t290)), .int .i64 (wrap64 (1 + t292))])]) (fun s_ w' => (w'.cell? (ad289.add (x8_1).toNat) = some (.int .i64 (rd l0 x8_1)) ∧ w'.cell? (ad289.add (x8_1).toNat) = some (.int .i64 (rd l0 x8_1))) ∧ (Kd.R k24 24 w' w.heap.size (fun k_ => k_ ≠ s_) u277003 x277003_1) ∧ (w'.heap[gb276]? = some (.cells #[.string (⟨#[]⟩ : ByteArray), .int .i64 0, .int .i64 0, u277003, .slice none 0 0, .slice none 0 0] 35 (0, 0))) ∧ (w'.heap[s_]? = some (.cells #[.string (⟨#[]⟩ : ByteArray), .int .i64 0, .int .i64 0] 24 (0, 0))) ∧ (w.heap.size ≤ s_) ∧ (w.heap.size ≤ s_) ∧ (gb276 ≠ s_) ∧ (s_ ≠ gb276) ∧ (Below w.heap.size w w')) ?_ ?_
        rotate_left
        · intro hCont
          refine two_ (i := 8) (j := 18) (Ni := some 35) (Nj := some 9) #[Y6,Y6,Y6,Y6,Y6,Y6,Y6,Y6,Y6,N6,Y6,Y6,Y6,Y6,Y6,N6,N6,N6,N6,N6] #[Y6,Y6,Y6,Y6,Y6,Y6,Y6,Y6,N6,N6,Y6,Y6,Y6,Y6,Y6,N6,N6,N6,Y6,N6] rfl rfl rfl rfl (two_of HT_.out (by kernel_rfl)) (by decide) (by decide) (fun K hK => ?_) (fun K hK => ?_)
          rotate_left
          · skip
            refine box_step ?hg (N := 9) ?hd (cs := #[.string (⟨#[]⟩ : ByteArray), .int .i64 0, .int .i64 0]) (t := 24) ?hr ?_; (case hd => rfl); (case hg => rfl); (case hr => first | (go_simp; done) | (go_simp; rfl))
            intro gb293 hg w48 hbox hb
            have n0_ := Aside0.mk (Kd.R_below (Kd.R_elderB (by exact rU HO_277003.out) gb293 (Nat.le_of_eq hg.symm)) hb)
            have n1_ := Aside0.mk (blk_below (g := gb276) (o := .cells #[.string (⟨#[]⟩ : ByteArray), .int .i64 0, .int .i64 0, u277003, .slice none 0 0, .slice none 0 0] 35 (0, 0)) (by (with_reducible repeat (first | refine blk_drewN ?_ _ | refine blk_drew ?_ | refine blk_alloc ?_ _)); exact BK276.out) hb)
            have n2_ := Aside0.mk (below_step (by exact wS HB.out GE276.out) hb)
            have n3_ := Aside0.mk (hbox)
            have n4_ := Aside0.mk ((by rw [hg]; exact (below_size (by exact wS HB.out GE276.out)) : w.heap.size ≤ gb293))
            have n5_ := Aside0.mk ((by rw [hg]; exact (below_size (by exact wS HB.out GE276.out)) : w.heap.size ≤ gb293))
            have n6_ := Aside0.mk ((by rw [hg]; exact Nat.ne_of_lt (blk_lt (g := gb276) (o := .cells #[.string (⟨#[]⟩ : ByteArray), .int .i64 0, .int .i64 0, u277003, .slice none 0 0, .slice none 0 0] 35 (0, 0)) (by (with_reducible repeat (first | refine blk_drewN ?_ _ | refine blk_drew ?_ | refine blk_alloc ?_ _)); exact BK276.out)) : gb276 ≠ gb293))
            have n7_ := Aside0.mk ((by rw [hg]; exact Nat.ne_of_gt (blk_lt (g := gb276) (o := .cells #[.string (⟨#[]⟩ : ByteArray), .int .i64 0, .int .i64 0, u277003, .slice none 0 0, .slice none 0 0] 35 (0, 0)) (by (with_reducible repeat (first | refine blk_drewN ?_ _ | refine blk_drew ?_ | refine blk_alloc ?_ _)); exact BK276.out)) : gb293 ≠ gb276))
            clear HO_277003 BK276 HB
            have HO_277003 := n0_
            have BK276 := n1_
            have HB := n2_
            have BK293 := n3_
            have GW293 := n4_
            have GE293 := n5_
            have NB276_293 := n6_
            have NB293_276 := n7_
            clear n0_ n1_ n2_ n3_ n4_ n5_ n6_ n7_ hb hbox hg
            refine hK.out _ _ ⟨((HB.out.cell (World.block_lt_of_cell? w _ hw289_0)).trans hw289_0), ((HB.out.cell (World.block_lt_of_cell? w _ hw291_0)).trans hw291_0)⟩ (fun hHeld => ?_)
            clear hK K
            refine norm_ (a' := ?_) ?_ ?_
            rotate_left
            · show Act.put _ (some 9) _ = _
              simp only [pq6]
              rfl
            refine one_ (i := 8) (N := some 35) #[Y6,Y6,Y6,Y6,Y6,Y6,Y6,Y6,Y6,N6,Y6,Y6,Y6,Y6,Y6,N6,N6,N6,Y6,N6] rfl rfl (one_of HT_.out (by kernel_rfl)) (by decide) (fun K hK => ?_)
            refine goes_ Tryd.func9 (by kernel_rfl) rfl #[.int .i64 (rd l0 x8_1), .int .i64 2] (by rfl) rfl rfl (by (try simp only [List.map_toArray, List.map_cons, List.map_nil]); first | done | rfl | (simp only [List.length_drop, List.length_take]; rfl)) ?_
            with_reducible refine (interlocutorlaw11_within.calls (rd l0 x8_1) 2 t290 _ A15.out).mono ?_
            rintro e w' ⟨rfl, ⟨nd, rfl⟩⟩
            refine ⟨_, rfl, ?_⟩
            refine hK.out _ _ ⟨((HB.out.cell (World.block_lt_of_cell? w _ hw289_0)).trans hw289_0), ((HB.out.cell (World.block_lt_of_cell? w _ hw291_0)).trans hw291_0)⟩ (fun hHeld => ?_)
            clear hK K
            refine norm_ (a' := ?_) ?_ ?_
            rotate_left
            · show Act.put _ (some 35) _ = _
              simp only [pq6]
              rfl
            refine pure_ (i := 9) (N := some 36) (v := ?_) (a' := ?_) #[Y6,Y6,Y6,Y6,Y6,Y6,Y6,Y6,Y6,Y6,Y6,Y6,Y6,Y6,Y6,N6,N6,N6,Y6,N6] rfl rfl (any_of HT_.out (by kernel_rfl)) (fun _ _ _ h => h) (Or.inl ⟨by rfl, ?_⟩) ?_ ?_; rotate_left; (intro w'; go_simp; with_reducible rfl); rotate_left; (simp only [pq6]; rfl)
            refine one_ (i := 15) (N := some 42) #[Y6,Y6,Y6,Y6,Y6,Y6,Y6,Y6,Y6,Y6,Y6,Y6,Y6,Y6,Y6,Y6,N6,N6,Y6,N6] rfl rfl (one_of HT_.out (by kernel_rfl)) (by decide) (fun K hK => ?_)
            refine goes_ Tryd.func9 (by kernel_rfl) rfl #[.int .i64 (wrap64 (Int.tdiv (rd l0 x8_1) 2)), .int .i64 4] (by rfl) rfl rfl (by (try simp only [List.map_toArray, List.map_cons, List.map_nil]); first | done | rfl | (simp only [List.length_drop, List.length_take]; rfl)) ?_
            with_reducible refine (interlocutorlaw11_within.calls (wrap64 (Int.tdiv (rd l0 x8_1) 2)) 4 t292 _ A16.out).mono ?_
            rintro e w' ⟨rfl, ⟨nd, rfl⟩⟩
            refine ⟨_, rfl, ?_⟩
            refine hK.out _ _ ⟨((HB.out.cell (World.block_lt_of_cell? w _ hw289_0)).trans hw289_0), ((HB.out.cell (World.block_lt_of_cell? w _ hw291_0)).trans hw291_0)⟩ (fun hHeld => ?_)
            clear hK K
            refine norm_ (a' := ?_) ?_ ?_
            rotate_left
            · show Act.put _ (some 42) _ = _
              simp only [pq6]
              rfl
            refine pure_ (i := 16) (N := some 43) (v := ?_) (a' := ?_) #[Y6,Y6,Y6,Y6,Y6,Y6,Y6,Y6,Y6,Y6,Y6,Y6,Y6,Y6,Y6,Y6,Y6,N6,Y6,N6] rfl rfl (any_of HT_.out (by kernel_rfl)) (fun _ _ _ h => h) (Or.inl ⟨by rfl, ?_⟩) ?_ ?_; rotate_left; (intro w'; go_simp; with_reducible rfl); rotate_left; (simp only [pq6]; rfl)
            refine pure_ (i := 17) (N := some 44) (v := ?_) (a' := ?_) #[Y6,Y6,Y6,Y6,Y6,Y6,Y6,Y6,Y6,Y6,Y6,Y6,Y6,Y6,Y6,Y6,Y6,Y6,Y6,N6] rfl rfl (any_of HT_.out (by kernel_rfl)) (fun _ _ _ h => h) (Or.inl ⟨by rfl, ?_⟩) ?_ ?_; rotate_left; (intro w'; go_simp; with_reducible rfl); rotate_left; (simp only [pq6]; rfl)
            exact nJ (hCont (gb293) _ ⟨hHeld, (by exact rU (Kd.R_mono HO_277003.out (fun _ hk => hk.2))), (by (with_reducible repeat (first | refine blk_drewN ?_ _ | refine blk_drew ?_ | refine blk_alloc ?_ _)); exact BK276.out), (by (with_reducible repeat (first | refine blk_drewN ?_ _ | refine blk_drew ?_ | refine blk_alloc ?_ _)); exact BK293.out), GW293.out, GE293.out, NB276_293.out, NB293_276.out, (by exact wZ HB.out GE276.out GE293.out)⟩)
          skip
          refine goes_ Tryd.func9 (by kernel_rfl) rfl #[.int .i64 (rd l0 x8_1), .int .i64 2] (by rfl) rfl rfl (by (try simp only [List.map_toArray, List.map_cons, List.map_nil]); first | done | rfl | (simp only [List.length_drop, List.length_take]; rfl)) ?_
          with_reducible refine (interlocutorlaw11_within.calls (rd l0 x8_1) 2 t290 _ A15.out).mono ?_
          rintro e w' ⟨rfl, ⟨nd, rfl⟩⟩
          refine ⟨_, rfl, ?_⟩
          refine hK.out _ _ ⟨((HB.out.cell (World.block_lt_of_cell? w _ hw289_0)).trans hw289_0), ((HB.out.cell (World.block_lt_of_cell? w _ hw291_0)).trans hw291_0)⟩ (fun hHeld => ?_)
          clear hK K
          refine norm_ (a' := ?_) ?_ ?_
          rotate_left
          · show Act.put _ (some 35) _ = _
            simp only [pq6]
            rfl
          refine pure_ (i := 9) (N := some 36) (v := ?_) (a' := ?_) #[Y6,Y6,Y6,Y6,Y6,Y6,Y6,Y6,Y6,Y6,Y6,Y6,Y6,Y6,Y6,N6,N6,N6,N6,N6] rfl rfl (any_of HT_.out (by kernel_rfl)) (fun _ _ _ h => h) (Or.inl ⟨by rfl, ?_⟩) ?_ ?_; rotate_left; (intro w'; go_simp; with_reducible rfl); rotate_left; (simp only [pq6]; rfl)
          refine two_ (i := 15) (j := 18) (Ni := some 42) (Nj := some 9) #[Y6,Y6,Y6,Y6,Y6,Y6,Y6,Y6,Y6,Y6,Y6,Y6,Y6,Y6,Y6,Y6,N6,N6,N6,N6] #[Y6,Y6,Y6,Y6,Y6,Y6,Y6,Y6,Y6,Y6,Y6,Y6,Y6,Y6,Y6,N6,N6,N6,Y6,N6] rfl rfl rfl rfl (two_of HT_.out (by kernel_rfl)) (by decide) (by decide) (fun K hK => ?_) (fun K hK => ?_)
          · skip
            refine goes_ Tryd.func9 (by kernel_rfl) rfl #[.int .i64 (wrap64 (Int.tdiv (rd l0 x8_1) 2)), .int .i64 4] (by rfl) rfl rfl (by (try simp only [List.map_toArray, List.map_cons, List.map_nil]); first | done | rfl | (simp only [List.length_drop, List.length_take]; rfl)) ?_
            with_reducible refine (interlocutorlaw11_within.calls (wrap64 (Int.tdiv (rd l0 x8_1) 2)) 4 t292 _ A16.out).mono ?_
            rintro e w' ⟨rfl, ⟨nd, rfl⟩⟩
            refine ⟨_, rfl, ?_⟩
            refine hK.out _ _ ⟨((HB.out.cell (World.block_lt_of_cell? w _ hw289_0)).trans hw289_0), ((HB.out.cell (World.block_lt_of_cell? w _ hw291_0)).trans hw291_0)⟩ (fun hHeld => ?_)
            clear hK K
            refine norm_ (a' := ?_) ?_ ?_
            rotate_left
            · show Act.put _ (some 42) _ = _
              simp only [pq6]
              rfl
            refine pure_ (i := 16) (N := some 43) (v := ?_) (a' := ?_) #[Y6,Y6,Y6,Y6,Y6,Y6,Y6,Y6,Y6,Y6,Y6,Y6,Y6,Y6,Y6,Y6,Y6,N6,N6,N6] rfl rfl (any_of HT_.out (by kernel_rfl)) (fun _ _ _ h => h) (Or.inl ⟨by rfl, ?_⟩) ?_ ?_; rotate_left; (intro w'; go_simp; with_reducible rfl); rotate_left; (simp only [pq6]; rfl)
            refine pure_ (i := 17) (N := some 44) (v := ?_) (a' := ?_) #[Y6,Y6,Y6,Y6,Y6,Y6,Y6,Y6,Y6,Y6,Y6,Y6,Y6,Y6,Y6,Y6,Y6,Y6,N6,N6] rfl rfl (any_of HT_.out (by kernel_rfl)) (fun _ _ _ h => h) (Or.inl ⟨by rfl, ?_⟩) ?_ ?_; rotate_left; (intro w'; go_simp; with_reducible rfl); rotate_left; (simp only [pq6]; rfl)
            refine one_ (i := 18) (N := some 9) #[Y6,Y6,Y6,Y6,Y6,Y6,Y6,Y6,Y6,Y6,Y6,Y6,Y6,Y6,Y6,Y6,Y6,Y6,Y6,N6] rfl rfl (one_of HT_.out (by kernel_rfl)) (by decide) (fun K hK => ?_)
            refine box_step ?hg (N := 9) ?hd (cs := #[.string (⟨#[]⟩ : ByteArray), .int .i64 0, .int .i64 0]) (t := 24) ?hr ?_; (case hd => rfl); (case hg => rfl); (case hr => first | (go_simp; done) | (go_simp; rfl))
            intro gb293 hg w48 hbox hb
            have n0_ := Aside0.mk (Kd.R_below (Kd.R_elderB (by exact rU HO_277003.out) gb293 (Nat.le_of_eq hg.symm)) hb)
            have n1_ := Aside0.mk (blk_below (g := gb276) (o := .cells #[.string (⟨#[]⟩ : ByteArray), .int .i64 0, .int .i64 0, u277003, .slice none 0 0, .slice none 0 0] 35 (0, 0)) (by (with_reducible repeat (first | refine blk_drewN ?_ _ | refine blk_drew ?_ | refine blk_alloc ?_ _)); exact BK276.out) hb)
            have n2_ := Aside0.mk (below_step (by exact wS HB.out GE276.out) hb)
            have n3_ := Aside0.mk (hbox)
            have n4_ := Aside0.mk ((by rw [hg]; exact (below_size (by exact wS HB.out GE276.out)) : w.heap.size ≤ gb293))
            have n5_ := Aside0.mk ((by rw [hg]; exact (below_size (by exact wS HB.out GE276.out)) : w.heap.size ≤ gb293))
            have n6_ := Aside0.mk ((by rw [hg]; exact Nat.ne_of_lt (blk_lt (g := gb276) (o := .cells #[.string (⟨#[]⟩ : ByteArray), .int .i64 0, .int .i64 0, u277003, .slice none 0 0, .slice none 0 0] 35 (0, 0)) (by (with_reducible repeat (first | refine blk_drewN ?_ _ | refine blk_drew ?_ | refine blk_alloc ?_ _)); exact BK276.out)) : gb276 ≠ gb293))
            have n7_ := Aside0.mk ((by rw [hg]; exact Nat.ne_of_gt (blk_lt (g := gb276) (o := .cells #[.string (⟨#[]⟩ : ByteArray), .int .i64 0, .int .i64 0, u277003, .slice none 0 0, .slice none 0 0] 35 (0, 0)) (by (with_reducible repeat (first | refine blk_drewN ?_ _ | refine blk_drew ?_ | refine blk_alloc ?_ _)); exact BK276.out)) : gb293 ≠ gb276))
            clear HO_277003 BK276 HB
            have HO_277003 := n0_
            have BK276 := n1_
            have HB := n2_
            have BK293 := n3_
            have GW293 := n4_
            have GE293 := n5_
            have NB276_293 := n6_
            have NB293_276 := n7_
            clear n0_ n1_ n2_ n3_ n4_ n5_ n6_ n7_ hb hbox hg
            refine hK.out _ _ ⟨((HB.out.cell (World.block_lt_of_cell? w _ hw289_0)).trans hw289_0), ((HB.out.cell (World.block_lt_of_cell? w _ hw291_0)).trans hw291_0)⟩ (fun hHeld => ?_)
            clear hK K
            refine norm_ (a' := ?_) ?_ ?_
            rotate_left
            · show Act.put _ (some 9) _ = _
              simp only [pq6]
              rfl
            exact nJ (hCont (gb293) _ ⟨hHeld, (by exact rU (Kd.R_mono HO_277003.out (fun _ hk => hk.2))), (by (with_reducible repeat (first | refine blk_drewN ?_ _ | refine blk_drew ?_ | refine blk_alloc ?_ _)); exact BK276.out), (by (with_reducible repeat (first | refine blk_drewN ?_ _ | refine blk_drew ?_ | refine blk_alloc ?_ _)); exact BK293.out), GW293.out, GE293.out, NB276_293.out, NB293_276.out, (by exact wZ HB.out GE276.out GE293.out)⟩)
          skip
          refine box_step ?hg (N := 9) ?hd (cs := #[.string (⟨#[]⟩ : ByteArray), .int .i64 0, .int .i64 0]) (t := 24) ?hr ?_; (case hd => rfl); (case hg => rfl); (case hr => first | (go_simp; done) | (go_simp; rfl))
          intro gb293 hg w48 hbox hb
          have n0_ := Aside0.mk (Kd.R_below (Kd.R_elderB (by exact rU HO_277003.out) gb293 (Nat.le_of_eq hg.symm)) hb)
          have n1_ := Aside0.mk (blk_below (g := gb276) (o := .cells #[.string (⟨#[]⟩ : ByteArray), .int .i64 0, .int .i64 0, u277003, .slice none 0 0, .slice none 0 0] 35 (0, 0)) (by (with_reducible repeat (first | refine blk_drewN ?_ _ | refine blk_drew ?_ | refine blk_alloc ?_ _)); exact BK276.out) hb)
          have n2_ := Aside0.mk (below_step (by exact wS HB.out GE276.out) hb)
          have n3_ := Aside0.mk (hbox)
          have n4_ := Aside0.mk ((by rw [hg]; exact (below_size (by exact wS HB.out GE276.out)) : w.heap.size ≤ gb293))
          have n5_ := Aside0.mk ((by rw [hg]; exact (below_size (by exact wS HB.out GE276.out)) : w.heap.size ≤ gb293))
          have n6_ := Aside0.mk ((by rw [hg]; exact Nat.ne_of_lt (blk_lt (g := gb276) (o := .cells #[.string (⟨#[]⟩ : ByteArray), .int .i64 0, .int .i64 0, u277003, .slice none 0 0, .slice none 0 0] 35 (0, 0)) (by (with_reducible repeat (first | refine blk_drewN ?_ _ | refine blk_drew ?_ | refine blk_alloc ?_ _)); exact BK276.out)) : gb276 ≠ gb293))
          have n7_ := Aside0.mk ((by rw [hg]; exact Nat.ne_of_gt (blk_lt (g := gb276) (o := .cells #[.string (⟨#[]⟩ : ByteArray), .int .i64 0, .int .i64 0, u277003, .slice none 0 0, .slice none 0 0] 35 (0, 0)) (by (with_reducible repeat (first | refine blk_drewN ?_ _ | refine blk_drew ?_ | refine blk_alloc ?_ _)); exact BK276.out)) : gb293 ≠ gb276))
          clear HO_277003 BK276 HB
          have HO_277003 := n0_
          have BK276 := n1_
          have HB := n2_
          have BK293 := n3_
          have GW293 := n4_
          have GE293 := n5_
          have NB276_293 := n6_
          have NB293_276 := n7_
          clear n0_ n1_ n2_ n3_ n4_ n5_ n6_ n7_ hb hbox hg
          refine hK.out _ _ ⟨((HB.out.cell (World.block_lt_of_cell? w _ hw289_0)).trans hw289_0), ((HB.out.cell (World.block_lt_of_cell? w _ hw291_0)).trans hw291_0)⟩ (fun hHeld => ?_)
          clear hK K
          refine norm_ (a' := ?_) ?_ ?_
          rotate_left
          · show Act.put _ (some 9) _ = _
            simp only [pq6]
            rfl
          refine one_ (i := 15) (N := some 42) #[Y6,Y6,Y6,Y6,Y6,Y6,Y6,Y6,Y6,Y6,Y6,Y6,Y6,Y6,Y6,Y6,N6,N6,Y6,N6] rfl rfl (one_of HT_.out (by kernel_rfl)) (by decide) (fun K hK => ?_)
          refine goes_ Tryd.func9 (by kernel_rfl) rfl #[.int .i64 (wrap64 (Int.tdiv (rd l0 x8_1) 2)), .int .i64 4] (by rfl) rfl rfl (by (try simp only [List.map_toArray, List.map_cons, List.map_nil]); first | done | rfl | (simp only [List.length_drop, List.length_take]; rfl)) ?_
          with_reducible refine (interlocutorlaw11_within.calls (wrap64 (Int.tdiv (rd l0 x8_1) 2)) 4 t292 _ A16.out).mono ?_
          rintro e w' ⟨rfl, ⟨nd, rfl⟩⟩
          refine ⟨_, rfl, ?_⟩
          refine hK.out _ _ ⟨((HB.out.cell (World.block_lt_of_cell? w _ hw289_0)).trans hw289_0), ((HB.out.cell (World.block_lt_of_cell? w _ hw291_0)).trans hw291_0)⟩ (fun hHeld => ?_)
          clear hK K
          refine norm_ (a' := ?_) ?_ ?_
          rotate_left
          · show Act.put _ (some 42) _ = _
            simp only [pq6]
            rfl
          refine pure_ (i := 16) (N := some 43) (v := ?_) (a' := ?_) #[Y6,Y6,Y6,Y6,Y6,Y6,Y6,Y6,Y6,Y6,Y6,Y6,Y6,Y6,Y6,Y6,Y6,N6,Y6,N6] rfl rfl (any_of HT_.out (by kernel_rfl)) (fun _ _ _ h => h) (Or.inl ⟨by rfl, ?_⟩) ?_ ?_; rotate_left; (intro w'; go_simp; with_reducible rfl); rotate_left; (simp only [pq6]; rfl)
          refine pure_ (i := 17) (N := some 44) (v := ?_) (a' := ?_) #[Y6,Y6,Y6,Y6,Y6,Y6,Y6,Y6,Y6,Y6,Y6,Y6,Y6,Y6,Y6,Y6,Y6,Y6,Y6,N6] rfl rfl (any_of HT_.out (by kernel_rfl)) (fun _ _ _ h => h) (Or.inl ⟨by rfl, ?_⟩) ?_ ?_; rotate_left; (intro w'; go_simp; with_reducible rfl); rotate_left; (simp only [pq6]; rfl)
          exact nJ (hCont (gb293) _ ⟨hHeld, (by exact rU (Kd.R_mono HO_277003.out (fun _ hk => hk.2))), (by (with_reducible repeat (first | refine blk_drewN ?_ _ | refine blk_drew ?_ | refine blk_alloc ?_ _)); exact BK276.out), (by (with_reducible repeat (first | refine blk_drewN ?_ _ | refine blk_drew ?_ | refine blk_alloc ?_ _)); exact BK293.out), GW293.out, GE293.out, NB276_293.out, NB293_276.out, (by exact wZ HB.out GE276.out GE293.out)⟩)
        rintro gb293 w49 ⟨hS_, h0_, h1_, h2_, h3_, h4_, h5_, h6_, h7_⟩
        have n0_ : Aside0 (Kd.R k24 24 w49 w.heap.size (fun k_ => k_ ≠ gb293) u277003 x277003_1) := ⟨h0_⟩
        have n1_ : Aside0 (w49.heap[gb276]? = some (.cells #[.string (⟨#[]⟩ : ByteArray), .int .i64 0, .int .i64 0, u277003, .slice none 0 0, .slice none 0 0] 35 (0, 0))) := ⟨h1_⟩
        have n2_ : Aside0 (w49.heap[gb293]? = some (.cells #[.string (⟨#[]⟩ : ByteArray), .int .i64 0, .int .i64 0] 24 (0, 0))) := ⟨h2_⟩
        have n3_ : Aside0 (w.heap.size ≤ gb293) := ⟨h3_⟩
        have n4_ : Aside0 (w.heap.size ≤ gb293) := ⟨h4_⟩
        have n5_ : Aside0 (gb276 ≠ gb293) := ⟨h5_⟩
        have n6_ : Aside0 (gb293 ≠ gb276) := ⟨h6_⟩
        have n7_ : Aside0 (Below w.heap.size w w49) := ⟨h7_⟩
        clear HO_277003 BK276 HB h0_ h1_ h2_ h3_ h4_ h5_ h6_ h7_
        have HO_277003 := n0_
        have BK276 := n1_
        have BK293 := n2_
        have GW293 := n3_
        have GE293 := n4_
        have NB276_293 := n5_
        have NB293_276 := n6_
        have HB := n7_
        clear n0_ n1_ n2_ n3_ n4_ n5_ n6_ n7_
        have hHeld : w49.cell? (ad289.add (x8_1).toNat) = some (.int .i64 (rd l0 x8_1)) ∧ w49.cell? (ad289.add (x8_1).toNat) = some (.int .i64 (rd l0 x8_1)) := hS_
        refine norm_ (a' := ?_) ?_ ?_
        rotate_left
        · simp only [putAll, Act.put, List.setIfInBounds_toArray, List.set_cons_zero, List.set_cons_succ]
          rfl
        refine one_ (i := 19) (N := none) #[Y6,Y6,Y6,Y6,Y6,Y6,Y6,Y6,Y6,Y6,Y6,Y6,Y6,Y6,Y6,Y6,Y6,Y6,Y6,Y6] rfl rfl (one_of HT_.out (by kernel_rfl)) (by decide) (fun K hK => ?_)
        have hs50 : w49.cell? ⟨gb293, 0, none⟩ = some (.string (⟨#[]⟩ : ByteArray)) := (blk_cell BK293.out 0).trans rfl
        have hfs50 := blk_frozen BK293.out 0
        have hns50_0 := NB276_293.out
        have hms50_0 := NB293_276.out
        have hs51 : w49.cell? ⟨gb293, 1, none⟩ = some (.int .i64 0) := (blk_cell BK293.out 1).trans rfl
        have hfs51 := blk_frozen BK293.out 1
        have hns51_0 := NB276_293.out
        have hms51_0 := NB293_276.out
        have hs52 : w49.cell? ⟨gb293, 2, none⟩ = some (.int .i64 0) := (blk_cell BK293.out 2).trans rfl
        have hfs52 := blk_frozen BK293.out 2
        have hns52_0 := NB276_293.out
        have hms52_0 := NB293_276.out
        refine skip_ (w1 := ?_) (by rfl) rfl ?_ ?_
        rotate_left
        · go_simp
          rfl
        refine hK.out _ _ ⟨((cell_far (p := ⟨gb293, _, none⟩) (by first | exact Nat.ne_of_lt (Nat.lt_of_lt_of_le (by have := World.block_lt_of_cell? _ _ hw289_0; first | rwa [add_block] at this | exact this) GW293.out) | (rw [add_block]; exact Nat.ne_of_lt (Nat.lt_of_lt_of_le (by have := World.block_lt_of_cell? _ _ hw289_0; first | rwa [add_block] at this | exact this) GW293.out)) | (show (Addr.add _ _).block ≠ _; rw [add_block]; exact Nat.ne_of_lt (Nat.lt_of_lt_of_le (by have := World.block_lt_of_cell? _ _ hw289_0; first | rwa [add_block] at this | exact this) GW293.out)) | (dsimp only; exact Nat.ne_of_lt (Nat.lt_of_lt_of_le (by have := World.block_lt_of_cell? _ _ hw289_0; first | rwa [add_block] at this | exact this) GW293.out))) _).trans (((cell_far (p := ⟨gb293, _, none⟩) (by first | exact Nat.ne_of_lt (Nat.lt_of_lt_of_le (by have := World.block_lt_of_cell? _ _ hw289_0; first | rwa [add_block] at this | exact this) GW293.out) | (rw [add_block]; exact Nat.ne_of_lt (Nat.lt_of_lt_of_le (by have := World.block_lt_of_cell? _ _ hw289_0; first | rwa [add_block] at this | exact this) GW293.out)) | (show (Addr.add _ _).block ≠ _; rw [add_block]; exact Nat.ne_of_lt (Nat.lt_of_lt_of_le (by have := World.block_lt_of_cell? _ _ hw289_0; first | rwa [add_block] at this | exact this) GW293.out)) | (dsimp only; exact Nat.ne_of_lt (Nat.lt_of_lt_of_le (by have := World.block_lt_of_cell? _ _ hw289_0; first | rwa [add_block] at this | exact this) GW293.out))) _).trans (((cell_far (p := ⟨gb293, _, none⟩) (by first | exact Nat.ne_of_lt (Nat.lt_of_lt_of_le (by have := World.block_lt_of_cell? _ _ hw289_0; first | rwa [add_block] at this | exact this) GW293.out) | (rw [add_block]; exact Nat.ne_of_lt (Nat.lt_of_lt_of_le (by have := World.block_lt_of_cell? _ _ hw289_0; first | rwa [add_block] at this | exact this) GW293.out)) | (show (Addr.add _ _).block ≠ _; rw [add_block]; exact Nat.ne_of_lt (Nat.lt_of_lt_of_le (by have := World.block_lt_of_cell? _ _ hw289_0; first | rwa [add_block] at this | exact this) GW293.out)) | (dsimp only; exact Nat.ne_of_lt (Nat.lt_of_lt_of_le (by have := World.block_lt_of_cell? _ _ hw289_0; first | rwa [add_block] at this | exact this) GW293.out))) _).trans (hHeld.1)))))), ((cell_far (p := ⟨gb293, _, none⟩) (by first | exact Nat.ne_of_lt (Nat.lt_of_lt_of_le (by have := World.block_lt_of_cell? _ _ hw291_0; first | rwa [add_block] at this | exact this) GW293.out) | (rw [add_block]; exact Nat.ne_of_lt (Nat.lt_of_lt_of_le (by have := World.block_lt_of_cell? _ _ hw291_0; first | rwa [add_block] at this | exact this) GW293.out)) | (show (Addr.add _ _).block ≠ _; rw [add_block]; exact Nat.ne_of_lt (Nat.lt_of_lt_of_le (by have := World.block_lt_of_cell? _ _ hw291_0; first | rwa [add_block] at this | exact this) GW293.out)) | (dsimp only; exact Nat.ne_of_lt (Nat.lt_of_lt_of_le (by have := World.block_lt_of_cell? _ _ hw291_0; first | rwa [add_block] at this | exact this) GW293.out))) _).trans (((cell_far (p := ⟨gb293, _, none⟩) (by first | exact Nat.ne_of_lt (Nat.lt_of_lt_of_le (by have := World.block_lt_of_cell? _ _ hw291_0; first | rwa [add_block] at this | exact this) GW293.out) | (rw [add_block]; exact Nat.ne_of_lt (Nat.lt_of_lt_of_le (by have := World.block_lt_of_cell? _ _ hw291_0; first | rwa [add_block] at this | exact this) GW293.out)) | (show (Addr.add _ _).block ≠ _; rw [add_block]; exact Nat.ne_of_lt (Nat.lt_of_lt_of_le (by have := World.block_lt_of_cell? _ _ hw291_0; first | rwa [add_block] at this | exact this) GW293.out)) | (dsimp only; exact Nat.ne_of_lt (Nat.lt_of_lt_of_le (by have := World.block_lt_of_cell? _ _ hw291_0; first | rwa [add_block] at this | exact this) GW293.out))) _).trans (((cell_far (p := ⟨gb293, _, none⟩) (by first | exact Nat.ne_of_lt (Nat.lt_of_lt_of_le (by have := World.block_lt_of_cell? _ _ hw291_0; first | rwa [add_block] at this | exact this) GW293.out) | (rw [add_block]; exact Nat.ne_of_lt (Nat.lt_of_lt_of_le (by have := World.block_lt_of_cell? _ _ hw291_0; first | rwa [add_block] at this | exact this) GW293.out)) | (show (Addr.add _ _).block ≠ _; rw [add_block]; exact Nat.ne_of_lt (Nat.lt_of_lt_of_le (by have := World.block_lt_of_cell? _ _ hw291_0; first | rwa [add_block] at this | exact this) GW293.out)) | (dsimp only; exact Nat.ne_of_lt (Nat.lt_of_lt_of_le (by have := World.block_lt_of_cell? _ _ hw291_0; first | rwa [add_block] at this | exact this) GW293.out))) _).trans (hHeld.2))))))⟩ (fun hHeld => ?_)
        clear hK K
        refine done_ (done_of HT_.out (by kernel_rfl)) ?_
        have hnb53 := NB276_293.out
        have hnc53 := NB293_276.out
        have hcz54_0 : w49.cell? ⟨gb276, 0, none⟩ = some (.string (⟨#[]⟩ : ByteArray)) := (blk_cell BK276.out 0).trans rfl
        have hcz54_1 : w49.cell? ⟨gb276, 1, none⟩ = some (.int .i64 0) := (blk_cell BK276.out 1).trans rfl
        have hcz54_2 : w49.cell? ⟨gb276, 2, none⟩ = some (.int .i64 0) := (blk_cell BK276.out 2).trans rfl
        have hcz54_3 : w49.cell? ⟨gb276, 3, none⟩ = some (u277003) := (blk_cell BK276.out 3).trans rfl
        have hcz54_4 : w49.cell? ⟨gb276, 4, none⟩ = some (.slice none 0 0) := (blk_cell BK276.out 4).trans rfl
        have hcz54_5 : w49.cell? ⟨gb276, 5, none⟩ = some (.slice none 0 0) := (blk_cell BK276.out 5).trans rfl
        have hfz54_0 := blk_frozen BK276.out 0
        have hfz54_1 := blk_frozen BK276.out 1
        have hfz54_2 := blk_frozen BK276.out 2
        have hfz54_3 := blk_frozen BK276.out 3
        have hfz54_4 := blk_frozen BK276.out 4
        have hfz54_5 := blk_frozen BK276.out 5
        have hcz55_0 : w49.cell? ⟨gb293, 0, none⟩ = some (.string (⟨#[]⟩ : ByteArray)) := (blk_cell BK293.out 0).trans rfl
        have hcz55_1 : w49.cell? ⟨gb293, 1, none⟩ = some (.int .i64 0) := (blk_cell BK293.out 1).trans rfl
        have hcz55_2 : w49.cell? ⟨gb293, 2, none⟩ = some (.int .i64 0) := (blk_cell BK293.out 2).trans rfl
        have hfz55_0 := blk_frozen BK293.out 0
        have hfz55_1 := blk_frozen BK293.out 1
        have hfz55_2 := blk_frozen BK293.out 2
        try go_wp2_with (first | ((with_reducible refine gate_builtin (b := .append) (xs := #[.tmp 46, .tmp 48]) rfl ?_); at_builtin; refine Kd.R_append k24 (w0 := w) w.heap.size rfl (.tmp 46) (.tmp 48) 25 24 (.agg #[(.string ⟨#[]⟩), (.int .i64 0), (.int .i64 0)]) 32 rfl Tryd.underlying25 info24 rfl (by decide) (by omega) u277003 x277003_1 (⟨(⟨#[97, 98, 99, 100, 101, 102, 103, 104, 105, 106, 107, 108, 109, 110, 111]⟩ : ByteArray).extract (x8_1 : Int).toNat ((wrap64 (x8_1 + 1)) : Int).toNat, wrap64 (1 + t290), wrap64 (1 + t292)⟩ : S24) [.string ((⟨#[97, 98, 99, 100, 101, 102, 103, 104, 105, 106, 107, 108, 109, 110, 111]⟩ : ByteArray).extract (x8_1 : Int).toNat ((wrap64 (x8_1 + 1)) : Int).toNat), .int .i64 (wrap64 (1 + t290)), .int .i64 (wrap64 (1 + t292))] (fun k_ => k_ ≠ gb293) (fun _ => False) rfl (by first | (go_simp; done) | (go_simp; rfl)) ?aP (fun _ hk => hk.elim) ?aF ?aO ?aB ?aS ?aL ?_; (case aP => exact k24_mkM _ _ _ (⟨(⟨#[97, 98, 99, 100, 101, 102, 103, 104, 105, 106, 107, 108, 109, 110, 111]⟩ : ByteArray).extract (x8_1 : Int).toNat ((wrap64 (x8_1 + 1)) : Int).toNat, wrap64 (1 + t290), wrap64 (1 + t292)⟩ : S24)); (case aB => exact (by exact wZ HB.out GE276.out GE293.out)); (case aF => exact (fun k_ hk => Kd.freshB (g := gb293) (o := .cells #[.string ((⟨#[97, 98, 99, 100, 101, 102, 103, 104, 105, 106, 107, 108, 109, 110, 111]⟩ : ByteArray).extract (x8_1 : Int).toNat ((wrap64 (x8_1 + 1)) : Int).toNat), .int .i64 (wrap64 (1 + t290)), .int .i64 (wrap64 (1 + t292))] 24 (0, 0)) (by (with_reducible repeat (first | refine blk_drewN ?_ _ | refine blk_drew ?_ | refine blk_alloc ?_ _)); refine blk_put (cs := #[.string ((⟨#[97, 98, 99, 100, 101, 102, 103, 104, 105, 106, 107, 108, 109, 110, 111]⟩ : ByteArray).extract (x8_1 : Int).toNat ((wrap64 (x8_1 + 1)) : Int).toNat), .int .i64 (wrap64 (1 + t290)), .int .i64 0]) ?_ 2 _ rfl; (with_reducible repeat (first | refine blk_drewN ?_ _ | refine blk_drew ?_ | refine blk_alloc ?_ _)); refine blk_put (cs := #[.string ((⟨#[97, 98, 99, 100, 101, 102, 103, 104, 105, 106, 107, 108, 109, 110, 111]⟩ : ByteArray).extract (x8_1 : Int).toNat ((wrap64 (x8_1 + 1)) : Int).toNat), .int .i64 0, .int .i64 0]) ?_ 1 _ rfl; (with_reducible repeat (first | refine blk_drewN ?_ _ | refine blk_drew ?_ | refine blk_alloc ?_ _)); refine blk_put (cs := #[.string (⟨#[]⟩ : ByteArray), .int .i64 0, .int .i64 0]) ?_ 0 _ rfl; (with_reducible repeat (first | refine blk_drewN ?_ _ | refine blk_drew ?_ | refine blk_alloc ?_ _)); exact BK293.out) k_ hk)); (case aO => exact (by exact rU (Kd.R_mono (Kd.R_far (p := ⟨gb293, 2, none⟩) (Kd.R_far (p := ⟨gb293, 1, none⟩) (Kd.R_far (p := ⟨gb293, 0, none⟩) (Kd.R_mono HO_277003.out (fun k_ hk => (⟨hk, hk⟩ : _ ∧ k_ ≠ gb293))) (fun _ hk => hk.2) (.string ((⟨#[97, 98, 99, 100, 101, 102, 103, 104, 105, 106, 107, 108, 109, 110, 111]⟩ : ByteArray).extract (x8_1 : Int).toNat ((wrap64 (x8_1 + 1)) : Int).toNat))) (fun _ hk => hk.2) (.int .i64 (wrap64 (1 + t290)))) (fun _ hk => hk.2) (.int .i64 (wrap64 (1 + t292)))) (fun _ hk => hk.1)))); (case aS => exact (below_size (by exact wZ HB.out GE276.out GE293.out))); (case aL => have := LMc17.out; omega); intro v295 w56 ho hb hg hat; rw [← Ny294.out] at ho; have n0_ := Aside0.mk (blk_grown (g := gb276) (o := .cells #[.string (⟨#[]⟩ : ByteArray), .int .i64 0, .int .i64 0, u277003, .slice none 0 0, .slice none 0 0] 35 (0, 0)) (by (with_reducible repeat (first | refine blk_drewN ?_ _ | refine blk_drew ?_ | refine blk_alloc ?_ _)); refine blk_far ?_ NB276_293.out _; (with_reducible repeat (first | refine blk_drewN ?_ _ | refine blk_drew ?_ | refine blk_alloc ?_ _)); refine blk_far ?_ NB276_293.out _; (with_reducible repeat (first | refine blk_drewN ?_ _ | refine blk_drew ?_ | refine blk_alloc ?_ _)); refine blk_far ?_ NB276_293.out _; (with_reducible repeat (first | refine blk_drewN ?_ _ | refine blk_drew ?_ | refine blk_alloc ?_ _)); exact BK276.out) hg (Kd.R_ne HO_277003.out BK276.out (by decide))); have n1_ := Aside0.mk (blk_grown (g := gb293) (o := .cells #[.string ((⟨#[97, 98, 99, 100, 101, 102, 103, 104, 105, 106, 107, 108, 109, 110, 111]⟩ : ByteArray).extract (x8_1 : Int).toNat ((wrap64 (x8_1 + 1)) : Int).toNat), .int .i64 (wrap64 (1 + t290)), .int .i64 (wrap64 (1 + t292))] 24 (0, 0)) (by (with_reducible repeat (first | refine blk_drewN ?_ _ | refine blk_drew ?_ | refine blk_alloc ?_ _)); refine blk_put (cs := #[.string ((⟨#[97, 98, 99, 100, 101, 102, 103, 104, 105, 106, 107, 108, 109, 110, 111]⟩ : ByteArray).extract (x8_1 : Int).toNat ((wrap64 (x8_1 + 1)) : Int).toNat), .int .i64 (wrap64 (1 + t290)), .int .i64 0]) ?_ 2 _ rfl; (with_reducible repeat (first | refine blk_drewN ?_ _ | refine blk_drew ?_ | refine blk_alloc ?_ _)); refine blk_put (cs := #[.string ((⟨#[97, 98, 99, 100, 101, 102, 103, 104, 105, 106, 107, 108, 109, 110, 111]⟩ : ByteArray).extract (x8_1 : Int).toNat ((wrap64 (x8_1 + 1)) : Int).toNat), .int .i64 0, .int .i64 0]) ?_ 1 _ rfl; (with_reducible repeat (first | refine blk_drewN ?_ _ | refine blk_drew ?_ | refine blk_alloc ?_ _)); refine blk_put (cs := #[.string (⟨#[]⟩ : ByteArray), .int .i64 0, .int .i64 0]) ?_ 0 _ rfl; (with_reducible repeat (first | refine blk_drewN ?_ _ | refine blk_drew ?_ | refine blk_alloc ?_ _)); exact BK293.out) hg (Kd.R_away HO_277003.out (fun _ hk => hk))); have n2_ := Aside0.mk (hb); have n3_ := Aside0.mk (ho); clear BK276; clear BK293; clear HB; clear HO_277003; have BK276 := n0_; have BK293 := n1_; have HB := n2_; have HO296 := n3_; clear n0_ n1_ n2_ n3_; clear ho hb hg hat; obtain ⟨Ao57, co57, eo57⟩ := Kd.R_slice HO296.out; subst eo57; have hcz58_0 : w56.cell? ⟨gb276, 0, none⟩ = some (.string (⟨#[]⟩ : ByteArray)) := (blk_cell BK276.out 0).trans rfl; have hcz58_1 : w56.cell? ⟨gb276, 1, none⟩ = some (.int .i64 0) := (blk_cell BK276.out 1).trans rfl; have hcz58_2 : w56.cell? ⟨gb276, 2, none⟩ = some (.int .i64 0) := (blk_cell BK276.out 2).trans rfl; have hcz58_3 : w56.cell? ⟨gb276, 3, none⟩ = some (u277003) := (blk_cell BK276.out 3).trans rfl; have hcz58_4 : w56.cell? ⟨gb276, 4, none⟩ = some (.slice none 0 0) := (blk_cell BK276.out 4).trans rfl; have hcz58_5 : w56.cell? ⟨gb276, 5, none⟩ = some (.slice none 0 0) := (blk_cell BK276.out 5).trans rfl; have hfz58_0 := blk_frozen BK276.out 0; have hfz58_1 := blk_frozen BK276.out 1; have hfz58_2 := blk_frozen BK276.out 2; have hfz58_3 := blk_frozen BK276.out 3; have hfz58_4 := blk_frozen BK276.out 4; have hfz58_5 := blk_frozen BK276.out 5; have hcz59_0 : w56.cell? ⟨gb293, 0, none⟩ = some (.string ((⟨#[97, 98, 99, 100, 101, 102, 103, 104, 105, 106, 107, 108, 109, 110, 111]⟩ : ByteArray).extract (x8_1 : Int).toNat ((wrap64 (x8_1 + 1)) : Int).toNat)) := (blk_cell BK293.out 0).trans rfl; have hcz59_1 : w56.cell? ⟨gb293, 1, none⟩ = some (.int .i64 (wrap64 (1 + t290))) := (blk_cell BK293.out 1).trans rfl; have hcz59_2 : w56.cell? ⟨gb293, 2, none⟩ = some (.int .i64 (wrap64 (1 + t292))) := (blk_cell BK293.out 2).trans rfl; have hfz59_0 := blk_frozen BK293.out 0; have hfz59_1 := blk_frozen BK293.out 1; have hfz59_2 := blk_frozen BK293.out 2))
        go_roundg kj7
        case measure => have := HK1.out; have := HJ7.out; omega
        case rel => exact ⟨(x6_1), (wrap64 (x8_1 + 1)), (y294), (.slice Ao57 y294.length co57), (by first | rfl | (simp; done) | (simp [*]; done)), (by first | rfl | (simp; done) | (simp [*]; done)), H', ⟨by have := HK1.out; have := HJ7.out; omega⟩, ⟨by exact rU (Kd.R_mono (Kd.R_far (p := ⟨gb276, 3, none⟩) (Kd.R_types HO296.out BK276.out (by decide)) (fun _ hk => hk.2) (.slice Ao57 y294.length co57)) (fun _ hk => trivial))⟩, ⟨by (with_reducible repeat (first | refine blk_drewN ?_ _ | refine blk_drew ?_ | refine blk_alloc ?_ _)); refine blk_put (cs := #[.string (⟨#[]⟩ : ByteArray), .int .i64 0, .int .i64 0, u277003, .slice none 0 0, .slice none 0 0]) ?_ 3 _ rfl; (with_reducible repeat (first | refine blk_drewN ?_ _ | refine blk_drew ?_ | refine blk_alloc ?_ _)); exact BK276.out⟩, ⟨by exact wZ HB.out GE276.out GE293.out⟩⟩
      rw [if_pos c19] at H
      have c19b0 : ((wrap64 (1 + t290)) == 1) = true := beq_iff_eq.mpr c19
      have c19b1 : ((wrap64 (1 + t290)) != 1) = false := bne_eq_false_iff_eq.mpr c19
      clear c19
      by_cases c20 : (wrap64 (1 + t292)) = (wrap64 (1 + t277))
      rotate_left
      · rw [if_neg c20] at H
        have c20b0 : ((wrap64 (1 + t292)) == (wrap64 (1 + t277))) = false := beq_eq_false_iff_ne.mpr c20
        have c20b1 : ((wrap64 (1 + t292)) != (wrap64 (1 + t277))) = true := bne_iff_ne.mpr c20
        have H' := Aside0.mk H
        clear H
        try go_wp2
        have n0_ := Aside0.mk (Kd.R_drew HO_277003.out)
        have n1_ := Aside0.mk (blk_drew BK276.out)
        have n2_ := Aside0.mk (below_drew1 HB.out)
        clear HO_277003 BK276 HB
        have HO_277003 := n0_
        have BK276 := n1_
        have HB := n2_
        clear n0_ n1_ n2_
        have p289 : 0 ≤ (x8_1 : Int) := of_decide_eq_true (by first | (with_reducible assumption) | assumption)
        have q289 : x8_1 < (l0.length : Int) := of_decide_eq_true (by first | (with_reducible assumption) | assumption)
        obtain ⟨ad289, e289, hx289_0⟩ := Kd.at_int HR0.out x8_1 p289 q289
        have hw289_0 := hx289_0
        cases e289
        replace hx289_0 := (HB.out.cell (World.block_lt_of_cell? w _ hx289_0)).trans hx289_0
        replace p289 := eq_true p289
        replace q289 := eq_true q289
        have p291 : 0 ≤ (x8_1 : Int) := of_decide_eq_true (by first | (with_reducible assumption) | assumption)
        have q291 : x8_1 < (l0.length : Int) := of_decide_eq_true (by first | (with_reducible assumption) | assumption)
        obtain ⟨ad291, e291, hx291_0⟩ := Kd.at_int HR0.out x8_1 p291 q291
        have hw291_0 := hx291_0
        obtain rfl : ad289 = ad291 := (by injection e291)
        replace hx291_0 := (HB.out.cell (World.block_lt_of_cell? w _ hx291_0)).trans hx291_0
        replace p291 := eq_true p291
        replace q291 := eq_true q291
        refine start_ (n := 20) (S := fun w' => w'.cell? (ad289.add (x8_1).toNat) = some (.int .i64 (rd l0 x8_1)) ∧ w'.cell? (ad289.add (x8_1).toNat) = some (.int .i64 (rd l0 x8_1))) (ds := []) #[N6,N6,N6,N6,N6,N6,N6,N6,N6,N6,N6,N6,N6,N6,N6,N6,N6,N6,N6,N6] (by kernel_rfl) rfl rfl ⟨((HB.out.cell (World.block_lt_of_cell? w _ hw289_0)).trans hw289_0), ((HB.out.cell (World.block_lt_of_cell? w _ hw291_0)).trans hw291_0)⟩ (fun hHeld => ?_); refine with_tabW interlocutorlaw11_RenderWords.tab9 interlocutorlaw11_RenderWords.bits9 (fun HT_ HW_ => ?_)
        generalize wc.drew = w34 at HO_277003 BK276 HB hx289_0 hx291_0 hHeld ⊢
        refine pure_ (i := 0) (N := some 27) (v := ?_) (a' := ?_) #[Y6,N6,N6,N6,N6,N6,N6,N6,N6,N6,N6,N6,N6,N6,N6,N6,N6,N6,N6,N6] rfl rfl (any_of HT_.out (by kernel_rfl)) (fun _ _ _ h => h) (Or.inl ⟨by rfl, ?_⟩) ?_ ?_; rotate_left; (intro w'; go_simp; with_reducible rfl); rotate_left; (simp only [pq6]; rfl)
        refine pure_ (i := 1) (N := some 28) (v := ?_) (a' := ?_) #[Y6,Y6,N6,N6,N6,N6,N6,N6,N6,N6,N6,N6,N6,N6,N6,N6,N6,N6,N6,N6] rfl rfl (any_of HT_.out (by kernel_rfl)) (fun _ _ _ h => h) (Or.inl ⟨by rfl, ?_⟩) ?_ ?_; rotate_left; (intro w'; go_simp; with_reducible rfl); rotate_left; (simp only [pq6]; rfl)
        refine pure_ (i := 2) (N := some 29) (v := ?_) (a' := ?_) #[Y6,Y6,Y6,N6,N6,N6,N6,N6,N6,N6,N6,N6,N6,N6,N6,N6,N6,N6,N6,N6] rfl rfl (any_of HT_.out (by kernel_rfl)) (fun _ _ _ h => h) (Or.inl ⟨by rfl, ?_⟩) ?_ ?_; rotate_left; (intro w'; go_simp; with_reducible rfl); rotate_left; (simp only [pq6]; rfl)
        refine pure_ (i := 3) (N := some 30) (v := ?_) (a' := ?_) #[Y6,Y6,Y6,Y6,N6,N6,N6,N6,N6,N6,N6,N6,N6,N6,N6,N6,N6,N6,N6,N6] rfl rfl (any_of HT_.out (by kernel_rfl)) (fun _ _ _ h => h) (Or.inl ⟨by rfl, ?_⟩) ?_ ?_; rotate_left; (intro w'; go_simp; with_reducible rfl); rotate_left; (simp only [pq6]; rfl)
        refine pure_ (i := 4) (N := some 31) (v := ?_) (a' := ?_) #[Y6,Y6,Y6,Y6,Y6,N6,N6,N6,N6,N6,N6,N6,N6,N6,N6,N6,N6,N6,N6,N6] rfl rfl (any_of HT_.out (by kernel_rfl)) (fun _ _ _ h => h) (Or.inl ⟨by rfl, ?_⟩) ?_ ?_; rotate_left; (intro w'; go_simp; with_reducible rfl); rotate_left; (simp only [pq6]; rfl)
        refine pure_ (i := 5) (N := some 32) (v := ?_) (a' := ?_) #[Y6,Y6,Y6,Y6,Y6,Y6,N6,N6,N6,N6,N6,N6,N6,N6,N6,N6,N6,N6,N6,N6] rfl rfl (any_of HT_.out (by kernel_rfl)) (fun _ _ _ h => h) (Or.inl ⟨by rfl, ?_⟩) ?_ ?_; rotate_left; (intro w'; go_simp; with_reducible rfl); rotate_left; (simp only [pq6]; rfl)
        refine pure_ (i := 6) (N := some 33) (v := ?_) (a' := ?_) #[Y6,Y6,Y6,Y6,Y6,Y6,Y6,N6,N6,N6,N6,N6,N6,N6,N6,N6,N6,N6,N6,N6] rfl rfl (any_of HT_.out (by kernel_rfl)) (fun _ _ _ h => h) (Or.inl ⟨by rfl, ?_⟩) ?_ ?_; rotate_left; (intro w'; go_simp; with_reducible rfl); rotate_left; (simp only [pq6]; rfl)
        refine pure_ (i := 10) (N := some 37) (v := ?_) (a' := ?_) #[Y6,Y6,Y6,Y6,Y6,Y6,Y6,N6,N6,N6,Y6,N6,N6,N6,N6,N6,N6,N6,N6,N6] rfl rfl (any_of HT_.out (by kernel_rfl)) (fun _ _ _ h => h) (Or.inl ⟨by rfl, ?_⟩) ?_ ?_; rotate_left; (intro w'; go_simp; with_reducible rfl); rotate_left; (simp only [pq6]; rfl)
        refine pure_ (i := 11) (N := some 38) (v := ?_) (a' := ?_) #[Y6,Y6,Y6,Y6,Y6,Y6,Y6,N6,N6,N6,Y6,Y6,N6,N6,N6,N6,N6,N6,N6,N6] rfl rfl (any_of HT_.out (by kernel_rfl)) (fun _ _ _ h => h) (Or.inl ⟨by rfl, ?_⟩) ?_ ?_; rotate_left; (intro w'; go_simp; with_reducible rfl); rotate_left; (simp only [pq6]; rfl)
        refine pure_ (i := 12) (N := some 39) (v := ?_) (a' := ?_) #[Y6,Y6,Y6,Y6,Y6,Y6,Y6,N6,N6,N6,Y6,Y6,Y6,N6,N6,N6,N6,N6,N6,N6] rfl rfl (any_of HT_.out (by kernel_rfl)) (fun _ _ _ h => h) (Or.inl ⟨by rfl, ?_⟩) ?_ ?_; rotate_left; (intro w'; go_simp; with_reducible rfl); rotate_left; (simp only [pq6]; rfl)
        refine take_ (i := 7) (N := some 34) (v := ?_) (a' := ?_) #[Y6,Y6,Y6,Y6,Y6,Y6,Y6,Y6,N6,N6,Y6,Y6,Y6,N6,N6,N6,N6,N6,N6,N6] rfl rfl (take_ofW HT_.out HW_.out (by kernel_rfl)) (fun _ _ _ h => h) (Or.inl ⟨by rfl, ?_⟩) hHeld ?_ ?_
        rotate_left
        · rintro w' ⟨s0, s1⟩
          go_simp
          with_reducible rfl
        rotate_left
        · simp only [pq6]
          rfl
        refine take_ (i := 13) (N := some 40) (v := ?_) (a' := ?_) #[Y6,Y6,Y6,Y6,Y6,Y6,Y6,Y6,N6,N6,Y6,Y6,Y6,Y6,N6,N6,N6,N6,N6,N6] rfl rfl (take_ofW HT_.out HW_.out (by kernel_rfl)) (fun _ _ _ h => h) (Or.inl ⟨by rfl, ?_⟩) hHeld ?_ ?_
        rotate_left
        · rintro w' ⟨s0, s1⟩
          go_simp
          with_reducible rfl
        rotate_left
        · simp only [pq6]
          rfl
        refine pure_ (i := 14) (N := some 41) (v := ?_) (a' := ?_) #[Y6,Y6,Y6,Y6,Y6,Y6,Y6,Y6,N6,N6,Y6,Y6,Y6,Y6,Y6,N6,N6,N6,N6,N6] rfl rfl (any_of HT_.out (by kernel_rfl)) (fun _ _ _ h => h) (Or.inl ⟨by rfl, ?_⟩) ?_ ?_; rotate_left; (intro w'; go_simp; with_reducible rfl); rotate_left; (simp only [pq6]; rfl)
        refine join_ (σ := Nat) 1 #[Y6,Y6,Y6,Y6,Y6,Y6,Y6,Y6,Y6,Y6,Y6,Y6,Y6,Y6,Y6,Y6,Y6,Y6,Y6,N6] (fun s_ => [(35, .int .i64 t290), (42, .int .i64 t292), (9, .pointer (some ⟨s_, 0, none⟩)), (36, .int .i64 (wrap64 (1 + t290))), (43, .int .i64 (wrap64 (1 + t292))), (44, .agg #[.string ((⟨#[97, 98, 99, 100, 101, 102, 103, 104, 105, 106, 107, 108, 109, 110, 111]⟩ : ByteArray).extract (x8_1 : Int).toNat ((wrap64 (x8_1 + 1)) : Int).toNat), .int .i64 (wrap64 (1 + t290)), .int .i64 (wrap64 (1 + t292))])]) (fun s_ w' => (w'.cell? (ad289.add (x8_1).toNat) = some (.int .i64 (rd l0 x8_1)) ∧ w'.cell? (ad289.add (x8_1).toNat) = some (.int .i64 (rd l0 x8_1))) ∧ (Kd.R k24 24 w' w.heap.size (fun k_ => k_ ≠ s_) u277003 x277003_1) ∧ (w'.heap[gb276]? = some (.cells #[.string (⟨#[]⟩ : ByteArray), .int .i64 0, .int .i64 0, u277003, .slice none 0 0, .slice none 0 0] 35 (0, 0))) ∧ (w'.heap[s_]? = some (.cells #[.string (⟨#[]⟩ : ByteArray), .int .i64 0, .int .i64 0] 24 (0, 0))) ∧ (w.heap.size ≤ s_) ∧ (w.heap.size ≤ s_) ∧ (gb276 ≠ s_) ∧ (s_ ≠ gb276) ∧ (Below w.heap.size w w')) ?_ ?_
        rotate_left
        · intro hCont
          refine two_ (i := 8) (j := 18) (Ni := some 35) (Nj := some 9) #[Y6,Y6,Y6,Y6,Y6,Y6,Y6,Y6,Y6,N6,Y6,Y6,Y6,Y6,Y6,N6,N6,N6,N6,N6] #[Y6,Y6,Y6,Y6,Y6,Y6,Y6,Y6,N6,N6,Y6,Y6,Y6,Y6,Y6,N6,N6,N6,Y6,N6] rfl rfl rfl rfl (two_of HT_.out (by kernel_rfl)) (by decide) (by decide) (fun K hK => ?_) (fun K hK => ?_)
          rotate_left
          · skip
            refine box_step ?hg (N := 9) ?hd (cs := #[.string (⟨#[]⟩ : ByteArray), .int .i64 0, .int .i64 0]) (t := 24) ?hr ?_; (case hd => rfl); (case hg => rfl); (case hr => first | (go_simp; done) | (go_simp; rfl))
            intro gb293 hg w35 hbox hb
            have n0_ := Aside0.mk (Kd.R_below (Kd.R_elderB (by exact rU HO_277003.out) gb293 (Nat.le_of_eq hg.symm)) hb)
            have n1_ := Aside0.mk (blk_below (g := gb276) (o := .cells #[.string (⟨#[]⟩ : ByteArray), .int .i64 0, .int .i64 0, u277003, .slice none 0 0, .slice none 0 0] 35 (0, 0)) (by (with_reducible repeat (first | refine blk_drewN ?_ _ | refine blk_drew ?_ | refine blk_alloc ?_ _)); exact BK276.out) hb)
            have n2_ := Aside0.mk (below_step (by exact wS HB.out GE276.out) hb)
            have n3_ := Aside0.mk (hbox)
            have n4_ := Aside0.mk ((by rw [hg]; exact (below_size (by exact wS HB.out GE276.out)) : w.heap.size ≤ gb293))
            have n5_ := Aside0.mk ((by rw [hg]; exact (below_size (by exact wS HB.out GE276.out)) : w.heap.size ≤ gb293))
            have n6_ := Aside0.mk ((by rw [hg]; exact Nat.ne_of_lt (blk_lt (g := gb276) (o := .cells #[.string (⟨#[]⟩ : ByteArray), .int .i64 0, .int .i64 0, u277003, .slice none 0 0, .slice none 0 0] 35 (0, 0)) (by (with_reducible repeat (first | refine blk_drewN ?_ _ | refine blk_drew ?_ | refine blk_alloc ?_ _)); exact BK276.out)) : gb276 ≠ gb293))
            have n7_ := Aside0.mk ((by rw [hg]; exact Nat.ne_of_gt (blk_lt (g := gb276) (o := .cells #[.string (⟨#[]⟩ : ByteArray), .int .i64 0, .int .i64 0, u277003, .slice none 0 0, .slice none 0 0] 35 (0, 0)) (by (with_reducible repeat (first | refine blk_drewN ?_ _ | refine blk_drew ?_ | refine blk_alloc ?_ _)); exact BK276.out)) : gb293 ≠ gb276))
            clear HO_277003 BK276 HB
            have HO_277003 := n0_
            have BK276 := n1_
            have HB := n2_
            have BK293 := n3_
            have GW293 := n4_
            have GE293 := n5_
            have NB276_293 := n6_
            have NB293_276 := n7_
            clear n0_ n1_ n2_ n3_ n4_ n5_ n6_ n7_ hb hbox hg
            refine hK.out _ _ ⟨((HB.out.cell (World.block_lt_of_cell? w _ hw289_0)).trans hw289_0), ((HB.out.cell (World.block_lt_of_cell? w _ hw291_0)).trans hw291_0)⟩ (fun hHeld => ?_)
            clear hK K
            refine norm_ (a' := ?_) ?_ ?_
            rotate_left
            · show Act.put _ (some 9) _ = _
              simp only [pq6]
              rfl
            refine one_ (i := 8) (N := some 35) #[Y6,Y6,Y6,Y6,Y6,Y6,Y6,Y6,Y6,N6,Y6,Y6,Y6,Y6,Y6,N6,N6,N6,Y6,N6] rfl rfl (one_of HT_.out (by kernel_rfl)) (by decide) (fun K hK => ?_)
            refine goes_ Tryd.func9 (by kernel_rfl) rfl #[.int .i64 (rd l0 x8_1), .int .i64 2] (by rfl) rfl rfl (by (try simp only [List.map_toArray, List.map_cons, List.map_nil]); first | done | rfl | (simp only [List.length_drop, List.length_take]; rfl)) ?_
            with_reducible refine (interlocutorlaw11_within.calls (rd l0 x8_1) 2 t290 _ A15.out).mono ?_
            rintro e w' ⟨rfl, ⟨nd, rfl⟩⟩
            refine ⟨_, rfl, ?_⟩
            refine hK.out _ _ ⟨((HB.out.cell (World.block_lt_of_cell? w _ hw289_0)).trans hw289_0), ((HB.out.cell (World.block_lt_of_cell? w _ hw291_0)).trans hw291_0)⟩ (fun hHeld => ?_)
            clear hK K
            refine norm_ (a' := ?_) ?_ ?_
            rotate_left
            · show Act.put _ (some 35) _ = _
              simp only [pq6]
              rfl
            refine pure_ (i := 9) (N := some 36) (v := ?_) (a' := ?_) #[Y6,Y6,Y6,Y6,Y6,Y6,Y6,Y6,Y6,Y6,Y6,Y6,Y6,Y6,Y6,N6,N6,N6,Y6,N6] rfl rfl (any_of HT_.out (by kernel_rfl)) (fun _ _ _ h => h) (Or.inl ⟨by rfl, ?_⟩) ?_ ?_; rotate_left; (intro w'; go_simp; with_reducible rfl); rotate_left; (simp only [pq6]; rfl)
            refine one_ (i := 15) (N := some 42) #[Y6,Y6,Y6,Y6,Y6,Y6,Y6,Y6,Y6,Y6,Y6,Y6,Y6,Y6,Y6,Y6,N6,N6,Y6,N6] rfl rfl (one_of HT_.out (by kernel_rfl)) (by decide) (fun K hK => ?_)
            refine goes_ Tryd.func9 (by kernel_rfl) rfl #[.int .i64 (wrap64 (Int.tdiv (rd l0 x8_1) 2)), .int .i64 4] (by rfl) rfl rfl (by (try simp only [List.map_toArray, List.map_cons, List.map_nil]); first | done | rfl | (simp only [List.length_drop, List.length_take]; rfl)) ?_
            with_reducible refine (interlocutorlaw11_within.calls (wrap64 (Int.tdiv (rd l0 x8_1) 2)) 4 t292 _ A16.out).mono ?_
            rintro e w' ⟨rfl, ⟨nd, rfl⟩⟩
            refine ⟨_, rfl, ?_⟩
            refine hK.out _ _ ⟨((HB.out.cell (World.block_lt_of_cell? w _ hw289_0)).trans hw289_0), ((HB.out.cell (World.block_lt_of_cell? w _ hw291_0)).trans hw291_0)⟩ (fun hHeld => ?_)
            clear hK K
            refine norm_ (a' := ?_) ?_ ?_
            rotate_left
            · show Act.put _ (some 42) _ = _
              simp only [pq6]
              rfl
            refine pure_ (i := 16) (N := some 43) (v := ?_) (a' := ?_) #[Y6,Y6,Y6,Y6,Y6,Y6,Y6,Y6,Y6,Y6,Y6,Y6,Y6,Y6,Y6,Y6,Y6,N6,Y6,N6] rfl rfl (any_of HT_.out (by kernel_rfl)) (fun _ _ _ h => h) (Or.inl ⟨by rfl, ?_⟩) ?_ ?_; rotate_left; (intro w'; go_simp; with_reducible rfl); rotate_left; (simp only [pq6]; rfl)
            refine pure_ (i := 17) (N := some 44) (v := ?_) (a' := ?_) #[Y6,Y6,Y6,Y6,Y6,Y6,Y6,Y6,Y6,Y6,Y6,Y6,Y6,Y6,Y6,Y6,Y6,Y6,Y6,N6] rfl rfl (any_of HT_.out (by kernel_rfl)) (fun _ _ _ h => h) (Or.inl ⟨by rfl, ?_⟩) ?_ ?_; rotate_left; (intro w'; go_simp; with_reducible rfl); rotate_left; (simp only [pq6]; rfl)
            exact nJ (hCont (gb293) _ ⟨hHeld, (by exact rU (Kd.R_mono HO_277003.out (fun _ hk => hk.2))), (by (with_reducible repeat (first | refine blk_drewN ?_ _ | refine blk_drew ?_ | refine blk_alloc ?_ _)); exact BK276.out), (by (with_reducible repeat (first | refine blk_drewN ?_ _ | refine blk_drew ?_ | refine blk_alloc ?_ _)); exact BK293.out), GW293.out, GE293.out, NB276_293.out, NB293_276.out, (by exact wZ HB.out GE276.out GE293.out)⟩)
          skip
          refine goes_ Tryd.func9 (by kernel_rfl) rfl #[.int .i64 (rd l0 x8_1), .int .i64 2] (by rfl) rfl rfl (by (try simp only [List.map_toArray, List.map_cons, List.map_nil]); first | done | rfl | (simp only [List.length_drop, List.length_take]; rfl)) ?_
          with_reducible refine (interlocutorlaw11_within.calls (rd l0 x8_1) 2 t290 _ A15.out).mono ?_
          rintro e w' ⟨rfl, ⟨nd, rfl⟩⟩
          refine ⟨_, rfl, ?_⟩
          refine hK.out _ _ ⟨((HB.out.cell (World.block_lt_of_cell? w _ hw289_0)).trans hw289_0), ((HB.out.cell (World.block_lt_of_cell? w _ hw291_0)).trans hw291_0)⟩ (fun hHeld => ?_)
          clear hK K
          refine norm_ (a' := ?_) ?_ ?_
          rotate_left
          · show Act.put _ (some 35) _ = _
            simp only [pq6]
            rfl
          refine pure_ (i := 9) (N := some 36) (v := ?_) (a' := ?_) #[Y6,Y6,Y6,Y6,Y6,Y6,Y6,Y6,Y6,Y6,Y6,Y6,Y6,Y6,Y6,N6,N6,N6,N6,N6] rfl rfl (any_of HT_.out (by kernel_rfl)) (fun _ _ _ h => h) (Or.inl ⟨by rfl, ?_⟩) ?_ ?_; rotate_left; (intro w'; go_simp; with_reducible rfl); rotate_left; (simp only [pq6]; rfl)
          refine two_ (i := 15) (j := 18) (Ni := some 42) (Nj := some 9) #[Y6,Y6,Y6,Y6,Y6,Y6,Y6,Y6,Y6,Y6,Y6,Y6,Y6,Y6,Y6,Y6,N6,N6,N6,N6] #[Y6,Y6,Y6,Y6,Y6,Y6,Y6,Y6,Y6,Y6,Y6,Y6,Y6,Y6,Y6,N6,N6,N6,Y6,N6] rfl rfl rfl rfl (two_of HT_.out (by kernel_rfl)) (by decide) (by decide) (fun K hK => ?_) (fun K hK => ?_)
          · skip
            refine goes_ Tryd.func9 (by kernel_rfl) rfl #[.int .i64 (wrap64 (Int.tdiv (rd l0 x8_1) 2)), .int .i64 4] (by rfl) rfl rfl (by (try simp only [List.map_toArray, List.map_cons, List.map_nil]); first | done | rfl | (simp only [List.length_drop, List.length_take]; rfl)) ?_
            with_reducible refine (interlocutorlaw11_within.calls (wrap64 (Int.tdiv (rd l0 x8_1) 2)) 4 t292 _ A16.out).mono ?_
            rintro e w' ⟨rfl, ⟨nd, rfl⟩⟩
            refine ⟨_, rfl, ?_⟩
            refine hK.out _ _ ⟨((HB.out.cell (World.block_lt_of_cell? w _ hw289_0)).trans hw289_0), ((HB.out.cell (World.block_lt_of_cell? w _ hw291_0)).trans hw291_0)⟩ (fun hHeld => ?_)
            clear hK K
            refine norm_ (a' := ?_) ?_ ?_
            rotate_left
            · show Act.put _ (some 42) _ = _
              simp only [pq6]
              rfl
            refine pure_ (i := 16) (N := some 43) (v := ?_) (a' := ?_) #[Y6,Y6,Y6,Y6,Y6,Y6,Y6,Y6,Y6,Y6,Y6,Y6,Y6,Y6,Y6,Y6,Y6,N6,N6,N6] rfl rfl (any_of HT_.out (by kernel_rfl)) (fun _ _ _ h => h) (Or.inl ⟨by rfl, ?_⟩) ?_ ?_; rotate_left; (intro w'; go_simp; with_reducible rfl); rotate_left; (simp only [pq6]; rfl)
            refine pure_ (i := 17) (N := some 44) (v := ?_) (a' := ?_) #[Y6,Y6,Y6,Y6,Y6,Y6,Y6,Y6,Y6,Y6,Y6,Y6,Y6,Y6,Y6,Y6,Y6,Y6,N6,N6] rfl rfl (any_of HT_.out (by kernel_rfl)) (fun _ _ _ h => h) (Or.inl ⟨by rfl, ?_⟩) ?_ ?_; rotate_left; (intro w'; go_simp; with_reducible rfl); rotate_left; (simp only [pq6]; rfl)
            refine one_ (i := 18) (N := some 9) #[Y6,Y6,Y6,Y6,Y6,Y6,Y6,Y6,Y6,Y6,Y6,Y6,Y6,Y6,Y6,Y6,Y6,Y6,Y6,N6] rfl rfl (one_of HT_.out (by kernel_rfl)) (by decide) (fun K hK => ?_)
            refine box_step ?hg (N := 9) ?hd (cs := #[.string (⟨#[]⟩ : ByteArray), .int .i64 0, .int .i64 0]) (t := 24) ?hr ?_; (case hd => rfl); (case hg => rfl); (case hr => first | (go_simp; done) | (go_simp; rfl))
            intro gb293 hg w35 hbox hb
            have n0_ := Aside0.mk (Kd.R_below (Kd.R_elderB (by exact rU HO_277003.out) gb293 (Nat.le_of_eq hg.symm)) hb)
            have n1_ := Aside0.mk (blk_below (g := gb276) (o := .cells #[.string (⟨#[]⟩ : ByteArray), .int .i64 0, .int .i64 0, u277003, .slice none 0 0, .slice none 0 0] 35 (0, 0)) (by (with_reducible repeat (first | refine blk_drewN ?_ _ | refine blk_drew ?_ | refine blk_alloc ?_ _)); exact BK276.out) hb)
            have n2_ := Aside0.mk (below_step (by exact wS HB.out GE276.out) hb)
            have n3_ := Aside0.mk (hbox)
            have n4_ := Aside0.mk ((by rw [hg]; exact (below_size (by exact wS HB.out GE276.out)) : w.heap.size ≤ gb293))
            have n5_ := Aside0.mk ((by rw [hg]; exact (below_size (by exact wS HB.out GE276.out)) : w.heap.size ≤ gb293))
            have n6_ := Aside0.mk ((by rw [hg]; exact Nat.ne_of_lt (blk_lt (g := gb276) (o := .cells #[.string (⟨#[]⟩ : ByteArray), .int .i64 0, .int .i64 0, u277003, .slice none 0 0, .slice none 0 0] 35 (0, 0)) (by (with_reducible repeat (first | refine blk_drewN ?_ _ | refine blk_drew ?_ | refine blk_alloc ?_ _)); exact BK276.out)) : gb276 ≠ gb293))
            have n7_ := Aside0.mk ((by rw [hg]; exact Nat.ne_of_gt (blk_lt (g := gb276) (o := .cells #[.string (⟨#[]⟩ : ByteArray), .int .i64 0, .int .i64 0, u277003, .slice none 0 0, .slice none 0 0] 35 (0, 0)) (by (with_reducible repeat (first | refine blk_drewN ?_ _ | refine blk_drew ?_ | refine blk_alloc ?_ _)); exact BK276.out)) : gb293 ≠ gb276))
            clear HO_277003 BK276 HB
            have HO_277003 := n0_
            have BK276 := n1_
            have HB := n2_
            have BK293 := n3_
            have GW293 := n4_
            have GE293 := n5_
            have NB276_293 := n6_
            have NB293_276 := n7_
            clear n0_ n1_ n2_ n3_ n4_ n5_ n6_ n7_ hb hbox hg
            refine hK.out _ _ ⟨((HB.out.cell (World.block_lt_of_cell? w _ hw289_0)).trans hw289_0), ((HB.out.cell (World.block_lt_of_cell? w _ hw291_0)).trans hw291_0)⟩ (fun hHeld => ?_)
            clear hK K
            refine norm_ (a' := ?_) ?_ ?_
            rotate_left
            · show Act.put _ (some 9) _ = _
              simp only [pq6]
              rfl
            exact nJ (hCont (gb293) _ ⟨hHeld, (by exact rU (Kd.R_mono HO_277003.out (fun _ hk => hk.2))), (by (with_reducible repeat (first | refine blk_drewN ?_ _ | refine blk_drew ?_ | refine blk_alloc ?_ _)); exact BK276.out), (by (with_reducible repeat (first | refine blk_drewN ?_ _ | refine blk_drew ?_ | refine blk_alloc ?_ _)); exact BK293.out), GW293.out, GE293.out, NB276_293.out, NB293_276.out, (by exact wZ HB.out GE276.out GE293.out)⟩)
          skip
          refine box_step ?hg (N := 9) ?hd (cs := #[.string (⟨#[]⟩ : ByteArray), .int .i64 0, .int .i64 0]) (t := 24) ?hr ?_; (case hd => rfl); (case hg => rfl); (case hr => first | (go_simp; done) | (go_simp; rfl))
          intro gb293 hg w35 hbox hb
          have n0_ := Aside0.mk (Kd.R_below (Kd.R_elderB (by exact rU HO_277003.out) gb293 (Nat.le_of_eq hg.symm)) hb)
          have n1_ := Aside0.mk (blk_below (g := gb276) (o := .cells #[.string (⟨#[]⟩ : ByteArray), .int .i64 0, .int .i64 0, u277003, .slice none 0 0, .slice none 0 0] 35 (0, 0)) (by (with_reducible repeat (first | refine blk_drewN ?_ _ | refine blk_drew ?_ | refine blk_alloc ?_ _)); exact BK276.out) hb)
          have n2_ := Aside0.mk (below_step (by exact wS HB.out GE276.out) hb)
          have n3_ := Aside0.mk (hbox)
          have n4_ := Aside0.mk ((by rw [hg]; exact (below_size (by exact wS HB.out GE276.out)) : w.heap.size ≤ gb293))
          have n5_ := Aside0.mk ((by rw [hg]; exact (below_size (by exact wS HB.out GE276.out)) : w.heap.size ≤ gb293))
          have n6_ := Aside0.mk ((by rw [hg]; exact Nat.ne_of_lt (blk_lt (g := gb276) (o := .cells #[.string (⟨#[]⟩ : ByteArray), .int .i64 0, .int .i64 0, u277003, .slice none 0 0, .slice none 0 0] 35 (0, 0)) (by (with_reducible repeat (first | refine blk_drewN ?_ _ | refine blk_drew ?_ | refine blk_alloc ?_ _)); exact BK276.out)) : gb276 ≠ gb293))
          have n7_ := Aside0.mk ((by rw [hg]; exact Nat.ne_of_gt (blk_lt (g := gb276) (o := .cells #[.string (⟨#[]⟩ : ByteArray), .int .i64 0, .int .i64 0, u277003, .slice none 0 0, .slice none 0 0] 35 (0, 0)) (by (with_reducible repeat (first | refine blk_drewN ?_ _ | refine blk_drew ?_ | refine blk_alloc ?_ _)); exact BK276.out)) : gb293 ≠ gb276))
          clear HO_277003 BK276 HB
          have HO_277003 := n0_
          have BK276 := n1_
          have HB := n2_
          have BK293 := n3_
          have GW293 := n4_
          have GE293 := n5_
          have NB276_293 := n6_
          have NB293_276 := n7_
          clear n0_ n1_ n2_ n3_ n4_ n5_ n6_ n7_ hb hbox hg
          refine hK.out _ _ ⟨((HB.out.cell (World.block_lt_of_cell? w _ hw289_0)).trans hw289_0), ((HB.out.cell (World.block_lt_of_cell? w _ hw291_0)).trans hw291_0)⟩ (fun hHeld => ?_)
          clear hK K
          refine norm_ (a' := ?_) ?_ ?_
          rotate_left
          · show Act.put _ (some 9) _ = _
            simp only [pq6]
            rfl
          refine one_ (i := 15) (N := some 42) #[Y6,Y6,Y6,Y6,Y6,Y6,Y6,Y6,Y6,Y6,Y6,Y6,Y6,Y6,Y6,Y6,N6,N6,Y6,N6] rfl rfl (one_of HT_.out (by kernel_rfl)) (by decide) (fun K hK => ?_)
          refine goes_ Tryd.func9 (by kernel_rfl) rfl #[.int .i64 (wrap64 (Int.tdiv (rd l0 x8_1) 2)), .int .i64 4] (by rfl) rfl rfl (by (try simp only [List.map_toArray, List.map_cons, List.map_nil]); first | done | rfl | (simp only [List.length_drop, List.length_take]; rfl)) ?_
          with_reducible refine (interlocutorlaw11_within.calls (wrap64 (Int.tdiv (rd l0 x8_1) 2)) 4 t292 _ A16.out).mono ?_
          rintro e w' ⟨rfl, ⟨nd, rfl⟩⟩
          refine ⟨_, rfl, ?_⟩
          refine hK.out _ _ ⟨((HB.out.cell (World.block_lt_of_cell? w _ hw289_0)).trans hw289_0), ((HB.out.cell (World.block_lt_of_cell? w _ hw291_0)).trans hw291_0)⟩ (fun hHeld => ?_)
          clear hK K
          refine norm_ (a' := ?_) ?_ ?_
          rotate_left
          · show Act.put _ (some 42) _ = _
            simp only [pq6]
            rfl
          refine pure_ (i := 16) (N := some 43) (v := ?_) (a' := ?_) #[Y6,Y6,Y6,Y6,Y6,Y6,Y6,Y6,Y6,Y6,Y6,Y6,Y6,Y6,Y6,Y6,Y6,N6,Y6,N6] rfl rfl (any_of HT_.out (by kernel_rfl)) (fun _ _ _ h => h) (Or.inl ⟨by rfl, ?_⟩) ?_ ?_; rotate_left; (intro w'; go_simp; with_reducible rfl); rotate_left; (simp only [pq6]; rfl)
          refine pure_ (i := 17) (N := some 44) (v := ?_) (a' := ?_) #[Y6,Y6,Y6,Y6,Y6,Y6,Y6,Y6,Y6,Y6,Y6,Y6,Y6,Y6,Y6,Y6,Y6,Y6,Y6,N6] rfl rfl (any_of HT_.out (by kernel_rfl)) (fun _ _ _ h => h) (Or.inl ⟨by rfl, ?_⟩) ?_ ?_; rotate_left; (intro w'; go_simp; with_reducible rfl); rotate_left; (simp only [pq6]; rfl)
          exact nJ (hCont (gb293) _ ⟨hHeld, (by exact rU (Kd.R_mono HO_277003.out (fun _ hk => hk.2))), (by (with_reducible repeat (first | refine blk_drewN ?_ _ | refine blk_drew ?_ | refine blk_alloc ?_ _)); exact BK276.out), (by (with_reducible repeat (first | refine blk_drewN ?_ _ | refine blk_drew ?_ | refine blk_alloc ?_ _)); exact BK293.out), GW293.out, GE293.out, NB276_293.out, NB293_276.out, (by exact wZ HB.out GE276.out GE293.out)⟩)
        rintro gb293 w36 ⟨hS_, h0_, h1_, h2_, h3_, h4_, h5_, h6_, h7_⟩
        have n0_ : Aside0 (Kd.R k24 24 w36 w.heap.size (fun k_ => k_ ≠ gb293) u277003 x277003_1) := ⟨h0_⟩
        have n1_ : Aside0 (w36.heap[gb276]? = some (.cells #[.string (⟨#[]⟩ : ByteArray), .int .i64 0, .int .i64 0, u277003, .slice none 0 0, .slice none 0 0] 35 (0, 0))) := ⟨h1_⟩
        have n2_ : Aside0 (w36.heap[gb293]? = some (.cells #[.string (⟨#[]⟩ : ByteArray), .int .i64 0, .int .i64 0] 24 (0, 0))) := ⟨h2_⟩
        have n3_ : Aside0 (w.heap.size ≤ gb293) := ⟨h3_⟩
        have n4_ : Aside0 (w.heap.size ≤ gb293) := ⟨h4_⟩
        have n5_ : Aside0 (gb276 ≠ gb293) := ⟨h5_⟩
        have n6_ : Aside0 (gb293 ≠ gb276) := ⟨h6_⟩
        have n7_ : Aside0 (Below w.heap.size w w36) := ⟨h7_⟩
        clear HO_277003 BK276 HB h0_ h1_ h2_ h3_ h4_ h5_ h6_ h7_
        have HO_277003 := n0_
        have BK276 := n1_
        have BK293 := n2_
        have GW293 := n3_
        have GE293 := n4_
        have NB276_293 := n5_
        have NB293_276 := n6_
        have HB := n7_
        clear n0_ n1_ n2_ n3_ n4_ n5_ n6_ n7_
        have hHeld : w36.cell? (ad289.add (x8_1).toNat) = some (.int .i64 (rd l0 x8_1)) ∧ w36.cell? (ad289.add (x8_1).toNat) = some (.int .i64 (rd l0 x8_1)) := hS_
        refine norm_ (a' := ?_) ?_ ?_
        rotate_left
        · simp only [putAll, Act.put, List.setIfInBounds_toArray, List.set_cons_zero, List.set_cons_succ]
          rfl
        refine one_ (i := 19) (N := none) #[Y6,Y6,Y6,Y6,Y6,Y6,Y6,Y6,Y6,Y6,Y6,Y6,Y6,Y6,Y6,Y6,Y6,Y6,Y6,Y6] rfl rfl (one_of HT_.out (by kernel_rfl)) (by decide) (fun K hK => ?_)
        have hs37 : w36.cell? ⟨gb293, 0, none⟩ = some (.string (⟨#[]⟩ : ByteArray)) := (blk_cell BK293.out 0).trans rfl
        have hfs37 := blk_frozen BK293.out 0
        have hns37_0 := NB276_293.out
        have hms37_0 := NB293_276.out
        have hs38 : w36.cell? ⟨gb293, 1, none⟩ = some (.int .i64 0) := (blk_cell BK293.out 1).trans rfl
        have hfs38 := blk_frozen BK293.out 1
        have hns38_0 := NB276_293.out
        have hms38_0 := NB293_276.out
        have hs39 : w36.cell? ⟨gb293, 2, none⟩ = some (.int .i64 0) := (blk_cell BK293.out 2).trans rfl
        have hfs39 := blk_frozen BK293.out 2
        have hns39_0 := NB276_293.out
        have hms39_0 := NB293_276.out
        refine skip_ (w1 := ?_) (by rfl) rfl ?_ ?_
        rotate_left
        · go_simp
          rfl
        refine hK.out _ _ ⟨((cell_far (p := ⟨gb293, _, none⟩) (by first | exact Nat.ne_of_lt (Nat.lt_of_lt_of_le (by have := World.block_lt_of_cell? _ _ hw289_0; first | rwa [add_block] at this | exact this) GW293.out) | (rw [add_block]; exact Nat.ne_of_lt (Nat.lt_of_lt_of_le (by have := World.block_lt_of_cell? _ _ hw289_0; first | rwa [add_block] at this | exact this) GW293.out)) | (show (Addr.add _ _).block ≠ _; rw [add_block]; exact Nat.ne_of_lt (Nat.lt_of_lt_of_le (by have := World.block_lt_of_cell? _ _ hw289_0; first | rwa [add_block] at this | exact this) GW293.out)) | (dsimp only; exact Nat.ne_of_lt (Nat.lt_of_lt_of_le (by have := World.block_lt_of_cell? _ _ hw289_0; first | rwa [add_block] at this | exact this) GW293.out))) _).trans (((cell_far (p := ⟨gb293, _, none⟩) (by first | exact Nat.ne_of_lt (Nat.lt_of_lt_of_le (by have := World.block_lt_of_cell? _ _ hw289_0; first | rwa [add_block] at this | exact this) GW293.out) | (rw [add_block]; exact Nat.ne_of_lt (Nat.lt_of_lt_of_le (by have := World.block_lt_of_cell? _ _ hw289_0; first | rwa [add_block] at this | exact this) GW293.out)) | (show (Addr.add _ _).block ≠ _; rw [add_block]; exact Nat.ne_of_lt (Nat.lt_of_lt_of_le (by have := World.block_lt_of_cell? _ _ hw289_0; first | rwa [add_block] at this | exact this) GW293.out)) | (dsimp only; exact Nat.ne_of_lt (Nat.lt_of_lt_of_le (by have := World.block_lt_of_cell? _ _ hw289_0; first | rwa [add_block] at this | exact this) GW293.out))) _).trans (((cell_far (p := ⟨gb293, _, none⟩) (by first | exact Nat.ne_of_lt (Nat.lt_of_lt_of_le (by have := World.block_lt_of_cell? _ _ hw289_0; first | rwa [add_block] at this | exact this) GW293.out) | (rw [add_block]; exact Nat.ne_of_lt (Nat.lt_of_lt_of_le (by have := World.block_lt_of_cell? _ _ hw289_0; first | rwa [add_block] at this | exact this) GW293.out)) | (show (Addr.add _ _).block ≠ _; rw [add_block]; exact Nat.ne_of_lt (Nat.lt_of_lt_of_le (by have := World.block_lt_of_cell? _ _ hw289_0; first | rwa [add_block] at this | exact this) GW293.out)) | (dsimp only; exact Nat.ne_of_lt (Nat.lt_of_lt_of_le (by have := World.block_lt_of_cell? _ _ hw289_0; first | rwa [add_block] at this | exact this) GW293.out))) _).trans (hHeld.1)))))), ((cell_far (p := ⟨gb293, _, none⟩) (by first | exact Nat.ne_of_lt (Nat.lt_of_lt_of_le (by have := World.block_lt_of_cell? _ _ hw291_0; first | rwa [add_block] at this | exact this) GW293.out) | (rw [add_block]; exact Nat.ne_of_lt (Nat.lt_of_lt_of_le (by have := World.block_lt_of_cell? _ _ hw291_0; first | rwa [add_block] at this | exact this) GW293.out)) | (show (Addr.add _ _).block ≠ _; rw [add_block]; exact Nat.ne_of_lt (Nat.lt_of_lt_of_le (by have := World.block_lt_of_cell? _ _ hw291_0; first | rwa [add_block] at this | exact this) GW293.out)) | (dsimp only; exact Nat.ne_of_lt (Nat.lt_of_lt_of_le (by have := World.block_lt_of_cell? _ _ hw291_0; first | rwa [add_block] at this | exact this) GW293.out))) _).trans (((cell_far (p := ⟨gb293, _, none⟩) (by first | exact Nat.ne_of_lt (Nat.lt_of_lt_of_le (by have := World.block_lt_of_cell? _ _ hw291_0; first | rwa [add_block] at this | exact this) GW293.out) | (rw [add_block]; exact Nat.ne_of_lt (Nat.lt_of_lt_of_le (by have := World.block_lt_of_cell? _ _ hw291_0; first | rwa [add_block] at this | exact this) GW293.out)) | (show (Addr.add _ _).block ≠ _; rw [add_block]; exact Nat.ne_of_lt (Nat.lt_of_lt_of_le (by have := World.block_lt_of_cell? _ _ hw291_0; first | rwa [add_block] at this | exact this) GW293.out)) | (dsimp only; exact Nat.ne_of_lt (Nat.lt_of_lt_of_le (by have := World.block_lt_of_cell? _ _ hw291_0; first | rwa [add_block] at this | exact this) GW293.out))) _).trans (((cell_far (p := ⟨gb293, _, none⟩) (by first | exact Nat.ne_of_lt (Nat.lt_of_lt_of_le (by have := World.block_lt_of_cell? _ _ hw291_0; first | rwa [add_block] at this | exact this) GW293.out) | (rw [add_block]; exact Nat.ne_of_lt (Nat.lt_of_lt_of_le (by have := World.block_lt_of_cell? _ _ hw291_0; first | rwa [add_block] at this | exact this) GW293.out)) | (show (Addr.add _ _).block ≠ _; rw [add_block]; exact Nat.ne_of_lt (Nat.lt_of_lt_of_le (by have := World.block_lt_of_cell? _ _ hw291_0; first | rwa [add_block] at this | exact this) GW293.out)) | (dsimp only; exact Nat.ne_of_lt (Nat.lt_of_lt_of_le (by have := World.block_lt_of_cell? _ _ hw291_0; first | rwa [add_block] at this | exact this) GW293.out))) _).trans (hHeld.2))))))⟩ (fun hHeld => ?_)
        clear hK K
        refine done_ (done_of HT_.out (by kernel_rfl)) ?_
        have hnb40 := NB276_293.out
        have hnc40 := NB293_276.out
        have hcz41_0 : w36.cell? ⟨gb276, 0, none⟩ = some (.string (⟨#[]⟩ : ByteArray)) := (blk_cell BK276.out 0).trans rfl
        have hcz41_1 : w36.cell? ⟨gb276, 1, none⟩ = some (.int .i64 0) := (blk_cell BK276.out 1).trans rfl
        have hcz41_2 : w36.cell? ⟨gb276, 2, none⟩ = some (.int .i64 0) := (blk_cell BK276.out 2).trans rfl
        have hcz41_3 : w36.cell? ⟨gb276, 3, none⟩ = some (u277003) := (blk_cell BK276.out 3).trans rfl
        have hcz41_4 : w36.cell? ⟨gb276, 4, none⟩ = some (.slice none 0 0) := (blk_cell BK276.out 4).trans rfl
        have hcz41_5 : w36.cell? ⟨gb276, 5, none⟩ = some (.slice none 0 0) := (blk_cell BK276.out 5).trans rfl
        have hfz41_0 := blk_frozen BK276.out 0
        have hfz41_1 := blk_frozen BK276.out 1
        have hfz41_2 := blk_frozen BK276.out 2
        have hfz41_3 := blk_frozen BK276.out 3
        have hfz41_4 := blk_frozen BK276.out 4
        have hfz41_5 := blk_frozen BK276.out 5
        have hcz42_0 : w36.cell? ⟨gb293, 0, none⟩ = some (.string (⟨#[]⟩ : ByteArray)) := (blk_cell BK293.out 0).trans rfl
        have hcz42_1 : w36.cell? ⟨gb293, 1, none⟩ = some (.int .i64 0) := (blk_cell BK293.out 1).trans rfl
        have hcz42_2 : w36.cell? ⟨gb293, 2, none⟩ = some (.int .i64 0) := (blk_cell BK293.out 2).trans rfl
        have hfz42_0 := blk_frozen BK293.out 0
        have hfz42_1 := blk_frozen BK293.out 1
        have hfz42_2 := blk_frozen BK293.out 2
        try go_wp2_with (first | ((with_reducible refine gate_builtin (b := .append) (xs := #[.tmp 46, .tmp 48]) rfl ?_); at_builtin; refine Kd.R_append k24 (w0 := w) w.heap.size rfl (.tmp 46) (.tmp 48) 25 24 (.agg #[(.string ⟨#[]⟩), (.int .i64 0), (.int .i64 0)]) 32 rfl Tryd.underlying25 info24 rfl (by decide) (by omega) u277003 x277003_1 (⟨(⟨#[97, 98, 99, 100, 101, 102, 103, 104, 105, 106, 107, 108, 109, 110, 111]⟩ : ByteArray).extract (x8_1 : Int).toNat ((wrap64 (x8_1 + 1)) : Int).toNat, wrap64 (1 + t290), wrap64 (1 + t292)⟩ : S24) [.string ((⟨#[97, 98, 99, 100, 101, 102, 103, 104, 105, 106, 107, 108, 109, 110, 111]⟩ : ByteArray).extract (x8_1 : Int).toNat ((wrap64 (x8_1 + 1)) : Int).toNat), .int .i64 (wrap64 (1 + t290)), .int .i64 (wrap64 (1 + t292))] (fun k_ => k_ ≠ gb293) (fun _ => False) rfl (by first | (go_simp; done) | (go_simp; rfl)) ?aP (fun _ hk => hk.elim) ?aF ?aO ?aB ?aS ?aL ?_; (case aP => exact k24_mkM _ _ _ (⟨(⟨#[97, 98, 99, 100, 101, 102, 103, 104, 105, 106, 107, 108, 109, 110, 111]⟩ : ByteArray).extract (x8_1 : Int).toNat ((wrap64 (x8_1 + 1)) : Int).toNat, wrap64 (1 + t290), wrap64 (1 + t292)⟩ : S24)); (case aB => exact (by exact wZ HB.out GE276.out GE293.out)); (case aF => exact (fun k_ hk => Kd.freshB (g := gb293) (o := .cells #[.string ((⟨#[97, 98, 99, 100, 101, 102, 103, 104, 105, 106, 107, 108, 109, 110, 111]⟩ : ByteArray).extract (x8_1 : Int).toNat ((wrap64 (x8_1 + 1)) : Int).toNat), .int .i64 (wrap64 (1 + t290)), .int .i64 (wrap64 (1 + t292))] 24 (0, 0)) (by (with_reducible repeat (first | refine blk_drewN ?_ _ | refine blk_drew ?_ | refine blk_alloc ?_ _)); refine blk_put (cs := #[.string ((⟨#[97, 98, 99, 100, 101, 102, 103, 104, 105, 106, 107, 108, 109, 110, 111]⟩ : ByteArray).extract (x8_1 : Int).toNat ((wrap64 (x8_1 + 1)) : Int).toNat), .int .i64 (wrap64 (1 + t290)), .int .i64 0]) ?_ 2 _ rfl; (with_reducible repeat (first | refine blk_drewN ?_ _ | refine blk_drew ?_ | refine blk_alloc ?_ _)); refine blk_put (cs := #[.string ((⟨#[97, 98, 99, 100, 101, 102, 103, 104, 105, 106, 107, 108, 109, 110, 111]⟩ : ByteArray).extract (x8_1 : Int).toNat ((wrap64 (x8_1 + 1)) : Int).toNat), .int .i64 0, .int .i64 0]) ?_ 1 _ rfl; (with_reducible repeat (first | refine blk_drewN ?_ _ | refine blk_drew ?_ | refine blk_alloc ?_ _)); refine blk_put (cs := #[.string (⟨#[]⟩ : ByteArray), .int .i64 0, .int .i64 0]) ?_ 0 _ rfl; (with_reducible repeat (first | refine blk_drewN ?_ _ | refine blk_drew ?_ | refine blk_alloc ?_ _)); exact BK293.out) k_ hk)); (case aO => exact (by exact rU (Kd.R_mono (Kd.R_far (p := ⟨gb293, 2, none⟩) (Kd.R_far (p := ⟨gb293, 1, none⟩) (Kd.R_far (p := ⟨gb293, 0, none⟩) (Kd.R_mono HO_277003.out (fun k_ hk => (⟨hk, hk⟩ : _ ∧ k_ ≠ gb293))) (fun _ hk => hk.2) (.string ((⟨#[97, 98, 99, 100, 101, 102, 103, 104, 105, 106, 107, 108, 109, 110, 111]⟩ : ByteArray).extract (x8_1 : Int).toNat ((wrap64 (x8_1 + 1)) : Int).toNat))) (fun _ hk => hk.2) (.int .i64 (wrap64 (1 + t290)))) (fun _ hk => hk.2) (.int .i64 (wrap64 (1 + t292)))) (fun _ hk => hk.1)))); (case aS => exact (below_size (by exact wZ HB.out GE276.out GE293.out))); (case aL => have := LMc17.out; omega); intro v295 w43 ho hb hg hat; rw [← Ny294.out] at ho; have n0_ := Aside0.mk (blk_grown (g := gb276) (o := .cells #[.string (⟨#[]⟩ : ByteArray), .int .i64 0, .int .i64 0, u277003, .slice none 0 0, .slice none 0 0] 35 (0, 0)) (by (with_reducible repeat (first | refine blk_drewN ?_ _ | refine blk_drew ?_ | refine blk_alloc ?_ _)); refine blk_far ?_ NB276_293.out _; (with_reducible repeat (first | refine blk_drewN ?_ _ | refine blk_drew ?_ | refine blk_alloc ?_ _)); refine blk_far ?_ NB276_293.out _; (with_reducible repeat (first | refine blk_drewN ?_ _ | refine blk_drew ?_ | refine blk_alloc ?_ _)); refine blk_far ?_ NB276_293.out _; (with_reducible repeat (first | refine blk_drewN ?_ _ | refine blk_drew ?_ | refine blk_alloc ?_ _)); exact BK276.out) hg (Kd.R_ne HO_277003.out BK276.out (by decide))); have n1_ := Aside0.mk (blk_grown (g := gb293) (o := .cells #[.string ((⟨#[97, 98, 99, 100, 101, 102, 103, 104, 105, 106, 107, 108, 109, 110, 111]⟩ : ByteArray).extract (x8_1 : Int).toNat ((wrap64 (x8_1 + 1)) : Int).toNat), .int .i64 (wrap64 (1 + t290)), .int .i64 (wrap64 (1 + t292))] 24 (0, 0)) (by (with_reducible repeat (first | refine blk_drewN ?_ _ | refine blk_drew ?_ | refine blk_alloc ?_ _)); refine blk_put (cs := #[.string ((⟨#[97, 98, 99, 100, 101, 102, 103, 104, 105, 106, 107, 108, 109, 110, 111]⟩ : ByteArray).extract (x8_1 : Int).toNat ((wrap64 (x8_1 + 1)) : Int).toNat), .int .i64 (wrap64 (1 + t290)), .int .i64 0]) ?_ 2 _ rfl; (with_reducible repeat (first | refine blk_drewN ?_ _ | refine blk_drew ?_ | refine blk_alloc ?_ _)); refine blk_put (cs := #[.string ((⟨#[97, 98, 99, 100, 101, 102, 103, 104, 105, 106, 107, 108, 109, 110, 111]⟩ : ByteArray).extract (x8_1 : Int).toNat ((wrap64 (x8_1 + 1)) : Int).toNat), .int .i64 0, .int .i64 0]) ?_ 1 _ rfl; (with_reducible repeat (first | refine blk_drewN ?_ _ | refine blk_drew ?_ | refine blk_alloc ?_ _)); refine blk_put (cs := #[.string (⟨#[]⟩ : ByteArray), .int .i64 0, .int .i64 0]) ?_ 0 _ rfl; (with_reducible repeat (first | refine blk_drewN ?_ _ | refine blk_drew ?_ | refine blk_alloc ?_ _)); exact BK293.out) hg (Kd.R_away HO_277003.out (fun _ hk => hk))); have n2_ := Aside0.mk (hb); have n3_ := Aside0.mk (ho); clear BK276; clear BK293; clear HB; clear HO_277003; have BK276 := n0_; have BK293 := n1_; have HB := n2_; have HO296 := n3_; clear n0_ n1_ n2_ n3_; clear ho hb hg hat; obtain ⟨Ao44, co44, eo44⟩ := Kd.R_slice HO296.out; subst eo44; have hcz45_0 : w43.cell? ⟨gb276, 0, none⟩ = some (.string (⟨#[]⟩ : ByteArray)) := (blk_cell BK276.out 0).trans rfl; have hcz45_1 : w43.cell? ⟨gb276, 1, none⟩ = some (.int .i64 0) := (blk_cell BK276.out 1).trans rfl; have hcz45_2 : w43.cell? ⟨gb276, 2, none⟩ = some (.int .i64 0) := (blk_cell BK276.out 2).trans rfl; have hcz45_3 : w43.cell? ⟨gb276, 3, none⟩ = some (u277003) := (blk_cell BK276.out 3).trans rfl; have hcz45_4 : w43.cell? ⟨gb276, 4, none⟩ = some (.slice none 0 0) := (blk_cell BK276.out 4).trans rfl; have hcz45_5 : w43.cell? ⟨gb276, 5, none⟩ = some (.slice none 0 0) := (blk_cell BK276.out 5).trans rfl; have hfz45_0 := blk_frozen BK276.out 0; have hfz45_1 := blk_frozen BK276.out 1; have hfz45_2 := blk_frozen BK276.out 2; have hfz45_3 := blk_frozen BK276.out 3; have hfz45_4 := blk_frozen BK276.out 4; have hfz45_5 := blk_frozen BK276.out 5; have hcz46_0 : w43.cell? ⟨gb293, 0, none⟩ = some (.string ((⟨#[97, 98, 99, 100, 101, 102, 103, 104, 105, 106, 107, 108, 109, 110, 111]⟩ : ByteArray).extract (x8_1 : Int).toNat ((wrap64 (x8_1 + 1)) : Int).toNat)) := (blk_cell BK293.out 0).trans rfl; have hcz46_1 : w43.cell? ⟨gb293, 1, none⟩ = some (.int .i64 (wrap64 (1 + t290))) := (blk_cell BK293.out 1).trans rfl; have hcz46_2 : w43.cell? ⟨gb293, 2, none⟩ = some (.int .i64 (wrap64 (1 + t292))) := (blk_cell BK293.out 2).trans rfl; have hfz46_0 := blk_frozen BK293.out 0; have hfz46_1 := blk_frozen BK293.out 1; have hfz46_2 := blk_frozen BK293.out 2))
        go_roundg kj7
        case measure => have := HK1.out; have := HJ7.out; omega
        case rel => exact ⟨(x6_1), (wrap64 (x8_1 + 1)), (y294), (.slice Ao44 y294.length co44), (by first | rfl | (simp; done) | (simp [*]; done)), (by first | rfl | (simp; done) | (simp [*]; done)), H', ⟨by have := HK1.out; have := HJ7.out; omega⟩, ⟨by exact rU (Kd.R_mono (Kd.R_far (p := ⟨gb276, 3, none⟩) (Kd.R_types HO296.out BK276.out (by decide)) (fun _ hk => hk.2) (.slice Ao44 y294.length co44)) (fun _ hk => trivial))⟩, ⟨by (with_reducible repeat (first | refine blk_drewN ?_ _ | refine blk_drew ?_ | refine blk_alloc ?_ _)); refine blk_put (cs := #[.string (⟨#[]⟩ : ByteArray), .int .i64 0, .int .i64 0, u277003, .slice none 0 0, .slice none 0 0]) ?_ 3 _ rfl; (with_reducible repeat (first | refine blk_drewN ?_ _ | refine blk_drew ?_ | refine blk_alloc ?_ _)); exact BK276.out⟩, ⟨by exact wZ HB.out GE276.out GE293.out⟩⟩
      rw [if_pos c20] at H
      have c20b0 : ((wrap64 (1 + t292)) == (wrap64 (1 + t277))) = true := beq_iff_eq.mpr c20
      have c20b1 : ((wrap64 (1 + t292)) != (wrap64 (1 + t277))) = false := bne_eq_false_iff_eq.mpr c20
      clear c20
      have H' := Aside0.mk H
      clear H
      try go_wp2
      have n0_ := Aside0.mk (Kd.R_drew HO_277003.out)
      have n1_ := Aside0.mk (blk_drew BK276.out)
      have n2_ := Aside0.mk (below_drew1 HB.out)
      clear HO_277003 BK276 HB
      have HO_277003 := n0_
      have BK276 := n1_
      have HB := n2_
      clear n0_ n1_ n2_
      have p289 : 0 ≤ (x8_1 : Int) := of_decide_eq_true (by first | (with_reducible assumption) | assumption)
      have q289 : x8_1 < (l0.length : Int) := of_decide_eq_true (by first | (with_reducible assumption) | assumption)
      obtain ⟨ad289, e289, hx289_0⟩ := Kd.at_int HR0.out x8_1 p289 q289
      have hw289_0 := hx289_0
      cases e289
      replace hx289_0 := (HB.out.cell (World.block_lt_of_cell? w _ hx289_0)).trans hx289_0
      replace p289 := eq_true p289
      replace q289 := eq_true q289
      have p291 : 0 ≤ (x8_1 : Int) := of_decide_eq_true (by first | (with_reducible assumption) | assumption)
      have q291 : x8_1 < (l0.length : Int) := of_decide_eq_true (by first | (with_reducible assumption) | assumption)
      obtain ⟨ad291, e291, hx291_0⟩ := Kd.at_int HR0.out x8_1 p291 q291
      have hw291_0 := hx291_0
      obtain rfl : ad289 = ad291 := (by injection e291)
      replace hx291_0 := (HB.out.cell (World.block_lt_of_cell? w _ hx291_0)).trans hx291_0
      replace p291 := eq_true p291
      replace q291 := eq_true q291
      refine start_ (n := 20) (S := fun w' => w'.cell? (ad289.add (x8_1).toNat) = some (.int .i64 (rd l0 x8_1)) ∧ w'.cell? (ad289.add (x8_1).toNat) = some (.int .i64 (rd l0 x8_1))) (ds := []) #[N6,N6,N6,N6,N6,N6,N6,N6,N6,N6,N6,N6,N6,N6,N6,N6,N6,N6,N6,N6] (by kernel_rfl) rfl rfl ⟨((HB.out.cell (World.block_lt_of_cell? w _ hw289_0)).trans hw289_0), ((HB.out.cell (World.block_lt_of_cell? w _ hw291_0)).trans hw291_0)⟩ (fun hHeld => ?_); refine with_tabW interlocutorlaw11_RenderWords.tab9 interlocutorlaw11_RenderWords.bits9 (fun HT_ HW_ => ?_)
      generalize wc.drew = w21 at HO_277003 BK276 HB hx289_0 hx291_0 hHeld ⊢
      refine pure_ (i := 0) (N := some 27) (v := ?_) (a' := ?_) #[Y6,N6,N6,N6,N6,N6,N6,N6,N6,N6,N6,N6,N6,N6,N6,N6,N6,N6,N6,N6] rfl rfl (any_of HT_.out (by kernel_rfl)) (fun _ _ _ h => h) (Or.inl ⟨by rfl, ?_⟩) ?_ ?_; rotate_left; (intro w'; go_simp; with_reducible rfl); rotate_left; (simp only [pq6]; rfl)
      refine pure_ (i := 1) (N := some 28) (v := ?_) (a' := ?_) #[Y6,Y6,N6,N6,N6,N6,N6,N6,N6,N6,N6,N6,N6,N6,N6,N6,N6,N6,N6,N6] rfl rfl (any_of HT_.out (by kernel_rfl)) (fun _ _ _ h => h) (Or.inl ⟨by rfl, ?_⟩) ?_ ?_; rotate_left; (intro w'; go_simp; with_reducible rfl); rotate_left; (simp only [pq6]; rfl)
      refine pure_ (i := 2) (N := some 29) (v := ?_) (a' := ?_) #[Y6,Y6,Y6,N6,N6,N6,N6,N6,N6,N6,N6,N6,N6,N6,N6,N6,N6,N6,N6,N6] rfl rfl (any_of HT_.out (by kernel_rfl)) (fun _ _ _ h => h) (Or.inl ⟨by rfl, ?_⟩) ?_ ?_; rotate_left; (intro w'; go_simp; with_reducible rfl); rotate_left; (simp only [pq6]; rfl)
      refine pure_ (i := 3) (N := some 30) (v := ?_) (a' := ?_) #[Y6,Y6,Y6,Y6,N6,N6,N6,N6,N6,N6,N6,N6,N6,N6,N6,N6,N6,N6,N6,N6] rfl rfl (any_of HT_.out (by kernel_rfl)) (fun _ _ _ h => h) (Or.inl ⟨by rfl, ?_⟩) ?_ ?_; rotate_left; (intro w'; go_simp; with_reducible rfl); rotate_left; (simp only [pq6]; rfl)
      refine pure_ (i := 4) (N := some 31) (v := ?_) (a' := ?_) #[Y6,Y6,Y6,Y6,Y6,N6,N6,N6,N6,N6,N6,N6,N6,N6,N6,N6,N6,N6,N6,N6] rfl rfl (any_of HT_.out (by kernel_rfl)) (fun _ _ _ h => h) (Or.inl ⟨by rfl, ?_⟩) ?_ ?_; rotate_left; (intro w'; go_simp; with_reducible rfl); rotate_left; (simp only [pq6]; rfl)
      refine pure_ (i := 5) (N := some 32) (v := ?_) (a' := ?_) #[Y6,Y6,Y6,Y6,Y6,Y6,N6,N6,N6,N6,N6,N6,N6,N6,N6,N6,N6,N6,N6,N6] rfl rfl (any_of HT_.out (by kernel_rfl)) (fun _ _ _ h => h) (Or.inl ⟨by rfl, ?_⟩) ?_ ?_; rotate_left; (intro w'; go_simp; with_reducible rfl); rotate_left; (simp only [pq6]; rfl)
      refine pure_ (i := 6) (N := some 33) (v := ?_) (a' := ?_) #[Y6,Y6,Y6,Y6,Y6,Y6,Y6,N6,N6,N6,N6,N6,N6,N6,N6,N6,N6,N6,N6,N6] rfl rfl (any_of HT_.out (by kernel_rfl)) (fun _ _ _ h => h) (Or.inl ⟨by rfl, ?_⟩) ?_ ?_; rotate_left; (intro w'; go_simp; with_reducible rfl); rotate_left; (simp only [pq6]; rfl)
      refine pure_ (i := 10) (N := some 37) (v := ?_) (a' := ?_) #[Y6,Y6,Y6,Y6,Y6,Y6,Y6,N6,N6,N6,Y6,N6,N6,N6,N6,N6,N6,N6,N6,N6] rfl rfl (any_of HT_.out (by kernel_rfl)) (fun _ _ _ h => h) (Or.inl ⟨by rfl, ?_⟩) ?_ ?_; rotate_left; (intro w'; go_simp; with_reducible rfl); rotate_left; (simp only [pq6]; rfl)
      refine pure_ (i := 11) (N := some 38) (v := ?_) (a' := ?_) #[Y6,Y6,Y6,Y6,Y6,Y6,Y6,N6,N6,N6,Y6,Y6,N6,N6,N6,N6,N6,N6,N6,N6] rfl rfl (any_of HT_.out (by kernel_rfl)) (fun _ _ _ h => h) (Or.inl ⟨by rfl, ?_⟩) ?_ ?_; rotate_left; (intro w'; go_simp; with_reducible rfl); rotate_left; (simp only [pq6]; rfl)
      refine pure_ (i := 12) (N := some 39) (v := ?_) (a' := ?_) #[Y6,Y6,Y6,Y6,Y6,Y6,Y6,N6,N6,N6,Y6,Y6,Y6,N6,N6,N6,N6,N6,N6,N6] rfl rfl (any_of HT_.out (by kernel_rfl)) (fun _ _ _ h => h) (Or.inl ⟨by rfl, ?_⟩) ?_ ?_; rotate_left; (intro w'; go_simp; with_reducible rfl); rotate_left; (simp only [pq6]; rfl)
      refine take_ (i := 7) (N := some 34) (v := ?_) (a' := ?_) #[Y6,Y6,Y6,Y6,Y6,Y6,Y6,Y6,N6,N6,Y6,Y6,Y6,N6,N6,N6,N6,N6,N6,N6] rfl rfl (take_ofW HT_.out HW_.out (by kernel_rfl)) (fun _ _ _ h => h) (Or.inl ⟨by rfl, ?_⟩) hHeld ?_ ?_
      rotate_left
      · rintro w' ⟨s0, s1⟩
        go_simp
        with_reducible rfl
      rotate_left
      · simp only [pq6]
        rfl
      refine take_ (i := 13) (N := some 40) (v := ?_) (a' := ?_) #[Y6,Y6,Y6,Y6,Y6,Y6,Y6,Y6,N6,N6,Y6,Y6,Y6,Y6,N6,N6,N6,N6,N6,N6] rfl rfl (take_ofW HT_.out HW_.out (by kernel_rfl)) (fun _ _ _ h => h) (Or.inl ⟨by rfl, ?_⟩) hHeld ?_ ?_
      rotate_left
      · rintro w' ⟨s0, s1⟩
        go_simp
        with_reducible rfl
      rotate_left
      · simp only [pq6]
        rfl
      refine pure_ (i := 14) (N := some 41) (v := ?_) (a' := ?_) #[Y6,Y6,Y6,Y6,Y6,Y6,Y6,Y6,N6,N6,Y6,Y6,Y6,Y6,Y6,N6,N6,N6,N6,N6] rfl rfl (any_of HT_.out (by kernel_rfl)) (fun _ _ _ h => h) (Or.inl ⟨by rfl, ?_⟩) ?_ ?_; rotate_left; (intro w'; go_simp; with_reducible rfl); rotate_left; (simp only [pq6]; rfl)
      refine join_ (σ := Nat) 1 #[Y6,Y6,Y6,Y6,Y6,Y6,Y6,Y6,Y6,Y6,Y6,Y6,Y6,Y6,Y6,Y6,Y6,Y6,Y6,N6] (fun s_ => [(35, .int .i64 t290), (42, .int .i64 t292), (9, .pointer (some ⟨s_, 0, none⟩)), (36, .int .i64 (wrap64 (1 + t290))), (43, .int .i64 (wrap64 (1 + t292))), (44, .agg #[.string ((⟨#[97, 98, 99, 100, 101, 102, 103, 104, 105, 106, 107, 108, 109, 110, 111]⟩ : ByteArray).extract (x8_1 : Int).toNat ((wrap64 (x8_1 + 1)) : Int).toNat), .int .i64 (wrap64 (1 + t290)), .int .i64 (wrap64 (1 + t292))])]) (fun s_ w' => (w'.cell? (ad289.add (x8_1).toNat) = some (.int .i64 (rd l0 x8_1)) ∧ w'.cell? (ad289.add (x8_1).toNat) = some (.int .i64 (rd l0 x8_1))) ∧ (Kd.R k24 24 w' w.heap.size (fun k_ => k_ ≠ s_) u277003 x277003_1) ∧ (w'.heap[gb276]? = some (.cells #[.string (⟨#[]⟩ : ByteArray), .int .i64 0, .int .i64 0, u277003, .slice none 0 0, .slice none 0 0] 35 (0, 0))) ∧ (w'.heap[s_]? = some (.cells #[.string (⟨#[]⟩ : ByteArray), .int .i64 0, .int .i64 0] 24 (0, 0))) ∧ (w.heap.size ≤ s_) ∧ (w.heap.size ≤ s_) ∧ (gb276 ≠ s_) ∧ (s_ ≠ gb276) ∧ (Below w.heap.size w w')) ?_ ?_
      rotate_left
      · intro hCont
        refine two_ (i := 8) (j := 18) (Ni := some 35) (Nj := some 9) #[Y6,Y6,Y6,Y6,Y6,Y6,Y6,Y6,Y6,N6,Y6,Y6,Y6,Y6,Y6,N6,N6,N6,N6,N6] #[Y6,Y6,Y6,Y6,Y6,Y6,Y6,Y6,N6,N6,Y6,Y6,Y6,Y6,Y6,N6,N6,N6,Y6,N6] rfl rfl rfl rfl (two_of HT_.out (by kernel_rfl)) (by decide) (by decide) (fun K hK => ?_) (fun K hK => ?_)
        rotate_left
        · skip
          refine box_step ?hg (N := 9) ?hd (cs := #[.string (⟨#[]⟩ : ByteArray), .int .i64 0, .int .i64 0]) (t := 24) ?hr ?_; (case hd => rfl); (case hg => rfl); (case hr => first | (go_simp; done) | (go_simp; rfl))
          intro gb293 hg w22 hbox hb
          have n0_ := Aside0.mk (Kd.R_below (Kd.R_elderB (by exact rU HO_277003.out) gb293 (Nat.le_of_eq hg.symm)) hb)
          have n1_ := Aside0.mk (blk_below (g := gb276) (o := .cells #[.string (⟨#[]⟩ : ByteArray), .int .i64 0, .int .i64 0, u277003, .slice none 0 0, .slice none 0 0] 35 (0, 0)) (by (with_reducible repeat (first | refine blk_drewN ?_ _ | refine blk_drew ?_ | refine blk_alloc ?_ _)); exact BK276.out) hb)
          have n2_ := Aside0.mk (below_step (by exact wS HB.out GE276.out) hb)
          have n3_ := Aside0.mk (hbox)
          have n4_ := Aside0.mk ((by rw [hg]; exact (below_size (by exact wS HB.out GE276.out)) : w.heap.size ≤ gb293))
          have n5_ := Aside0.mk ((by rw [hg]; exact (below_size (by exact wS HB.out GE276.out)) : w.heap.size ≤ gb293))
          have n6_ := Aside0.mk ((by rw [hg]; exact Nat.ne_of_lt (blk_lt (g := gb276) (o := .cells #[.string (⟨#[]⟩ : ByteArray), .int .i64 0, .int .i64 0, u277003, .slice none 0 0, .slice none 0 0] 35 (0, 0)) (by (with_reducible repeat (first | refine blk_drewN ?_ _ | refine blk_drew ?_ | refine blk_alloc ?_ _)); exact BK276.out)) : gb276 ≠ gb293))
          have n7_ := Aside0.mk ((by rw [hg]; exact Nat.ne_of_gt (blk_lt (g := gb276) (o := .cells #[.string (⟨#[]⟩ : ByteArray), .int .i64 0, .int .i64 0, u277003, .slice none 0 0, .slice none 0 0] 35 (0, 0)) (by (with_reducible repeat (first | refine blk_drewN ?_ _ | refine blk_drew ?_ | refine blk_alloc ?_ _)); exact BK276.out)) : gb293 ≠ gb276))
          clear HO_277003 BK276 HB
          have HO_277003 := n0_
          have BK276 := n1_
          have HB := n2_
          have BK293 := n3_
          have GW293 := n4_
          have GE293 := n5_
          have NB276_293 := n6_
          have NB293_276 := n7_
          clear n0_ n1_ n2_ n3_ n4_ n5_ n6_ n7_ hb hbox hg
          refine hK.out _ _ ⟨((HB.out.cell (World.block_lt_of_cell? w _ hw289_0)).trans hw289_0), ((HB.out.cell (World.block_lt_of_cell? w _ hw291_0)).trans hw291_0)⟩ (fun hHeld => ?_)
          clear hK K
          refine norm_ (a' := ?_) ?_ ?_
          rotate_left
          · show Act.put _ (some 9) _ = _
            simp only [pq6]
            rfl
          refine one_ (i := 8) (N := some 35) #[Y6,Y6,Y6,Y6,Y6,Y6,Y6,Y6,Y6,N6,Y6,Y6,Y6,Y6,Y6,N6,N6,N6,Y6,N6] rfl rfl (one_of HT_.out (by kernel_rfl)) (by decide) (fun K hK => ?_)
          refine goes_ Tryd.func9 (by kernel_rfl) rfl #[.int .i64 (rd l0 x8_1), .int .i64 2] (by rfl) rfl rfl (by (try simp only [List.map_toArray, List.map_cons, List.map_nil]); first | done | rfl | (simp only [List.length_drop, List.length_take]; rfl)) ?_
          with_reducible refine (interlocutorlaw11_within.calls (rd l0 x8_1) 2 t290 _ A15.out).mono ?_
          rintro e w' ⟨rfl, ⟨nd, rfl⟩⟩
          refine ⟨_, rfl, ?_⟩
          refine hK.out _ _ ⟨((HB.out.cell (World.block_lt_of_cell? w _ hw289_0)).trans hw289_0), ((HB.out.cell (World.block_lt_of_cell? w _ hw291_0)).trans hw291_0)⟩ (fun hHeld => ?_)
          clear hK K
          refine norm_ (a' := ?_) ?_ ?_
          rotate_left
          · show Act.put _ (some 35) _ = _
            simp only [pq6]
            rfl
          refine pure_ (i := 9) (N := some 36) (v := ?_) (a' := ?_) #[Y6,Y6,Y6,Y6,Y6,Y6,Y6,Y6,Y6,Y6,Y6,Y6,Y6,Y6,Y6,N6,N6,N6,Y6,N6] rfl rfl (any_of HT_.out (by kernel_rfl)) (fun _ _ _ h => h) (Or.inl ⟨by rfl, ?_⟩) ?_ ?_; rotate_left; (intro w'; go_simp; with_reducible rfl); rotate_left; (simp only [pq6]; rfl)
          refine one_ (i := 15) (N := some 42) #[Y6,Y6,Y6,Y6,Y6,Y6,Y6,Y6,Y6,Y6,Y6,Y6,Y6,Y6,Y6,Y6,N6,N6,Y6,N6] rfl rfl (one_of HT_.out (by kernel_rfl)) (by decide) (fun K hK => ?_)
          refine goes_ Tryd.func9 (by kernel_rfl) rfl #[.int .i64 (wrap64 (Int.tdiv (rd l0 x8_1) 2)), .int .i64 4] (by rfl) rfl rfl (by (try simp only [List.map_toArray, List.map_cons, List.map_nil]); first | done | rfl | (simp only [List.length_drop, List.length_take]; rfl)) ?_
          with_reducible refine (interlocutorlaw11_within.calls (wrap64 (Int.tdiv (rd l0 x8_1) 2)) 4 t292 _ A16.out).mono ?_
          rintro e w' ⟨rfl, ⟨nd, rfl⟩⟩
          refine ⟨_, rfl, ?_⟩
          refine hK.out _ _ ⟨((HB.out.cell (World.block_lt_of_cell? w _ hw289_0)).trans hw289_0), ((HB.out.cell (World.block_lt_of_cell? w _ hw291_0)).trans hw291_0)⟩ (fun hHeld => ?_)
          clear hK K
          refine norm_ (a' := ?_) ?_ ?_
          rotate_left
          · show Act.put _ (some 42) _ = _
            simp only [pq6]
            rfl
          refine pure_ (i := 16) (N := some 43) (v := ?_) (a' := ?_) #[Y6,Y6,Y6,Y6,Y6,Y6,Y6,Y6,Y6,Y6,Y6,Y6,Y6,Y6,Y6,Y6,Y6,N6,Y6,N6] rfl rfl (any_of HT_.out (by kernel_rfl)) (fun _ _ _ h => h) (Or.inl ⟨by rfl, ?_⟩) ?_ ?_; rotate_left; (intro w'; go_simp; with_reducible rfl); rotate_left; (simp only [pq6]; rfl)
          refine pure_ (i := 17) (N := some 44) (v := ?_) (a' := ?_) #[Y6,Y6,Y6,Y6,Y6,Y6,Y6,Y6,Y6,Y6,Y6,Y6,Y6,Y6,Y6,Y6,Y6,Y6,Y6,N6] rfl rfl (any_of HT_.out (by kernel_rfl)) (fun _ _ _ h => h) (Or.inl ⟨by rfl, ?_⟩) ?_ ?_; rotate_left; (intro w'; go_simp; with_reducible rfl); rotate_left; (simp only [pq6]; rfl)
          exact nJ (hCont (gb293) _ ⟨hHeld, (by exact rU (Kd.R_mono HO_277003.out (fun _ hk => hk.2))), (by (with_reducible repeat (first | refine blk_drewN ?_ _ | refine blk_drew ?_ | refine blk_alloc ?_ _)); exact BK276.out), (by (with_reducible repeat (first | refine blk_drewN ?_ _ | refine blk_drew ?_ | refine blk_alloc ?_ _)); exact BK293.out), GW293.out, GE293.out, NB276_293.out, NB293_276.out, (by exact wZ HB.out GE276.out GE293.out)⟩)
        skip
        refine goes_ Tryd.func9 (by kernel_rfl) rfl #[.int .i64 (rd l0 x8_1), .int .i64 2] (by rfl) rfl rfl (by (try simp only [List.map_toArray, List.map_cons, List.map_nil]); first | done | rfl | (simp only [List.length_drop, List.length_take]; rfl)) ?_
        with_reducible refine (interlocutorlaw11_within.calls (rd l0 x8_1) 2 t290 _ A15.out).mono ?_
        rintro e w' ⟨rfl, ⟨nd, rfl⟩⟩
        refine ⟨_, rfl, ?_⟩
        refine hK.out _ _ ⟨((HB.out.cell (World.block_lt_of_cell? w _ hw289_0)).trans hw289_0), ((HB.out.cell (World.block_lt_of_cell? w _ hw291_0)).trans hw291_0)⟩ (fun hHeld => ?_)
        clear hK K
        refine norm_ (a' := ?_) ?_ ?_
        rotate_left
        · show Act.put _ (some 35) _ = _
          simp only [pq6]
          rfl
        refine pure_ (i := 9) (N := some 36) (v := ?_) (a' := ?_) #[Y6,Y6,Y6,Y6,Y6,Y6,Y6,Y6,Y6,Y6,Y6,Y6,Y6,Y6,Y6,N6,N6,N6,N6,N6] rfl rfl (any_of HT_.out (by kernel_rfl)) (fun _ _ _ h => h) (Or.inl ⟨by rfl, ?_⟩) ?_ ?_; rotate_left; (intro w'; go_simp; with_reducible rfl); rotate_left; (simp only [pq6]; rfl)
        refine two_ (i := 15) (j := 18) (Ni := some 42) (Nj := some 9) #[Y6,Y6,Y6,Y6,Y6,Y6,Y6,Y6,Y6,Y6,Y6,Y6,Y6,Y6,Y6,Y6,N6,N6,N6,N6] #[Y6,Y6,Y6,Y6,Y6,Y6,Y6,Y6,Y6,Y6,Y6,Y6,Y6,Y6,Y6,N6,N6,N6,Y6,N6] rfl rfl rfl rfl (two_of HT_.out (by kernel_rfl)) (by decide) (by decide) (fun K hK => ?_) (fun K hK => ?_)
        · skip
          refine goes_ Tryd.func9 (by kernel_rfl) rfl #[.int .i64 (wrap64 (Int.tdiv (rd l0 x8_1) 2)), .int .i64 4] (by rfl) rfl rfl (by (try simp only [List.map_toArray, List.map_cons, List.map_nil]); first | done | rfl | (simp only [List.length_drop, List.length_take]; rfl)) ?_
          with_reducible refine (interlocutorlaw11_within.calls (wrap64 (Int.tdiv (rd l0 x8_1) 2)) 4 t292 _ A16.out).mono ?_
          rintro e w' ⟨rfl, ⟨nd, rfl⟩⟩
          refine ⟨_, rfl, ?_⟩
          refine hK.out _ _ ⟨((HB.out.cell (World.block_lt_of_cell? w _ hw289_0)).trans hw289_0), ((HB.out.cell (World.block_lt_of_cell? w _ hw291_0)).trans hw291_0)⟩ (fun hHeld => ?_)
          clear hK K
          refine norm_ (a' := ?_) ?_ ?_
          rotate_left
          · show Act.put _ (some 42) _ = _
            simp only [pq6]
            rfl
          refine pure_ (i := 16) (N := some 43) (v := ?_) (a' := ?_) #[Y6,Y6,Y6,Y6,Y6,Y6,Y6,Y6,Y6,Y6,Y6,Y6,Y6,Y6,Y6,Y6,Y6,N6,N6,N6] rfl rfl (any_of HT_.out (by kernel_rfl)) (fun _ _ _ h => h) (Or.inl ⟨by rfl, ?_⟩) ?_ ?_; rotate_left; (intro w'; go_simp; with_reducible rfl); rotate_left; (simp only [pq6]; rfl)
          refine pure_ (i := 17) (N := some 44) (v := ?_) (a' := ?_) #[Y6,Y6,Y6,Y6,Y6,Y6,Y6,Y6,Y6,Y6,Y6,Y6,Y6,Y6,Y6,Y6,Y6,Y6,N6,N6] rfl rfl (any_of HT_.out (by kernel_rfl)) (fun _ _ _ h => h) (Or.inl ⟨by rfl, ?_⟩) ?_ ?_; rotate_left; (intro w'; go_simp; with_reducible rfl); rotate_left; (simp only [pq6]; rfl)
          refine one_ (i := 18) (N := some 9) #[Y6,Y6,Y6,Y6,Y6,Y6,Y6,Y6,Y6,Y6,Y6,Y6,Y6,Y6,Y6,Y6,Y6,Y6,Y6,N6] rfl rfl (one_of HT_.out (by kernel_rfl)) (by decide) (fun K hK => ?_)
          refine box_step ?hg (N := 9) ?hd (cs := #[.string (⟨#[]⟩ : ByteArray), .int .i64 0, .int .i64 0]) (t := 24) ?hr ?_; (case hd => rfl); (case hg => rfl); (case hr => first | (go_simp; done) | (go_simp; rfl))
          intro gb293 hg w22 hbox hb
          have n0_ := Aside0.mk (Kd.R_below (Kd.R_elderB (by exact rU HO_277003.out) gb293 (Nat.le_of_eq hg.symm)) hb)
          have n1_ := Aside0.mk (blk_below (g := gb276) (o := .cells #[.string (⟨#[]⟩ : ByteArray), .int .i64 0, .int .i64 0, u277003, .slice none 0 0, .slice none 0 0] 35 (0, 0)) (by (with_reducible repeat (first | refine blk_drewN ?_ _ | refine blk_drew ?_ | refine blk_alloc ?_ _)); exact BK276.out) hb)
          have n2_ := Aside0.mk (below_step (by exact wS HB.out GE276.out) hb)
          have n3_ := Aside0.mk (hbox)
          have n4_ := Aside0.mk ((by rw [hg]; exact (below_size (by exact wS HB.out GE276.out)) : w.heap.size ≤ gb293))
          have n5_ := Aside0.mk ((by rw [hg]; exact (below_size (by exact wS HB.out GE276.out)) : w.heap.size ≤ gb293))
          have n6_ := Aside0.mk ((by rw [hg]; exact Nat.ne_of_lt (blk_lt (g := gb276) (o := .cells #[.string (⟨#[]⟩ : ByteArray), .int .i64 0, .int .i64 0, u277003, .slice none 0 0, .slice none 0 0] 35 (0, 0)) (by (with_reducible repeat (first | refine blk_drewN ?_ _ | refine blk_drew ?_ | refine blk_alloc ?_ _)); exact BK276.out)) : gb276 ≠ gb293))
          have n7_ := Aside0.mk ((by rw [hg]; exact Nat.ne_of_gt (blk_lt (g := gb276) (o := .cells #[.string (⟨#[]⟩ : ByteArray), .int .i64 0, .int .i64 0, u277003, .slice none 0 0, .slice none 0 0] 35 (0, 0)) (by (with_reducible repeat (first | refine blk_drewN ?_ _ | refine blk_drew ?_ | refine blk_alloc ?_ _)); exact BK276.out)) : gb293 ≠ gb276))
          clear HO_277003 BK276 HB
          have HO_277003 := n0_
          have BK276 := n1_
          have HB := n2_
          have BK293 := n3_
          have GW293 := n4_
          have GE293 := n5_
          have NB276_293 := n6_
          have NB293_276 := n7_
          clear n0_ n1_ n2_ n3_ n4_ n5_ n6_ n7_ hb hbox hg
          refine hK.out _ _ ⟨((HB.out.cell (World.block_lt_of_cell? w _ hw289_0)).trans hw289_0), ((HB.out.cell (World.block_lt_of_cell? w _ hw291_0)).trans hw291_0)⟩ (fun hHeld => ?_)
          clear hK K
          refine norm_ (a' := ?_) ?_ ?_
          rotate_left
          · show Act.put _ (some 9) _ = _
            simp only [pq6]
            rfl
          exact nJ (hCont (gb293) _ ⟨hHeld, (by exact rU (Kd.R_mono HO_277003.out (fun _ hk => hk.2))), (by (with_reducible repeat (first | refine blk_drewN ?_ _ | refine blk_drew ?_ | refine blk_alloc ?_ _)); exact BK276.out), (by (with_reducible repeat (first | refine blk_drewN ?_ _ | refine blk_drew ?_ | refine blk_alloc ?_ _)); exact BK293.out), GW293.out, GE293.out, NB276_293.out, NB293_276.out, (by exact wZ HB.out GE276.out GE293.out)⟩)
        skip
        refine box_step ?hg (N := 9) ?hd (cs := #[.string (⟨#[]⟩ : ByteArray), .int .i64 0, .int .i64 0]) (t := 24) ?hr ?_; (case hd => rfl); (case hg => rfl); (case hr => first | (go_simp; done) | (go_simp; rfl))
        intro gb293 hg w22 hbox hb
        have n0_ := Aside0.mk (Kd.R_below (Kd.R_elderB (by exact rU HO_277003.out) gb293 (Nat.le_of_eq hg.symm)) hb)
        have n1_ := Aside0.mk (blk_below (g := gb276) (o := .cells #[.string (⟨#[]⟩ : ByteArray), .int .i64 0, .int .i64 0, u277003, .slice none 0 0, .slice none 0 0] 35 (0, 0)) (by (with_reducible repeat (first | refine blk_drewN ?_ _ | refine blk_drew ?_ | refine blk_alloc ?_ _)); exact BK276.out) hb)
        have n2_ := Aside0.mk (below_step (by exact wS HB.out GE276.out) hb)
        have n3_ := Aside0.mk (hbox)
        have n4_ := Aside0.mk ((by rw [hg]; exact (below_size (by exact wS HB.out GE276.out)) : w.heap.size ≤ gb293))
        have n5_ := Aside0.mk ((by rw [hg]; exact (below_size (by exact wS HB.out GE276.out)) : w.heap.size ≤ gb293))
        have n6_ := Aside0.mk ((by rw [hg]; exact Nat.ne_of_lt (blk_lt (g := gb276) (o := .cells #[.string (⟨#[]⟩ : ByteArray), .int .i64 0, .int .i64 0, u277003, .slice none 0 0, .slice none 0 0] 35 (0, 0)) (by (with_reducible repeat (first | refine blk_drewN ?_ _ | refine blk_drew ?_ | refine blk_alloc ?_ _)); exact BK276.out)) : gb276 ≠ gb293))
        have n7_ := Aside0.mk ((by rw [hg]; exact Nat.ne_of_gt (blk_lt (g := gb276) (o := .cells #[.string (⟨#[]⟩ : ByteArray), .int .i64 0, .int .i64 0, u277003, .slice none 0 0, .slice none 0 0] 35 (0, 0)) (by (with_reducible repeat (first | refine blk_drewN ?_ _ | refine blk_drew ?_ | refine blk_alloc ?_ _)); exact BK276.out)) : gb293 ≠ gb276))
        clear HO_277003 BK276 HB
        have HO_277003 := n0_
        have BK276 := n1_
        have HB := n2_
        have BK293 := n3_
        have GW293 := n4_
        have GE293 := n5_
        have NB276_293 := n6_
        have NB293_276 := n7_
        clear n0_ n1_ n2_ n3_ n4_ n5_ n6_ n7_ hb hbox hg
        refine hK.out _ _ ⟨((HB.out.cell (World.block_lt_of_cell? w _ hw289_0)).trans hw289_0), ((HB.out.cell (World.block_lt_of_cell? w _ hw291_0)).trans hw291_0)⟩ (fun hHeld => ?_)
        clear hK K
        refine norm_ (a' := ?_) ?_ ?_
        rotate_left
        · show Act.put _ (some 9) _ = _
          simp only [pq6]
          rfl
        refine one_ (i := 15) (N := some 42) #[Y6,Y6,Y6,Y6,Y6,Y6,Y6,Y6,Y6,Y6,Y6,Y6,Y6,Y6,Y6,Y6,N6,N6,Y6,N6] rfl rfl (one_of HT_.out (by kernel_rfl)) (by decide) (fun K hK => ?_)
        refine goes_ Tryd.func9 (by kernel_rfl) rfl #[.int .i64 (wrap64 (Int.tdiv (rd l0 x8_1) 2)), .int .i64 4] (by rfl) rfl rfl (by (try simp only [List.map_toArray, List.map_cons, List.map_nil]); first | done | rfl | (simp only [List.length_drop, List.length_take]; rfl)) ?_
        with_reducible refine (interlocutorlaw11_within.calls (wrap64 (Int.tdiv (rd l0 x8_1) 2)) 4 t292 _ A16.out).mono ?_
        rintro e w' ⟨rfl, ⟨nd, rfl⟩⟩
        refine ⟨_, rfl, ?_⟩
        refine hK.out _ _ ⟨((HB.out.cell (World.block_lt_of_cell? w _ hw289_0)).trans hw289_0), ((HB.out.cell (World.block_lt_of_cell? w _ hw291_0)).trans hw291_0)⟩ (fun hHeld => ?_)
        clear hK K
        refine norm_ (a' := ?_) ?_ ?_
        rotate_left
        · show Act.put _ (some 42) _ = _
          simp only [pq6]
          rfl
        refine pure_ (i := 16) (N := some 43) (v := ?_) (a' := ?_) #[Y6,Y6,Y6,Y6,Y6,Y6,Y6,Y6,Y6,Y6,Y6,Y6,Y6,Y6,Y6,Y6,Y6,N6,Y6,N6] rfl rfl (any_of HT_.out (by kernel_rfl)) (fun _ _ _ h => h) (Or.inl ⟨by rfl, ?_⟩) ?_ ?_; rotate_left; (intro w'; go_simp; with_reducible rfl); rotate_left; (simp only [pq6]; rfl)
        refine pure_ (i := 17) (N := some 44) (v := ?_) (a' := ?_) #[Y6,Y6,Y6,Y6,Y6,Y6,Y6,Y6,Y6,Y6,Y6,Y6,Y6,Y6,Y6,Y6,Y6,Y6,Y6,N6] rfl rfl (any_of HT_.out (by kernel_rfl)) (fun _ _ _ h => h) (Or.inl ⟨by rfl, ?_⟩) ?_ ?_; rotate_left; (intro w'; go_simp; with_reducible rfl); rotate_left; (simp only [pq6]; rfl)
        exact nJ (hCont (gb293) _ ⟨hHeld, (by exact rU (Kd.R_mono HO_277003.out (fun _ hk => hk.2))), (by (with_reducible repeat (first | refine blk_drewN ?_ _ | refine blk_drew ?_ | refine blk_alloc ?_ _)); exact BK276.out), (by (with_reducible repeat (first | refine blk_drewN ?_ _ | refine blk_drew ?_ | refine blk_alloc ?_ _)); exact BK293.out), GW293.out, GE293.out, NB276_293.out, NB293_276.out, (by exact wZ HB.out GE276.out GE293.out)⟩)
      rintro gb293 w23 ⟨hS_, h0_, h1_, h2_, h3_, h4_, h5_, h6_, h7_⟩
      have n0_ : Aside0 (Kd.R k24 24 w23 w.heap.size (fun k_ => k_ ≠ gb293) u277003 x277003_1) := ⟨h0_⟩
      have n1_ : Aside0 (w23.heap[gb276]? = some (.cells #[.string (⟨#[]⟩ : ByteArray), .int .i64 0, .int .i64 0, u277003, .slice none 0 0, .slice none 0 0] 35 (0, 0))) := ⟨h1_⟩
      have n2_ : Aside0 (w23.heap[gb293]? = some (.cells #[.string (⟨#[]⟩ : ByteArray), .int .i64 0, .int .i64 0] 24 (0, 0))) := ⟨h2_⟩
      have n3_ : Aside0 (w.heap.size ≤ gb293) := ⟨h3_⟩
      have n4_ : Aside0 (w.heap.size ≤ gb293) := ⟨h4_⟩
      have n5_ : Aside0 (gb276 ≠ gb293) := ⟨h5_⟩
      have n6_ : Aside0 (gb293 ≠ gb276) := ⟨h6_⟩
      have n7_ : Aside0 (Below w.heap.size w w23) := ⟨h7_⟩
      clear HO_277003 BK276 HB h0_ h1_ h2_ h3_ h4_ h5_ h6_ h7_
      have HO_277003 := n0_
      have BK276 := n1_
      have BK293 := n2_
      have GW293 := n3_
      have GE293 := n4_
      have NB276_293 := n5_
      have NB293_276 := n6_
      have HB := n7_
      clear n0_ n1_ n2_ n3_ n4_ n5_ n6_ n7_
      have hHeld : w23.cell? (ad289.add (x8_1).toNat) = some (.int .i64 (rd l0 x8_1)) ∧ w23.cell? (ad289.add (x8_1).toNat) = some (.int .i64 (rd l0 x8_1)) := hS_
      refine norm_ (a' := ?_) ?_ ?_
      rotate_left
      · simp only [putAll, Act.put, List.setIfInBounds_toArray, List.set_cons_zero, List.set_cons_succ]
        rfl
      refine one_ (i := 19) (N := none) #[Y6,Y6,Y6,Y6,Y6,Y6,Y6,Y6,Y6,Y6,Y6,Y6,Y6,Y6,Y6,Y6,Y6,Y6,Y6,Y6] rfl rfl (one_of HT_.out (by kernel_rfl)) (by decide) (fun K hK => ?_)
      have hs24 : w23.cell? ⟨gb293, 0, none⟩ = some (.string (⟨#[]⟩ : ByteArray)) := (blk_cell BK293.out 0).trans rfl
      have hfs24 := blk_frozen BK293.out 0
      have hns24_0 := NB276_293.out
      have hms24_0 := NB293_276.out
      have hs25 : w23.cell? ⟨gb293, 1, none⟩ = some (.int .i64 0) := (blk_cell BK293.out 1).trans rfl
      have hfs25 := blk_frozen BK293.out 1
      have hns25_0 := NB276_293.out
      have hms25_0 := NB293_276.out
      have hs26 : w23.cell? ⟨gb293, 2, none⟩ = some (.int .i64 0) := (blk_cell BK293.out 2).trans rfl
      have hfs26 := blk_frozen BK293.out 2
      have hns26_0 := NB276_293.out
      have hms26_0 := NB293_276.out
      refine skip_ (w1 := ?_) (by rfl) rfl ?_ ?_
      rotate_left
      · go_simp
        rfl
      refine hK.out _ _ ⟨((cell_far (p := ⟨gb293, _, none⟩) (by first | exact Nat.ne_of_lt (Nat.lt_of_lt_of_le (by have := World.block_lt_of_cell? _ _ hw289_0; first | rwa [add_block] at this | exact this) GW293.out) | (rw [add_block]; exact Nat.ne_of_lt (Nat.lt_of_lt_of_le (by have := World.block_lt_of_cell? _ _ hw289_0; first | rwa [add_block] at this | exact this) GW293.out)) | (show (Addr.add _ _).block ≠ _; rw [add_block]; exact Nat.ne_of_lt (Nat.lt_of_lt_of_le (by have := World.block_lt_of_cell? _ _ hw289_0; first | rwa [add_block] at this | exact this) GW293.out)) | (dsimp only; exact Nat.ne_of_lt (Nat.lt_of_lt_of_le (by have := World.block_lt_of_cell? _ _ hw289_0; first | rwa [add_block] at this | exact this) GW293.out))) _).trans (((cell_far (p := ⟨gb293, _, none⟩) (by first | exact Nat.ne_of_lt (Nat.lt_of_lt_of_le (by have := World.block_lt_of_cell? _ _ hw289_0; first | rwa [add_block] at this | exact this) GW293.out) | (rw [add_block]; exact Nat.ne_of_lt (Nat.lt_of_lt_of_le (by have := World.block_lt_of_cell? _ _ hw289_0; first | rwa [add_block] at this | exact this) GW293.out)) | (show (Addr.add _ _).block ≠ _; rw [add_block]; exact Nat.ne_of_lt (Nat.lt_of_lt_of_le (by have := World.block_lt_of_cell? _ _ hw289_0; first | rwa [add_block] at this | exact this) GW293.out)) | (dsimp only; exact Nat.ne_of_lt (Nat.lt_of_lt_of_le (by have := World.block_lt_of_cell? _ _ hw289_0; first | rwa [add_block] at this | exact this) GW293.out))) _).trans (((cell_far (p := ⟨gb293, _, none⟩) (by first | exact Nat.ne_of_lt (Nat.lt_of_lt_of_le (by have := World.block_lt_of_cell? _ _ hw289_0; first | rwa [add_block] at this | exact this) GW293.out) | (rw [add_block]; exact Nat.ne_of_lt (Nat.lt_of_lt_of_le (by have := World.block_lt_of_cell? _ _ hw289_0; first | rwa [add_block] at this | exact this) GW293.out)) | (show (Addr.add _ _).block ≠ _; rw [add_block]; exact Nat.ne_of_lt (Nat.lt_of_lt_of_le (by have := World.block_lt_of_cell? _ _ hw289_0; first | rwa [add_block] at this | exact this) GW293.out)) | (dsimp only; exact Nat.ne_of_lt (Nat.lt_of_lt_of_le (by have := World.block_lt_of_cell? _ _ hw289_0; first | rwa [add_block] at this | exact this) GW293.out))) _).trans (hHeld.1)))))), ((cell_far (p := ⟨gb293, _, none⟩) (by first | exact Nat.ne_of_lt (Nat.lt_of_lt_of_le (by have := World.block_lt_of_cell? _ _ hw291_0; first | rwa [add_block] at this | exact this) GW293.out) | (rw [add_block]; exact Nat.ne_of_lt (Nat.lt_of_lt_of_le (by have := World.block_lt_of_cell? _ _ hw291_0; first | rwa [add_block] at this | exact this) GW293.out)) | (show (Addr.add _ _).block ≠ _; rw [add_block]; exact Nat.ne_of_lt (Nat.lt_of_lt_of_le (by have := World.block_lt_of_cell? _ _ hw291_0; first | rwa [add_block] at this | exact this) GW293.out)) | (dsimp only; exact Nat.ne_of_lt (Nat.lt_of_lt_of_le (by have := World.block_lt_of_cell? _ _ hw291_0; first | rwa [add_block] at this | exact this) GW293.out))) _).trans (((cell_far (p := ⟨gb293, _, none⟩) (by first | exact Nat.ne_of_lt (Nat.lt_of_lt_of_le (by have := World.block_lt_of_cell? _ _ hw291_0; first | rwa [add_block] at this | exact this) GW293.out) | (rw [add_block]; exact Nat.ne_of_lt (Nat.lt_of_lt_of_le (by have := World.block_lt_of_cell? _ _ hw291_0; first | rwa [add_block] at this | exact this) GW293.out)) | (show (Addr.add _ _).block ≠ _; rw [add_block]; exact Nat.ne_of_lt (Nat.lt_of_lt_of_le (by have := World.block_lt_of_cell? _ _ hw291_0; first | rwa [add_block] at this | exact this) GW293.out)) | (dsimp only; exact Nat.ne_of_lt (Nat.lt_of_lt_of_le (by have := World.block_lt_of_cell? _ _ hw291_0; first | rwa [add_block] at this | exact this) GW293.out))) _).trans (((cell_far (p := ⟨gb293, _, none⟩) (by first | exact Nat.ne_of_lt (Nat.lt_of_lt_of_le (by have := World.block_lt_of_cell? _ _ hw291_0; first | rwa [add_block] at this | exact this) GW293.out) | (rw [add_block]; exact Nat.ne_of_lt (Nat.lt_of_lt_of_le (by have := World.block_lt_of_cell? _ _ hw291_0; first | rwa [add_block] at this | exact this) GW293.out)) | (show (Addr.add _ _).block ≠ _; rw [add_block]; exact Nat.ne_of_lt (Nat.lt_of_lt_of_le (by have := World.block_lt_of_cell? _ _ hw291_0; first | rwa [add_block] at this | exact this) GW293.out)) | (dsimp only; exact Nat.ne_of_lt (Nat.lt_of_lt_of_le (by have := World.block_lt_of_cell? _ _ hw291_0; first | rwa [add_block] at this | exact this) GW293.out))) _).trans (hHeld.2))))))⟩ (fun hHeld => ?_)
      clear hK K
      refine done_ (done_of HT_.out (by kernel_rfl)) ?_
      have hnb27 := NB276_293.out
      have hnc27 := NB293_276.out
      have hcz28_0 : w23.cell? ⟨gb276, 0, none⟩ = some (.string (⟨#[]⟩ : ByteArray)) := (blk_cell BK276.out 0).trans rfl
      have hcz28_1 : w23.cell? ⟨gb276, 1, none⟩ = some (.int .i64 0) := (blk_cell BK276.out 1).trans rfl
      have hcz28_2 : w23.cell? ⟨gb276, 2, none⟩ = some (.int .i64 0) := (blk_cell BK276.out 2).trans rfl
      have hcz28_3 : w23.cell? ⟨gb276, 3, none⟩ = some (u277003) := (blk_cell BK276.out 3).trans rfl
      have hcz28_4 : w23.cell? ⟨gb276, 4, none⟩ = some (.slice none 0 0) := (blk_cell BK276.out 4).trans rfl
      have hcz28_5 : w23.cell? ⟨gb276, 5, none⟩ = some (.slice none 0 0) := (blk_cell BK276.out 5).trans rfl
      have hfz28_0 := blk_frozen BK276.out 0
      have hfz28_1 := blk_frozen BK276.out 1
      have hfz28_2 := blk_frozen BK276.out 2
      have hfz28_3 := blk_frozen BK276.out 3
      have hfz28_4 := blk_frozen BK276.out 4
      have hfz28_5 := blk_frozen BK276.out 5
      have hcz29_0 : w23.cell? ⟨gb293, 0, none⟩ = some (.string (⟨#[]⟩ : ByteArray)) := (blk_cell BK293.out 0).trans rfl
      have hcz29_1 : w23.cell? ⟨gb293, 1, none⟩ = some (.int .i64 0) := (blk_cell BK293.out 1).trans rfl
      have hcz29_2 : w23.cell? ⟨gb293, 2, none⟩ = some (.int .i64 0) := (blk_cell BK293.out 2).trans rfl
      have hfz29_0 := blk_frozen BK293.out 0
      have hfz29_1 := blk_frozen BK293.out 1
      have hfz29_2 := blk_frozen BK293.out 2
      try go_wp2_with (first | ((with_reducible refine gate_builtin (b := .append) (xs := #[.tmp 46, .tmp 48]) rfl ?_); at_builtin; refine Kd.R_append k24 (w0 := w) w.heap.size rfl (.tmp 46) (.tmp 48) 25 24 (.agg #[(.string ⟨#[]⟩), (.int .i64 0), (.int .i64 0)]) 32 rfl Tryd.underlying25 info24 rfl (by decide) (by omega) u277003 x277003_1 (⟨(⟨#[97, 98, 99, 100, 101, 102, 103, 104, 105, 106, 107, 108, 109, 110, 111]⟩ : ByteArray).extract (x8_1 : Int).toNat ((wrap64 (x8_1 + 1)) : Int).toNat, wrap64 (1 + t290), wrap64 (1 + t292)⟩ : S24) [.string ((⟨#[97, 98, 99, 100, 101, 102, 103, 104, 105, 106, 107, 108, 109, 110, 111]⟩ : ByteArray).extract (x8_1 : Int).toNat ((wrap64 (x8_1 + 1)) : Int).toNat), .int .i64 (wrap64 (1 + t290)), .int .i64 (wrap64 (1 + t292))] (fun k_ => k_ ≠ gb293) (fun _ => False) rfl (by first | (go_simp; done) | (go_simp; rfl)) ?aP (fun _ hk => hk.elim) ?aF ?aO ?aB ?aS ?aL ?_; (case aP => exact k24_mkM _ _ _ (⟨(⟨#[97, 98, 99, 100, 101, 102, 103, 104, 105, 106, 107, 108, 109, 110, 111]⟩ : ByteArray).extract (x8_1 : Int).toNat ((wrap64 (x8_1 + 1)) : Int).toNat, wrap64 (1 + t290), wrap64 (1 + t292)⟩ : S24)); (case aB => exact (by exact wZ HB.out GE276.out GE293.out)); (case aF => exact (fun k_ hk => Kd.freshB (g := gb293) (o := .cells #[.string ((⟨#[97, 98, 99, 100, 101, 102, 103, 104, 105, 106, 107, 108, 109, 110, 111]⟩ : ByteArray).extract (x8_1 : Int).toNat ((wrap64 (x8_1 + 1)) : Int).toNat), .int .i64 (wrap64 (1 + t290)), .int .i64 (wrap64 (1 + t292))] 24 (0, 0)) (by (with_reducible repeat (first | refine blk_drewN ?_ _ | refine blk_drew ?_ | refine blk_alloc ?_ _)); refine blk_put (cs := #[.string ((⟨#[97, 98, 99, 100, 101, 102, 103, 104, 105, 106, 107, 108, 109, 110, 111]⟩ : ByteArray).extract (x8_1 : Int).toNat ((wrap64 (x8_1 + 1)) : Int).toNat), .int .i64 (wrap64 (1 + t290)), .int .i64 0]) ?_ 2 _ rfl; (with_reducible repeat (first | refine blk_drewN ?_ _ | refine blk_drew ?_ | refine blk_alloc ?_ _)); refine blk_put (cs := #[.string ((⟨#[97, 98, 99, 100, 101, 102, 103, 104, 105, 106, 107, 108, 109, 110, 111]⟩ : ByteArray).extract (x8_1 : Int).toNat ((wrap64 (x8_1 + 1)) : Int).toNat), .int .i64 0, .int .i64 0]) ?_ 1 _ rfl; (with_reducible repeat (first | refine blk_drewN ?_ _ | refine blk_drew ?_ | refine blk_alloc ?_ _)); refine blk_put (cs := #[.string (⟨#[]⟩ : ByteArray), .int .i64 0, .int .i64 0]) ?_ 0 _ rfl; (with_reducible repeat (first | refine blk_drewN ?_ _ | refine blk_drew ?_ | refine blk_alloc ?_ _)); exact BK293.out) k_ hk)); (case aO => exact (by exact rU (Kd.R_mono (Kd.R_far (p := ⟨gb293, 2, none⟩) (Kd.R_far (p := ⟨gb293, 1, none⟩) (Kd.R_far (p := ⟨gb293, 0, none⟩) (Kd.R_mono HO_277003.out (fun k_ hk => (⟨hk, hk⟩ : _ ∧ k_ ≠ gb293))) (fun _ hk => hk.2) (.string ((⟨#[97, 98, 99, 100, 101, 102, 103, 104, 105, 106, 107, 108, 109, 110, 111]⟩ : ByteArray).extract (x8_1 : Int).toNat ((wrap64 (x8_1 + 1)) : Int).toNat))) (fun _ hk => hk.2) (.int .i64 (wrap64 (1 + t290)))) (fun _ hk => hk.2) (.int .i64 (wrap64 (1 + t292)))) (fun _ hk => hk.1)))); (case aS => exact (below_size (by exact wZ HB.out GE276.out GE293.out))); (case aL => have := LMc17.out; omega); intro v295 w30 ho hb hg hat; rw [← Ny294.out] at ho; have n0_ := Aside0.mk (blk_grown (g := gb276) (o := .cells #[.string (⟨#[]⟩ : ByteArray), .int .i64 0, .int .i64 0, u277003, .slice none 0 0, .slice none 0 0] 35 (0, 0)) (by (with_reducible repeat (first | refine blk_drewN ?_ _ | refine blk_drew ?_ | refine blk_alloc ?_ _)); refine blk_far ?_ NB276_293.out _; (with_reducible repeat (first | refine blk_drewN ?_ _ | refine blk_drew ?_ | refine blk_alloc ?_ _)); refine blk_far ?_ NB276_293.out _; (with_reducible repeat (first | refine blk_drewN ?_ _ | refine blk_drew ?_ | refine blk_alloc ?_ _)); refine blk_far ?_ NB276_293.out _; (with_reducible repeat (first | refine blk_drewN ?_ _ | refine blk_drew ?_ | refine blk_alloc ?_ _)); exact BK276.out) hg (Kd.R_ne HO_277003.out BK276.out (by decide))); have n1_ := Aside0.mk (blk_grown (g := gb293) (o := .cells #[.string ((⟨#[97, 98, 99, 100, 101, 102, 103, 104, 105, 106, 107, 108, 109, 110, 111]⟩ : ByteArray).extract (x8_1 : Int).toNat ((wrap64 (x8_1 + 1)) : Int).toNat), .int .i64 (wrap64 (1 + t290)), .int .i64 (wrap64 (1 + t292))] 24 (0, 0)) (by (with_reducible repeat (first | refine blk_drewN ?_ _ | refine blk_drew ?_ | refine blk_alloc ?_ _)); refine blk_put (cs := #[.string ((⟨#[97, 98, 99, 100, 101, 102, 103, 104, 105, 106, 107, 108, 109, 110, 111]⟩ : ByteArray).extract (x8_1 : Int).toNat ((wrap64 (x8_1 + 1)) : Int).toNat), .int .i64 (wrap64 (1 + t290)), .int .i64 0]) ?_ 2 _ rfl; (with_reducible repeat (first | refine blk_drewN ?_ _ | refine blk_drew ?_ | refine blk_alloc ?_ _)); refine blk_put (cs := #[.string ((⟨#[97, 98, 99, 100, 101, 102, 103, 104, 105, 106, 107, 108, 109, 110, 111]⟩ : ByteArray).extract (x8_1 : Int).toNat ((wrap64 (x8_1 + 1)) : Int).toNat), .int .i64 0, .int .i64 0]) ?_ 1 _ rfl; (with_reducible repeat (first | refine blk_drewN ?_ _ | refine blk_drew ?_ | refine blk_alloc ?_ _)); refine blk_put (cs := #[.string (⟨#[]⟩ : ByteArray), .int .i64 0, .int .i64 0]) ?_ 0 _ rfl; (with_reducible repeat (first | refine blk_drewN ?_ _ | refine blk_drew ?_ | refine blk_alloc ?_ _)); exact BK293.out) hg (Kd.R_away HO_277003.out (fun _ hk => hk))); have n2_ := Aside0.mk (hb); have n3_ := Aside0.mk (ho); clear BK276; clear BK293; clear HB; clear HO_277003; have BK276 := n0_; have BK293 := n1_; have HB := n2_; have HO296 := n3_; clear n0_ n1_ n2_ n3_; clear ho hb hg hat; obtain ⟨Ao31, co31, eo31⟩ := Kd.R_slice HO296.out; subst eo31; have hcz32_0 : w30.cell? ⟨gb276, 0, none⟩ = some (.string (⟨#[]⟩ : ByteArray)) := (blk_cell BK276.out 0).trans rfl; have hcz32_1 : w30.cell? ⟨gb276, 1, none⟩ = some (.int .i64 0) := (blk_cell BK276.out 1).trans rfl; have hcz32_2 : w30.cell? ⟨gb276, 2, none⟩ = some (.int .i64 0) := (blk_cell BK276.out 2).trans rfl; have hcz32_3 : w30.cell? ⟨gb276, 3, none⟩ = some (u277003) := (blk_cell BK276.out 3).trans rfl; have hcz32_4 : w30.cell? ⟨gb276, 4, none⟩ = some (.slice none 0 0) := (blk_cell BK276.out 4).trans rfl; have hcz32_5 : w30.cell? ⟨gb276, 5, none⟩ = some (.slice none 0 0) := (blk_cell BK276.out 5).trans rfl; have hfz32_0 := blk_frozen BK276.out 0; have hfz32_1 := blk_frozen BK276.out 1; have hfz32_2 := blk_frozen BK276.out 2; have hfz32_3 := blk_frozen BK276.out 3; have hfz32_4 := blk_frozen BK276.out 4; have hfz32_5 := blk_frozen BK276.out 5; have hcz33_0 : w30.cell? ⟨gb293, 0, none⟩ = some (.string ((⟨#[97, 98, 99, 100, 101, 102, 103, 104, 105, 106, 107, 108, 109, 110, 111]⟩ : ByteArray).extract (x8_1 : Int).toNat ((wrap64 (x8_1 + 1)) : Int).toNat)) := (blk_cell BK293.out 0).trans rfl; have hcz33_1 : w30.cell? ⟨gb293, 1, none⟩ = some (.int .i64 (wrap64 (1 + t290))) := (blk_cell BK293.out 1).trans rfl; have hcz33_2 : w30.cell? ⟨gb293, 2, none⟩ = some (.int .i64 (wrap64 (1 + t292))) := (blk_cell BK293.out 2).trans rfl; have hfz33_0 := blk_frozen BK293.out 0; have hfz33_1 := blk_frozen BK293.out 1; have hfz33_2 := blk_frozen BK293.out 2))
      go_roundg kj7
      case measure => have := HK1.out; have := HJ7.out; omega
      case rel => exact ⟨((⟨#[97, 98, 99, 100, 101, 102, 103, 104, 105, 106, 107, 108, 109, 110, 111]⟩ : ByteArray).extract (x8_1 : Int).toNat ((wrap64 (x8_1 + 1)) : Int).toNat), (wrap64 (x8_1 + 1)), (y294), (.slice Ao31 y294.length co31), (by first | rfl | (simp; done) | (simp [*]; done)), (by first | rfl | (simp; done) | (simp [*]; done)), H', ⟨by have := HK1.out; have := HJ7.out; omega⟩, ⟨by exact rU (Kd.R_mono (Kd.R_far (p := ⟨gb276, 3, none⟩) (Kd.R_types HO296.out BK276.out (by decide)) (fun _ hk => hk.2) (.slice Ao31 y294.length co31)) (fun _ hk => trivial))⟩, ⟨by (with_reducible repeat (first | refine blk_drewN ?_ _ | refine blk_drew ?_ | refine blk_alloc ?_ _)); refine blk_put (cs := #[.string (⟨#[]⟩ : ByteArray), .int .i64 0, .int .i64 0, u277003, .slice none 0 0, .slice none 0 0]) ?_ 3 _ rfl; (with_reducible repeat (first | refine blk_drewN ?_ _ | refine blk_drew ?_ | refine blk_alloc ?_ _)); exact BK276.out⟩, ⟨by exact wZ HB.out GE276.out GE293.out⟩⟩
def interlocutorlaw11_RenderWords.Pure : Prop := ∀ (l0 : List Int) (a1 : Int), l0.length ≤ maxLen → l0.length * 8 ≤ 140737488351232 → (∀ x ∈ l0, (Lit.int .i64 x).wf = true) → (Lit.int .i64 a1).wf = true → ∃ k, interlocutorlaw11_RenderWords.f k l0 a1 = some true
theorem interlocutorlaw11_RenderWords.walk (P : interlocutorlaw11_RenderWords.Pure) (a0 : Option Addr) (len0 cap0 : Nat) (z0 : List Int) (a1 : Int) (w : World) (w0 : (a0 = none ∧ len0 = 0 ∧ cap0 = 0 ∧ z0 = []) ∨ ∃ x, a0 = some x ∧ len0 ≤ cap0 ∧ cap0 ≤ maxLen ∧ z0.length = cap0 ∧ (∀ i, i < z0.length → w.cell? (x.add i) = some (.int .i64 (z0.getD i 0))) ∧ ∀ n ∈ z0, (Lit.int .i64 n).wf = true) (y0 : len0 * 8 ≤ 140737488351232) (w1 : (Lit.int .i64 a1).wf = true) (hT_ : TabOK w) :
    Calls Tryd.prog 6 #[.slice a0 len0 cap0, .int .i64 a1] w fun e w' => e = .returned (.bool true) ∧ Below w.heap.size w w' := by
  obtain ⟨l0, rfl, hr0, hm0, hw0, hc0⟩ := ReadsInt.ofRowC w0
  obtain ⟨k, h⟩ := P l0 a1 hm0 y0 hw0 w1
  refine (interlocutorlaw11_RenderWords.calls k _ _ l0 a1 true w (Kd.C_of_reads (d := (0 : Int)) (h1 := fun _ => rfl) hr0) hc0 h hT_).mono ?_
  rintro e w' ⟨rfl, hd⟩
  exact ⟨rfl, hd⟩
end Go.Proofs.YtjijikgandkphaaDoor.G
