import Derived.Test.YtgbnfjhmobeloaaGx0
import Derived.Test.YtgbnfjhmobeloaaGx6
import Derived.Test.YtgbnfjhmobeloaaGx7
import Derived.Test.YtgbnfjhmobeloaaGx8
import Derived.Test.YtgbnfjhmobeloaaGx10
import Derived.Test.YtgbnfjhmobeloaaGx11
import Derived.Test.YtgbnfjhmobeloaaGx12
namespace Go.Proofs.Ytgbnfjhmobeloaa.G
open Go.RowKit Go.Proofs.YtgbnfjhmobeloaaW.PrintWords Go.Proofs.YtgbnfjhmobeloaaW.PrintLast Go.Proofs.YtgbnfjhmobeloaaW.PrintMore Go.Proofs.YtgbnfjhmobeloaaW.VWords
attribute [local go_sem] max2_int min2_int max_two min_two max_three min_three max_four min_four
set_option linter.unusedVariables false
set_option linter.unusedSimpArgs false
def wordTok (l : List Int) (i : Nat) (x : S71) : Option S47 := if hereF l i x.f0 = true then some ⟨0, ((i + x.f0.length : Nat) : Int), x.f1, x.f2, 0⟩ else none
def signsAt (l : List Int) (ws : List S71) (i : Nat) : List S47 := if i < l.length then (numTok l i).toList ++ (markTok l i).toList ++ ws.filterMap (wordTok l i) else []
structure Kp (n₀ : Nat) (W W' : World) : Prop where
 below : Below n₀ W W'
 size : W.heap.size ≤ W'.heap.size
 same : ∀ (k : Nat) (cells : Array Value) (t : TypeId) (fr : Nat × Nat), W.heap[k]? = some (.cells cells t fr) → t ≠ 39 → t ≠ 47 → W'.heap[k]? = some (.cells cells t fr)
theorem Kp.refl (n₀ : Nat) (W : World) : Kp n₀ W W := ⟨Below.refl _ _, Nat.le_refl _, fun _ _ _ _ h _ _ => h⟩
theorem Kp.trans {n₀ : Nat} {X Y Z : World} (h : Kp n₀ X Y) (k : Kp n₀ Y Z) : Kp n₀ X Z := ⟨h.below.trans k.below, Nat.le_trans h.size k.size, fun j c t fr hj h1 h2 => k.same j c t fr (h.same j c t fr hj h1 h2) h1 h2⟩
theorem kp_below {n₀ : Nat} {W W' : World} (h : Below W.heap.size W W') (hn : n₀ ≤ W.heap.size) : Kp n₀ W W' :=
 ⟨⟨h.os, h.tape, h.output, h.size, fun i hi => h.block i (Nat.lt_of_lt_of_le hi hn)⟩, h.size, fun k c t fr hk _ _ => (h.block k (Array.getElem?_eq_some_iff.1 hk).1).trans hk⟩
theorem kp_alloc {n₀ : Nat} {W : World} (hn : n₀ ≤ W.heap.size) (o : Obj) : Kp n₀ W (W.alloc o) := kp_below (below_alloc (Below.refl _ _) o) hn
structure ItOk (n₀ b1 b2 b3 : Nat) (A : Option Addr) (c i : Nat) (l : List Int) (Aw : Option Addr) (cw : Nat) (ws : List S71) (W : World) : Prop where
 size : n₀ ≤ W.heap.size
 at1 : W.heap[b1]? = some (.cells #[.int .i64 i] 3 (0, 0))
 at2 : W.heap[b2]? = some (.cells #[.slice A l.length c] 72 (0, 0))
 at3 : W.heap[b3]? = some (.cells #[.slice Aw ws.length cw] 69 (0, 0))
 row : Kd.F (Kd.int .i64) W (fun k => k < n₀) A l.length l
 words : Kd.R k71 71 W n₀ (fun _ => True) (.slice Aw ws.length cw) ws
theorem words_kp {n₀ : Nat} {W W' : World} {v : Value} {ws : List S71} (h : Kd.R k71 71 W n₀ (fun _ => True) v ws) (k : Kp n₀ W W') : Kd.R k71 71 W' n₀ (fun _ => True) v ws := by
 refine Kd.R_mono (Kd.R_step (Kd.R_bound h) (fun j hj _ => ?_)) (fun _ _ => trivial)
 obtain ⟨_, _, _, q, hq, cells, hc⟩ := hj
 have hq2 : q = 71 ∨ q = 3 := by
  have e : (71 :: k71.E) = [71, 3] := rfl
  rw [e] at hq
  simpa using hq
 rw [hc]
 exact k.same _ _ _ _ hc (by rcases hq2 with h_ | h_ <;> subst h_ <;> decide) (by rcases hq2 with h_ | h_ <;> subst h_ <;> decide)
theorem ItOk.kp {n₀ b1 b2 b3 c i cw : Nat} {A Aw : Option Addr} {l : List Int} {ws : List S71} {W W' : World} (h : ItOk n₀ b1 b2 b3 A c i l Aw cw ws W) (k : Kp n₀ W W') : ItOk n₀ b1 b2 b3 A c i l Aw cw ws W' := by
 exact ⟨Nat.le_trans h.size k.size, k.same _ _ _ _ h.at1 (by decide) (by decide), k.same _ _ _ _ h.at2 (by decide) (by decide), k.same _ _ _ _ h.at3 (by decide) (by decide), Kd.F_step h.row (fun j hj _ => k.below.block j hj), words_kp h.words k⟩
set_option maxHeartbeats 1000000 in
theorem at_walk (A : Option Addr) (c i n : Nat) (Aw : Option Addr) (cw nw : Nat) (w : World) :
  Calls Try.prog 37 #[.slice A n c, .int .i64 i, .slice Aw nw cw] w fun e w' => e = .returned (.func (.func 57) #[] #[.pointer (some ⟨w.heap.size + 1, 0, none⟩), .pointer (some ⟨w.heap.size, 0, none⟩), .pointer (some ⟨w.heap.size + 1 + 1, 0, none⟩)]) ∧
   w' = ((w.alloc (.cells #[.slice A n c] 72)).alloc (.cells #[.int .i64 i] 3)).alloc (.cells #[.slice Aw nw cw] 69) := by
 have hmf : ∀ (fn : Fn) (first cap : Array Value) (w : World), (Instr.makeFunc fn first cap).run Try.prog w = .ok (.func fn first cap) w := fun _ _ _ _ => rfl
 go_enter Try.func37, Try.ntmps37
 go_wp2
 go_ret
 exact ⟨rfl, rfl⟩
attribute [local go_sem] Oper.semAt_some
def firstQ (l : List Int) (i q : Nat) : List S47 := match q with
 | 0 => []
 | 1 => (numTok l i).toList
 | _ => (numTok l i).toList ++ (markTok l i).toList
theorem firstQ_len (l : List Int) (i q : Nat) : (firstQ l i q).length ≤ q := by
 have h1 : ∀ o : Option S47, o.toList.length ≤ 1 := fun o => by cases o <;> simp
 have a := h1 (numTok l i)
 have b := h1 (markTok l i)
 match q with
 | 0 => exact Nat.le_refl _
 | 1 => exact a
 | n + 2 => show ((numTok l i).toList ++ (markTok l i).toList).length ≤ _; rw [List.length_append]; omega
set_option maxHeartbeats 4000000 in
set_option maxRecDepth 100000 in
theorem at1_stops (n : Nat) (n₀ b1 b2 b3 : Nat) (A : Option Addr) (c i : Nat) (l : List Int) (Aw : Option Addr) (cw : Nat) (ws : List S71) (w : World) (hIt : ItOk n₀ b1 b2 b3 A c i l Aw cw ws w)
  (hc : l.length ≤ c) (hm : l.length ≤ 1000000000000) (hwm : ws.length ≤ 1000000000000) (hws : ∀ x ∈ ws, x.f0.length ≤ 1000000000000) :
  SeqStopsK Fence.wide n Try.prog 57 #[.pointer (some ⟨b1, 0, none⟩), .pointer (some ⟨b2, 0, none⟩), .pointer (some ⟨b3, 0, none⟩)] (fun x : S47 => #[encA x]) (Kp n₀) (fun ys => ys = signsAt l ws i) (fun _ => True) (ws.length + 2) w := by
 intro li J Jx W hW hJ hJx hY h0
 have HIT := Aside0.mk (hIt.kp (kp_below hW hIt.size))
 have HC := Aside0.mk hc
 have HM := Aside0.mk hm
 have HWM := Aside0.mk hwm
 have HWS := Aside0.mk hws
 have HJ := Aside0.mk hJ
 have HY := Aside0.mk hY
 have H0 := Aside0.mk h0
 clear hIt hc hm hwm hws hJ hJx hY h0 hW
 show CallsIn Fence.wide n Try.prog 57 #[.func (.yield li) #[] #[], .pointer (some ⟨b1, 0, none⟩), .pointer (some ⟨b2, 0, none⟩), .pointer (some ⟨b3, 0, none⟩)] W _
 have p1 : W.cell? ⟨b1, 0, none⟩ = some (.int .i64 i) := (blk_cell HIT.out.at1 0).trans rfl
 have p2 : W.cell? ⟨b2, 0, none⟩ = some (.slice A l.length c) := (blk_cell HIT.out.at2 0).trans rfl
 have hmf : ∀ (fn : Fn) (first cap : Array Value) (w : World), (Instr.makeFunc fn first cap).run Try.prog w = .ok (.func fn first cap) w := fun _ _ _ _ => rfl
 by_cases hi : i < l.length
 ·have hi0 : (i : Int) < (l.length : Int) := by omega
  have hi1 : ¬ (l.length : Int) ≤ (i : Int) := by omega
  refine callsIn_of_wp Try.func57 rfl trivial ?_ rfl
  simp only [Try.ntmps57, List.size_toArray, List.length_cons, List.length_nil, Nat.reduceAdd, Nat.reduceSub, Array.replicate_succ, Array.replicate_zero, List.push_toArray, List.append_toArray, List.nil_append, List.cons_append]
  gi_wp2
  have HA := Aside0.mk (blk_new W (.cells #[.func (.func 58) #[.slice A l.length c] #[], .func (.func 59) #[.slice A l.length c] #[]] 92))
  have HIT1 := Aside0.mk (HIT.out.kp (kp_alloc HIT.out.size (.cells #[.func (.func 58) #[.slice A l.length c] #[], .func (.func 59) #[.slice A l.length c] #[]] 92)))
  have H1 := Aside0.mk (HJ.out [] W _ none H0.out (World.grownBy_alloc W (.cells #[.func (.func 58) #[.slice A l.length c] #[], .func (.func 59) #[.slice A l.length c] #[]] 92) none) (fun r e => by cases e))
  clear H0 p1 p2 HIT
  generalize hba : W.heap.size = ba at HA ⊢
  rw [hba] at HJ
  clear hba
  generalize W.alloc _ = W1 at HA HIT1 H1 ⊢
  gi_loopg [21] 2 (fun kq v21 wr => ∃ q : Nat, v21 = .int .i64 q ∧ Aside0 (q + kq = 2) ∧ Aside0 (J (firstQ l i q) wr) ∧ Aside0 (ItOk n₀ b1 b2 b3 A c i l Aw cw ws wr) ∧ Aside0 (wr.heap[ba]? = some (.cells #[.func (.func 58) #[.slice A l.length c] #[], .func (.func 59) #[.slice A l.length c] #[]] 92 (0, 0))))
  case atStart => exact ⟨0, rfl, ⟨rfl⟩, H1, HIT1, HA⟩
  case round =>
   clear H1 HIT1 HA
   obtain ⟨q, rfl, HQ, HJ1, HIT, HA⟩ := hrel
   by_cases hq : q < 2
   ·cases gk with
    | zero => exact absurd HQ.out (by omega)
    | succ k1 =>
     have hq0 : (q : Int) < 2 := by omega
     have p1 : wr.cell? ⟨b1, 0, none⟩ = some (.int .i64 i) := (blk_cell HIT.out.at1 0).trans rfl
     obtain ⟨fq, ot, ef, p4, hfirst, hcall⟩ : ∃ (fq : FuncId) (ot : Option S47), (∀ args w, (callFunc fq args).run Try.prog w = .ok (.enter fq args) w) ∧ wr.cell? ⟨ba, q, none⟩ = some (.func (.func fq) #[.slice A l.length c] #[]) ∧ firstQ l i (q + 1) = firstQ l i q ++ ot.toList ∧
       ∀ W', ItOk n₀ b1 b2 b3 A c i l Aw cw ws W' → Calls Try.prog fq #[.slice A l.length c, .int .i64 i] W' fun e w' => ∃ x : S47, e = .returned (.tuple #[encA x, .bool ot.isSome]) ∧ (∀ t, ot = some t → x = t) ∧ Below W'.heap.size W' w' := by
      match q, hq with
      | 0, _ => exact ⟨58, numTok l i, enters_of Try.func58 (by kernel_rfl) rfl, (blk_cell HA.out 0).trans rfl, (List.nil_append _).symm, fun W' h => (number_walk A c i l W' (Kd.F_now h.row) HC.out hi HM.out).mono fun e w' ⟨he, hb⟩ => ⟨(numTok l i).getD z47, he, fun t ht => by rw [ht]; rfl, hb⟩⟩
      | 1, _ => exact ⟨59, markTok l i, enters_of Try.func59 (by kernel_rfl) rfl, (blk_cell HA.out 1).trans rfl, rfl, fun W' h => mark_walk A c i l W' (Kd.F_now h.row) hi HM.out⟩
     have HFQ := Aside0.mk hfirst
     have HCALL := Aside0.mk hcall
     have HW := Aside0.mk (show wrap64 ((q : Int) + 1) = ((q + 1 : Nat) : Int) by unfold wrap64; omega)
     clear hfirst hcall
     cases ot with
     | none =>
      gi_wp2_with (refine ⟨trivial, fun h_ => (by cases h_), ?_⟩; gi_at_fn fq; refine (callsIn_wide.2 (HCALL.out _ HIT.out)).mono ?_; rintro e w1 ⟨x, rfl, -, hb⟩; have HB1 := Aside0.mk hb; clear hb; unfold encA)
      refine ⟨fun _ h => (by cases h), ?_⟩
      gi_wp2
      gi_roundg k1
      case measure => omega
      case rel =>
       have hb2 := below_alloc HB1.out (.cells #[.int .i64 x.f0, .int .i64 x.f1, .int .i64 x.f2, .int .i64 x.f3, .int .i64 x.f4] 47)
       exact ⟨q + 1, by first | rw [HW.out] | rfl, ⟨by have := HQ.out; omega⟩, ⟨by rw [HFQ.out, Option.toList_none, List.append_nil]; exact HJ.out _ _ _ none HJ1.out (grown_of_below hb2 none) (fun r e => by cases e)⟩, ⟨HIT.out.kp (kp_below hb2 HIT.out.size)⟩, ⟨blk_below HA.out hb2⟩⟩
     | some t =>
      have HCS := Aside0.mk (show ∀ W', ItOk n₀ b1 b2 b3 A c i l Aw cw ws W' → Calls Try.prog fq #[.slice A l.length c, .int .i64 i] W' fun e w' => e = .returned (.tuple #[.agg #[.int .i64 t.f0, .int .i64 t.f1, .int .i64 t.f2, .int .i64 t.f3, .int .i64 t.f4], .bool true]) ∧ Below W'.heap.size W' w' from
       fun W' h => (HCALL.out W' h).mono fun e w' ⟨x, he, hx, hb⟩ => ⟨by rw [he, hx t rfl]; rfl, hb⟩)
      clear HCALL
      have HYT := Aside0.mk (fun (w1 : World) (hb : Below wr.heap.size wr w1) => HY.out (firstQ l i q) t (w1.alloc (.cells #[.int .i64 t.f0, .int .i64 t.f1, .int .i64 t.f2, .int .i64 t.f3, .int .i64 t.f4] 47)) (HJ.out _ _ _ none HJ1.out (grown_of_below (below_alloc hb _) none) (fun r e => by cases e)) (by have := firstQ_len l i q; omega))
      gi_wp2_with (refine ⟨trivial, fun h_ => (by cases h_), ?_⟩; gi_at_fn fq; refine (callsIn_wide.2 (HCS.out _ HIT.out)).mono ?_; rintro e w1 ⟨rfl, hb⟩; obtain ⟨fn, tm, asg, body, hy, hR⟩ := HYT.out w1 hb; have HB2 := Aside0.mk (below_alloc hb (.cells #[.int .i64 t.f0, .int .i64 t.f1, .int .i64 t.f2, .int .i64 t.f3, .int .i64 t.f4] 47)); clear hb; unfold encA at hy)
      refine ⟨fun h_ => (by cases h_), hR.mono ?_⟩
      rintro e W3 (⟨rfl, hJ3, hk3⟩ | ⟨rfl, hJx3⟩)
      ·have HJ3 := Aside0.mk hJ3
       have HK3 := Aside0.mk hk3
       clear hJ3 hk3 hy hR
       gi_wp2
       gi_roundg k1
       case measure => omega
       case rel =>
        exact ⟨q + 1, by first | rw [HW.out] | rfl, ⟨by have := HQ.out; omega⟩, ⟨by rw [HFQ.out]; exact HJ3.out⟩, ⟨(HIT.out.kp (kp_below HB2.out HIT.out.size)).kp HK3.out⟩, ⟨HK3.out.same _ _ _ _ (blk_below HA.out HB2.out) (by decide) (by decide)⟩⟩
      ·have HJX := Aside0.mk hJx3
       clear hJx3 hy hR
       gi_wp2
       (try simp only [Exit.inBlock, Exit.then]); refine bodyPost_ret (results_none rfl _ _ _) rfl ?_
       exact ⟨⟨_, rfl⟩, .inr ⟨_, trivial, HJX.out⟩⟩
   ·have hq2 : q = 2 := by have := HQ.out; omega
    subst hq2
    have p3 : wr.cell? ⟨b3, 0, none⟩ = some (.slice Aw ws.length cw) := (blk_cell HIT.out.at3 0).trans rfl
    gi_wp2
    clear p3 HA HQ
    have HE := Aside0.mk (show signsAt l ws i = firstQ l i 2 ++ ws.filterMap (wordTok l i) by unfold signsAt; rw [if_pos hi]; rfl)
    gi_loopg [41] ws.length (fun kq v41 wr => ∃ j : Nat, v41 = .int .i64 j ∧ Aside0 (j + kq = ws.length) ∧ Aside0 (J (firstQ l i 2 ++ (ws.take j).filterMap (wordTok l i)) wr) ∧ Aside0 (ItOk n₀ b1 b2 b3 A c i l Aw cw ws wr))
    case atStart => exact ⟨0, rfl, ⟨by simp⟩, ⟨by rw [List.take_zero, List.filterMap_nil, List.append_nil]; exact HJ1.out⟩, HIT⟩
    case round =>
     clear HJ1 HIT
     obtain ⟨j, rfl, HI, HJ1, HIT⟩ := hrel
     by_cases hj : j < ws.length
     ·cases gk with
      | zero => exact absurd HI.out (by omega)
      | succ k1 =>
       have hj0 : (j : Int) < (ws.length : Int) := by omega
       obtain ⟨ad, A0, c0, e0, a0, a1, a2, hc0, hC0⟩ := at_T71 (Kd.R_reads' HIT.out.words).2.2 (j : Int) (by omega) hj0
       subst e0
       rw [Int.toNat_natCast] at a0 a1 a2
       have hrd : rd_T71 ws (j : Int) = ws[j] := by
        unfold rd_T71
        rw [Int.toNat_natCast, List.getD_eq_getElem?_getD, List.getElem?_eq_getElem hj]
        rfl
       obtain ⟨x, hx⟩ : ∃ x, x = ws[j] := ⟨_, rfl⟩
       rw [hrd, ← hx] at a0 a1 a2 hc0 hC0
       have HX := Aside0.mk hx
       have HXL := Aside0.mk (show x.f0.length ≤ 1000000000000 by rw [hx]; exact HWS.out _ (List.getElem_mem hj))
       have HC0 := Aside0.mk hC0
       have HCC0 := Aside0.mk hc0
       have HTK := Aside0.mk (show (ws.take (j + 1)).filterMap (wordTok l i) = (ws.take j).filterMap (wordTok l i) ++ (wordTok l i x).toList by rw [List.take_add_one, List.getElem?_eq_getElem hj, ← hx, Option.toList_some, List.filterMap_append]; cases h : wordTok l i x <;> simp [h])
       clear hrd hx hC0 hc0
       have p1 : (wr.alloc (.cells #[.slice A0 x.f0.length c0, .int .i64 x.f1, .int .i64 x.f2] 71)).cell? ⟨b1, 0, none⟩ = some (.int .i64 i) := (blk_cell (blk_below HIT.out.at1 (below_alloc (Below.refl _ _) _)) 0).trans rfl
       have p2 : (wr.alloc (.cells #[.slice A0 x.f0.length c0, .int .i64 x.f1, .int .i64 x.f2] 71)).cell? ⟨b2, 0, none⟩ = some (.slice A l.length c) := (blk_cell (blk_below HIT.out.at2 (below_alloc (Below.refl _ _) _)) 0).trans rfl
       have HW := Aside0.mk (show wrap64 ((j : Int) + 1) = ((j + 1 : Nat) : Int) by have := HWM.out; unfold wrap64; omega)
       have HP := Aside0.mk (show (firstQ l i 2 ++ (ws.take j).filterMap (wordTok l i)).length < ws.length + 2 by have h1 := firstQ_len l i 2; have h2 := List.length_filterMap_le (wordTok l i) (ws.take j); rw [List.length_take] at h2; rw [List.length_append]; omega)
       cases hh : hereF l i x.f0 with
       | false =>
        have HN := Aside0.mk (show wordTok l i x = none by unfold wordTok; rw [hh]; rfl)
        gi_wp2_with (refine ⟨trivial, fun h_ => (by cases h_), ?_⟩; gi_at_call 60; refine (callsIn_wide.2 (here_walk A c i l A0 c0 x.f0 _ (Kd.C_alloc (Kd.F_now HIT.out.row) _) HC.out hi HM.out (Kd.C_alloc HC0.out _) HCC0.out HXL.out)).mono ?_; rw [hh]; rintro e w1 ⟨rfl, ⟨nd, rfl⟩⟩)
        refine ⟨fun _ h => (by cases h), ?_⟩
        gi_wp2
        gi_roundg k1
        case measure => omega
        case rel =>
         have hb2 := pw_below_drewN (below_alloc (Below.refl wr.heap.size wr) (.cells #[.slice A0 x.f0.length c0, .int .i64 x.f1, .int .i64 x.f2] 71)) nd
         exact ⟨j + 1, by rw [HW.out], ⟨by have := HI.out; omega⟩, ⟨by rw [HTK.out, HN.out, Option.toList_none, List.append_nil]; exact HJ.out _ _ _ none HJ1.out (grown_of_below hb2 none) (fun r e => by cases e)⟩, ⟨HIT.out.kp (kp_below hb2 HIT.out.size)⟩⟩
       | true =>
        have hlt : 0 < x.f0.length ∧ x.f0.length ≤ l.length - i := by
         unfold hereF at hh
         simp only [Bool.and_eq_true, decide_eq_true_eq] at hh
         exact ⟨hh.1, hh.2.1⟩
        have hwr : IntKind.i64.wrap ((i : Int) + (x.f0.length : Int)) = (i : Int) + (x.f0.length : Int) := by have := HM.out; rw [IntKind.wrap_i64]; omega
        have hwr2 : wrap64 ((i : Int) + (x.f0.length : Int)) = (i : Int) + (x.f0.length : Int) := (i64_w _).symm.trans hwr
        have HN := Aside0.mk (show wordTok l i x = some ⟨0, (i : Int) + (x.f0.length : Int), x.f1, x.f2, 0⟩ by unfold wordTok; rw [hh]; rfl)
        have HYT := Aside0.mk (fun (nd : Nat) => HY.out (firstQ l i 2 ++ (ws.take j).filterMap (wordTok l i)) ⟨0, (i : Int) + (x.f0.length : Int), x.f1, x.f2, 0⟩ ((wr.alloc (.cells #[.slice A0 x.f0.length c0, .int .i64 x.f1, .int .i64 x.f2] 71)).drewN nd) (HJ.out _ _ _ none HJ1.out (grown_of_below (pw_below_drewN (below_alloc (Below.refl _ _) _) nd) none) (fun r e => by cases e)) HP.out)
        clear hlt
        gi_wp2_with (refine ⟨trivial, fun h_ => (by cases h_), ?_⟩; gi_at_call 60; refine (callsIn_wide.2 (here_walk A c i l A0 c0 x.f0 _ (Kd.C_alloc (Kd.F_now HIT.out.row) _) HC.out hi HM.out (Kd.C_alloc HC0.out _) HCC0.out HXL.out)).mono ?_; rw [hh]; rintro e w1 ⟨rfl, ⟨nd, rfl⟩⟩; obtain ⟨fn, tm, asg, body, hy, hR⟩ := HYT.out nd; unfold encA at hy; dsimp only at hy)
        refine ⟨fun h_ => (by cases h_), hR.mono ?_⟩
        rintro e W3 (⟨rfl, hJ3, hk3⟩ | ⟨rfl, hJx3⟩)
        ·have HJ3 := Aside0.mk hJ3
         have HK3 := Aside0.mk hk3
         clear hJ3 hk3 hy hR
         gi_wp2
         gi_roundg k1
         case measure => omega
         case rel =>
          exact ⟨j + 1, by rw [HW.out], ⟨by have := HI.out; omega⟩, ⟨by rw [HTK.out, HN.out, Option.toList_some, ← List.append_assoc]; exact HJ3.out⟩, ⟨(HIT.out.kp (kp_below (pw_below_drewN (below_alloc (Below.refl wr.heap.size wr) _) nd) HIT.out.size)).kp HK3.out⟩⟩
        ·have HJX := Aside0.mk hJx3
         clear hJx3 hy hR
         gi_wp2
         (try simp only [Exit.inBlock, Exit.then]); refine bodyPost_ret (results_none rfl _ _ _) rfl ?_
         exact ⟨⟨_, rfl⟩, .inr ⟨_, trivial, HJX.out⟩⟩
     ·have hj0 : ¬ (j : Int) < (ws.length : Int) := by omega
      gi_wp2
      (try simp only [Exit.inBlock, Exit.then]); refine bodyPost_end (results_none rfl _ _ _) rfl ?_
      exact ⟨⟨_, rfl⟩, .inl (by rw [HE.out]; have h := HJ1.out; rw [List.take_of_length_le (by omega)] at h; exact h)⟩
 ·have hi1 : (l.length : Int) ≤ (i : Int) := by omega
  refine callsIn_of_wp Try.func57 rfl trivial ?_ rfl
  simp only [Try.ntmps57, List.size_toArray, List.length_cons, List.length_nil, Nat.reduceAdd, Nat.reduceSub, Array.replicate_succ, Array.replicate_zero, List.push_toArray, List.append_toArray, List.nil_append, List.cons_append]
  gi_wp2
  (try simp only [Exit.inBlock, Exit.then]); refine bodyPost_ret (results_none rfl _ _ _) rfl ?_
  exact ⟨⟨_, rfl⟩, .inl (by rw [show signsAt l ws i = [] by unfold signsAt; rw [if_neg hi]]; exact H0.out)⟩
attribute [local go_sem] Oper.semAt_some
def foldR (s : ByteArray) : List Int := (signsOf s).map fun p => runeP p.2
def foldO (s : ByteArray) : List Int := (signsOf s).map (fun p => (p.1 : Int)) ++ [(s.size : Int)]
theorem fold_is (s : ByteArray) (h : s.size ≤ 1000000) : fold_Fold.f s = some (foldR s, foldO s) := by
 unfold fold_Fold.f
 rw [if_pos (by omega)]
 rfl
theorem signsFrom_len (s : ByteArray) : ∀ k pos, (signsFrom s k pos).length ≤ k
 | 0, _ => Nat.le_refl _
 | k + 1, pos => by
  unfold signsFrom
  split
  ·rw [List.length_cons]
   have := signsFrom_len s k (pos + (Utf8.decode s pos).2)
   omega
  ·exact Nat.zero_le _
theorem foldR_len (s : ByteArray) : (foldR s).length ≤ s.size := by
 unfold foldR signsOf
 rw [List.length_map]
 exact signsFrom_len s _ _
def wordsF (lex : List S53) : List S71 := lex.map fun e => ⟨foldR e.f0, e.f1, e.f2⟩
def atP (p : Int) (x : S47) : S47 := ⟨p, x.f1, x.f2, x.f3, x.f4⟩
def rawAt (l : List Int) (ws : List S71) (p : Nat) : List S47 := (signsAt l ws (pastF isBlank l p)).map (atP (p : Int))
def rawF (l : List Int) (ws : List S71) (n : Nat) : List S47 := (List.range n).flatMap (rawAt l ws)
def tokF (lex : List S53) (l : List Int) : List S47 := dedup (sortT (rawF l (wordsF lex) l.length))
theorem dedup_len : ∀ l : List S47, (dedup l).length ≤ l.length
 | [] => Nat.le_refl _
 | [_] => Nat.le_refl _
 | x :: y :: l => by
  have ih := dedup_len (y :: l)
  rw [show dedup (x :: y :: l) = if sameT x y = true then dedup (y :: l) else x :: dedup (y :: l) from rfl]
  simp only [List.length_cons] at ih ⊢
  split
  ·omega
  ·rw [List.length_cons]
   omega
theorem signsAt_len (l : List Int) (ws : List S71) (i : Nat) : (signsAt l ws i).length ≤ ws.length + 2 := by
 have h1 : ∀ o : Option S47, o.toList.length ≤ 1 := fun o => by cases o <;> simp
 have a := h1 (numTok l i)
 have b := h1 (markTok l i)
 have c := List.length_filterMap_le (wordTok l i) ws
 unfold signsAt
 split
 ·rw [List.length_append, List.length_append]
  omega
 ·simp
theorem rawF_len (l : List Int) (ws : List S71) : ∀ n, (rawF l ws n).length ≤ n * (ws.length + 2)
 | 0 => Nat.zero_le _
 | n + 1 => by
  have ih := rawF_len l ws n
  unfold rawF at *
  rw [List.range_succ, List.flatMap_append, List.length_append, List.flatMap_cons, List.flatMap_nil, List.append_nil, Nat.succ_mul]
  have h := signsAt_len l ws (pastF isBlank l n)
  have h2 : (rawAt l ws n).length = (signsAt l ws (pastF isBlank l n)).length := by unfold rawAt; rw [List.length_map]
  omega
theorem rawF_succ (l : List Int) (ws : List S71) (n : Nat) : rawF l ws (n + 1) = rawF l ws n ++ rawAt l ws n := by
 unfold rawF
 rw [List.range_succ, List.flatMap_append, List.flatMap_cons, List.flatMap_nil, List.append_nil]
theorem reps_eq {xs : List S47} {inner : List Value} (hr : Reps (fun (x : S47) cs => cs = encT x) 5 xs inner) : inner = xs.flatMap encT := by
 have hl := hr.1
 apply List.ext_getElem?
 intro t
 rcases Nat.lt_or_ge t (xs.length * 5) with h | h
 ·have hq : t / 5 < xs.length := by omega
  have h5 : t % 5 < 5 := Nat.mod_lt _ (by decide)
  have h1 := hr.2 (t / 5) _ (List.getElem?_eq_getElem hq)
  have h2 : (encT xs[t / 5])[t % 5]? = some (encT xs[t / 5])[t % 5]! := by
   rw [getElem!_pos (encT xs[t / 5]) (t % 5) h5]
   exact List.getElem?_eq_getElem _
  rw [flat_at xs t h, ← h2, ← h1, List.getElem?_take, if_pos h5, List.getElem?_drop]
  congr 1
  omega
 ·have h3 : (xs.flatMap encT).length = xs.length * 5 := by
   clear h hl hr
   induction xs with
   | nil => rfl
   | cons y ys ih => rw [List.flatMap_cons, List.length_append, ih, List.length_cons]; show 5 + ys.length * 5 = _; omega
  rw [List.getElem?_eq_none (by omega), List.getElem?_eq_none (by omega)]
theorem own_of_tok {W : World} {base : Nat} {ok : Nat → Prop} {v : Value} {xs : List S47} (h : Kd.R k47 47 W base ok v xs) : W.ownsRow base 47 5 v xs.length (xs.flatMap encT) := by
 obtain ⟨_, inner, ho, hr⟩ := h
 have e : inner = xs.flatMap encT := reps_eq (hr.imp_ (fun p c hp => k47_openM hp))
 rw [← e]
 exact ho
theorem tok_of_own {W : World} {base : Nat} {v : Value} {xs : List S47} (h : W.ownsRow base 47 5 v xs.length (xs.flatMap encT)) : Kd.R k47 47 W base (fun _ => True) v xs := ⟨fun _ _ => trivial, _, h, reps_tok xs⟩
def dmark (D : Nat) : Deferred := { target := .collected D, args := #[] }
def takeAll (Ds : List Nat) (w : World) : World := Ds.foldl (fun w D => w.putObj D (.deferred none)) w
theorem leaves_marks {F : Fence} {n : Nat} {P : Program} {fn : Func} {tmps : Array Value} {R : Ending → World → Prop} : ∀ (Ds : List Nat) (w : World), (∀ D ∈ Ds, w.heap[D]? = some (.deferred (some []))) → Ds.Nodup →
  (∃ v, (results fn tmps).run P (takeAll Ds w) = .ok v (takeAll Ds w) ∧ R (.returned v) (takeAll Ds w)) → LeavesInM F n P fn tmps R (Ds.map dmark) .returning w
 | [], _, _, _, h => h
 | D :: Ds, w, h1, h2, h3 => by
  refine ⟨by simp, .inl ⟨D, _, rfl, run_takeDeferred (h1 D (List.mem_cons_self ..)), leaves_marks Ds _ (fun D' hD' => ?_) (List.nodup_cons.1 h2).2 h3⟩⟩
  have hne : D' ≠ D := fun e => (List.nodup_cons.1 h2).1 (e ▸ hD')
  rw [World.putObj_heap_other hne]
  exact h1 D' (List.mem_cons_of_mem _ hD')
theorem takeAll_grown : ∀ (Ds : List Nat) (w : World), (takeAll Ds w).heap.size = w.heap.size ∧ (takeAll Ds w).os = w.os ∧ (takeAll Ds w).tape = w.tape ∧ (takeAll Ds w).output = w.output ∧ ∀ k, k ∉ Ds → (takeAll Ds w).heap[k]? = w.heap[k]?
 | [], w => ⟨rfl, rfl, rfl, rfl, fun _ _ => rfl⟩
 | D :: Ds, w => by
  obtain ⟨h1, h2, h3, h4, h5⟩ := takeAll_grown Ds (w.putObj D (.deferred none))
  refine ⟨h1.trans World.putObj_size, h2, h3, h4, fun k hk => ?_⟩
  rw [show takeAll (D :: Ds) w = takeAll Ds (w.putObj D (.deferred none)) from rfl, h5 k (fun h => hk (List.mem_cons_of_mem _ h))]
  exact World.putObj_heap_other (fun e => hk (e ▸ List.mem_cons_self ..))
theorem kp_putObj {n₀ : Nat} (W : World) (l : Nat) (o o' : Obj) (hn : n₀ ≤ l) (h : W.heap[l]? = some o) (hc : o.isCells = false) : Kp n₀ W (W.putObj l o') := by
 refine ⟨(Below.refl n₀ W).grown (grownBy_putObj' W l o') (by have := (Array.getElem?_eq_some_iff.1 h).1; omega) (fun k e => by cases e; omega), Nat.le_of_eq World.putObj_size.symm, fun k c t fr hk _ _ => ?_⟩
 rw [World.putObj_heap_other (fun e => by subst e; rw [hk] at h; cases h; cases hc)]
 exact hk
theorem kp_grown {n₀ : Nat} {W W' : World} {row : Option Nat} (hg : W.grownBy W' row) (hn : n₀ ≤ W.heap.size) (hr : ∀ k, row = some k → n₀ ≤ k ∧ ∃ c t fr, W.heap[k]? = some (.cells c t fr) ∧ (t = 39 ∨ t = 47)) : Kp n₀ W W' := by
 refine ⟨(Below.refl n₀ W).grown hg hn (fun k e => (hr k e).1), hg.size, fun k c t fr hk h1 h2 => ?_⟩
 rw [hg.block k (Array.getElem?_eq_some_iff.1 hk).1 (fun e => ?_)]
 ·exact hk
 ·obtain ⟨_, c', t', fr', hk', ht⟩ := hr k e.symm
  rw [hk] at hk'
  cases hk'
  rcases ht with h | h
  ·exact h1 h
  ·exact h2 h
structure TInv (n₀ Bo : Nat) (w : World) (Aw : Option Addr) (cw : Nat) (ws : List S71) (outs : List S47) (Ds : List Nat) (W : World) : Prop where
 out : ∃ v, Boxed W Bo 39 v ∧ W.ownsRow n₀ 47 5 v outs.length (outs.flatMap encT)
 words : Kd.R k71 71 W n₀ (fun _ => True) (.slice Aw ws.length cw) ws
 below : Below n₀ w W
 marks : ∀ D ∈ Ds, n₀ ≤ D ∧ W.heap[D]? = some (.deferred (some []))
theorem TInv.step {n₀ Bo : Nat} {w : World} {Aw : Option Addr} {cw : Nat} {ws : List S71} {outs : List S47} {Ds : List Nat} {W W' : World} {row : Option Nat} (h : TInv n₀ Bo w Aw cw ws outs Ds W) (hn : n₀ ≤ w.heap.size) (hg : W.grownBy W' row)
  (hr : ∀ r, row = some r → n₀ ≤ r ∧ r ∉ Ds ∧ ∃ o : Obj, W.heap[r]? = some o ∧ o.isCells = false) : TInv n₀ Bo w Aw cw ws outs Ds W' := by
 obtain ⟨v, hv, ho⟩ := h.out
 refine ⟨⟨v, hv.kept hg (fun e => ?_), ho.kept hg ?_⟩, ?_, h.below.grown hg (Nat.le_trans hn h.below.size) (fun k e => (hr k e).1), fun D hD => ⟨(h.marks D hD).1, (hg.block D (Array.getElem?_eq_some_iff.1 (h.marks D hD).2).1 (fun e => (hr D e.symm).2.1 hD)).trans (h.marks D hD).2⟩⟩
 ·obtain ⟨_, _, o, ho, hc⟩ := hr Bo e.symm
  rw [show W.heap[Bo]? = _ from hv] at ho
  cases ho
  cases hc
 ·rcases ho.2 with ⟨rfl, _⟩ | ⟨g, cap, cur, rfl, _, hgb, _⟩
  ·exact .inl rfl
  ·refine .inr fun e' => ?_
   obtain ⟨_, _, o, ho2, hc⟩ := hr g (by simpa [Value.ownBlock] using e'.symm)
   rw [hgb] at ho2
   cases ho2
   cases hc
 ·refine Kd.R_mono (Kd.R_step (Kd.R_bound h.words) (fun j hj hlt => hg.block j hlt (fun e => ?_))) (fun _ _ => trivial)
  obtain ⟨_, _, _, q, hq, cells, hc⟩ := hj
  obtain ⟨_, _, o, ho2, hc2⟩ := hr j e.symm
  rw [hc] at ho2
  cases ho2
  cases hc2
theorem TInv.alloc {n₀ Bo : Nat} {w : World} {Aw : Option Addr} {cw : Nat} {ws : List S71} {outs : List S47} {Ds : List Nat} {W : World} (h : TInv n₀ Bo w Aw cw ws outs Ds W) (hn : n₀ ≤ w.heap.size) (o : Obj) : TInv n₀ Bo w Aw cw ws outs Ds (W.alloc o) :=
 h.step hn (World.grownBy_alloc W o none) (fun r e => by cases e)
theorem at_boxes (A : Option Addr) (c i n : Nat) (Aw : Option Addr) (cw nw : Nat) (w : World) :
  Calls Try.prog 37 #[.slice A n c, .int .i64 i, .slice Aw nw cw] w fun e w' => ∃ b1 b2 b3, e = .returned (.func (.func 57) #[] #[.pointer (some ⟨b1, 0, none⟩), .pointer (some ⟨b2, 0, none⟩), .pointer (some ⟨b3, 0, none⟩)]) ∧
   w'.heap[b1]? = some (.cells #[.int .i64 i] 3 (0, 0)) ∧ w'.heap[b2]? = some (.cells #[.slice A n c] 72 (0, 0)) ∧ w'.heap[b3]? = some (.cells #[.slice Aw nw cw] 69 (0, 0)) ∧ Below w.heap.size w w' := by
 refine (at_walk A c i n Aw cw nw w).mono fun e w' h => ?_
 obtain ⟨he, hw⟩ := h
 subst hw
 have ha : ∀ (W : World) (o : Obj), Below W.heap.size W (W.alloc o) := fun W o => below_alloc (Below.refl _ _) o
 have e2 := blk_new (w.alloc (.cells #[.slice A n c] 72)) (.cells #[.int .i64 i] 3)
 have e3 := blk_new ((w.alloc (.cells #[.slice A n c] 72)).alloc (.cells #[.int .i64 i] 3)) (.cells #[.slice Aw nw cw] 69)
 simp only [World.size_alloc] at e2 e3
 exact ⟨_, _, _, he, blk_below e2 (ha _ _), blk_below (blk_below (blk_new w _) (ha _ _)) (ha _ _), e3, below_alloc (below_alloc (below_alloc (Below.refl _ _) _) _) _⟩
set_option maxHeartbeats 8000000 in
set_option maxRecDepth 100000 in
theorem tokens_walk (id : ByteArray) (pa di : Int) (A3 : Option Addr) (c3 : Nat) (lex : List S53) (A4 : Option Addr) (n4 c4 : Nat) (A5 : Option Addr) (n5 c5 : Nat) (A1 : Option Addr) (c1 : Nat) (l : List Int) (w : World)
  (hL : Kd.C k53 w A3 lex.length lex) (hC : Kd.C (Kd.int .i64) w A1 l.length l) (hc1 : l.length ≤ c1) (hlm : l.length ≤ 1000000) (hxm : lex.length ≤ 1000) (hxs : ∀ e ∈ lex, e.f0.size ≤ 1000000) :
  Calls Try.prog 20 #[.agg #[.string id, .int .i64 pa, .int .i64 di, .slice A3 lex.length c3, .slice A4 n4 c4, .slice A5 n5 c5], .slice A1 l.length c1] w fun e w' => ∃ v0_ : Value, e = .returned (v0_) ∧ Kd.R k47 47 w' w.heap.size (fun _ => True) v0_ (tokF lex l) ∧ Below w.heap.size w w' := by
 have HL := Aside0.mk hL
 have HC := Aside0.mk (Kd.F_bound (Kd.C_F (Kd.heap_int .i64) hC))
 have HC1 := Aside0.mk hc1
 have HLM := Aside0.mk hlm
 have HXM := Aside0.mk hxm
 have HXS := Aside0.mk hxs
 clear hL hC hc1 hlm hxm hxs
 have hu1 := Try.underlying32
 have hu2 := Try.underlying53
 have hu3 := Try.underlying71
 have hu47 := Try.underlying47
 refine callsIn_wide.1 (callsIn_of_wp_marks (n := 5) Try.func20 rfl trivial ?_)
 refine wpIn_wide.2 ?_
 simp only [Try.ntmps20, List.size_toArray, List.length_cons, List.length_nil, Nat.reduceAdd, Nat.reduceSub, Array.replicate_succ, Array.replicate_zero, List.push_toArray, List.append_toArray, List.nil_append, List.cons_append]
 go_wp2
 have HB0 := Aside0.mk (below_alloc (Below.refl w.heap.size w) (.cells #[.string id, .int .i64 pa, .int .i64 di, .slice A3 lex.length c3, .slice A4 n4 c4, .slice A5 n5 c5] 32))
 generalize w.alloc _ = W0 at HB0 ⊢
 go_loopg [5, 17] lex.length (fun kq v5 v17 wr => ∃ j : Nat, v17 = .int .i64 j ∧ Aside0 (j + kq = lex.length) ∧ Aside0 (Kd.R k71 71 wr w.heap.size (fun _ => True) v5 (wordsF (lex.take j))) ∧ Aside0 (Below w.heap.size w wr))
 case atStart => exact ⟨0, rfl, ⟨by simp⟩, ⟨Kd.R_nil _ _ _ _ _⟩, HB0⟩
 case round =>
  clear HB0
  obtain ⟨j, rfl, HI, HW5, HB⟩ := hrel
  by_cases hj : j < lex.length
  ·cases gk with
   | zero => exact absurd HI.out (by omega)
   | succ k1 =>
    have hj0 : (j : Int) < (lex.length : Int) := by omega
    obtain ⟨ad, e0, a0, a1, a2⟩ := at_T53 (Kd.C_below HL.out HB.out) (j : Int) (by omega) hj0
    subst e0
    rw [Int.toNat_natCast] at a0 a1 a2
    have hrd : rd_T53 lex (j : Int) = lex[j] := by
     unfold rd_T53
     rw [Int.toNat_natCast, List.getD_eq_getElem?_getD, List.getElem?_eq_getElem hj]
     rfl
    obtain ⟨x, hx⟩ : ∃ x, x = lex[j] := ⟨_, rfl⟩
    rw [hrd, ← hx] at a0 a1 a2
    have HXL := Aside0.mk (show x.f0.size ≤ 1000000 by rw [hx]; exact HXS.out _ (List.getElem_mem hj))
    have HTK := Aside0.mk (show wordsF (lex.take (j + 1)) = wordsF (lex.take j) ++ [⟨foldR x.f0, x.f1, x.f2⟩] by unfold wordsF; rw [List.take_add_one, List.getElem?_eq_getElem hj, ← hx, Option.toList_some, List.map_append]; rfl)
    clear hrd hx
    have HW := Aside0.mk (show wrap64 ((j : Int) + 1) = ((j + 1 : Nat) : Int) by have := HXM.out; unfold wrap64; omega)
    have HWL := Aside0.mk (show (wordsF (lex.take j)).length ≤ 1000 by unfold wordsF; rw [List.length_map, List.length_take]; have := HXM.out; omega)
    have HS := Aside0.mk (show w.heap.size ≤ wr.heap.size from HB.out.size)
    go_wp2_with (first
     | (go_at_call 36; (refine (fold_Fold.calls x.f0 (foldR x.f0) (foldO x.f0) _ (fold_is x.f0 HXL.out)).mono ?_); rintro e w5 ⟨v0, v1, rfl, h0, h1, hb⟩; obtain ⟨A0, c0, hv0⟩ := Kd.R_slice h0; subst hv0; obtain ⟨A9, c9, hv1⟩ := Kd.R_slice h1; subst hv1; have HF := Aside0.mk (Kd.R_mono (Kd.R_bound h0) (ok' := fun k_ => wr.heap.size ≤ k_) (fun k_ hk => by have := hk.2.1; rw [World.size_alloc] at this; omega)); have HX := Aside0.mk (blk_below (blk_new wr _) hb); have HB5 := Aside0.mk (below_step (below_alloc HB.out _) hb); have HW6 := Aside0.mk (Kd.R_below (Kd.R_alloc HW5.out _) hb); have p1 : w5.cell? ⟨wr.heap.size, 1, none⟩ = some (.int .i64 x.f1) := (blk_cell HX.out 1).trans rfl; have p2 : w5.cell? ⟨wr.heap.size, 2, none⟩ = some (.int .i64 x.f2) := (blk_cell HX.out 2).trans rfl; have HS5 := Aside0.mk (show wr.heap.size + 1 ≤ w5.heap.size by have := hb.size; rwa [World.size_alloc] at this); clear h0 h1 hb)
     | ((with_reducible refine gate_builtin (b := .append) (xs := #[.tmp 27, .tmp 34]) rfl ?_); at_builtin; refine Kd.R_append k71 (w0 := w) (W := w5) w.heap.size rfl (.tmp 27) (.tmp 34) 69 71 (.agg #[(.slice none 0 0), (.int .i64 0), (.int .i64 0)]) 40 rfl Try.underlying69 info71 rfl (by decide) (by decide) u5 (wordsF (lex.take j)) ⟨foldR x.f0, x.f1, x.f2⟩ [.slice A0 (foldR x.f0).length c0, .int .i64 x.f1, .int .i64 x.f2] (fun _ => True) (fun k_ => wr.heap.size ≤ k_) ?hs ?hx ?hp ?hokp (fun _ _ => trivial) HW6.out HB5.out ?hba ?hl ?_; (case hs => rfl); (case hx => rfl); (case hp => exact k71_mkM _ _ _ ⟨foldR x.f0, x.f1, x.f2⟩ (Kd.R_lower HF.out (by rw [World.size_alloc]; have := HS.out; omega))); (case hokp => exact fun k_ hk => ⟨trivial, fun e_ => by have := Kd.R_lt HW5.out k_ e_.symm; omega⟩); (case hba => have := HS.out; have := HS5.out; omega); (case hl => have := HWL.out; omega); intro v35 w35 ho35 hb35 hg35 hat35; have HO35 := Aside0.mk ho35; have HB35 := Aside0.mk hb35; clear ho35 hb35 hg35 hat35))
    go_roundg k1
    case measure => omega
    case rel => exact ⟨j + 1, by rw [HW.out], ⟨by have := HI.out; omega⟩, ⟨by rw [HTK.out]; exact HO35.out⟩, HB35⟩
  ·have hj1 : j = lex.length := by have := HI.out; omega
   have hj0 : ¬ (j : Int) < (lex.length : Int) := by omega
   have HWS := Aside0.mk (show Kd.R k71 71 wr w.heap.size (fun _ => True) u5 (wordsF lex) by have h := HW5.out; rw [List.take_of_length_le (by omega)] at h; exact h)
   clear HW5 HI hj1
   obtain ⟨Aw, cw, hv5⟩ := Kd.R_slice HWS.out
   subst hv5
   go_wp2
   have HI0 := Aside0.mk (show TInv w.heap.size wr.heap.size w Aw cw (wordsF lex) (rawF l (wordsF lex) 0) [] (wr.alloc (.cells #[.slice none 0 0] 39)) from
    ⟨⟨_, Boxed.new wr _ _, World.ownsRow_nil _ _ _ _⟩, Kd.R_alloc HWS.out _, below_alloc HB.out _, fun D hD => by cases hD⟩)
   obtain ⟨Bo, hBo⟩ : ∃ Bo, Bo = wr.heap.size := ⟨_, rfl⟩
   rw [← hBo] at HI0 ⊢
   have HBo := Aside0.mk (show w.heap.size ≤ Bo by rw [hBo]; exact HB.out.size)
   clear hBo HWS HB
   generalize wr.alloc (.cells #[.slice none 0 0] 39) = W1 at HI0 ⊢
   clear wr
   refine wp_loop_ghost_k (fun kq a' wr => ∃ (p : Nat) (Ds : List Nat) (v12 v41 v42 v43 v44 v45 v46 v47 v48 v56 : Value), (Aside0 (p + kq = l.length) ∧ Aside0 (Ds.Nodup) ∧ Aside0 (TInv w.heap.size Bo w Aw cw (wordsF lex) (rawF l (wordsF lex) p) Ds wr)) ∧ a' = { tmps := #[.agg #[.string id, .int .i64 pa, .int .i64 di, .slice A3 lex.length c3, .slice A4 n4 c4, .slice A5 n5 c5], .slice A1 l.length c1, .pointer (some ⟨w.heap.size, 0, none⟩), undef, .slice none 0 0, .slice Aw (wordsF lex).length cw, undef, u7, u8, u9, .slice A1 l.length c1, .pointer (some ⟨Bo, 0, none⟩), v12, undef, .pointer (some ⟨w.heap.size, 3, none⟩), .slice A3 lex.length c3, .int .i64 lex.length, .int .i64 j, .bool false, u19, u20, u21, u22, u23, u24, u25, u26, u27, u28, u29, u30, u31, u32, u33, u34, u35, u36, .slice A1 l.length c1, .slice A1 l.length c1, .int .i64 l.length, .int .i64 p, v41, v42, v43, v44, v45, v46, v47, v48, undef, undef, undef, undef, undef, undef, undef, v56, undef, undef, undef, undef, undef], defers := Ds.map dmark }) l.length ?_ ?_
   ·exact ⟨0, [], _, _, _, _, _, _, _, _, _, _, ⟨⟨by simp⟩, ⟨List.nodup_nil⟩, HI0⟩, rfl⟩
   ·clear HI0
    intro gk a' wr hinv J K hJ hK
    obtain ⟨p, Ds, v12, v41, v42, v43, v44, v45, v46, v47, v48, v56, ⟨HI, HN, HT⟩, rfl⟩ := hinv
    by_cases hp : p < l.length
    ·cases gk with
     | zero => exact absurd HI.out (by omega)
     | succ k1 =>
      have hp0 : (p : Int) < (l.length : Int) := by omega
      have HW := Aside0.mk (show wrap64 ((p : Int) + 1) = ((p + 1 : Nat) : Int) by have := HLM.out; unfold wrap64; omega)
      have HML := Aside0.mk (show l.length ≤ maxLen by have := HLM.out; unfold maxLen; omega)
      obtain ⟨q, hq⟩ : ∃ q, q = pastF isBlank l p := ⟨_, rfl⟩
      have HQ := Aside0.mk hq
      clear hq
      have HSZ := Aside0.mk (show w.heap.size ≤ wr.heap.size from HT.out.below.size)
      have HC2 := Aside0.mk (Kd.F_step HC.out (fun k_ hk _ => HT.out.below.block k_ hk.2))
      go_wp2_with (first
       | (go_at_call 38; (refine (past_blank A1 c1 p l _ (Kd.C_alloc (Kd.F_now HC2.out) _) (Nat.le_of_lt hp) HML.out).mono ?_); rw [← HQ.out]; rintro e w1 ⟨rfl, rfl⟩)
       | (go_at_call 37; (refine (at_boxes A1 c1 q l.length Aw cw (wordsF lex).length _).mono ?_); rintro e w2 ⟨b1, b2, b3, rfl, h1, h2, h3, hb⟩; have HB2 := Aside0.mk hb; have HX1 := Aside0.mk h1; have HX2 := Aside0.mk h2; have HX3 := Aside0.mk h3; clear h1 h2 h3 hb))
      have HT2 := Aside0.mk ((HT.out.alloc (Nat.le_refl _) (.cells #[.int .i64 p] 3)).step (Nat.le_refl _) (grown_of_below HB2.out none) (fun r e => by cases e))
      have HBP := Aside0.mk (show Boxed w2 wr.heap.size 3 (.int .i64 p) from blk_below (blk_new wr _) HB2.out)
      have HIT := Aside0.mk (show ItOk w.heap.size b1 b2 b3 A1 c1 q l Aw cw (wordsF lex) w2 from ⟨HT2.out.below.size, HX1.out, HX2.out, HX3.out, Kd.F_mono (Kd.F_step HC.out (fun k_ hk _ => HT2.out.below.block k_ hk.2)) (fun k_ hk => hk.2), HT2.out.words⟩)
      have HDS := Aside0.mk (fun D (hD : D ∈ Ds) => (Array.getElem?_eq_some_iff.1 (HT2.out.marks D hD).2).1)
      have HLN := Aside0.mk (rawF_len l (wordsF lex) p)
      have HWN := Aside0.mk (show (wordsF lex).length ≤ 1000 by unfold wordsF; rw [List.length_map]; exact HXM.out)
      obtain ⟨Bp, hBp⟩ : ∃ Bp, Bp = wr.heap.size := ⟨_, rfl⟩
      rw [← hBp] at HBP ⊢
      have HBPn := Aside0.mk (show w.heap.size ≤ Bp by rw [hBp]; exact HSZ.out)
      clear hBp HX1 HX2 HX3 HB2 HT HC2
      obtain ⟨i0, hi, hz0, hz1, hz2⟩ := info_parts info47
      refine wpIn_wide (n := 5) |>.1 ?_
      refine wpIn_rangeFunc_ownH (α := S47) rfl (by decide) (gf := 57) (lb := #[.pointer (some ⟨b1, 0, none⟩), .pointer (some ⟨b2, 0, none⟩), .pointer (some ⟨b3, 0, none⟩)]) rfl trivial (enters_of Try.func57 (by kernel_rfl) rfl)
       (at1_stops (5 - 1) w.heap.size b1 b2 b3 A1 c1 q l Aw cw (wordsF lex) w2 HIT.out HC1.out (by have := HLM.out; omega) (by have := HWN.out; omega) ?hws) (fun h k => h.trans k) (fun W l_ o o' h1 h2 h3 h4 => kp_putObj W l_ o o' (Nat.le_trans HT2.out.below.size h1) h2 h3) (Below.refl _ _) (fun _ => rfl)
       (fun pre W => TInv w.heap.size Bo w Aw cw (wordsF lex) (rawF l (wordsF lex) p ++ pre.map (atP (p : Int))) Ds W ∧ Boxed W Bp 3 (.int .i64 p)) (fun _ _ _ => False)
       ?hI (fun _ _ _ _ _ hs _ _ => hs) ⟨by rw [List.map_nil, List.append_nil]; exact HT2.out, HBP.out⟩
       (fun x a' W => ∃ Bx, w.heap.size ≤ Bx ∧ (∃ v, Boxed W Bo 39 v ∧ v.ownBlock ≠ some Bx) ∧ W.heap[Bx]? = some (.cells #[.int .i64 x.f0, .int .i64 x.f1, .int .i64 x.f2, .int .i64 x.f3, .int .i64 x.f4] 47 (0, 0)) ∧ a' = { tmps := #[.agg #[.string id, .int .i64 pa, .int .i64 di, .slice A3 lex.length c3, .slice A4 n4 c4, .slice A5 n5 c5], .slice A1 l.length c1, .pointer (some ⟨w.heap.size, 0, none⟩), undef, .slice none 0 0, .slice Aw (wordsF lex).length cw, undef, u7, u8, u9, .slice A1 l.length c1, .pointer (some ⟨Bo, 0, none⟩), .pointer (some ⟨Bp, 0, none⟩), .pointer (some ⟨Bx, 0, none⟩), .pointer (some ⟨w.heap.size, 3, none⟩), .slice A3 lex.length c3, .int .i64 lex.length, .int .i64 j, .bool false, u19, u20, u21, u22, u23, u24, u25, u26, u27, u28, u29, u30, u31, u32, u33, u34, u35, u36, .slice A1 l.length c1, .slice A1 l.length c1, .int .i64 l.length, .int .i64 p, .bool true, .int .i64 p, .slice A1 l.length c1, .slice A1 l.length c1, .int .i64 p, .int .i64 q, .slice Aw (wordsF lex).length cw, .func (.func 57) #[] #[.pointer (some ⟨b1, 0, none⟩), .pointer (some ⟨b2, 0, none⟩), .pointer (some ⟨b3, 0, none⟩)], encA x, undef, undef, undef, undef, undef, undef, v56, undef, undef, undef, undef, undef], defers := [] })
       ?hAx ?assign ?body ?done ?stop
      case hws =>
       intro x hx
       unfold wordsF at hx
       obtain ⟨e, he, rfl⟩ := List.mem_map.1 hx
       exact Nat.le_trans (foldR_len e.f0) (Nat.le_trans (HXS.out e he) (by decide))
      case hI =>
       intro s X Y row hs hg hr
       refine ⟨hs.1.step (Nat.le_refl _) hg (fun r e => ⟨Nat.le_trans HT2.out.below.size (hr r e).1, fun hD => by have := HDS.out r hD; have := (hr r e).1; omega, (hr r e).2⟩), hs.2.kept hg (fun e => ?_)⟩
       obtain ⟨_, o, ho, hc⟩ := hr Bp e.symm
       rw [show X.heap[Bp]? = _ from hs.2] at ho
       cases ho
       cases hc
      case hAx =>
       rintro x a' s X Y row ⟨Bx, h1, ⟨v, h4, h5⟩, h2, h3⟩ hg hr
       refine ⟨Bx, h1, ⟨v, h4.kept hg (fun e => ?_), h5⟩, (hg.block Bx (Array.getElem?_eq_some_iff.1 h2).1 (fun e => ?_)).trans h2, h3⟩
       ·obtain ⟨_, o, ho, hc⟩ := hr Bo e.symm
        rw [show X.heap[Bo]? = _ from h4] at ho
        cases ho
        cases hc
       ·obtain ⟨_, o, ho, hc⟩ := hr Bx e.symm
        rw [h2] at ho
        cases ho
        cases hc
      case assign =>
       intro li pre x W K2 hI hK2
       have HI2 := Aside0.mk hI
       have HK2 := Aside0.mk hK2
       clear hI hK2
       unfold encA
       gi_wp2
       obtain ⟨v, hv, ho⟩ := HI2.out.1.out
       exact HK2.out _ _ ((KeepsOthers.alloc _ _).from _) (kp_alloc HI2.out.1.below.size _) ⟨HI2.out.1.alloc (Nat.le_refl _) _, HI2.out.2.alloc _⟩ ⟨W.heap.size, HI2.out.1.below.size, ⟨v, hv.alloc _, fun e => by have := own_lt ho W.heap.size e; omega⟩, blk_new W _, rfl⟩
      case body =>
       rintro li pre x a' W hli hlr ⟨hT, hP⟩ ⟨Bx, hBx, ⟨v, hv, hne⟩, hbX, rfl⟩ hlt
       obtain ⟨v2, hv2, hrow⟩ := hT.out
       obtain rfl : v2 = v := by
        have e := (show W.heap[Bo]? = _ from hv2).symm.trans (show W.heap[Bo]? = _ from hv)
        injection e with e
        injection e with e
        injection e with e
        injection e with e
       have HOL := Aside0.mk (show (rawF l (wordsF lex) p ++ pre.map (atP (p : Int))).length + 1 ≤ 1000000 * 1002 + 1003 by
        have h1 := HLN.out
        have h2 := HWN.out
        have h3 := HLM.out
        have h4 : p * ((wordsF lex).length + 2) ≤ 1000000 * 1002 := Nat.mul_le_mul (by omega) (by omega)
        rw [List.length_append, List.length_map]
        omega)
       obtain ⟨outs, houts⟩ : ∃ outs, outs = rawF l (wordsF lex) p ++ pre.map (atP (p : Int)) := ⟨_, rfl⟩
       rw [← houts] at hrow HOL
       have HOUTS := Aside0.mk houts
       clear houts
       have hbo : Bo ≠ Bx := fun e => by
        have e2 := (show W.heap[Bo]? = _ from hv)
        rw [e, hbX] at e2
        simp at e2
       have hbp : Bp ≠ Bx := fun e => by
        have e2 := (show W.heap[Bp]? = _ from hP)
        rw [e, hbX] at e2
        simp at e2
       have cp := hP.cell
       have s0 : W.cell? ⟨Bx, 0, none⟩ = some (.int .i64 x.f0) := (blk_cell hbX 0).trans rfl
       have s1 : W.frozen? ⟨Bx, 0, none⟩ = false := blk_frozen hbX 0
       have hbX2 : (W.setCell ⟨Bx, 0, none⟩ (.int .i64 p)).heap[Bx]? = some (.cells #[.int .i64 p, .int .i64 x.f1, .int .i64 x.f2, .int .i64 x.f3, .int .i64 x.f4] 47 (0, 0)) := blk_put hbX 0 _ rfl
       have hv3 : Boxed (W.setCell ⟨Bx, 0, none⟩ (.int .i64 p)) Bo 39 v2 := hv.kept (grownBy_setCell' W Bx _) (fun e => hbo (by injection e))
       have hrow3 : (W.setCell ⟨Bx, 0, none⟩ (.int .i64 p)).ownsRow w.heap.size 47 5 v2 outs.length (outs.flatMap encT) := hrow.kept (grownBy_setCell' W Bx _) (.inr hne)
       have co := hv3.cell
       have c0 : (W.setCell ⟨Bx, 0, none⟩ (.int .i64 p)).cell? ⟨Bx, 0, none⟩ = some (.int .i64 p) := (blk_cell hbX2 0).trans rfl
       have c1_ : (W.setCell ⟨Bx, 0, none⟩ (.int .i64 p)).cell? ⟨Bx, 1, none⟩ = some (.int .i64 x.f1) := (blk_cell hbX2 1).trans rfl
       have c2_ : (W.setCell ⟨Bx, 0, none⟩ (.int .i64 p)).cell? ⟨Bx, 2, none⟩ = some (.int .i64 x.f2) := (blk_cell hbX2 2).trans rfl
       have c3_ : (W.setCell ⟨Bx, 0, none⟩ (.int .i64 p)).cell? ⟨Bx, 3, none⟩ = some (.int .i64 x.f3) := (blk_cell hbX2 3).trans rfl
       have c4_ : (W.setCell ⟨Bx, 0, none⟩ (.int .i64 p)).cell? ⟨Bx, 4, none⟩ = some (.int .i64 x.f4) := (blk_cell hbX2 4).trans rfl
       have HT3 := Aside0.mk hT
       have HP3 := Aside0.mk hP
       have HV3 := Aside0.mk hv3
       have HR3 := Aside0.mk hrow3
       have HBX := Aside0.mk hbX
       have HBX1 := Aside0.mk hBx
       have HSZ2 := Aside0.mk (size_setCell_eq W ⟨Bx, 0, none⟩ (.int .i64 p))
       clear hT hP hv hv2 hne hrow hbX hbX2 hv3 hrow3 hBx hlr hli hlt
       unfold encA
       gi_wp2_with (gi_at_builtin; refine wpListIn_append_own _ rfl _ _ 39 rfl w.heap.size 47 i0 (.agg #[(.int .i64 0), (.int .i64 0), (.int .i64 0), (.int .i64 0), (.int .i64 0)]) 5 40 Try.underlying39 hi hz0 hz1 hz2 rfl (by decide) v2 outs.length (outs.flatMap encT) rfl (HR3.out.alloc _) _ 1 1 (encT (atP (p : Int) x)) rfl rfl ?hc ?h1c ?b1 ?b2 ?b3 ?_; (case hc => have h_ := World.news_of_block (cs := #[.int .i64 (p : Int), .int .i64 x.f1, .int .i64 x.f2, .int .i64 x.f3, .int .i64 x.f4]) (t := 47) (fr := (0, 0)) (heap_alloc_new (W.setCell ⟨Bx, 0, none⟩ (.int .i64 p)) (.cells #[.int .i64 (p : Int), .int .i64 x.f1, .int .i64 x.f2, .int .i64 x.f3, .int .i64 x.f4] 47)); rw [HSZ2.out] at h_; exact h_); (case h1c => intro u_ hu_; simp [encT] at hu_; rcases hu_ with h_ | h_ | h_ | h_ | h_ <;> subst h_ <;> rfl); (case b1 => have := HOL.out; unfold maxLen; omega); (case b2 => have := HOL.out; omega); (case b3 => rw [World.size_alloc, HSZ2.out]; exact Nat.le_succ_of_le HT3.out.below.size); intro v3 w4 hown hgrow _; obtain ⟨g4, cap4, rfl⟩ := ownsRow_succ hown; obtain ⟨hv4, hv5, hr5, hk5, hb5⟩ := HV3.out.appended (by decide) HR3.out (by rw [HSZ2.out]; exact HT3.out.below.size) HBo.out hown hgrow; have cf1 := hv4.cell; have cf2 := hv4.frozen; have HV4 := Aside0.mk hv4; have HV5 := Aside0.mk hv5; have HR5 := Aside0.mk hr5; have HK5 := Aside0.mk hk5; have HGR := Aside0.mk hgrow; clear hv4 hv5 hr5 hk5 hb5 hown hgrow)
       have hn := HT3.out.below.size
       have KK : Kp w.heap.size W (w4.setCell ⟨Bo, 0, none⟩ (.slice (some ⟨g4, 0, none⟩) (outs.length + 1) cap4)) :=
        ((kp_grown (grownBy_setCell' W Bx (.int .i64 p)) hn (fun k e => by cases e; exact ⟨HBX1.out, _, _, _, HBX.out, .inr rfl⟩)).trans (kp_alloc (by rw [HSZ2.out]; exact hn) (.cells #[.int .i64 p, .int .i64 x.f1, .int .i64 x.f2, .int .i64 x.f3, .int .i64 x.f4] 47))).trans
        ((kp_grown HGR.out (by rw [World.size_alloc, HSZ2.out]; exact Nat.le_succ_of_le hn) (fun k e => by
         obtain ⟨cells, hc⟩ := own_typed HR3.out k e
         exact ⟨own_base HR3.out k e, _, _, _, blk_below hc (below_alloc (Below.refl _ _) _), .inr rfl⟩)).trans
        (kp_grown (grownBy_setCell' w4 Bo _) (by have h1 := HGR.out.size; rw [World.size_alloc, HSZ2.out] at h1; omega) (fun k e => by cases e; exact ⟨HBo.out, _, _, _, HV4.out, .inl rfl⟩)))
       have KO := (KeepsOthers.setCell W ⟨Bx, 0, none⟩ (.int .i64 p)).trans HK5.out
       have e1 : rawF l (wordsF lex) p ++ (pre ++ [x]).map (atP (p : Int)) = outs ++ [atP (p : Int) x] := by rw [HOUTS.out, List.map_append, ← List.append_assoc]; rfl
       refine ⟨KO.from _, KK, ⟨⟨_, HV5.out, ?_⟩, words_kp HT3.out.words KK, HT3.out.below.trans KK.below, fun D hD => ⟨(HT3.out.marks D hD).1, KO.same D _ (HT3.out.marks D hD).2 rfl⟩⟩, KK.same _ _ _ _ HP3.out (by decide) (by decide)⟩
       rw [e1, List.length_append, List.flatMap_append, List.flatMap_cons, List.flatMap_nil, List.append_nil]
       exact HR5.out
      case done =>
       rintro D xs W hD hS ⟨hT, hP⟩ hK0
       have HT3 := Aside0.mk hT
       have HK3 := Aside0.mk hK0
       have HS3 := Aside0.mk hS
       have HD3 := Aside0.mk hD
       clear hT hP hK0 hS hD
       go_wp2
       rw [HW.out]
       refine Handed.intro k1 (by omega) ?_
       refine hJ _ _ _ ⟨p + 1, D :: Ds, _, _, _, _, _, _, _, _, _, _, ⟨⟨by have := HI.out; omega⟩, ⟨List.nodup_cons.2 ⟨fun h => by have := HDS.out D h; have := HD3.out; omega, HN.out⟩⟩, ⟨?_⟩⟩, rfl⟩
       have e1 : rawF l (wordsF lex) (p + 1) = rawF l (wordsF lex) p ++ xs.map (atP (p : Int)) := by
        rw [rawF_succ, HS3.out]
        unfold rawAt
        rw [← HQ.out]
       rw [e1]
       exact ⟨HT3.out.out, HT3.out.words, HT3.out.below, fun D' hD' => by
        rcases List.mem_cons.1 hD' with h | h
        ·subst h
         exact ⟨Nat.le_trans HT2.out.below.size HD3.out, HK3.out⟩
        ·exact HT3.out.marks D' h⟩
      case stop =>
       rintro D c pre W _ _ h _
       exact h.elim
    ·have hp0 : ¬ (p : Int) < (l.length : Int) := by omega
     have hpl : p = l.length := by have := HI.out; omega
     obtain ⟨v, hv, ho⟩ := HT.out.out
     obtain ⟨A7, c7, hv7⟩ := own_slice ho
     subst hv7
     obtain ⟨xs, hxs⟩ : ∃ xs, xs = rawF l (wordsF lex) p := ⟨_, rfl⟩
     rw [← hxs] at hv ho
     have HXS2 := Aside0.mk (show tokF lex l = dedup (sortT xs) by rw [hxs, hpl]; rfl)
     have HXL := Aside0.mk (show xs.length ≤ 1000000000000 by
      have h1 := rawF_len l (wordsF lex) p
      have h2 : (wordsF lex).length ≤ 1000 := by unfold wordsF; rw [List.length_map]; exact HXM.out
      have h3 := HLM.out
      have h4 : p * ((wordsF lex).length + 2) ≤ 1000000 * 1002 := Nat.mul_le_mul (by omega) (by omega)
      rw [hxs]
      omega)
     have hlen : (sortT xs).length = xs.length := by unfold sortT; exact List.length_mergeSort _
     have HLEN := Aside0.mk hlen
     have HBX := Aside0.mk hv
     have HR7 := Aside0.mk (tok_of_own ho)
     have co := hv.cell
     have HMK := Aside0.mk HT.out.marks
     have HBL := Aside0.mk HT.out.below
     clear hxs hpl hlen hv ho HT HI
     go_wp2_with (first
      | (go_at_call 40; (refine (sort_walk A7 c7 xs _ w.heap.size (fun _ => True) HR7.out HXL.out).mono ?_); rintro e w1 ⟨rfl, hr, hg⟩; have HR8 := Aside0.mk hr; have HG8 := Aside0.mk hg; have HBX8 := Aside0.mk (HBX.out.kept hg (fun e => HBX.out.not_row (by decide) (own_of_tok HR7.out) e)); have co8 := HBX8.out.cell; clear hr hg)
      | (go_at_call 43; (have hcp := compact_walk A7 c7 (sortT xs) w1 w.heap.size (fun _ => True) HR8.out (by rw [HLEN.out]; exact HXL.out)); rw [HLEN.out] at hcp; (refine hcp.mono ?_); clear hcp; rintro e w2 ⟨v9, rfl, hr, hg⟩; obtain ⟨A9, c9, hv9⟩ := Kd.R_slice hr; subst hv9; have HR9 := Aside0.mk hr; have HG9 := Aside0.mk hg; clear hr hg)
      | (go_at_call 42; (refine (api_Tok_42.calls A9 c9 (dedup (sortT xs)) (dedup (sortT xs)) _ (Kd.R_reads' HR9.out).2.2 (Kd.R_reads' HR9.out).2.1 (clone_tok_ok _ ?hcl)).mono ?_); (case hcl => exact Nat.le_trans (dedup_len _) (by rw [HLEN.out]; exact HXL.out)); rintro e w3 ⟨v10, rfl, hr, hb⟩; have HR10 := Aside0.mk hr; have HB10 := Aside0.mk hb; clear hr hb))
     have hown7 := own_of_tok HR7.out
     have hown8 := own_of_tok HR8.out
     have hm1 : ∀ D ∈ Ds, w1.heap[D]? = some (.deferred (some [])) := fun D hD => by
      have h := (HMK.out D hD).2
      rw [HG8.out.block D (Array.getElem?_eq_some_iff.1 h).1 (fun e => by obtain ⟨cells, hc⟩ := own_typed hown7 D e.symm; rw [h] at hc; cases hc)]
      exact h
     have hm2 : ∀ D ∈ Ds, w2.heap[D]? = some (.deferred (some [])) := fun D hD => by
      have h := hm1 D hD
      rw [HG9.out.block D (Array.getElem?_eq_some_iff.1 h).1 (fun e => by rw [← HLEN.out] at e; obtain ⟨cells, hc⟩ := own_typed hown8 D e.symm; rw [h] at hc; cases hc)]
      exact h
     have hm3 : ∀ D ∈ Ds, w3.heap[D]? = some (.deferred (some [])) := fun D hD => by
      have h := hm2 D hD
      rw [HB10.out.block D (Array.getElem?_eq_some_iff.1 h).1]
      exact h
     have hb1 : Below w.heap.size w w1 := pw_below_grown HBL.out _ HBL.out.size HG8.out (fun k e => own_base hown7 k e)
     have hb2 : Below w.heap.size w w2 := pw_below_grown hb1 _ hb1.size HG9.out (fun k e => own_base hown8 k (by rw [← e, HLEN.out]))
     have hb3 : Below w.heap.size w w3 := below_step hb2 HB10.out
     obtain ⟨t1, t2, t3, t4, t5⟩ := takeAll_grown Ds w3
     have hb4 : Below w.heap.size w (takeAll Ds w3) := hb3.trans ⟨t2, t3, t4, Nat.le_of_eq t1.symm, fun k hk => t5 k (fun hD => by have := (HMK.out k hD).1; omega)⟩
     refine leaves_marks Ds _ hm3 HN.out ⟨_, results_tmp rfl _ _ _, _, rfl, ?_, hb4⟩
     rw [HXS2.out]
     refine Kd.R_mono (Kd.R_step (Kd.R_bound (Kd.R_lower HR10.out hb2.size)) (fun k hk _ => t5 k (fun hD => ?_))) (fun _ _ => trivial)
     obtain ⟨_, _, _, q, _, cells, hc⟩ := hk
     rw [hm3 k hD] at hc
     cases hc
def lex_Tokens.f (_a0_0 : ByteArray) (_a0_1 : Int) (_a0_2 : Int) (l0_3 : List S53) (_l0_4 : List S108) (_l0_5 : List S138) (l1 : List Int) : Option (List S47) :=
 if l1.length ≤ 1000000 ∧ l0_3.length ≤ 1000 ∧ ∀ e ∈ l0_3, e.f0.size ≤ 1000000 then some (tokF l0_3 l1) else none
theorem lex_Tokens.f_is (a : ByteArray) (b c : Int) (lex : List S53) (r : List S108) (s : List S138) (l : List Int) (h1 : l.length ≤ 1000000) (h2 : lex.length ≤ 1000) (h3 : ∀ e ∈ lex, e.f0.size ≤ 1000000) : lex_Tokens.f a b c lex r s l = some (tokF lex l) := if_pos ⟨h1, h2, h3⟩
theorem lex_Tokens.calls (a0_0 : ByteArray) (a0_1 : Int) (a0_2 : Int) (A0_3 : Option Addr) (c0_3 : Nat) (l0_3 : List S53) (A0_4 : Option Addr) (c0_4 : Nat) (l0_4 : List S108) (A0_5 : Option Addr) (c0_5 : Nat) (l0_5 : List S138) (A1 : Option Addr) (c1 : Nat) (l1 : List Int) (r : List S47) (w : World)
  (hr3 : Kd.C k53 w A0_3 l0_3.length l0_3) (hc3 : l0_3.length ≤ c0_3) (hr4 : Kd.C k108 w A0_4 l0_4.length l0_4) (hc4 : l0_4.length ≤ c0_4) (hr5 : Kd.C k138 w A0_5 l0_5.length l0_5) (hc5 : l0_5.length ≤ c0_5) (hr1 : Kd.C (Kd.int .i64) w A1 l1.length l1) (hc1 : l1.length ≤ c1)
  (h : lex_Tokens.f a0_0 a0_1 a0_2 l0_3 l0_4 l0_5 l1 = some r) :
  Calls Try.prog 20 #[.agg #[.string a0_0, .int .i64 a0_1, .int .i64 a0_2, .slice A0_3 l0_3.length c0_3, .slice A0_4 l0_4.length c0_4, .slice A0_5 l0_5.length c0_5], .slice A1 l1.length c1] w fun e w' => ∃ v0_ : Value, e = .returned (v0_) ∧ Kd.R k47 47 w' w.heap.size (fun _ => True) v0_ r ∧ Below w.heap.size w w' := by
 unfold lex_Tokens.f at h
 split at h
 ·rename_i hg
  obtain rfl := Option.some.inj h
  exact tokens_walk a0_0 a0_1 a0_2 A0_3 c0_3 l0_3 A0_4 _ c0_4 A0_5 _ c0_5 A1 c1 l1 w hr3 hr1 hc1 hg.1 hg.2.1 hg.2.2
 ·cases h
end Go.Proofs.Ytgbnfjhmobeloaa.G
