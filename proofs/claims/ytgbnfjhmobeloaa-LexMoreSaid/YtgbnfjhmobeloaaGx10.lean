import Derived.Test.YtgbnfjhmobeloaaGx0
namespace Go.Proofs.Ytgbnfjhmobeloaa.G
open Go.RowKit Go.Proofs.YtgbnfjhmobeloaaW.PrintWords Go.Proofs.YtgbnfjhmobeloaaW.PrintLast Go.Proofs.YtgbnfjhmobeloaaW.PrintMore Go.Proofs.YtgbnfjhmobeloaaW.VWords
attribute [local go_sem] max2_int min2_int max_two min_two max_three min_three max_four min_four
set_option linter.unusedVariables false
set_option linter.unusedSimpArgs false
theorem eqTok (d : Nat) (w : World) (x0 y0 : Int) (x1 y1 : Int) (x2 y2 : Int) (x3 y3 : Int) (x4 y4 : Int) :
  (Op.equalIn (d + 2) 47 (.agg #[.int .i64 x0, .int .i64 x1, .int .i64 x2, .int .i64 x3, .int .i64 x4]) (.agg #[.int .i64 y0, .int .i64 y1, .int .i64 y2, .int .i64 y3, .int .i64 y4])).run Try.prog w = .ok (x0 == y0 && (x1 == y1 && (x2 == y2 && (x3 == y3 && (x4 == y4))))) w := by
 refine eqA_of Try.underlying47 (by kernel_rfl) ?_
 refine eqf_cons (by rfl) (by go_simp; rfl) (by go_simp; rfl) (by go_simp) ?_
 refine eqf_cons (by rfl) (by go_simp; rfl) (by go_simp; rfl) (by go_simp) ?_
 refine eqf_cons (by rfl) (by go_simp; rfl) (by go_simp; rfl) (by go_simp) ?_
 refine eqf_cons (by rfl) (by go_simp; rfl) (by go_simp; rfl) (by go_simp) ?_
 exact eqf_last (by rfl) (by go_simp; rfl) (by go_simp; rfl) (by go_simp)
attribute [local go_sem high] eqTok
def sameT (x y : S47) : Bool := (x.f0 == y.f0) && ((x.f1 == y.f1) && ((x.f2 == y.f2) && ((x.f3 == y.f3) && (x.f4 == y.f4))))
theorem sameT_iff (x y : S47) : sameT x y = true ↔ x = y := by
 cases x
 cases y
 simp [sameT]
def dedup : List S47 → List S47
 | [] => []
 | [x] => [x]
 | x :: y :: l => if sameT x y = true then dedup (y :: l) else x :: dedup (y :: l)
theorem dedup_snoc (x y : S47) : ∀ l : List S47, dedup (l ++ [y, x]) = if sameT x y = true then dedup (l ++ [y]) else dedup (l ++ [y]) ++ [x]
 | [] => by
  simp only [List.nil_append, dedup]
  by_cases h : x = y
  ·subst h
   rw [if_pos ((sameT_iff x x).2 rfl), if_pos ((sameT_iff x x).2 rfl)]
  ·rw [if_neg (fun e => h ((sameT_iff y x).1 e).symm), if_neg (fun e => h ((sameT_iff x y).1 e))]
   rfl
 | [z] => by
  have ih := dedup_snoc x y []
  simp only [List.nil_append, List.cons_append] at ih ⊢
  rw [show dedup [z, y, x] = if sameT z y = true then dedup [y, x] else z :: dedup [y, x] from rfl, show dedup [z, y] = if sameT z y = true then dedup [y] else z :: dedup [y] from rfl, ih]
  by_cases h : sameT z y = true
  ·rw [if_pos h, if_pos h]
  ·rw [if_neg h, if_neg h]
   by_cases h2 : sameT x y = true
   ·rw [if_pos h2, if_pos h2]
   ·rw [if_neg h2, if_neg h2]
    rfl
 | z :: v :: l => by
  have ih := dedup_snoc x y (v :: l)
  simp only [List.cons_append] at ih ⊢
  rw [show dedup (z :: v :: (l ++ [y, x])) = if sameT z v = true then dedup (v :: (l ++ [y, x])) else z :: dedup (v :: (l ++ [y, x])) from rfl, show dedup (z :: v :: (l ++ [y])) = if sameT z v = true then dedup (v :: (l ++ [y])) else z :: dedup (v :: (l ++ [y])) from rfl, ih]
  by_cases h : sameT z v = true
  ·rw [if_pos h, if_pos h]
  ·rw [if_neg h, if_neg h]
   by_cases h2 : sameT x y = true
   ·rw [if_pos h2, if_pos h2]
   ·rw [if_neg h2, if_neg h2]
    rfl
theorem take_two (l : List S47) (j : Nat) (h : j + 1 < l.length) : l.take (j + 2) = l.take j ++ [l[j], l[j + 1]] ∧ l.take (j + 1) = l.take j ++ [l[j]] := by
 have h1 : l.take (j + 1) = l.take j ++ [l[j]] := by rw [List.take_add_one, List.getElem?_eq_getElem (by omega)]; rfl
 have h2 : l.take (j + 1 + 1) = l.take (j + 1) ++ [l[j + 1]] := by rw [List.take_add_one, List.getElem?_eq_getElem h]; rfl
 refine ⟨?_, h1⟩
 rw [h2, h1, List.append_assoc]
 rfl
theorem take_snoc (l : List S47) (j : Nat) (h : j < l.length) : l.take (j + 1) = l.take j ++ [l[j]] := by rw [List.take_add_one, List.getElem?_eq_getElem h]; rfl
theorem dedup_step (l : List S47) (j : Nat) (h : j + 1 < l.length) : dedup (l.take (j + 2)) = if sameT l[j + 1] l[j] = true then dedup (l.take (j + 1)) else dedup (l.take (j + 1)) ++ [l[j + 1]] := by
 rw [(take_two l j h).1, (take_two l j h).2]
 exact dedup_snoc _ _ _
theorem heap_setCells_in {g e : Nat} : ∀ (vs : List Value) (o : Nat) (W : World) (cur : Array Value), W.heap[g]? = some (.cells cur e (0, 0)) → ∃ cur', (W.setCells g o vs).heap[g]? = some (.cells cur' e (0, 0)) ∧ cur'.size = cur.size ∧ ∀ i, i < o → cur'[i]? = cur[i]?
 | [], _, W, cur, h => ⟨cur, h, rfl, fun _ _ => rfl⟩
 | v :: vs, o, W, cur, h => by
  obtain ⟨cur', h1, h2, h3⟩ := heap_setCells_in vs (o + 1) (W.setCell ⟨g, o, none⟩ v) (cur.setIfInBounds o v) (blk_set h o v)
  refine ⟨cur', h1, by rw [h2, Array.size_setIfInBounds], fun i hi => ?_⟩
  rw [h3 i (by omega), Array.getElem?_setIfInBounds_ne (by omega)]
theorem R_beyond {α : Type} {d : Kd α} {e base k cap g o : Nat} {W : World} {ok : Nat → Prop} {xs : List α} (h : d.R e W base ok (.slice (some ⟨g, 0, none⟩) k cap) xs) (vs : List Value) (ho : k * d.sz ≤ o) : d.R e (W.setCells g o vs) base ok (.slice (some ⟨g, 0, none⟩) k cap) xs := by
 have hk := (Kd.R_reads' h).1
 obtain ⟨hok, inner, ⟨hl, hown⟩, hr⟩ := h
 rcases hown with ⟨hv, _⟩ | ⟨g', cap', cur, hv, hb, hh, hnc, hcm, hcs, ht⟩
 ·cases hv
 injection hv with ha _ hc
 injection ha with ha
 injection ha with hg'
 subst hg'
 subst hc
 obtain ⟨cur', h1, h2, h3⟩ := heap_setCells_in vs o W cur hh
 refine ⟨hok, inner, ⟨hl, .inr ⟨g, cap, cur', by rw [hk], hb, h1, hnc, hcm, by rw [h2]; exact hcs, ?_⟩⟩, hr.imp_ (fun _ _ hp => d.M_move (fun j hj => ?_) hp)⟩
 ·rw [← ht]
  apply List.ext_getElem?
  intro i
  rw [List.getElem?_take, List.getElem?_take]
  split
  ·rw [Array.getElem?_toList, Array.getElem?_toList, h3 i (by rw [hk] at ho; omega)]
  ·rfl
 ·exact setCells_far vs _ j (fun e_ => hj.2 (by rw [e_]; simp [Value.ownBlock]))
theorem own_cell {α : Type} {d : Kd α} {e base n cap g : Nat} {W : World} {ok : Nat → Prop} {xs : List α} (h : d.R e W base ok (.slice (some ⟨g, 0, none⟩) n cap) xs) (q : Nat) (hq : q < cap * d.sz) : (W.cell? ⟨g, q, none⟩).isSome = true ∧ W.frozen? ⟨g, q, none⟩ = false := by
 obtain ⟨_, inner, ⟨hl, hown⟩, _⟩ := h
 rcases hown with ⟨hv, _⟩ | ⟨g', cap', cur, hv, hb, hh, hnc, hcm, hcs, ht⟩
 ·cases hv
 injection hv with ha _ hc
 injection ha with ha
 injection ha with hg'
 subst hg'
 subst hc
 refine ⟨?_, blk_frozen hh q⟩
 rw [blk_cell hh q, Array.getElem?_eq_getElem (by omega)]
 rfl
theorem size_setCell_eq (W : World) (p : Addr) (v : Value) : (W.setCell p v).heap.size = W.heap.size := by simp
theorem grown_cells {g : Nat} : ∀ (vs : List Value) (o : Nat) {W : World}, W.grownBy (W.setCells g o vs) (some g)
 | [], _, W => World.grownBy.refl W _
 | v :: vs, o, W => by
  have h1 : W.grownBy (W.setCell ⟨g, o, none⟩ v) (some g) := ⟨rfl, rfl, rfl, Nat.le_of_eq (size_setCell_eq W _ _).symm, fun k _ hk => Below.heap_setCell W ⟨g, o, none⟩ v k (fun e => hk (by rw [e]))⟩
  exact World.grownBy.trans h1 (grown_cells vs (o + 1))
theorem run_clear_tok (w : World) (ty b o n c : Nat) (hn : 0 < n) (hc : ∀ j, j < n * 5 → (w.cell? ⟨b, o + j, none⟩).isSome = true) (hf : ∀ j, j < n * 5 → w.frozen? ⟨b, o + j, none⟩ = false) :
  (Builtin.clear_ #[39] ty #[.slice (some ⟨b, o, none⟩) n c]).run Try.prog w = .ok (.tuple #[]) (w.setCells b o (List.replicate (n * 5) (.int .i64 0))) := by
 have hv : ∀ w, (zeroValue 47).run Try.prog w = .ok (.agg #[.int .i64 0, .int .i64 0, .int .i64 0, .int .i64 0, .int .i64 0]) w := fun w => by kernel_rfl
 have hzc : (Builtin.zeroCells (Value.agg #[.int .i64 0, .int .i64 0, .int .i64 0, .int .i64 0, .int .i64 0]).cells n).toList = List.replicate (n * 5) (.int .i64 0) := by
  apply List.ext_getElem
  ·simp [Builtin.zeroCells, Value.cells]
  ·intro i h1 h2
   simp [Builtin.zeroCells, Value.cells]
   have h5 : i % 5 < 5 := Nat.mod_lt _ (by decide)
   generalize i % 5 = q at h5
   match q, h5 with
   | 0, _ => rfl
   | 1, _ => rfl
   | 2, _ => rfl
   | 3, _ => rfl
   | 4, _ => rfl
 have hst := run_storeCells_cells (P := Try.prog) b o (List.replicate (n * 5) (.int .i64 0)) 0 w (by simpa using hc) (by simpa using hf) (by intro v hv'; rw [List.eq_of_mem_replicate hv']; rfl)
 simp only [Nat.add_zero] at hst
 obtain ⟨m, rfl⟩ : ∃ m, n = m + 1 := ⟨n - 1, by omega⟩
 simp [Builtin.clear_, run_underlying Try.underlying39, hv, hzc, hst]
theorem tok_cells {W : World} {base g n cap : Nat} {ok : Nat → Prop} {xs : List S47} (hR : Kd.R k47 47 W base ok (.slice (some ⟨g, 0, none⟩) n cap) xs) (i : Nat) (hi : i < xs.length) :
  (W.cell? ⟨g, i * 5, none⟩ = some (.int .i64 xs[i].f0) ∧ W.cell? ⟨g, i * 5 + 1, none⟩ = some (.int .i64 xs[i].f1) ∧ W.cell? ⟨g, i * 5 + 2, none⟩ = some (.int .i64 xs[i].f2) ∧ W.cell? ⟨g, i * 5 + 3, none⟩ = some (.int .i64 xs[i].f3) ∧ W.cell? ⟨g, i * 5 + 4, none⟩ = some (.int .i64 xs[i].f4)) ∧ ∀ q, W.frozen? ⟨g, i * 5 + q, none⟩ = false := by
 have hn := (Kd.R_reads' hR).1
 obtain ⟨cs, hcl, hM, hcc, hfr⟩ := Kd.R_elem hR z47 (i : Int) (by omega) (by omega)
 rw [Int.toNat_natCast] at hM hcc
 rw [List.getD_eq_getElem?_getD, List.getElem?_eq_getElem hi, Option.getD_some] at hM
 obtain rfl := k47_openM hM
 exact ⟨⟨hcc 0 _ rfl, hcc 1 _ rfl, hcc 2 _ rfl, hcc 3 _ rfl, hcc 4 _ rfl⟩, fun q => by have := hfr q; rwa [Int.toNat_natCast] at this⟩
set_option maxHeartbeats 4000000 in
set_option maxRecDepth 100000 in
theorem compact_walk (A : Option Addr) (cap : Nat) (xs : List S47) (w : World) (base : Nat) (ok : Nat → Prop) (hR : Kd.R k47 47 w base ok (.slice A xs.length cap) xs) (hl : xs.length ≤ 1000000000000) :
  Calls Try.prog 43 #[.slice A xs.length cap] w fun e w' => ∃ v0_ : Value, e = .returned (v0_) ∧ Kd.R k47 47 w' base ok v0_ (dedup xs) ∧ w.grownBy w' (Value.slice A xs.length cap).ownBlock := by
 have hu47 := Try.underlying47
 have HL := Aside0.mk hl
 have HB := Aside0.mk (World.grownBy.refl w (Value.slice A xs.length cap).ownBlock)
 clear hl
 by_cases h2 : xs.length < 2
 ·have HR := Aside0.mk hR
  have h3 : (xs.length : Int) < 2 := by omega
  have HD := Aside0.mk (show dedup xs = xs by
   match xs, h2 with
   | [], _ => rfl
   | [_], _ => rfl
   | _ :: _ :: _, h => simp at h; omega)
  clear hR h2
  go_enter Try.func43, Try.ntmps43
  go_wp2
  go_ret
  exact ⟨_, rfl, by rw [HD.out]; exact HR.out, HB.out⟩
 ·obtain ⟨g, cap', e, hb, hlt, _⟩ := Kd.R_form hR (by omega)
  injection e with e1 e2 e3
  subst e1
  subst e3
  clear e2
  replace HB := Aside0.mk (show w.grownBy w (some g) from World.grownBy.refl w _)
  have HR0 := Aside0.mk hR
  have HG := Aside0.mk (And.intro hb hlt)
  have H2 := Aside0.mk h2
  have h3 : ¬ (xs.length : Int) < 2 := by omega
  clear hR hb hlt h2
  go_enter Try.func43, Try.ntmps43
  go_wp2
  go_loopg [3] (xs.length - 1) (fun kq v3 wr => ∃ j : Nat, v3 = .int .i64 ((j + 1 : Nat) : Int) ∧ Aside0 (j + 1 + kq = xs.length) ∧ Aside0 (dedup (xs.take (j + 1)) = xs.take (j + 1)) ∧ Aside0 (Kd.R k47 47 wr base ok (.slice (some ⟨g, 0, none⟩) xs.length cap) xs) ∧ Aside0 (w.grownBy wr (some g)))
  case atStart => exact ⟨0, rfl, ⟨by have := H2.out; omega⟩, ⟨by have := H2.out; match xs, this with | [], h => simp at h | x :: l, _ => rfl⟩, HR0, HB⟩
  case round =>
   clear HR0 HB
   obtain ⟨j, rfl, HI, HD, HR, HB⟩ := hrel
   obtain ⟨m, hm⟩ : ∃ m, m = j + 1 := ⟨_, rfl⟩
   rw [← hm]
   have HM := Aside0.mk hm
   by_cases hj : j + 1 < xs.length
   ·cases gk with
    | zero => exact absurd HI.out (by omega)
    | succ k1 =>
     have hm0 : (m : Int) < (xs.length : Int) := by omega
     have hj0 : (j : Int) < (xs.length : Int) := by omega
     have hw : wrap64 ((m : Int) - 1) = (j : Int) := by have := HL.out; unfold wrap64; omega
     have hw2 : IntKind.i64.wrap ((m : Int) - 1) = (j : Int) := (i64_w _).trans hw
     have HW := Aside0.mk (show wrap64 ((m : Int) + 1) = ((j + 1 + 1 : Nat) : Int) by have := HL.out; unfold wrap64; omega)
     obtain ⟨⟨a0, a1, a2, a3, a4⟩, _⟩ := tok_cells HR.out (j + 1) hj
     obtain ⟨⟨b0, b1, b2, b3, b4⟩, _⟩ := tok_cells HR.out j (by omega)
     have hs0 := dedup_step xs j hj
     obtain ⟨x, hx⟩ : ∃ x, x = xs[j + 1] := ⟨_, rfl⟩
     obtain ⟨y, hy⟩ : ∃ y, y = xs[j] := ⟨_, rfl⟩
     rw [← hx] at a0 a1 a2 a3 a4 hs0
     rw [← hy] at b0 b1 b2 b3 b4 hs0
     rw [← hm] at a0 a1 a2 a3 a4
     have HS := Aside0.mk hs0
     have HX := Aside0.mk hx
     clear hm hx hy hs0
     cases hs : sameT x y with
     | false =>
      have hs2 := hs
      unfold sameT at hs2
      rw [hs, if_neg (by decide)] at HS
      go_wp2_with fail
      repeat (go_quiet (fail); try go_wp2)
      go_roundg k1
      case measure => omega
      case rel => exact ⟨j + 1, by rw [HW.out], ⟨by have := HI.out; omega⟩, ⟨by rw [HS.out, HD.out, HX.out]; exact (take_snoc xs (j + 1) hj).symm⟩, ⟨Kd.R_drewN HR.out nq⟩, ⟨World.grownBy.trans HB.out (grown_of_below (pw_below_drewN (Below.refl _ _) nq) _)⟩⟩
     | true =>
      have hs2 := hs
      unfold sameT at hs2
      rw [hs, if_pos rfl] at HS
      have hcm : ¬ cap = m := by have := (Kd.R_reads' HR.out).2.1; have := HM.out; omega
      go_wp2_with fail
      repeat (go_quiet (fail); try go_wp2)
      have HZ := Aside0.mk (show xs.take m = dedup (xs.take (m + 0 + 1)) by rw [HM.out]; exact (HS.out.trans HD.out).symm)
      have HR2 := Aside0.mk (Kd.R_drewN HR.out nq)
      have HB2 := Aside0.mk (World.grownBy.trans HB.out (grown_of_below (pw_below_drewN (Below.refl wr.heap.size wr) nq) (some g)))
      have HCM := Aside0.mk hcm
      clear HR HB HS HX HD hs hs2 a0 a1 a2 a3 a4 b0 b1 b2 b3 b4 hw hw2 hcm HW
      generalize World.drewN wr nq = W2 at HR2 HB2 ⊢
      have HI2 := Aside0.mk (show m < xs.length by have := HM.out; omega)
      clear hj0 HI
      go_loopg [3, 5] (xs.length - m - 1) (fun kq v3 v5 wr => ∃ (k q1 : Nat) (zs : List S47), v3 = .int .i64 (k : Int) ∧ v5 = .int .i64 ((q1 + 1 : Nat) : Int) ∧ Aside0 (m + q1 + 1 + kq = xs.length) ∧ Aside0 (m ≤ k ∧ k ≤ m + q1) ∧ Aside0 (zs.length = xs.length ∧ (∀ i, m + q1 ≤ i → zs[i]? = xs[i]?) ∧ zs.take k = dedup (xs.take (m + q1 + 1))) ∧ Aside0 (Kd.R k47 47 wr base ok (.slice (some ⟨g, 0, none⟩) xs.length cap) zs) ∧ Aside0 (w.grownBy wr (some g)))
      case atStart => exact ⟨m, 0, xs, rfl, rfl, ⟨by have := HI2.out; omega⟩, ⟨by omega⟩, ⟨rfl, fun _ _ => rfl, HZ.out⟩, HR2, HB2⟩
      case round =>
       clear HZ HR2 HB2
       obtain ⟨k, q1, zs, rfl, rfl, HI, HK, HZ, HR, HB⟩ := hrel
       obtain ⟨q, hq⟩ : ∃ q, q = q1 + 1 := ⟨_, rfl⟩
       rw [← hq]
       have HQ := Aside0.mk hq
       by_cases hj : m + q1 + 1 < xs.length
       ·cases gk with
        | zero => exact absurd HI.out (by omega)
        | succ k2 =>
         have hk0 : (k : Int) < (xs.length : Int) := by have := HK.out; omega
         have hq0 : (q : Int) < ((xs.length - m : Nat) : Int) := by have := HI2.out; omega
         have hq1 : (q1 : Int) < ((xs.length - m : Nat) : Int) := by have := HI2.out; omega
         have hq2 : q < xs.length - m := by omega
         have hq3 : q1 < xs.length - m := by omega
         have hw : wrap64 ((q : Int) - 1) = (q1 : Int) := by have := HL.out; unfold wrap64; omega
         have hw2 : IntKind.i64.wrap ((q : Int) - 1) = (q1 : Int) := (i64_w _).trans hw
         have HW := Aside0.mk (show wrap64 ((q : Int) + 1) = ((q1 + 1 + 1 : Nat) : Int) by have := HL.out; unfold wrap64; omega)
         have HW3 := Aside0.mk (show wrap64 ((k : Int) + 1) = ((k + 1 : Nat) : Int) by have := HL.out; have := HK.out; unfold wrap64; omega)
         obtain ⟨⟨a0, a1, a2, a3, a4⟩, _⟩ := tok_cells HR.out (m + q1 + 1) (by have := HZ.out.1; omega)
         obtain ⟨⟨b0, b1, b2, b3, b4⟩, _⟩ := tok_cells HR.out (m + q1) (by have := HZ.out.1; omega)
         have hs0 := dedup_step xs (m + q1) hj
         have hx1 : zs[m + q1 + 1]'(by have := HZ.out.1; omega) = xs[m + q1 + 1] := Option.some.inj (by rw [← List.getElem?_eq_getElem, ← List.getElem?_eq_getElem]; exact HZ.out.2.1 _ (by omega))
         have hy1 : zs[m + q1]'(by have := HZ.out.1; omega) = xs[m + q1] := Option.some.inj (by rw [← List.getElem?_eq_getElem, ← List.getElem?_eq_getElem]; exact HZ.out.2.1 _ (by omega))
         obtain ⟨x, hx⟩ : ∃ x, x = xs[m + q1 + 1] := ⟨_, rfl⟩
         obtain ⟨y, hy⟩ : ∃ y, y = xs[m + q1] := ⟨_, rfl⟩
         rw [hx1, ← hx, show (m + q1 + 1) * 5 = m * 5 + q * 5 by omega] at a0 a1 a2 a3 a4
         rw [hy1, ← hy, show (m + q1) * 5 = m * 5 + q1 * 5 by omega] at b0 b1 b2 b3 b4
         rw [← hx, ← hy] at hs0
         have HS := Aside0.mk hs0
         have HX := Aside0.mk hx
         clear hq hx hy hs0 hx1 hy1
         cases hs : sameT x y with
         | true =>
          have hs2 := hs
          unfold sameT at hs2
          rw [hs, if_pos rfl] at HS
          go_wp2_with fail
          repeat (go_quiet (fail); try go_wp2)
          go_roundg k2
          case measure => omega
          case rel => exact ⟨k, q1 + 1, zs, rfl, by rw [HW.out], ⟨by have := HI.out; omega⟩, ⟨by have := HK.out; omega⟩, ⟨HZ.out.1, fun i hi => HZ.out.2.1 i (by omega), by rw [HZ.out.2.2]; exact HS.out.symm⟩, ⟨Kd.R_drewN HR.out nq⟩, ⟨World.grownBy.trans HB.out (grown_of_below (pw_below_drewN (Below.refl _ _) nq) _)⟩⟩
         | false =>
          have hs2 := hs
          unfold sameT at hs2
          rw [hs, if_neg (by decide)] at HS
          go_wp2_with fail
          go_quiet (fail)
          have HR2 := Aside0.mk (Kd.R_drewN HR.out nq)
          have HB2 := Aside0.mk (World.grownBy.trans HB.out (grown_of_below (pw_below_drewN (Below.refl wr.heap.size wr) nq) (some g)))
          have HG2 := Aside0.mk (show base ≤ (World.drewN wr nq).heap.size from Nat.le_trans (Nat.le_of_lt (Nat.lt_of_le_of_lt HG.out.1 HG.out.2)) HB.out.size)
          obtain ⟨cs, hcl, hM, hcc, hfr⟩ := Kd.R_elem HR2.out z47 (k : Int) (by omega) (by omega)
          clear hM hfr
          have HCL := Aside0.mk hcl
          have HCC := Aside0.mk hcc
          clear hcl hcc
          go_wp2_with (first
           | ((with_reducible refine gate_store (t := 47) (p := 51) rfl ?_); refine Kd.R_store k47 (w0 := World.drewN wr nq) base rfl rfl 47 (.tmp 51) (.tmp 50) rfl 47 (o' := k * 5) (k : Int) 0 zs x (.agg #[.int .i64 x.f0, .int .i64 x.f1, .int .i64 x.f2, .int .i64 x.f3, .int .i64 x.f4]) [.int .i64 x.f0, .int .i64 x.f1, .int .i64 x.f2, .int .i64 x.f3, .int .i64 x.f4] cs ok (fun _ => False) rfl ?hoff rfl rfl ?ht ?h1 HR2.out ?h0 ?hi HCL.out HCC.out (Nat.le_refl _) ?hM (fun _ h_ => h_.elim) (Below.refl _ _) ?_; (case hoff => rw [Int.toNat_natCast]; rfl); (case ht => kernel_rfl); (case h1 => intro q_ hq_; simp at hq_; rcases hq_ with h_ | h_ | h_ | h_ | h_ <;> subst h_ <;> rfl); (case h0 => omega); (case hi => omega); (case hM => have h5 : cs.length = 5 := HCL.out; rw [List.take_zero, List.nil_append, List.drop_eq_nil_of_le (by rw [h5]; exact Nat.le_refl _), List.append_nil]; exact k47_mkM _ _ _ x); intro w12 ho12 hb12 hg12; have HO12 := Aside0.mk ho12; have HB12 := Aside0.mk (World.grownBy.trans HB2.out hg12); clear ho12 hb12 hg12))
          go_roundg k2
          case measure => omega
          case rel =>
           rw [Int.toNat_natCast] at HO12
           refine ⟨k + 1, q1 + 1, zs.set k x, by rw [HW3.out], by rw [HW.out], ⟨by have := HI.out; omega⟩, ⟨by have := HK.out; omega⟩, ⟨by rw [List.length_set]; exact HZ.out.1, fun i hi => ?_, ?_⟩, HO12, HB12⟩
           ·rw [List.getElem?_set_ne (by have := HK.out; omega)]
            exact HZ.out.2.1 i (by omega)
           ·rw [take_snoc _ k (by rw [List.length_set]; have := HZ.out.1; have := HK.out; omega), List.getElem_set_self, List.take_set_of_le (Nat.le_refl _), HZ.out.2.2]
            exact HS.out.symm
       ·have hk1 : k < xs.length := by have := HK.out; have := HI2.out; have := HI.out; omega
        have hq0 : ¬ (q : Int) < ((xs.length - m : Nat) : Int) := by have := HI2.out; omega
        have hq2 : ¬ q < xs.length - m := by omega
        have hk0 : (k : Int) ≤ (xs.length : Int) := by omega
        have hkc : (k : Int) ≤ (cap : Int) := by have := (Kd.R_reads' HR.out).2.1; have := HZ.out.1; omega
        have hck : ¬ cap = k := by have := (Kd.R_reads' HR.out).2.1; have := HZ.out.1; omega
        have HCK := Aside0.mk (show xs.length ≤ cap by have := (Kd.R_reads' HR.out).2.1; have := HZ.out.1; omega)
        have hcl : ∀ ty, (Builtin.clear_ #[39] ty #[.slice (some ⟨g, k * 5, none⟩) (xs.length - k) (cap - k)]).run Try.prog wr = .ok (.tuple #[]) (wr.setCells g (k * 5) (List.replicate ((xs.length - k) * 5) (.int .i64 0))) := fun ty =>
         run_clear_tok wr ty g (k * 5) (xs.length - k) (cap - k) (by omega) (fun i hi => (own_cell HR.out (k * 5 + i) (by show k * 5 + i < cap * 5; have := HCK.out; omega)).1) (fun i hi => (own_cell HR.out (k * 5 + i) (by show k * 5 + i < cap * 5; have := HCK.out; omega)).2)
        have HE := Aside0.mk (show zs.take k = dedup xs by rw [HZ.out.2.2, List.take_of_length_le (by omega)])
        clear hk1
        go_wp2_with fail
        go_ret
        exact ⟨_, rfl, by rw [← HE.out]; exact R_beyond (Kd.R_take HR.out (by have := HZ.out.1; omega)) _ (Nat.le_refl _), World.grownBy.trans HB.out (grown_cells _ _)⟩
   ·have hm0 : ¬ (m : Int) < (xs.length : Int) := by omega
    go_wp2
    go_ret
    exact ⟨_, rfl, by rw [show dedup xs = xs by have h := HD.out; rw [List.take_of_length_le (by omega)] at h; exact h]; exact HR.out, HB.out⟩
end Go.Proofs.Ytgbnfjhmobeloaa.G
