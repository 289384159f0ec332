import Derived.Test.YtgbnfjhmobeloaaGx0
import Derived.Test.YtgbnfjhmobeloaaGx7
namespace Go.Proofs.Ytgbnfjhmobeloaa.G
open Go.RowKit Go.Proofs.YtgbnfjhmobeloaaW.PrintWords Go.Proofs.YtgbnfjhmobeloaaW.PrintLast Go.Proofs.YtgbnfjhmobeloaaW.PrintMore Go.Proofs.YtgbnfjhmobeloaaW.VWords
attribute [local go_sem] max2_int min2_int max_two min_two max_three min_three max_four min_four
set_option linter.unusedVariables false
set_option linter.unusedSimpArgs false
def slices_Clone_int_int.f (l0 : List Int) : Option (List Int) := if l0.length < 17592186044416 then some l0 else none
theorem slices_Clone_ok (l : List Int) (h : l.length < 17592186044416) : slices_Clone_int_int.f l = some l := by unfold slices_Clone_int_int.f; rw [if_pos h]
set_option maxHeartbeats 1000000 in
theorem slices_Clone_int_int.calls (A0 : Option Addr) (c0 : Nat) (l0 : List Int) (r : List Int) (w : World) (hr0 : Kd.C (Kd.int .i64) w A0 l0.length l0) (hc0 : l0.length ≤ c0) (h : slices_Clone_int_int.f l0 = some r) :
  Calls Try.prog 56 #[.slice A0 l0.length c0] w fun e w' => ∃ v0_ : Value, e = .returned (v0_) ∧ Kd.R (Kd.int .i64) 3 w' w.heap.size (fun _ => True) v0_ r ∧ Below w.heap.size w w' := by
 unfold slices_Clone_int_int.f at h
 by_cases hlim : ¬ l0.length < 17592186044416
 ·rw [if_neg hlim] at h
  exact absurd h (by simp)
 replace hlim := Decidable.not_not.1 hlim
 rw [if_pos hlim] at h
 obtain rfl := Option.some.inj h
 clear h
 have HB := Aside0.mk (Below.refl w.heap.size w)
 have LM := Aside0.mk hlim
 have HR := Aside0.mk hr0
 have HC := Aside0.mk hc0
 clear hlim hr0 hc0
 have hq := fun W => Lib.run_eql_slice_nil (P := Try.prog) W 25 3 A0 l0.length c0 0 0 Try.underlying25
 cases A0 with
 | none =>
  obtain rfl : l0 = [] := by
   rcases Nat.eq_zero_or_pos l0.length with h0 | h0
   ·exact List.eq_nil_of_length_eq_zero h0
   ·obtain ⟨ad, he, _⟩ := HR.out.2.2 h0
    cases he
  simp only [List.length_nil] at hq ⊢
  go_enter Try.func56, Try.ntmps56
  go_wp2
  go_ret
  exact ⟨_, rfl, Kd.R_nil _ _ _ _ _, HB.out⟩
 | some ad =>
  go_enter Try.func56, Try.ntmps56
  go_wp2_with (first
   | ((with_reducible refine gate_dst (N := 5) rfl ?_); refine Kd.R_lit (Kd.int .i64) (w0 := w) w.heap.size 3 ?hg (N := 5) ?hd (xs := ([] : List Int)) (inner := []) (ok := fun _ => True) (okp := fun _ => True) ?hr ?hp (fun _ hk => hk) trivial (Below.refl _ _) (Nat.le_refl _) (by simp) ?_; (case hd => rfl); (case hg => rfl); (case hr => first | (go_simp; done) | (go_simp; rfl)); (case hp => exact Reps.none _ _); intro v5 w5 ho5 hb5 hg5 hn5; have HO5 := Aside0.mk ho5; clear HB; have HB := Aside0.mk hb5; clear ho5 hb5 hg5 hn5)
   | ((with_reducible refine gate_builtin (b := .append) (xs := #[.tmp 5, .tmp 6]) rfl ?_); at_builtin; refine Kd.R_append_row (Value.int .i64) (0 : Int) (h1 := fun _ => rfl) (w0 := w) w.heap.size rfl (.tmp 5) (.tmp 6) 25 3 (.int .i64 0) 8 rfl Try.underlying25 info3 rfl (by decide) v5 ([] : List Int) l0 (some ad) l0.length c0 (fun _ => True) rfl rfl (fun _ _ => trivial) HO5.out ?aR HB.out (below_size HB.out) ?aL ?_; (case aR => exact Kd.C_below HR.out HB.out); (case aL => have := LM.out; simp only [List.length_nil]; omega); intro v7 w7 ho hb hg hat; have HO7 := Aside0.mk ho; clear HB; have HB := Aside0.mk hb; clear ho hb hg hat))
  go_ret
  exact ⟨_, rfl, by rw [List.nil_append] at HO7; exact HO7.out, HB.out⟩
def fold_Fold.f (a0 : ByteArray) : Option (List Int × List Int) :=
 if a0.size < 17592186044415 then some ((signsOf a0).map fun p => runeP p.2, (signsOf a0).map (fun p => (p.1 : Int)) ++ [(a0.size : Int)]) else none
set_option maxHeartbeats 4000000 in
set_option maxRecDepth 100000 in
theorem fold_Fold_walk (a0 : ByteArray) (hs : a0.size < 17592186044415) (r1 r2 : List Int) (hr1 : r1 = (signsOf a0).map fun p => runeP p.2) (hr2 : r2 = (signsOf a0).map (fun p => (p.1 : Int)) ++ [(a0.size : Int)]) (w : World) :
  Calls Try.prog 36 #[.string a0] w fun e w' => ∃ v0_ v1_ : Value, e = .returned (.tuple #[v0_, v1_]) ∧ Kd.R (Kd.int .i64) 3 w' w.heap.size (fun k_ => some k_ ≠ (v1_ : Value).ownBlock) v0_ r1 ∧ Kd.R (Kd.int .i64) 3 w' w.heap.size (fun k_ => some k_ ≠ (v0_ : Value).ownBlock) v1_ r2 ∧ Below w.heap.size w w' := by
 have HB := Aside0.mk (Below.refl w.heap.size w)
 have HS := Aside0.mk hs
 have HE := Aside0.mk (And.intro hr1 hr2)
 clear hs hr1 hr2
 go_enter Try.func36, Try.ntmps36
 go_wp2
 go_loopg [2, 3] a0.size (fun kq v2 v3 wr => ∃ (pos : Nat) (x2 x3 : List Int), Aside0 (wr.heap[w.heap.size]? = some (.stringIter a0 pos)) ∧ Aside0 (a0.size ≤ pos + kq ∧ x2.length + kq ≤ a0.size ∧ x3.length + kq ≤ a0.size) ∧ Aside0 (x2 ++ (signsFrom a0 kq pos).map (fun p => runeP p.2) = r1 ∧ x3 ++ (signsFrom a0 kq pos).map (fun p => (p.1 : Int)) ++ [(a0.size : Int)] = r2) ∧ Aside0 (Kd.R (Kd.int .i64) 3 wr w.heap.size (fun k_ => some k_ ≠ (v3 : Value).ownBlock) v2 x2) ∧ Aside0 (Kd.R (Kd.int .i64) 3 wr w.heap.size (fun k_ => some k_ ≠ (v2 : Value).ownBlock) v3 x3) ∧ Aside0 (Below w.heap.size w wr))
 case atStart =>
  refine ⟨0, [], [], ⟨?_⟩, ⟨by simp⟩, ⟨by rw [HE.out.1, HE.out.2]; exact ⟨rfl, rfl⟩⟩, ⟨Kd.R_nil _ _ _ _ _⟩, ⟨Kd.R_nil _ _ _ _ _⟩, ⟨?_⟩⟩
  ·simpa using World.iter_heap w a0 0
  ·exact (Below.refl _ w).alloc (Nat.le_refl _) _
 case round =>
  clear HE
  obtain ⟨pos, x2, x3, HI, HL, HX, HO2, HO3, HB1⟩ := hrel
  clear HB
  by_cases hp : pos < a0.size
  ·cases gk with
   | zero => exact absurd HL.out.1 (by omega)
   | succ k1 =>
    obtain ⟨q, wd, hq⟩ : ∃ q wd, Utf8.decode a0 pos = (q, wd) := ⟨_, _, rfl⟩
    have hq1 : q ≤ 2147483647 := by have := decode_le a0 pos; rw [hq] at this; exact this
    have HW := Aside0.mk (show 1 ≤ wd by have := decode_pos a0 pos hp; rw [hq] at this; exact this)
    have hnx : ∀ ty, (Instr.next (.pointer (some ⟨w.heap.size, 0, none⟩)) true ty).run Try.prog wr = _ := fun ty => Lib.run_next_any_at wr w.heap.size a0 pos ty HI.out hp
    rw [hq] at hnx
    simp only at hnx
    have HQ := Aside0.mk hq
    clear hq
    have HI2 := Aside0.mk (Lib.iterAt_heap wr w.heap.size a0 pos (pos + wd) HI.out)
    have HO22 := Aside0.mk (R_iter HI.out HO2.out (pos + wd))
    have HO32 := Aside0.mk (R_iter HI.out HO3.out (pos + wd))
    have HB2 := Aside0.mk (Lib.below_iterAt HB1.out (Nat.le_refl _) a0 (pos + wd))
    clear HI HO2 HO3 HB1
    have HL2 := Aside0.mk (show x2.length < 17592186044416 ∧ x3.length < 17592186044416 by have := HL.out; have := HS.out; omega)
    have HR := Aside0.mk (rune_ok (q : Int) (by omega) (by omega))
    go_wp2_with (first
     | ((with_reducible refine gate_callee (f := 55) rfl ?_); refine goesL_ (some 15) rfl rfl Try.func55 (by kernel_rfl) rfl #[.int .i64 (q : Int)] rfl (by (try simp only [List.map_toArray, List.map_cons, List.map_nil]); first | done | rfl) ?_; (with_reducible refine (fold_Rune.calls 40 (q : Int) (runeP (q : Int)) _ HR.out).mono ?_); rintro e w5 ⟨rfl, hb⟩; refine ⟨_, rfl, ?_⟩; have HI5 := Aside0.mk (iter_below HI2.out hb); have HO25 := Aside0.mk (Kd.R_below HO22.out hb); have HO35 := Aside0.mk (Kd.R_below HO32.out hb); have HB5 := Aside0.mk (below_step HB2.out hb); clear hb HI2 HO22 HO32 HB2)
     | ((with_reducible refine gate_builtin (b := .append) (xs := #[.tmp 12, .tmp 16]) rfl ?_); at_builtin; refine Kd.R_append (Kd.int .i64) (w0 := w) w.heap.size rfl (.tmp 12) (.tmp 16) 25 3 (.int .i64 0) 8 rfl Try.underlying25 info3 rfl (by decide) (by omega) u2 x2 (runeP (q : Int)) [.int .i64 (runeP (q : Int))] (fun k_ => some k_ ≠ (u3 : Value).ownBlock) (fun _ => False) rfl rfl ?aP (fun _ hk => hk.elim) ?aF HO25.out HB5.out (below_size HB5.out) ?aL ?_; (case aP => exact rfl); (case aF => exact (fun k_ hk => Kd.fresh' (Kd.R_lt HO35.out) k_ hk)); (case aL => have := HL2.out.1; omega); intro v6 w6 ho hb hg hat; have HI6 := Aside0.mk (iter_grown HI5.out HO25.out hg); have HO36 := Aside0.mk (Kd.R_after (ok := (fun _ => True)) (Kd.R_mono HO35.out (fun _ hk => ⟨trivial, hk⟩)) hg hat); have HB6 := Aside0.mk hb; have HO26 := Aside0.mk ho; clear ho hb hg hat HI5 HO25 HO35 HB5)
     | ((with_reducible refine gate_builtin (b := .append) (xs := #[.tmp 18, .tmp 20]) rfl ?_); at_builtin; refine Kd.R_append (Kd.int .i64) (w0 := w) w.heap.size rfl (.tmp 18) (.tmp 20) 25 3 (.int .i64 0) 8 rfl Try.underlying25 info3 rfl (by decide) (by omega) u3 x3 (pos : Int) [.int .i64 (pos : Int)] (fun k_ => some k_ ≠ (v6 : Value).ownBlock) (fun _ => False) rfl rfl ?aP (fun _ hk => hk.elim) ?aF (Kd.R_mono HO36.out (fun _ hk => hk.2)) HB6.out (below_size HB6.out) ?aL ?_; (case aP => exact rfl); (case aF => exact (fun k_ hk => Kd.fresh' (Kd.R_lt HO26.out) k_ hk)); (case aL => have := HL2.out.2; omega); intro v7 w7 ho hb hg hat; have HI7 := Aside0.mk (iter_grown HI6.out HO36.out hg); have HO27 := Aside0.mk (Kd.R_after (ok := (fun _ => True)) (Kd.R_mono HO26.out (fun _ hk => ⟨trivial, hk⟩)) hg hat); have HB7 := Aside0.mk hb; have HO37 := Aside0.mk ho; clear ho hb hg hat HI6 HO26 HO36 HB6))
    go_roundg k1
    case measure => omega
    case rel =>
     refine ⟨pos + wd, x2 ++ [runeP (q : Int)], x3 ++ [(pos : Int)], HI7, ⟨?_⟩, ⟨?_⟩, ⟨?_⟩, HO37, HB7⟩
     ·have := HL.out; have := HW.out; simp only [List.length_append, List.length_singleton]; omega
     ·have hx := HX.out
      simp only [signsFrom, if_pos hp, HQ.out, List.map_cons] at hx
      simpa using hx
     ·exact Kd.R_mono HO27.out (fun _ hk => hk.2)
  ·have hnx : ∀ ty, (Instr.next (.pointer (some ⟨w.heap.size, 0, none⟩)) true ty).run Try.prog wr = _ := fun ty => Lib.run_next_end_at wr w.heap.size a0 pos ty HI.out hp
   have HX2 := Aside0.mk (show r1 = x2 ∧ r2 = x3 ++ [(a0.size : Int)] by
    have hx := HX.out
    rw [signsFrom_more a0 gk pos hp] at hx
    simp only [List.map_nil, List.append_nil] at hx
    exact ⟨hx.1.symm, hx.2.symm⟩)
   have HL2 := Aside0.mk (show gk = gk ∧ x2.length < 17592186044416 ∧ x3.length < 17592186044415 by have := HL.out; have := HS.out; omega)
   clear HX HI
   obtain ⟨A2, c2, e2, hc2, hC2⟩ := Kd.R_reads HO2.out
   subst e2
   have HC2 := Aside0.mk hC2
   have HCc2 := Aside0.mk hc2
   clear hC2 hc2
   go_wp2_with (first
    | ((with_reducible refine gate_callee (f := 56) rfl ?_); refine goesL_ (some 23) rfl rfl Try.func56 (by kernel_rfl) rfl #[.slice A2 x2.length c2] rfl (by (try simp only [List.map_toArray, List.map_cons, List.map_nil]); first | done | rfl) ?_; (refine (slices_Clone_int_int.calls A2 c2 x2 x2 _ HC2.out HCc2.out (slices_Clone_ok x2 HL2.out.2.1)).mono ?_); rintro e w5 ⟨v5, rfl, ho5, hb⟩; refine ⟨_, rfl, ?_⟩; have HO35 := Aside0.mk (Kd.R_elder' HO3.out (Kd.R_base ho5) hb); have HO25 := Aside0.mk (Kd.R_lower (Kd.R_new' ho5 (Kd.R_lt HO3.out)) (below_size HB1.out)); have HB5 := Aside0.mk (below_step HB1.out hb); clear ho5 hb HO3 HO2 HB1 HC2 HCc2)
    | ((with_reducible refine gate_builtin (b := .append) (xs := #[.tmp 24, .tmp 27]) rfl ?_); at_builtin; refine Kd.R_append (Kd.int .i64) (w0 := w) w.heap.size rfl (.tmp 24) (.tmp 27) 25 3 (.int .i64 0) 8 rfl Try.underlying25 info3 rfl (by decide) (by omega) u3 x3 (a0.size : Int) [.int .i64 (a0.size : Int)] (fun k_ => some k_ ≠ (v5 : Value).ownBlock) (fun _ => False) rfl rfl ?aP (fun _ hk => hk.elim) ?aF (Kd.R_mono HO35.out (fun _ hk => hk.2)) HB5.out (below_size HB5.out) ?aL ?_; (case aP => exact rfl); (case aF => exact (fun k_ hk => Kd.fresh' (Kd.R_lt HO25.out) k_ hk)); (case aL => have := HL2.out.2.2; omega); intro v7 w7 ho hb hg hat; have HO27 := Aside0.mk (Kd.R_after (ok := (fun _ => True)) (Kd.R_mono HO25.out (fun _ hk => ⟨trivial, hk.2⟩)) hg hat); have HB7 := Aside0.mk hb; obtain ⟨A3, c3, e3, hc3, hC3⟩ := Kd.R_reads ho; subst e3; have HC3 := Aside0.mk hC3; have HCc3 := Aside0.mk hc3; have HO37 := Aside0.mk ho; clear ho hb hg hat hC3 hc3 HO25 HO35 HB5)
    | ((with_reducible refine gate_callee (f := 56) rfl ?_); refine goesL_ (some 29) rfl rfl Try.func56 (by kernel_rfl) rfl #[.slice A3 (x3 ++ [(a0.size : Int)]).length c3] rfl (by (try simp only [List.map_toArray, List.map_cons, List.map_nil]); first | done | rfl) ?_; (refine (slices_Clone_int_int.calls A3 c3 (x3 ++ [(a0.size : Int)]) (x3 ++ [(a0.size : Int)]) _ HC3.out HCc3.out (slices_Clone_ok _ (by have := HL2.out.2.2; simp only [List.length_append, List.length_singleton]; omega))).mono ?_); rintro e w8 ⟨v8, rfl, ho8, hb⟩; refine ⟨_, rfl, ?_⟩; have HO28 := Aside0.mk (Kd.R_elder' HO27.out (Kd.R_base ho8) hb); have HO38 := Aside0.mk (Kd.R_lower (Kd.R_new' ho8 (Kd.R_lt HO27.out)) (below_size HB7.out)); have HB8 := Aside0.mk (below_step HB7.out hb); clear ho8 hb HO27 HO37 HB7 HC3 HCc3))
   go_ret2
   obtain ⟨rfl, rfl⟩ := HX2.out
   exact ⟨_, _, rfl, Kd.R_mono HO28.out (fun _ hk => hk.2), Kd.R_mono HO38.out (fun _ hk => hk.2), HB8.out⟩
theorem fold_Fold.calls (a0 : ByteArray) (r1 : List Int) (r2 : List Int) (w : World) (h : fold_Fold.f a0 = some (r1, r2)) :
  Calls Try.prog 36 #[.string a0] w fun e w' => ∃ v0_ v1_ : Value, e = .returned (.tuple #[v0_, v1_]) ∧ Kd.R (Kd.int .i64) 3 w' w.heap.size (fun k_ => some k_ ≠ (v1_ : Value).ownBlock) v0_ r1 ∧ Kd.R (Kd.int .i64) 3 w' w.heap.size (fun k_ => some k_ ≠ (v0_ : Value).ownBlock) v1_ r2 ∧ Below w.heap.size w w' := by
 unfold fold_Fold.f at h
 by_cases hs : a0.size < 17592186044415
 ·rw [if_pos hs] at h
  have h2 := Option.some.inj h
  simp only [Prod.mk.injEq] at h2
  exact fold_Fold_walk a0 hs r1 r2 h2.1.symm h2.2.symm w
 ·rw [if_neg hs] at h
  exact absurd h (by simp)
def cmp_Or_int.l0 : Nat → Int → List Int → Int → Int → Option (Int)
 | 0, _, _, _, _ => none
 | k + 1, x3, x6, x7, x8 => if x8 < x7 then (if 0 ≤ x8 then (if x8 < (x6.length : Int) then (if (rd x6 x8) = x3 then (cmp_Or_int.l0 k x3 x6 x7 (wrap64 (x8 + 1))) else (some (rd x6 x8))) else (none)) else (none)) else (some x3)
def cmp_Or_int.f (k : Nat) (l0 : List Int) : Option (Int) := cmp_Or_int.l0 k 0 l0 (l0.length : Int) 0
theorem cmp_Or_int.mono_l : ∀ k, (∀ y0 y1 y2 y3, LeO (cmp_Or_int.l0 k y0 y1 y2 y3) (cmp_Or_int.l0 (k + 1) y0 y1 y2 y3))
 | 0 => fun _ _ _ _ r h => by simp [cmp_Or_int.l0] at h
 | k + 1 => by
  have ih0 := cmp_Or_int.mono_l k
  ·intro y0 y1 y2 y3
   unfold cmp_Or_int.l0
   repeat' first
   | (with_reducible exact ih0 _ _ _ _)
   | (with_reducible exact LeO.refl _)
   | (with_reducible exact LeO.none _)
   | (with_reducible refine LeO.ite ?_ ?_)
   | (with_reducible refine LeO.bind ?_ (fun _ => ?_))
   | exact ih0 _ _ _ _
   | exact LeO.none _
   | refine LeO.ite ?_ ?_
   | refine LeO.bind ?_ (fun _ => ?_)
def cmp_isNaN_int.f (a0 : Int) : Option (Bool) := some (a0 != a0)
set_option maxHeartbeats 8000000 in
set_option maxRecDepth 100000 in
theorem cmp_isNaN_int.calls (a0 : Int) (r : Bool) (w : World) (h : cmp_isNaN_int.f a0 = some r) :
  Calls Try.prog 89 #[.int .i64 a0] w fun e w' => e = .returned (.bool r) ∧ Drawn0 w w' := by
 have H : (some (a0 != a0)) = some r := h
 clear h
 obtain rfl := Option.some.inj H
 go_enter Try.func89, Try.ntmps89
 go_wp2
 go_ret
 exact ⟨by first | rfl | (simp; done) | (simp [*]; done), by repeat (first | exact Drawn0.refl _ | apply Drawn0.step)⟩
def cmp_Compare_int.f (a0 : Int) (a1 : Int) : Option (Int) := (cmp_isNaN_int.f a0).bind fun t144 => ((cmp_isNaN_int.f a1).bind fun t145 => (if t144 = true then (if t145 = true then (some 0) else (some (-1))) else (if t145 = true then (some 1) else (if a0 < a1 then (some (-1)) else (if a0 > a1 then (some 1) else (some 0))))))
set_option maxHeartbeats 8000000 in
set_option maxRecDepth 100000 in
theorem cmp_Compare_int.calls (a0 : Int) (a1 : Int) (r : Int) (w : World) (h : cmp_Compare_int.f a0 a1 = some r) :
  Calls Try.prog 64 #[.int .i64 a0, .int .i64 a1] w fun e w' => e = .returned (.int .i64 r) ∧ Drawn0 w w' := by
 have H : ((cmp_isNaN_int.f a0).bind fun t144 => ((cmp_isNaN_int.f a1).bind fun t145 => (if t144 = true then (if t145 = true then (some 0) else (some (-1))) else (if t145 = true then (some 1) else (if a0 < a1 then (some (-1)) else (if a0 > a1 then (some 1) else (some 0))))))) = some r := h
 clear h
 replace H := Option.bind_eq_some_iff.mp H
 obtain ⟨t144, A30, H⟩ := H
 replace H : ((cmp_isNaN_int.f a1).bind fun t145 => (if t144 = true then (if t145 = true then (some 0) else (some (-1))) else (if t145 = true then (some 1) else (if a0 < a1 then (some (-1)) else (if a0 > a1 then (some 1) else (some 0)))))) = some r := H
 have A3 := Aside0.mk A30
 clear A30
 replace H := Option.bind_eq_some_iff.mp H
 obtain ⟨t145, A40, H⟩ := H
 replace H : (if t144 = true then (if t145 = true then (some 0) else (some (-1))) else (if t145 = true then (some 1) else (if a0 < a1 then (some (-1)) else (if a0 > a1 then (some 1) else (some 0))))) = some r := H
 have A4 := Aside0.mk A40
 clear A40
 by_cases c5 : t144 = true
 ·subst c5
  have H1 : (if t145 = true then (some 0) else (some (-1))) = some r := by rw [if_pos rfl] at H; exact H
  clear H
  have H := H1
  clear H1
  by_cases c6 : t145 = true
  ·subst c6
   have H1 : (some 0) = some r := by rw [if_pos rfl] at H; exact H
   clear H
   have H := H1
   clear H1
   obtain rfl := Option.some.inj H
   go_enter Try.func64, Try.ntmps64
   go_wp2_with (first | ((with_reducible refine gate_callee (f := 89) rfl ?_); refine goesL_ (some 8) rfl rfl Try.func89 (by kernel_rfl) rfl #[.int .i64 a0] rfl (by (try simp only [List.map_toArray, List.map_cons, List.map_nil]); first | done | rfl | (simp only [List.length_drop, List.length_take]; rfl)) ?_; (with_reducible refine (cmp_isNaN_int.calls a0 true _ A3.out).mono ?_); rintro e w' ⟨rfl, ⟨nd, rfl⟩⟩; refine ⟨_, rfl, ?_⟩) | ((with_reducible refine gate_callee (f := 89) rfl ?_); refine goesL_ (some 10) rfl rfl Try.func89 (by kernel_rfl) rfl #[.int .i64 a1] rfl (by (try simp only [List.map_toArray, List.map_cons, List.map_nil]); first | done | rfl | (simp only [List.length_drop, List.length_take]; rfl)) ?_; (with_reducible refine (cmp_isNaN_int.calls a1 true _ A4.out).mono ?_); rintro e w' ⟨rfl, ⟨nd, rfl⟩⟩; refine ⟨_, rfl, ?_⟩))
   go_ret
   exact ⟨by first | rfl | (simp; done) | (simp [*]; done), by repeat (first | exact Drawn0.refl _ | apply Drawn0.step)⟩
  ·replace c6 := Bool.eq_false_iff.mpr c6
   subst c6
   have H1 : (some (-1)) = some r := by rw [if_neg (show ¬ (false = true) by decide)] at H; exact H
   clear H
   have H := H1
   clear H1
   obtain rfl := Option.some.inj H
   go_enter Try.func64, Try.ntmps64
   go_wp2_with (first | ((with_reducible refine gate_callee (f := 89) rfl ?_); refine goesL_ (some 8) rfl rfl Try.func89 (by kernel_rfl) rfl #[.int .i64 a0] rfl (by (try simp only [List.map_toArray, List.map_cons, List.map_nil]); first | done | rfl | (simp only [List.length_drop, List.length_take]; rfl)) ?_; (with_reducible refine (cmp_isNaN_int.calls a0 true _ A3.out).mono ?_); rintro e w' ⟨rfl, ⟨nd, rfl⟩⟩; refine ⟨_, rfl, ?_⟩) | ((with_reducible refine gate_callee (f := 89) rfl ?_); refine goesL_ (some 10) rfl rfl Try.func89 (by kernel_rfl) rfl #[.int .i64 a1] rfl (by (try simp only [List.map_toArray, List.map_cons, List.map_nil]); first | done | rfl | (simp only [List.length_drop, List.length_take]; rfl)) ?_; (with_reducible refine (cmp_isNaN_int.calls a1 false _ A4.out).mono ?_); rintro e w' ⟨rfl, ⟨nd, rfl⟩⟩; refine ⟨_, rfl, ?_⟩))
   go_ret
   exact ⟨by first | rfl | (simp; done) | (simp [*]; done), by repeat (first | exact Drawn0.refl _ | apply Drawn0.step)⟩
 ·replace c5 := Bool.eq_false_iff.mpr c5
  subst c5
  have H1 : (if t145 = true then (some 1) else (if a0 < a1 then (some (-1)) else (if a0 > a1 then (some 1) else (some 0)))) = some r := by rw [if_neg (show ¬ (false = true) by decide)] at H; exact H
  clear H
  have H := H1
  clear H1
  by_cases c7 : t145 = true
  ·subst c7
   have H1 : (some 1) = some r := by rw [if_pos rfl] at H; exact H
   clear H
   have H := H1
   clear H1
   obtain rfl := Option.some.inj H
   go_enter Try.func64, Try.ntmps64
   go_wp2_with (first | ((with_reducible refine gate_callee (f := 89) rfl ?_); refine goesL_ (some 8) rfl rfl Try.func89 (by kernel_rfl) rfl #[.int .i64 a0] rfl (by (try simp only [List.map_toArray, List.map_cons, List.map_nil]); first | done | rfl | (simp only [List.length_drop, List.length_take]; rfl)) ?_; (with_reducible refine (cmp_isNaN_int.calls a0 false _ A3.out).mono ?_); rintro e w' ⟨rfl, ⟨nd, rfl⟩⟩; refine ⟨_, rfl, ?_⟩) | ((with_reducible refine gate_callee (f := 89) rfl ?_); refine goesL_ (some 10) rfl rfl Try.func89 (by kernel_rfl) rfl #[.int .i64 a1] rfl (by (try simp only [List.map_toArray, List.map_cons, List.map_nil]); first | done | rfl | (simp only [List.length_drop, List.length_take]; rfl)) ?_; (with_reducible refine (cmp_isNaN_int.calls a1 true _ A4.out).mono ?_); rintro e w' ⟨rfl, ⟨nd, rfl⟩⟩; refine ⟨_, rfl, ?_⟩))
   go_ret
   exact ⟨by first | rfl | (simp; done) | (simp [*]; done), by repeat (first | exact Drawn0.refl _ | apply Drawn0.step)⟩
  ·replace c7 := Bool.eq_false_iff.mpr c7
   subst c7
   have H1 : (if a0 < a1 then (some (-1)) else (if a0 > a1 then (some 1) else (some 0))) = some r := by rw [if_neg (show ¬ (false = true) by decide)] at H; exact H
   clear H
   have H := H1
   clear H1
   by_cases c8 : a0 < a1
   ·rw [if_pos c8] at H
    have c8b0 : decide (a0 < a1) = true := decide_eq_true c8
    clear c8
    obtain rfl := Option.some.inj H
    go_enter Try.func64, Try.ntmps64
    go_wp2_with (first | ((with_reducible refine gate_callee (f := 89) rfl ?_); refine goesL_ (some 8) rfl rfl Try.func89 (by kernel_rfl) rfl #[.int .i64 a0] rfl (by (try simp only [List.map_toArray, List.map_cons, List.map_nil]); first | done | rfl | (simp only [List.length_drop, List.length_take]; rfl)) ?_; (with_reducible refine (cmp_isNaN_int.calls a0 false _ A3.out).mono ?_); rintro e w' ⟨rfl, ⟨nd, rfl⟩⟩; refine ⟨_, rfl, ?_⟩) | ((with_reducible refine gate_callee (f := 89) rfl ?_); refine goesL_ (some 10) rfl rfl Try.func89 (by kernel_rfl) rfl #[.int .i64 a1] rfl (by (try simp only [List.map_toArray, List.map_cons, List.map_nil]); first | done | rfl | (simp only [List.length_drop, List.length_take]; rfl)) ?_; (with_reducible refine (cmp_isNaN_int.calls a1 false _ A4.out).mono ?_); rintro e w' ⟨rfl, ⟨nd, rfl⟩⟩; refine ⟨_, rfl, ?_⟩))
    go_ret
    exact ⟨by first | rfl | (simp; done) | (simp [*]; done), by repeat (first | exact Drawn0.refl _ | apply Drawn0.step)⟩
   ·rw [if_neg c8] at H
    have c8b0 : decide (a0 < a1) = false := decide_eq_false c8
    clear c8
    by_cases c9 : a0 > a1
    ·rw [if_pos c9] at H
     have c9b0 : decide (a1 < a0) = true := decide_eq_true c9
     clear c9
     obtain rfl := Option.some.inj H
     go_enter Try.func64, Try.ntmps64
     go_wp2_with (first | ((with_reducible refine gate_callee (f := 89) rfl ?_); refine goesL_ (some 8) rfl rfl Try.func89 (by kernel_rfl) rfl #[.int .i64 a0] rfl (by (try simp only [List.map_toArray, List.map_cons, List.map_nil]); first | done | rfl | (simp only [List.length_drop, List.length_take]; rfl)) ?_; (with_reducible refine (cmp_isNaN_int.calls a0 false _ A3.out).mono ?_); rintro e w' ⟨rfl, ⟨nd, rfl⟩⟩; refine ⟨_, rfl, ?_⟩) | ((with_reducible refine gate_callee (f := 89) rfl ?_); refine goesL_ (some 10) rfl rfl Try.func89 (by kernel_rfl) rfl #[.int .i64 a1] rfl (by (try simp only [List.map_toArray, List.map_cons, List.map_nil]); first | done | rfl | (simp only [List.length_drop, List.length_take]; rfl)) ?_; (with_reducible refine (cmp_isNaN_int.calls a1 false _ A4.out).mono ?_); rintro e w' ⟨rfl, ⟨nd, rfl⟩⟩; refine ⟨_, rfl, ?_⟩))
     go_ret
     exact ⟨by first | rfl | (simp; done) | (simp [*]; done), by repeat (first | exact Drawn0.refl _ | apply Drawn0.step)⟩
    ·rw [if_neg c9] at H
     have c9b0 : decide (a1 < a0) = false := decide_eq_false c9
     clear c9
     obtain rfl := Option.some.inj H
     go_enter Try.func64, Try.ntmps64
     go_wp2_with (first | ((with_reducible refine gate_callee (f := 89) rfl ?_); refine goesL_ (some 8) rfl rfl Try.func89 (by kernel_rfl) rfl #[.int .i64 a0] rfl (by (try simp only [List.map_toArray, List.map_cons, List.map_nil]); first | done | rfl | (simp only [List.length_drop, List.length_take]; rfl)) ?_; (with_reducible refine (cmp_isNaN_int.calls a0 false _ A3.out).mono ?_); rintro e w' ⟨rfl, ⟨nd, rfl⟩⟩; refine ⟨_, rfl, ?_⟩) | ((with_reducible refine gate_callee (f := 89) rfl ?_); refine goesL_ (some 10) rfl rfl Try.func89 (by kernel_rfl) rfl #[.int .i64 a1] rfl (by (try simp only [List.map_toArray, List.map_cons, List.map_nil]); first | done | rfl | (simp only [List.length_drop, List.length_take]; rfl)) ?_; (with_reducible refine (cmp_isNaN_int.calls a1 false _ A4.out).mono ?_); rintro e w' ⟨rfl, ⟨nd, rfl⟩⟩; refine ⟨_, rfl, ?_⟩))
     go_ret
     exact ⟨by first | rfl | (simp; done) | (simp [*]; done), by repeat (first | exact Drawn0.refl _ | apply Drawn0.step)⟩
end Go.Proofs.Ytgbnfjhmobeloaa.G
