-- printed by wip/tool/gprint.py, a program of this work, out of the translation; Lean checks it
import Derived.Test.YtmpmjghhikdefaaGx0
import Derived.Test.YtmpmjghhikdefaaGx2
import Derived.Test.YtmpmjghhikdefaaGx4
namespace Go.Proofs.Ytmpmjghhikdefaa.G
open Go.RowKit Go.Proofs.YtmpmjghhikdefaaW.PrintWords Go.Proofs.YtmpmjghhikdefaaW.PrintLast Go.Proofs.YtmpmjghhikdefaaW.PrintMore Go.Proofs.YtmpmjghhikdefaaW.VWords
attribute [local go_sem] max2_int min2_int max_two min_two max_three min_three max_four min_four   -- for this text's walks alone
set_option linter.unusedVariables false
set_option linter.unusedSimpArgs false

/-! ### utf8_AppendRune: function 29 -/
def utf8_AppendRune.f (k : Nat) (l0 : List Int) (a1 : Int) : Option (List Int) := if ((a1) % 4294967296) ≤ 127 then (if l0.length < 140737488355328 then (some (l0 ++ [(a1) % 256])) else (none)) else ((utf8_appendRuneNonASCII.f k l0 a1).bind fun t145 => (some t145))
theorem utf8_AppendRune.mono : ∀ a0 a1 k, LeO (utf8_AppendRune.f k a0 a1) (utf8_AppendRune.f (k + 1) a0 a1) := by
  intro a0 a1 k
  unfold utf8_AppendRune.f
  repeat' first
      | (with_reducible exact utf8_appendRuneNonASCII.mono _ _ _)
      | (with_reducible exact LeO.refl _)
      | (with_reducible exact LeO.none _)
      | (with_reducible refine LeO.ite ?_ ?_)
      | (with_reducible refine LeO.bind ?_ (fun _ => ?_))
      | exact utf8_appendRuneNonASCII.mono _ _ _
      | exact LeO.none _
      | refine LeO.ite ?_ ?_
      | refine LeO.bind ?_ (fun _ => ?_)
set_option maxHeartbeats 8000000 in
set_option maxRecDepth 100000 in
theorem utf8_AppendRune.calls (k : Nat) (P0_ : Nat → Prop) (u9000_ : Value) (l0 : List Int) (a1 : Int) (r : List Int) (w0 w : World) (hB : Below w0.heap.size w0 w) (ho0 : Kd.R (Kd.int .u8) 5 w w0.heap.size P0_ u9000_ l0) (h : utf8_AppendRune.f k l0 a1 = some r) :
    Calls Try.prog 29 #[u9000_, .int .i32 a1] w fun e w' => ∃ v0_ : Value, e = .returned (v0_) ∧ Kd.R (Kd.int .u8) 5 w' w0.heap.size (fun k_ => (P0_ k_ ∨ w.heap.size ≤ k_)) v0_ r ∧ Below w0.heap.size w0 w' ∧ Kept w w' (fun k_ => P0_ k_) := by
  have HO0 := Aside0.mk (show Kd.R (Kd.int .u8) 5 w w0.heap.size (fun k_ => (P0_ k_ ∨ w.heap.size ≤ k_)) u9000_ l0 from Kd.R_mono ho0 (fun k_ hk => (.inl hk)))
  have HK := Aside0.mk (Kept.refl w (fun k_ => P0_ k_))
  have HW0 := Aside0.mk hB.size
  have HB := Aside0.mk hB
  clear hB
  have H : (if ((a1) % 4294967296) ≤ 127 then (if l0.length < 140737488355328 then (some (l0 ++ [(a1) % 256])) else (none)) else ((utf8_appendRuneNonASCII.f k l0 a1).bind fun t145 => (some t145))) = some r := h
  clear h
  by_cases c3 : ((a1) % 4294967296) ≤ 127
  · rw [if_pos c3] at H
    have c3b0 : decide (((a1) % 4294967296) ≤ 127) = true := decide_eq_true c3
    clear c3
    by_cases c4 : l0.length < 140737488355328
    · rw [if_pos c4] at H
      have LMc4 := Aside0.mk c4
      clear c4
      obtain ⟨y142, hy142⟩ : ∃ y_ : List Int, y_ = (l0 ++ [(a1) % 256]) := ⟨_, rfl⟩
      replace H : (some y142) = some r := by first | (rw [hy142]; with_reducible exact H) | (have H2_ := (Option.bind_some _ _).symm.trans H; rw [hy142]; with_reducible exact H2_) | (have H2_ := (Option.bind_some _ _).symm.trans H; with_reducible exact H2_) | with_reducible exact H | (rw [hy142]; exact H) | exact H
      have Ny142 := Aside0.mk hy142
      clear hy142
      obtain rfl := Option.some.inj H
      go_enter Try.func29, Try.ntmps29
      go_wp2_with (first | ((with_reducible refine gate_builtin (b := .append) (xs := #[.tmp 8, .tmp 11]) rfl ?_); at_builtin; refine Kd.R_append (Kd.int .u8) (w0 := w0) w0.heap.size rfl (.tmp 8) (.tmp 11) 23 5 (.int .u8 0) 1 rfl Try.underlying23 info5 rfl (by decide) (by omega) u9000_ l0 ((a1) % 256) [.int .u8 ((a1) % 256)] (fun k_ => (P0_ k_ ∨ w.heap.size ≤ k_)) (fun _ => False) rfl rfl ?aP (fun _ hk => hk.elim) ?aF ?aO ?aB ?aS ?aL ?_; (case aP => exact rfl); (case aB => exact (by repeat (first | (with_reducible first | exact HB.out | apply below_alloc | apply pw_below_drewN | apply below_drew1) | exact HB.out))); (case aF => exact (fun k_ hk => (.inr (Nat.le_trans (by first | exact HK.out.1 | exact (show Kept w _ (fun k_ => P0_ k_) from by repeat (first | (with_reducible first | exact HK.out | apply Kept.alloc | apply Kept.drewN | apply Kept.drew) | exact HK.out)).1) hk)))); (case aO => exact (by (with_reducible repeat (first | apply Kd.R_alloc | apply Kd.R_drewN | apply Kd.R_drew)); exact HO0.out)); (case aS => exact (below_size (by repeat (first | (with_reducible first | exact HB.out | apply below_alloc | apply pw_below_drewN | apply below_drew1) | exact HB.out)))); (case aL => have := LMc4.out; omega); intro v143 w5 ho hb hg hat; rw [← Ny142.out] at ho; have n0_ := Aside0.mk (hb); have n1_ := Aside0.mk (Kept.of_grown (S := (fun k_ => P0_ k_)) hg (by repeat (first | (with_reducible first | exact HK.out | apply Kept.alloc | apply Kept.drewN | apply Kept.drew) | exact HK.out)) (fun k_ e_ => (HO0.out.1 k_ e_))); have n2_ := Aside0.mk (ho); clear HB; clear HK; clear HO0; have HB := n0_; have HK := n1_; have HO144 := n2_; clear n0_ n1_ n2_; clear ho hb hg hat))
      go_ret
      exact ⟨_, by first | rfl | (simp [errW_none, errW_some] <;> rfl) | (simp [*, errW_none, errW_some] <;> rfl), by (with_reducible repeat (first | apply Kd.R_alloc | apply Kd.R_drewN | apply Kd.R_drew)); exact HO144.out, by repeat (first | (with_reducible first | exact HB.out | apply below_alloc | apply pw_below_drewN | apply below_drew1) | exact HB.out), by repeat (first | (with_reducible first | exact HK.out | apply Kept.alloc | apply Kept.drewN | apply Kept.drew) | exact HK.out)⟩
    · rw [if_neg c4] at H
      exact absurd H (by simp)
  · rw [if_neg c3] at H
    have c3b0 : decide (((a1) % 4294967296) ≤ 127) = false := decide_eq_false c3
    clear c3
    replace H := Option.bind_eq_some_iff.mp H
    obtain ⟨t145, A60, H⟩ := H
    replace H : (some t145) = some r := H
    have A6 := Aside0.mk A60
    clear A60
    obtain rfl := Option.some.inj H
    obtain ⟨Ao7, co7, eo7⟩ := Kd.R_slice HO0.out
    subst eo7
    go_enter Try.func29, Try.ntmps29
    go_wp2_with (first | ((with_reducible refine gate_callee (f := 39) rfl ?_); refine goesL_ (some 15) rfl rfl Try.func39 (by kernel_rfl) rfl #[.slice Ao7 l0.length co7, .int .i32 a1] rfl (by (try simp only [List.map_toArray, List.map_cons, List.map_nil]); first | done | rfl | (simp only [List.length_drop, List.length_take]; rfl)) ?_; (with_reducible refine (utf8_appendRuneNonASCII.calls k (fun k_ => some k_ = (.slice Ao7 l0.length co7 : Value).ownBlock) (.slice Ao7 l0.length co7) l0 a1 t145 w0 _ ?side1 ?side2 A6.out).mono ?_); (case side1 => repeat (first | (with_reducible first | exact HB.out | apply below_alloc | apply pw_below_drewN | apply below_drew1) | exact HB.out)); (case side2 => exact Kd.R_tight rfl HO0.out); rintro e w8 ⟨v146, rfl, ho0, hb, hkp⟩; refine ⟨_, rfl, ?_⟩; have n0_ := Aside0.mk (Kd.R_mono (ok' := fun k_ => (P0_ k_ ∨ w.heap.size ≤ k_)) ho0 (fun k_ hk_ => Or.elim hk_ (fun hs_ => (HO0.out.1 k_ (hs_).symm)) (fun hn_ => (.inr (Nat.le_trans (by first | exact HK.out.1 | exact (show Kept w _ (fun k_ => P0_ k_) from by repeat (first | (with_reducible first | exact HK.out | apply Kept.alloc | apply Kept.drewN | apply Kept.drew) | exact HK.out)).1) hn_))))); have n1_ := Aside0.mk (Kept.then_ (S := (fun k_ => P0_ k_)) (by repeat (first | (with_reducible first | exact HK.out | apply Kept.alloc | apply Kept.drewN | apply Kept.drew) | exact HK.out)) hkp (fun k_ hs_ => (fun e_ => (HO0.out.1 k_ e_.symm)) hs_)); have n2_ := Aside0.mk (hb); clear HK; clear HB; clear HO0; have HO147 := n0_; have HK := n1_; have HB := n2_; clear n0_ n1_ n2_; (try clear hb); (try clear hkp); (try clear ho0)))
    go_ret
    exact ⟨_, by first | rfl | (simp [errW_none, errW_some] <;> rfl) | (simp [*, errW_none, errW_some] <;> rfl), by (with_reducible repeat (first | apply Kd.R_alloc | apply Kd.R_drewN | apply Kd.R_drew)); exact HO147.out, by repeat (first | (with_reducible first | exact HB.out | apply below_alloc | apply pw_below_drewN | apply below_drew1) | exact HB.out), by repeat (first | (with_reducible first | exact HK.out | apply Kept.alloc | apply Kept.drewN | apply Kept.drew) | exact HK.out)⟩

theorem appendRune_ok (l : List Int) (a : Int) (h0 : -2147483648 ≤ a) (h1 : a ≤ 2147483647) (hl : l.length + 4 < 140737488355328) : utf8_AppendRune.f 2 l a = some (l ++ Lib.encodeRuneZ a) := by
  unfold utf8_AppendRune.f
  by_cases c1 : a % 4294967296 ≤ 127
  · rw [if_pos c1, if_pos (by omega), Lib.encodeRuneZ_one (by omega) (by omega), show a % 256 = a by omega]
  · rw [if_neg c1]
    unfold utf8_appendRuneNonASCII.f
    by_cases c2 : a % 4294967296 ≤ 2047
    · rw [if_pos c2, Lib.encodeRuneZ_two (by omega) (by omega), show a / 64 % 256 = a / 64 by omega, u8_or192 _ (by omega) (by omega)]
      simp only [Option.bind_some]
      rw [if_pos (by simp only [List.length_cons, List.length_nil]; omega)]
      rfl
    · rw [if_neg c2]
      have three : (2048 ≤ a ∧ a < 55296) ∨ (57343 < a ∧ a ≤ 65535) → utf8_appendRuneNonASCII.j0 2 l a (a % 4294967296) true = some (l ++ Lib.encodeRuneZ a) := by
        intro c
        simp only [utf8_appendRuneNonASCII.j0, if_true]
        rw [Lib.encodeRuneZ_three c, show a / 4096 % 256 = a / 4096 by omega, u8_or224 _ (by omega) (by omega)]
        simp only [Option.bind_some]
        rw [if_pos (by simp only [List.length_cons, List.length_nil]; omega)]
      have rest : ¬ ((2048 ≤ a ∧ a < 55296) ∨ (57343 < a ∧ a ≤ 65535)) → utf8_appendRuneNonASCII.j0 2 l a (a % 4294967296) false = some (l ++ Lib.encodeRuneZ a) := by
        intro c
        simp only [utf8_appendRuneNonASCII.j0]
        rw [if_neg (by simp)]
        by_cases c5 : a % 4294967296 > 65535
        · rw [if_pos c5]
          by_cases c6 : a % 4294967296 ≤ 1114111
          · rw [if_pos c6, Lib.encodeRuneZ_four (by omega) (by omega), show a / 262144 % 256 = a / 262144 by omega, u8_or240 _ (by omega) (by omega)]
            simp only [Option.bind_some]
            rw [if_pos (by simp only [List.length_cons, List.length_nil]; omega)]
          · rw [if_neg c6, Lib.encodeRuneZ_bad (by omega)]
            simp only [Option.bind_some]
            rw [if_pos (by simp only [List.length_cons, List.length_nil]; omega)]
        · rw [if_neg c5, Lib.encodeRuneZ_bad (by omega)]
          simp only [Option.bind_some]
          rw [if_pos (by simp only [List.length_cons, List.length_nil]; omega)]
      by_cases c3 : a % 4294967296 < 55296
      · rw [if_pos c3, decide_eq_true c3, three (by omega)]
        rfl
      · rw [if_neg c3]
        by_cases c4 : 57343 < a % 4294967296
        · rw [if_pos c4]
          by_cases c5 : a % 4294967296 ≤ 65535
          · rw [decide_eq_true c5, three (by omega)]
            rfl
          · rw [decide_eq_false c5, rest (by omega)]
            rfl
        · rw [if_neg c4, rest (by omega)]
          rfl

/-! ### fold_Text: function 19 -/
def fold_Text.f (a0 : ByteArray) : Option ByteArray :=
  if a0.size < 17592186044415 then some (strOfNums ((signsOf a0).flatMap fun p => Lib.encodeRuneZ (runeP p.2))) else none
set_option maxHeartbeats 4000000 in
set_option maxRecDepth 100000 in
theorem fold_Text_walk (a0 : ByteArray) (hs : a0.size < 17592186044415) (r : ByteArray) (hr : r = strOfNums ((signsOf a0).flatMap fun p => Lib.encodeRuneZ (runeP p.2))) (w : World) :
    Calls Try.prog 19 #[.string a0] w fun e w' => e = .returned (.string r) ∧ Below w.heap.size w w' := by
  have HB := Aside0.mk (Below.refl w.heap.size w)
  have HS := Aside0.mk hs
  have HE := Aside0.mk hr
  clear hs hr
  go_enter Try.func19, Try.ntmps19
  go_wp2
  go_loopg [3] a0.size (fun kq v3 wr => ∃ (pos : Nat) (x3 : List Int), Aside0 (wr.heap[w.heap.size]? = some (.stringIter a0 pos)) ∧ Aside0 (a0.size ≤ pos + kq ∧ x3.length + 4 * kq ≤ 4 * a0.size) ∧ Aside0 (strOfNums (x3 ++ (signsFrom a0 kq pos).flatMap (fun p => Lib.encodeRuneZ (runeP p.2))) = r) ∧ Aside0 (Kd.R (Kd.int .u8) 5 wr w.heap.size (fun _ => True) v3 x3) ∧ Aside0 (Below w.heap.size w wr))
  case atStart =>
    refine ⟨0, [], ⟨?_⟩, ⟨by simp⟩, ⟨by rw [HE.out]; rfl⟩, ⟨Kd.R_nil _ _ _ _ _⟩, ⟨?_⟩⟩
    · simpa using World.iter_heap w a0 0
    · exact (Below.refl _ w).alloc (Nat.le_refl _) _
  case round =>
    clear HE
    obtain ⟨pos, x3, HI, HL, HX, HO3, HB1⟩ := hrel
    clear HB
    by_cases hp : pos < a0.size
    · cases gk with
      | zero => exact absurd HL.out.1 (by omega)
      | succ k1 =>
        obtain ⟨q, wd, hq⟩ : ∃ q wd, Utf8.decode a0 pos = (q, wd) := ⟨_, _, rfl⟩
        have hq1 : q ≤ 2147483647 := by have := decode_le a0 pos; rw [hq] at this; exact this
        have HW := Aside0.mk (show 1 ≤ wd by have := decode_pos a0 pos hp; rw [hq] at this; exact this)
        have hnx : ∀ ty, (Instr.next (.pointer (some ⟨w.heap.size, 0, none⟩)) true ty).run Try.prog wr = _ := fun ty => Lib.run_next_any_at wr w.heap.size a0 pos ty HI.out hp
        rw [hq] at hnx
        simp only at hnx
        have HQ := Aside0.mk hq
        clear hq
        have HI2 := Aside0.mk (Lib.iterAt_heap wr w.heap.size a0 pos (pos + wd) HI.out)
        have HO32 := Aside0.mk (R_iter HI.out HO3.out (pos + wd))
        have HB2 := Aside0.mk (Lib.below_iterAt HB1.out (Nat.le_refl _) a0 (pos + wd))
        clear HI HO3 HB1
        have HR := Aside0.mk (rune_ok (q : Int) (by omega) (by omega))
        have hr0 := (runeP_range (q : Int) (by omega) (by omega)).1
        have hr1 := (runeP_range (q : Int) (by omega) (by omega)).2
        have HL2 := Aside0.mk (show x3.length + 4 < 140737488355328 by have := HL.out; have := HS.out; omega)
        have HA := Aside0.mk (appendRune_ok x3 (runeP (q : Int)) (by omega) (by omega) HL2.out)
        obtain ⟨z, HZ⟩ : ∃ z, Aside0 (z = runeP (q : Int)) := ⟨_, ⟨rfl⟩⟩
        rw [← HZ.out] at HR HA hr0 hr1
        go_wp2_with (first
          | ((with_reducible refine gate_callee (f := 22) rfl ?_); refine goesL_ (some 14) rfl rfl Try.func22 (by kernel_rfl) rfl #[.int .i64 (q : Int)] rfl (by (try simp only [List.map_toArray, List.map_cons, List.map_nil]); first | done | rfl) ?_; (with_reducible refine (fold_Rune.calls 40 (q : Int) z _ HR.out).mono ?_); rintro e w5 ⟨rfl, hb⟩; refine ⟨_, rfl, ?_⟩; have HI5 := Aside0.mk (iter_below HI2.out hb); have HO35 := Aside0.mk (Kd.R_below HO32.out hb); have HB5 := Aside0.mk (below_step HB2.out hb); clear hb HI2 HO32 HB2)
          | ((with_reducible refine gate_callee (f := 29) rfl ?_); refine goesL_ (some 16) rfl rfl Try.func29 (by kernel_rfl) rfl #[u3, .int .i32 z] rfl (by (try simp only [List.map_toArray, List.map_cons, List.map_nil]); first | done | rfl) ?_; (refine (utf8_AppendRune.calls 2 (fun k_ => some k_ = (u3 : Value).ownBlock) u3 x3 z (x3 ++ Lib.encodeRuneZ z) w _ HB5.out (Kd.R_tight rfl HO35.out) HA.out).mono ?_); rintro e w6 ⟨v6, rfl, ho6, hb6, hk6⟩; refine ⟨_, rfl, ?_⟩; have HI6 := Aside0.mk (iter_kept HI5.out HO35.out hk6); have HO36 := Aside0.mk (Kd.R_mono ho6 (fun _ _ => trivial)); have HB6 := Aside0.mk hb6; clear ho6 hb6 hk6 HI5 HO35 HB5))
        go_roundg k1
        case measure => omega
        case rel =>
          refine ⟨pos + wd, x3 ++ Lib.encodeRuneZ z, HI6, ⟨?_⟩, ⟨?_⟩, HO36, HB6⟩
          · have := HL.out; have := HW.out; have := Lib.encodeRuneZ_length z; simp only [List.length_append]; omega
          · have hx := HX.out
            simp only [signsFrom, if_pos hp, HQ.out, List.flatMap_cons] at hx
            rw [HZ.out, List.append_assoc]
            exact hx
    · have hnx : ∀ ty, (Instr.next (.pointer (some ⟨w.heap.size, 0, none⟩)) true ty).run Try.prog wr = _ := fun ty => Lib.run_next_end_at wr w.heap.size a0 pos ty HI.out hp
      have HX2 := Aside0.mk (show r = strOfNums x3 by
        have hx := HX.out
        rw [signsFrom_more a0 gk pos hp] at hx
        simp only [List.flatMap_nil, List.append_nil] at hx
        exact hx.symm)
      clear HX HI
      have hcv := own_string (P := Try.prog) Try.underlying23 Try.underlying5 Try.underlying9 (Kd.own_of_R HO3.out)
      go_wp2
      go_ret
      obtain rfl := HX2.out
      exact ⟨rfl, HB1.out⟩
theorem fold_Text.calls (a0 : ByteArray) (r : ByteArray) (w : World) (h : fold_Text.f a0 = some r) :
    Calls Try.prog 19 #[.string a0] w fun e w' => e = .returned (.string r) ∧ Below w.heap.size w w' := by
  unfold fold_Text.f at h
  by_cases hs : a0.size < 17592186044415
  · rw [if_pos hs] at h
    exact fold_Text_walk a0 hs r (Option.some.inj h).symm w
  · rw [if_neg hs] at h
    exact absurd h (by simp)

/-! ### fold_zero: function 37 -/
def fold_zero.f (a0 : Int) : Option (Int) := if a0 = 1 then (some 1632) else (if a0 = 2 then (some 1776) else (if a0 = 3 then (some 2406) else (some 48)))
set_option maxHeartbeats 8000000 in
set_option maxRecDepth 100000 in
theorem fold_zero.calls (a0 : Int) (r : Int) (w : World) (h : fold_zero.f a0 = some r) :
    Calls Try.prog 37 #[.int .i64 a0] w fun e w' => e = .returned (.int .i64 r) ∧ Drawn0 w w' := by
  have H : (if a0 = 1 then (some 1632) else (if a0 = 2 then (some 1776) else (if a0 = 3 then (some 2406) else (some 48)))) = some r := h
  clear h
  by_cases c2 : a0 = 1
  · rw [if_pos c2] at H
    have c2b0 : (a0 == 1) = true := beq_iff_eq.mpr c2
    have c2b1 : (a0 != 1) = false := bne_eq_false_iff_eq.mpr c2
    clear c2
    obtain rfl := Option.some.inj H
    go_enter Try.func37, Try.ntmps37
    go_wp2
    go_ret
    exact ⟨by first | rfl | (simp; done) | (simp [*]; done), by repeat (first | exact Drawn0.refl _ | apply Drawn0.step)⟩
  · rw [if_neg c2] at H
    have c2b0 : (a0 == 1) = false := beq_eq_false_iff_ne.mpr c2
    have c2b1 : (a0 != 1) = true := bne_iff_ne.mpr c2
    by_cases c3 : a0 = 2
    · rw [if_pos c3] at H
      have c3b0 : (a0 == 2) = true := beq_iff_eq.mpr c3
      have c3b1 : (a0 != 2) = false := bne_eq_false_iff_eq.mpr c3
      clear c3
      obtain rfl := Option.some.inj H
      go_enter Try.func37, Try.ntmps37
      go_wp2
      go_ret
      exact ⟨by first | rfl | (simp; done) | (simp [*]; done), by repeat (first | exact Drawn0.refl _ | apply Drawn0.step)⟩
    · rw [if_neg c3] at H
      have c3b0 : (a0 == 2) = false := beq_eq_false_iff_ne.mpr c3
      have c3b1 : (a0 != 2) = true := bne_iff_ne.mpr c3
      by_cases c4 : a0 = 3
      · rw [if_pos c4] at H
        have c4b0 : (a0 == 3) = true := beq_iff_eq.mpr c4
        have c4b1 : (a0 != 3) = false := bne_eq_false_iff_eq.mpr c4
        clear c4
        obtain rfl := Option.some.inj H
        go_enter Try.func37, Try.ntmps37
        go_wp2
        go_ret
        exact ⟨by first | rfl | (simp; done) | (simp [*]; done), by repeat (first | exact Drawn0.refl _ | apply Drawn0.step)⟩
      · rw [if_neg c4] at H
        have c4b0 : (a0 == 3) = false := beq_eq_false_iff_ne.mpr c4
        have c4b1 : (a0 != 3) = true := bne_iff_ne.mpr c4
        obtain rfl := Option.some.inj H
        go_enter Try.func37, Try.ntmps37
        go_wp2
        go_ret
        exact ⟨by first | rfl | (simp; done) | (simp [*]; done), by repeat (first | exact Drawn0.refl _ | apply Drawn0.step)⟩

/-! ### fold_Digit: function 24 -/
def fold_Digit.f (k : Nat) (a0 : Int) (a1 : Int) : Option (ByteArray) := (fold_zero.f a0).bind fun t148 => ((utf8_AppendRune.f k ([] : List Int) (wrap32 (wrap64 (t148 + (mn (mx a1 0) 9))))).bind fun t149 => (some (strOfNums t149)))
theorem fold_Digit.mono : ∀ a0 a1 k, LeO (fold_Digit.f k a0 a1) (fold_Digit.f (k + 1) a0 a1) := by
  intro a0 a1 k
  unfold fold_Digit.f
  repeat' first
      | (with_reducible exact utf8_AppendRune.mono _ _ _)
      | (with_reducible exact LeO.refl _)
      | (with_reducible exact LeO.none _)
      | (with_reducible refine LeO.ite ?_ ?_)
      | (with_reducible refine LeO.bind ?_ (fun _ => ?_))
      | exact utf8_AppendRune.mono _ _ _
      | exact LeO.none _
      | refine LeO.ite ?_ ?_
      | refine LeO.bind ?_ (fun _ => ?_)
set_option maxHeartbeats 8000000 in
set_option maxRecDepth 100000 in
theorem fold_Digit.calls (k : Nat) (a0 : Int) (a1 : Int) (r : ByteArray) (w : World) (h : fold_Digit.f k a0 a1 = some r) :
    Calls Try.prog 24 #[.int .i64 a0, .int .i64 a1] w fun e w' => e = .returned (.string r) ∧ Below w.heap.size w w' := by
  have HB := Aside0.mk (Below.refl w.heap.size w)
  have H : ((fold_zero.f a0).bind fun t148 => ((utf8_AppendRune.f k ([] : List Int) (wrap32 (wrap64 (t148 + (mn (mx a1 0) 9))))).bind fun t149 => (some (strOfNums t149)))) = some r := h
  clear h
  replace H := Option.bind_eq_some_iff.mp H
  obtain ⟨t148, A30, H⟩ := H
  replace H : ((utf8_AppendRune.f k ([] : List Int) (wrap32 (wrap64 (t148 + (mn (mx a1 0) 9))))).bind fun t149 => (some (strOfNums t149))) = some r := H
  have A3 := Aside0.mk A30
  clear A30
  obtain ⟨ji4, hji4⟩ : ∃ j_ : Int, (mx a1 0) = j_ := ⟨_, rfl⟩
  replace H : ((utf8_AppendRune.f k ([] : List Int) (wrap32 (wrap64 (t148 + (mn (ji4) 9))))).bind fun t149 => (some (strOfNums t149))) = some r := by first | (rw [hji4] at H; exact H) | (simp only [hji4] at H ⊢; exact H)
  (try rw [hji4] at A3)
  (try (have hji4l : 0 ≤ ji4 := by (rw [← hji4]; unfold mx; (repeat' split) <;> omega)))
  (try (have hji4m : 0 ≤ ji4 := by omega))
  have hji4_ : (if a1 < 0 then 0 else a1) = ji4 := hji4
  obtain ⟨ji5, hji5⟩ : ∃ j_ : Int, (mn (ji4) 9) = j_ := ⟨_, rfl⟩
  replace H : ((utf8_AppendRune.f k ([] : List Int) (wrap32 (wrap64 (t148 + (ji5))))).bind fun t149 => (some (strOfNums t149))) = some r := by first | (rw [hji5] at H; exact H) | (simp only [hji5] at H ⊢; exact H)
  (try rw [hji5] at A3)
  have hji5_ : (if 9 < (ji4) then 9 else (ji4)) = ji5 := hji5
  replace H := Option.bind_eq_some_iff.mp H
  obtain ⟨t149, A60, H⟩ := H
  replace H : (some (strOfNums t149)) = some r := H
  have A6 := Aside0.mk A60
  clear A60
  obtain rfl := Option.some.inj H
  go_enter Try.func24, Try.ntmps24
  go_wp2_with (first | ((with_reducible refine gate_callee (f := 37) rfl ?_); refine goesL_ (some 6) rfl rfl Try.func37 (by kernel_rfl) rfl #[.int .i64 a0] rfl (by (try simp only [List.map_toArray, List.map_cons, List.map_nil]); first | done | rfl | (simp only [List.length_drop, List.length_take]; rfl)) ?_; (with_reducible refine (fold_zero.calls a0 t148 _ A3.out).mono ?_); rintro e w' ⟨rfl, ⟨nd, rfl⟩⟩; refine ⟨_, rfl, ?_⟩) | ((with_reducible refine gate_callee (f := 29) rfl ?_); refine goesL_ (some 12) rfl rfl Try.func29 (by kernel_rfl) rfl #[.slice none 0 0, .int .i32 (wrap32 (wrap64 (t148 + (ji5))))] rfl (by (try simp only [List.map_toArray, List.map_cons, List.map_nil]); first | done | (simp only [hji5]; rfl) | rfl | (simp only [List.length_drop, List.length_take]; rfl)) ?_; (refine (utf8_AppendRune.calls k (fun k_ => some k_ = (.slice none 0 0 : Value).ownBlock) (.slice none 0 0) ([] : List Int) (wrap32 (wrap64 (t148 + (ji5)))) t149 w _ ?side1 ?side2 A6.out).mono ?_); (case side1 => repeat (first | (with_reducible first | exact HB.out | apply below_alloc | apply pw_below_drewN | apply below_drew1) | exact HB.out)); (case side2 => exact Kd.R_nil _ _ _ _ _); rintro e w7 ⟨v150, rfl, ho0, hb, hkp⟩; refine ⟨_, rfl, ?_⟩; have n0_ := Aside0.mk (Kd.R_mono (ok' := fun k_ => True) ho0 (fun k_ hk_ => trivial)); have n1_ := Aside0.mk (hb); clear HB; have HO151 := n0_; have HB := n1_; clear n0_ n1_; (try clear hb); (try clear hkp); (try clear ho0); have hcv8 := own_string (P := Try.prog) Try.underlying23 Try.underlying5 Try.underlying9 (Kd.own_of_R HO151.out)))
  go_ret
  exact ⟨by first | rfl | (simp [errW_none, errW_some] <;> rfl) | (simp only [← hji4, ← hji5]; first | rfl | (simp [errW_none, errW_some] <;> rfl)) | (simp [*, errW_none, errW_some] <;> rfl), by repeat (first | (with_reducible first | exact HB.out | apply below_alloc | apply pw_below_drewN | apply below_drew1) | exact HB.out)⟩

end Go.Proofs.Ytmpmjghhikdefaa.G
