-- printed by wip/tool/gprint.py, a program of this work, out of the translation; Lean checks it
import Derived.Test.YtjbihflpjkaifaaDoorGx0
import Derived.Test.YtjbihflpjkaifaaDoorGx8
import Derived.Test.YtjbihflpjkaifaaDoorGx9
namespace Go.Proofs.YtjbihflpjkaifaaDoor.G
open Go.RowKit Go.Proofs.YtjbihflpjkaifaaDoorW.PrintWords Go.Proofs.YtjbihflpjkaifaaDoorW.PrintLast Go.Proofs.YtjbihflpjkaifaaDoorW.PrintMore Go.Proofs.YtjbihflpjkaifaaDoorW.VWords Go.Proofs.YtjbihflpjkaifaaDoorW.Tab
attribute [local go_sem] max2_int min2_int max_two min_two max_three min_three max_four min_four   -- for this text's walks alone
set_option linter.unusedVariables false
set_option linter.unusedSimpArgs false

/-! ### interlocutorref2_Text: function 22 -/
def interlocutorref2_Text.j0 : Nat → Int → Int → ByteArray → Option (ByteArray)
  | 0, _, _, _ => none
  | k + 1, x0, x1, x5 => (interlocutorref2_Ten.f k x1).bind fun t163 => (if t163 = 0 then (none) else ((interlocutorref2_Digits.f k (wrap64 (Int.tdiv x0 t163)) 1).bind fun t164 => (if x5.size + t164.size ≤ 9223372036854775807 then (if x1 > 0 then (if (x5 ++ t164).size + 1 ≤ 9223372036854775807 then ((interlocutorref2_Digits.f k (Int.tmod x0 t163) x1).bind fun t165 => (if ((x5 ++ t164) ++ (⟨#[46]⟩ : ByteArray)).size + t165.size ≤ 9223372036854775807 then (some (((x5 ++ t164) ++ (⟨#[46]⟩ : ByteArray)) ++ t165)) else (none))) else (none)) else (some (x5 ++ t164))) else (none))))
def interlocutorref2_Text.f (k : Nat) (a0 : Int) (a1 : Int) : Option (ByteArray) := if a0 < 0 then (interlocutorref2_Text.j0 k (wrap64 (-a0)) a1 (⟨#[45]⟩ : ByteArray)) else (interlocutorref2_Text.j0 k a0 a1 (⟨#[]⟩ : ByteArray))
theorem interlocutorref2_Text.mono_l : ∀ k, (∀ y0 y1 y2, LeO (interlocutorref2_Text.j0 k y0 y1 y2) (interlocutorref2_Text.j0 (k + 1) y0 y1 y2))
  | 0 => fun _ _ _ r h => by simp [interlocutorref2_Text.j0] at h
  | k + 1 => by
    have ih0 := interlocutorref2_Text.mono_l k
    · intro y0 y1 y2
      unfold interlocutorref2_Text.j0
      repeat' first
      | (with_reducible exact ih0 _ _ _)
      | (with_reducible exact interlocutorref2_Digits.mono _ _ _)
      | (with_reducible exact interlocutorref2_Ten.mono _ _)
      | (with_reducible exact LeO.refl _)
      | (with_reducible exact LeO.none _)
      | (with_reducible refine LeO.ite ?_ ?_)
      | (with_reducible refine LeO.bind ?_ (fun _ => ?_))
      | exact ih0 _ _ _
      | exact interlocutorref2_Digits.mono _ _ _
      | exact interlocutorref2_Ten.mono _ _
      | exact LeO.none _
      | refine LeO.ite ?_ ?_
      | refine LeO.bind ?_ (fun _ => ?_)
theorem interlocutorref2_Text.mono : ∀ a0 a1 k, LeO (interlocutorref2_Text.f k a0 a1) (interlocutorref2_Text.f (k + 1) a0 a1) := by
  intro a0 a1 k
  have ih0 := interlocutorref2_Text.mono_l k
  unfold interlocutorref2_Text.f
  repeat' first
      | (with_reducible exact ih0 _ _ _)
      | (with_reducible exact interlocutorref2_Digits.mono _ _ _)
      | (with_reducible exact interlocutorref2_Ten.mono _ _)
      | (with_reducible exact LeO.refl _)
      | (with_reducible exact LeO.none _)
      | (with_reducible refine LeO.ite ?_ ?_)
      | (with_reducible refine LeO.bind ?_ (fun _ => ?_))
      | exact ih0 _ _ _
      | exact interlocutorref2_Digits.mono _ _ _
      | exact interlocutorref2_Ten.mono _ _
      | exact LeO.none _
      | refine LeO.ite ?_ ?_
      | refine LeO.bind ?_ (fun _ => ?_)
set_option maxHeartbeats 8000000 in
set_option maxRecDepth 100000 in
theorem interlocutorref2_Text.calls (k : Nat) (a0 : Int) (a1 : Int) (r : ByteArray) (w : World) (h : interlocutorref2_Text.f k a0 a1 = some r) :
    Calls Tryd.prog 22 #[.int .i64 a0, .int .i64 a1] w fun e w' => e = .returned (.string r) ∧ Below w.heap.size w w' := by
  have HB := Aside0.mk (Below.refl w.heap.size w)
  have H : (if a0 < 0 then (interlocutorref2_Text.j0 k (wrap64 (-a0)) a1 (⟨#[45]⟩ : ByteArray)) else (interlocutorref2_Text.j0 k a0 a1 (⟨#[]⟩ : ByteArray))) = some r := h
  clear h
  have HC3 := Aside0.mk H
  clear H
  go_enter Tryd.func22, Tryd.ntmps22
  go_upto_if 8 with (fail)
  go_cut [0, 5] (fun v0 v5 wc => ∃ (kq : Nat) (x0_2 : Int) (x5_2 : ByteArray), v0 = .int .i64 x0_2 ∧ v5 = .string x5_2 ∧ Aside0 (interlocutorref2_Text.j0 kq x0_2 a1 x5_2 = some r) ∧ Aside0 (kq ≤ k) ∧ Aside0 (Below w.heap.size w wc))
  case first =>
    have H := HC3.out
    clear HC3
    by_cases c4 : a0 < 0
    · rw [if_pos c4] at H
      have c4b0 : decide (a0 < 0) = true := decide_eq_true c4
      clear c4
      (first | rw [c4b0] | (simp only [i64_w, i32_w]; rw [c4b0]) | skip)
      have H' := Aside0.mk H
      clear H
      go_wp2
      go_meet
      case rel => exact ⟨_, (wrap64 (-a0)), ((⟨#[45]⟩ : ByteArray)), (by first | rfl | (simp; done) | (simp [*]; done)), (by first | rfl | (simp; done) | (simp [*]; done)), H', ⟨by first | omega | exact Nat.le_refl _⟩, ⟨by repeat (first | (with_reducible first | exact HB.out | apply below_alloc | apply pw_below_drewN | apply below_drew1) | exact HB.out)⟩⟩
    · rw [if_neg c4] at H
      have c4b0 : decide (a0 < 0) = false := decide_eq_false c4
      clear c4
      (first | rw [c4b0] | (simp only [i64_w, i32_w]; rw [c4b0]) | skip)
      have H' := Aside0.mk H
      clear H
      go_wp2
      go_meet
      case rel => exact ⟨_, (a0), ((⟨#[]⟩ : ByteArray)), (by first | rfl | (simp; done) | (simp [*]; done)), (by first | rfl | (simp; done) | (simp [*]; done)), H', ⟨by first | omega | exact Nat.le_refl _⟩, ⟨by repeat (first | (with_reducible first | exact HB.out | apply below_alloc | apply pw_below_drewN | apply below_drew1) | exact HB.out)⟩⟩
  case rest =>
    clear HC3
    try clear c2
    try clear p2
    try clear c4
    try clear c4b0
    obtain ⟨kq, x0_2, x5_2, rfl, rfl, HA, HJ2, HB⟩ := hcut
    cases kq with
    | zero => exact absurd HA.out (by simp [interlocutorref2_Text.j0])
    | succ kj2 =>
      have H := HA.out
      clear HA
      simp only [interlocutorref2_Text.j0] at H
      replace H := Option.bind_eq_some_iff.mp H
      obtain ⟨t163, A50, H⟩ := H
      replace H : (if t163 = 0 then (none) else ((interlocutorref2_Digits.f kj2 (wrap64 (Int.tdiv x0_2 t163)) 1).bind fun t164 => (if x5_2.size + t164.size ≤ 9223372036854775807 then (if a1 > 0 then (if (x5_2 ++ t164).size + 1 ≤ 9223372036854775807 then ((interlocutorref2_Digits.f kj2 (Int.tmod x0_2 t163) a1).bind fun t165 => (if ((x5_2 ++ t164) ++ (⟨#[46]⟩ : ByteArray)).size + t165.size ≤ 9223372036854775807 then (some (((x5_2 ++ t164) ++ (⟨#[46]⟩ : ByteArray)) ++ t165)) else (none))) else (none)) else (some (x5_2 ++ t164))) else (none)))) = some r := H
      have A5 := Aside0.mk A50
      clear A50
      by_cases c6 : t163 = 0
      · rw [if_pos c6] at H
        exact absurd H (by simp)
      · rw [if_neg c6] at H
        have c6b0 : (t163 == 0) = false := beq_eq_false_iff_ne.mpr c6
        have c6b1 : (t163 != 0) = true := bne_iff_ne.mpr c6
        replace H := Option.bind_eq_some_iff.mp H
        obtain ⟨t164, A70, H⟩ := H
        replace H : (if x5_2.size + t164.size ≤ 9223372036854775807 then (if a1 > 0 then (if (x5_2 ++ t164).size + 1 ≤ 9223372036854775807 then ((interlocutorref2_Digits.f kj2 (Int.tmod x0_2 t163) a1).bind fun t165 => (if ((x5_2 ++ t164) ++ (⟨#[46]⟩ : ByteArray)).size + t165.size ≤ 9223372036854775807 then (some (((x5_2 ++ t164) ++ (⟨#[46]⟩ : ByteArray)) ++ t165)) else (none))) else (none)) else (some (x5_2 ++ t164))) else (none)) = some r := H
        have A7 := Aside0.mk A70
        clear A70
        by_cases c8 : x5_2.size + t164.size ≤ 9223372036854775807
        · rw [if_pos c8] at H
          have c8b0 := eq_true c8
          have c8b1 : decide (x5_2.size + t164.size ≤ 9223372036854775807) = true := decide_eq_true c8
          try have c8b2 : (9223372036854775807 < x5_2.size + t164.size) = False := eq_false (Nat.not_lt.2 c8)
          try (have c8b3 := c8b2; simp only [ByteArray.size_append] at c8b3)
          try (have c8b4 := c8b2; simp only [ByteArray.size_append, ByteArray.size_extract, Nat.min_self] at c8b4)
          try (have c8b5 := c8b2; simp only [ByteArray.size_append, ByteArray.size_extract, Nat.min_self, size_mk_, List.size_toArray, List.length_cons, List.length_nil, Nat.zero_add, Nat.reduceAdd] at c8b5)
          by_cases c9 : a1 > 0
          · rw [if_pos c9] at H
            have c9b0 : decide (0 < a1) = true := decide_eq_true c9
            clear c9
            by_cases c10 : (x5_2 ++ t164).size + 1 ≤ 9223372036854775807
            · rw [if_pos c10] at H
              have c10b0 := eq_true c10
              have c10b1 : decide ((x5_2 ++ t164).size + 1 ≤ 9223372036854775807) = true := decide_eq_true c10
              try have c10b2 : (9223372036854775807 < (x5_2 ++ t164).size + 1) = False := eq_false (Nat.not_lt.2 c10)
              try (have c10b3 := c10b2; simp only [ByteArray.size_append] at c10b3)
              try (have c10b4 := c10b2; simp only [ByteArray.size_append, ByteArray.size_extract, Nat.min_self] at c10b4)
              try (have c10b5 := c10b2; simp only [ByteArray.size_append, ByteArray.size_extract, Nat.min_self, size_mk_, List.size_toArray, List.length_cons, List.length_nil, Nat.zero_add, Nat.reduceAdd] at c10b5)
              replace H := Option.bind_eq_some_iff.mp H
              obtain ⟨t165, A110, H⟩ := H
              replace H : (if ((x5_2 ++ t164) ++ (⟨#[46]⟩ : ByteArray)).size + t165.size ≤ 9223372036854775807 then (some (((x5_2 ++ t164) ++ (⟨#[46]⟩ : ByteArray)) ++ t165)) else (none)) = some r := H
              have A11 := Aside0.mk A110
              clear A110
              by_cases c12 : ((x5_2 ++ t164) ++ (⟨#[46]⟩ : ByteArray)).size + t165.size ≤ 9223372036854775807
              · rw [if_pos c12] at H
                have c12b0 := eq_true c12
                have c12b1 : decide (((x5_2 ++ t164) ++ (⟨#[46]⟩ : ByteArray)).size + t165.size ≤ 9223372036854775807) = true := decide_eq_true c12
                try have c12b2 : (9223372036854775807 < ((x5_2 ++ t164) ++ (⟨#[46]⟩ : ByteArray)).size + t165.size) = False := eq_false (Nat.not_lt.2 c12)
                try (have c12b3 := c12b2; simp only [ByteArray.size_append] at c12b3)
                try (have c12b4 := c12b2; simp only [ByteArray.size_append, ByteArray.size_extract, Nat.min_self] at c12b4)
                try (have c12b5 := c12b2; simp only [ByteArray.size_append, ByteArray.size_extract, Nat.min_self, size_mk_, List.size_toArray, List.length_cons, List.length_nil, Nat.zero_add, Nat.reduceAdd] at c12b5)
                obtain rfl := Option.some.inj H
                go_wp2_with (first | ((with_reducible refine gate_callee (f := 24) rfl ?_); refine goesL_ (some 12) rfl rfl Tryd.func24 (by kernel_rfl) rfl #[.int .i64 a1] rfl (by (try simp only [List.map_toArray, List.map_cons, List.map_nil]); first | done | rfl | (simp only [List.length_drop, List.length_take]; rfl)) ?_; (with_reducible refine (interlocutorref2_Ten.calls kj2 a1 t163 _ A5.out).mono ?_); rintro e w' ⟨rfl, ⟨nd, rfl⟩⟩; refine ⟨_, rfl, ?_⟩) | ((with_reducible refine gate_callee (f := 34) rfl ?_); refine goesL_ (some 17) rfl rfl Tryd.func34 (by kernel_rfl) rfl #[.int .i64 (wrap64 (Int.tdiv x0_2 t163)), .int .i64 1] rfl (by (try simp only [List.map_toArray, List.map_cons, List.map_nil]); first | done | rfl | (simp only [List.length_drop, List.length_take]; rfl)) ?_; (with_reducible refine (interlocutorref2_Digits.calls kj2 (wrap64 (Int.tdiv x0_2 t163)) 1 t164 _ A7.out).mono ?_); rintro e w13 ⟨rfl, hb⟩; refine ⟨_, rfl, ?_⟩; have n0_ := Aside0.mk (below_step (by repeat (first | (with_reducible first | exact HB.out | apply below_alloc | apply pw_below_drewN | apply below_drew1) | exact HB.out)) hb); clear HB; have HB := n0_; clear n0_; (try clear hb); (try clear hb2); (try clear hk); (try clear hi)) | ((with_reducible refine gate_callee (f := 34) rfl ?_); refine goesL_ (some 27) rfl rfl Tryd.func34 (by kernel_rfl) rfl #[.int .i64 (Int.tmod x0_2 t163), .int .i64 a1] rfl (by (try simp only [List.map_toArray, List.map_cons, List.map_nil]); first | done | rfl | (simp only [List.length_drop, List.length_take]; rfl)) ?_; (with_reducible refine (interlocutorref2_Digits.calls kj2 (Int.tmod x0_2 t163) a1 t165 _ A11.out).mono ?_); rintro e w14 ⟨rfl, hb⟩; refine ⟨_, rfl, ?_⟩; have n0_ := Aside0.mk (below_step (by repeat (first | (with_reducible first | exact HB.out | apply below_alloc | apply pw_below_drewN | apply below_drew1) | exact HB.out)) hb); clear HB; have HB := n0_; clear n0_; (try clear hb); (try clear hb2); (try clear hk); (try clear hi)))
                go_ret
                exact ⟨by first | rfl | (simp [errW_none, errW_some] <;> rfl) | (simp [*, errW_none, errW_some] <;> rfl), by repeat (first | (with_reducible first | exact HB.out | apply below_alloc | apply pw_below_drewN | apply below_drew1) | exact HB.out)⟩
              · rw [if_neg c12] at H
                exact absurd H (by simp)
            · rw [if_neg c10] at H
              exact absurd H (by simp)
          · rw [if_neg c9] at H
            have c9b0 : decide (0 < a1) = false := decide_eq_false c9
            clear c9
            obtain rfl := Option.some.inj H
            go_wp2_with (first | ((with_reducible refine gate_callee (f := 24) rfl ?_); refine goesL_ (some 12) rfl rfl Tryd.func24 (by kernel_rfl) rfl #[.int .i64 a1] rfl (by (try simp only [List.map_toArray, List.map_cons, List.map_nil]); first | done | rfl | (simp only [List.length_drop, List.length_take]; rfl)) ?_; (with_reducible refine (interlocutorref2_Ten.calls kj2 a1 t163 _ A5.out).mono ?_); rintro e w' ⟨rfl, ⟨nd, rfl⟩⟩; refine ⟨_, rfl, ?_⟩) | ((with_reducible refine gate_callee (f := 34) rfl ?_); refine goesL_ (some 17) rfl rfl Tryd.func34 (by kernel_rfl) rfl #[.int .i64 (wrap64 (Int.tdiv x0_2 t163)), .int .i64 1] rfl (by (try simp only [List.map_toArray, List.map_cons, List.map_nil]); first | done | rfl | (simp only [List.length_drop, List.length_take]; rfl)) ?_; (with_reducible refine (interlocutorref2_Digits.calls kj2 (wrap64 (Int.tdiv x0_2 t163)) 1 t164 _ A7.out).mono ?_); rintro e w15 ⟨rfl, hb⟩; refine ⟨_, rfl, ?_⟩; have n0_ := Aside0.mk (below_step (by repeat (first | (with_reducible first | exact HB.out | apply below_alloc | apply pw_below_drewN | apply below_drew1) | exact HB.out)) hb); clear HB; have HB := n0_; clear n0_; (try clear hb); (try clear hb2); (try clear hk); (try clear hi)))
            go_ret
            exact ⟨by first | rfl | (simp [errW_none, errW_some] <;> rfl) | (simp [*, errW_none, errW_some] <;> rfl), by repeat (first | (with_reducible first | exact HB.out | apply below_alloc | apply pw_below_drewN | apply below_drew1) | exact HB.out)⟩
        · rw [if_neg c8] at H
          exact absurd H (by simp)

end Go.Proofs.YtjbihflpjkaifaaDoor.G
