-- printed by wip/tool/gprint.py, a program of this work, out of the translation; Lean checks it
import Derived.Test.YtmpmjghhikdefaaGx0
import Derived.Test.YtmpmjghhikdefaaGx6
namespace Go.Proofs.Ytmpmjghhikdefaa.G
open Go.RowKit Go.Proofs.YtmpmjghhikdefaaW.PrintWords Go.Proofs.YtmpmjghhikdefaaW.PrintLast Go.Proofs.YtmpmjghhikdefaaW.PrintMore Go.Proofs.YtmpmjghhikdefaaW.VWords
attribute [local go_sem] max2_int min2_int max_two min_two max_three min_three max_four min_four   -- for this text's walks alone
set_option linter.unusedVariables false
set_option linter.unusedSimpArgs false

/-! ### interlocutorlaw3_Signs: function 15 -/
mutual
def interlocutorlaw3_Signs.l0 : Nat → List Int → List Int → List ByteArray → ByteArray → Int → Option (ByteArray)
  | 0, _, _, _, _, _ => none
  | k + 1, x0, x1, x5, x6, x7 => if x7 < (x0.length : Int) then (interlocutorlaw3_Signs.j1 k x0 x1 x5 x6 x7 (decide (x7 < 40))) else (interlocutorlaw3_Signs.j1 k x0 x1 x5 x6 x7 false)
def interlocutorlaw3_Signs.j1 : Nat → List Int → List Int → List ByteArray → ByteArray → Int → Bool → Option (ByteArray)
  | 0, _, _, _, _, _, _ => none
  | k + 1, x0, x1, x5, x6, x7, x16 => if x16 = true then (if 0 ≤ x7 then (if x7 < (x0.length : Int) then ((interlocutorlaw3_within.f (rd x0 x7) (x5.length : Int)).bind fun t175 => (if 0 ≤ t175 then (if t175 < (x5.length : Int) then (if x6.size + (rdOf ByteArray.empty x5 t175).size ≤ 9223372036854775807 then ((interlocutorlaw3_within.f (wrap64 (Int.tdiv (rd x0 x7) 40)) 7).bind fun t178 => (if t178 = 0 then (if (x1.length : Int) > 0 then ((interlocutorlaw3_within.f (rd x0 x7) (wrap64 ((x1.length : Int) + 1))).bind fun t180 => (if 0 ≤ t180 then (if t180 ≤ (x1.length : Int) then (if (x6 ++ (rdOf ByteArray.empty x5 t175)).size + (strOfNums (x1.take (t180 : Int).toNat)).size ≤ 9223372036854775807 then (interlocutorlaw3_Signs.l0 k x0 x1 x5 ((x6 ++ (rdOf ByteArray.empty x5 t175)) ++ (strOfNums (x1.take (t180 : Int).toNat))) (wrap64 (x7 + 1))) else (none)) else (none)) else (none))) else (interlocutorlaw3_Signs.l0 k x0 x1 x5 (x6 ++ (rdOf ByteArray.empty x5 t175)) (wrap64 (x7 + 1)))) else (interlocutorlaw3_Signs.l0 k x0 x1 x5 (x6 ++ (rdOf ByteArray.empty x5 t175)) (wrap64 (x7 + 1))))) else (none)) else (none)) else (none))) else (none)) else (none)) else (some x6)
end
def interlocutorlaw3_Signs.f (k : Nat) (l0 : List Int) (l1 : List Int) : Option (ByteArray) := interlocutorlaw3_Signs.l0 k l0 l1 (([(⟨#[97]⟩ : ByteArray), (⟨#[90]⟩ : ByteArray), (⟨#[55]⟩ : ByteArray), (⟨#[32]⟩ : ByteArray), (⟨#[194, 160]⟩ : ByteArray), (⟨#[227, 128, 128]⟩ : ByteArray), (⟨#[45]⟩ : ByteArray), (⟨#[226, 128, 147]⟩ : ByteArray), (⟨#[226, 136, 146]⟩ : ByteArray), (⟨#[39]⟩ : ByteArray), (⟨#[226, 128, 153]⟩ : ByteArray), (⟨#[217, 163]⟩ : ByteArray), (⟨#[219, 181]⟩ : ByteArray), (⟨#[224, 165, 170]⟩ : ByteArray), (⟨#[239, 188, 145]⟩ : ByteArray), (⟨#[239, 188, 161]⟩ : ByteArray), (⟨#[239, 189, 158]⟩ : ByteArray), (⟨#[195, 132]⟩ : ByteArray), (⟨#[195, 151]⟩ : ByteArray), (⟨#[208, 150]⟩ : ByteArray), (⟨#[208, 129]⟩ : ByteArray), (⟨#[206, 169]⟩ : ByteArray), (⟨#[206, 162]⟩ : ByteArray), (⟨#[239, 191, 189]⟩ : ByteArray), (⟨#[240, 159, 152, 128]⟩ : ByteArray), (⟨#[47]⟩ : ByteArray), (⟨#[46]⟩ : ByteArray), (⟨#[9]⟩ : ByteArray), (⟨#[128]⟩ : ByteArray), (⟨#[255]⟩ : ByteArray), (⟨#[226, 130]⟩ : ByteArray), (⟨#[195]⟩ : ByteArray)] : List ByteArray)) (⟨#[]⟩ : ByteArray) 0
theorem interlocutorlaw3_Signs.mono_l : ∀ k, (∀ y0 y1 y2 y3 y4, LeO (interlocutorlaw3_Signs.l0 k y0 y1 y2 y3 y4) (interlocutorlaw3_Signs.l0 (k + 1) y0 y1 y2 y3 y4)) ∧ (∀ y0 y1 y2 y3 y4 y5, LeO (interlocutorlaw3_Signs.j1 k y0 y1 y2 y3 y4 y5) (interlocutorlaw3_Signs.j1 (k + 1) y0 y1 y2 y3 y4 y5))
  | 0 => ⟨fun _ _ _ _ _ r h => by simp [interlocutorlaw3_Signs.l0] at h, fun _ _ _ _ _ _ r h => by simp [interlocutorlaw3_Signs.j1] at h⟩
  | k + 1 => by
    obtain ⟨ih0, ih1⟩ := interlocutorlaw3_Signs.mono_l k
    refine ⟨?_, ?_⟩
    · intro y0 y1 y2 y3 y4
      unfold interlocutorlaw3_Signs.l0
      repeat' first
      | (with_reducible exact ih0 _ _ _ _ _)
      | (with_reducible exact ih1 _ _ _ _ _ _)
      | (with_reducible exact LeO.refl _)
      | (with_reducible exact LeO.none _)
      | (with_reducible refine LeO.ite ?_ ?_)
      | (with_reducible refine LeO.bind ?_ (fun _ => ?_))
      | exact ih0 _ _ _ _ _
      | exact ih1 _ _ _ _ _ _
      | exact LeO.none _
      | refine LeO.ite ?_ ?_
      | refine LeO.bind ?_ (fun _ => ?_)
    · intro y0 y1 y2 y3 y4 y5
      unfold interlocutorlaw3_Signs.j1
      repeat' first
      | (with_reducible exact ih0 _ _ _ _ _)
      | (with_reducible exact ih1 _ _ _ _ _ _)
      | (with_reducible exact LeO.refl _)
      | (with_reducible exact LeO.none _)
      | (with_reducible refine LeO.ite ?_ ?_)
      | (with_reducible refine LeO.bind ?_ (fun _ => ?_))
      | exact ih0 _ _ _ _ _
      | exact ih1 _ _ _ _ _ _
      | exact LeO.none _
      | refine LeO.ite ?_ ?_
      | refine LeO.bind ?_ (fun _ => ?_)
theorem interlocutorlaw3_Signs.mono : ∀ a0 a1 k, LeO (interlocutorlaw3_Signs.f k a0 a1) (interlocutorlaw3_Signs.f (k + 1) a0 a1) := by
  intro a0 a1 k
  obtain ⟨ih0, ih1⟩ := interlocutorlaw3_Signs.mono_l k
  unfold interlocutorlaw3_Signs.f
  repeat' first
      | (with_reducible exact ih0 _ _ _ _ _)
      | (with_reducible exact ih1 _ _ _ _ _ _)
      | (with_reducible exact LeO.refl _)
      | (with_reducible exact LeO.none _)
      | (with_reducible refine LeO.ite ?_ ?_)
      | (with_reducible refine LeO.bind ?_ (fun _ => ?_))
      | exact ih0 _ _ _ _ _
      | exact ih1 _ _ _ _ _ _
      | exact LeO.none _
      | refine LeO.ite ?_ ?_
      | refine LeO.bind ?_ (fun _ => ?_)
set_option maxHeartbeats 8000000 in
set_option maxRecDepth 100000 in
theorem interlocutorlaw3_Signs.calls (k : Nat) (A0 : Option Addr) (c0 : Nat) (l0 : List Int) (A1 : Option Addr) (c1 : Nat) (l1 : List Int) (r : ByteArray) (w : World) (hr0 : Kd.C (Kd.int .i64) w A0 l0.length l0) (hc0 : l0.length ≤ c0) (hr1 : Kd.C (Kd.int .u8) w A1 l1.length l1) (hc1 : l1.length ≤ c1) (h : interlocutorlaw3_Signs.f k l0 l1 = some r) :
    Calls Try.prog 15 #[.slice A0 l0.length c0, .slice A1 l1.length c1] w fun e w' => e = .returned (.string r) ∧ Below w.heap.size w w' := by
  have HR0 := Aside0.mk hr0
  have HC0 := Aside0.mk hc0
  clear hr0 hc0
  have HR1 := Aside0.mk hr1
  have HC1 := Aside0.mk hc1
  clear hr1 hc1
  have HB := Aside0.mk (Below.refl w.heap.size w)
  have H : (interlocutorlaw3_Signs.l0 k l0 l1 (([(⟨#[97]⟩ : ByteArray), (⟨#[90]⟩ : ByteArray), (⟨#[55]⟩ : ByteArray), (⟨#[32]⟩ : ByteArray), (⟨#[194, 160]⟩ : ByteArray), (⟨#[227, 128, 128]⟩ : ByteArray), (⟨#[45]⟩ : ByteArray), (⟨#[226, 128, 147]⟩ : ByteArray), (⟨#[226, 136, 146]⟩ : ByteArray), (⟨#[39]⟩ : ByteArray), (⟨#[226, 128, 153]⟩ : ByteArray), (⟨#[217, 163]⟩ : ByteArray), (⟨#[219, 181]⟩ : ByteArray), (⟨#[224, 165, 170]⟩ : ByteArray), (⟨#[239, 188, 145]⟩ : ByteArray), (⟨#[239, 188, 161]⟩ : ByteArray), (⟨#[239, 189, 158]⟩ : ByteArray), (⟨#[195, 132]⟩ : ByteArray), (⟨#[195, 151]⟩ : ByteArray), (⟨#[208, 150]⟩ : ByteArray), (⟨#[208, 129]⟩ : ByteArray), (⟨#[206, 169]⟩ : ByteArray), (⟨#[206, 162]⟩ : ByteArray), (⟨#[239, 191, 189]⟩ : ByteArray), (⟨#[240, 159, 152, 128]⟩ : ByteArray), (⟨#[47]⟩ : ByteArray), (⟨#[46]⟩ : ByteArray), (⟨#[9]⟩ : ByteArray), (⟨#[128]⟩ : ByteArray), (⟨#[255]⟩ : ByteArray), (⟨#[226, 130]⟩ : ByteArray), (⟨#[195]⟩ : ByteArray)] : List ByteArray)) (⟨#[]⟩ : ByteArray) 0) = some r := h
  clear h
  obtain ⟨y171, hy171⟩ : ∃ y_ : List ByteArray, y_ = (([(⟨#[97]⟩ : ByteArray), (⟨#[90]⟩ : ByteArray), (⟨#[55]⟩ : ByteArray), (⟨#[32]⟩ : ByteArray), (⟨#[194, 160]⟩ : ByteArray), (⟨#[227, 128, 128]⟩ : ByteArray), (⟨#[45]⟩ : ByteArray), (⟨#[226, 128, 147]⟩ : ByteArray), (⟨#[226, 136, 146]⟩ : ByteArray), (⟨#[39]⟩ : ByteArray), (⟨#[226, 128, 153]⟩ : ByteArray), (⟨#[217, 163]⟩ : ByteArray), (⟨#[219, 181]⟩ : ByteArray), (⟨#[224, 165, 170]⟩ : ByteArray), (⟨#[239, 188, 145]⟩ : ByteArray), (⟨#[239, 188, 161]⟩ : ByteArray), (⟨#[239, 189, 158]⟩ : ByteArray), (⟨#[195, 132]⟩ : ByteArray), (⟨#[195, 151]⟩ : ByteArray), (⟨#[208, 150]⟩ : ByteArray), (⟨#[208, 129]⟩ : ByteArray), (⟨#[206, 169]⟩ : ByteArray), (⟨#[206, 162]⟩ : ByteArray), (⟨#[239, 191, 189]⟩ : ByteArray), (⟨#[240, 159, 152, 128]⟩ : ByteArray), (⟨#[47]⟩ : ByteArray), (⟨#[46]⟩ : ByteArray), (⟨#[9]⟩ : ByteArray), (⟨#[128]⟩ : ByteArray), (⟨#[255]⟩ : ByteArray), (⟨#[226, 130]⟩ : ByteArray), (⟨#[195]⟩ : ByteArray)] : List ByteArray)) := ⟨_, rfl⟩
  replace H : (interlocutorlaw3_Signs.l0 k l0 l1 y171 (⟨#[]⟩ : ByteArray) 0) = some r := by first | (rw [hy171]; with_reducible exact H) | (have H2_ := (Option.bind_some _ _).symm.trans H; rw [hy171]; with_reducible exact H2_) | (have H2_ := (Option.bind_some _ _).symm.trans H; with_reducible exact H2_) | with_reducible exact H | (rw [hy171]; exact H) | exact H
  have Ny171 := Aside0.mk hy171
  clear hy171
  have H' := Aside0.mk H
  clear H
  go_enter Try.func15, Try.ntmps15
  go_wp2_with (first | ((with_reducible refine gate_dst (N := 8) rfl ?_); (try (refine gate_guard (by rfl) ?_; dsimp only)); refine Kd.R_lit Kd.string _ 9 ?hg (N := 8) ?hd (xs := ([(⟨#[97]⟩ : ByteArray), (⟨#[90]⟩ : ByteArray), (⟨#[55]⟩ : ByteArray), (⟨#[32]⟩ : ByteArray), (⟨#[194, 160]⟩ : ByteArray), (⟨#[227, 128, 128]⟩ : ByteArray), (⟨#[45]⟩ : ByteArray), (⟨#[226, 128, 147]⟩ : ByteArray), (⟨#[226, 136, 146]⟩ : ByteArray), (⟨#[39]⟩ : ByteArray), (⟨#[226, 128, 153]⟩ : ByteArray), (⟨#[217, 163]⟩ : ByteArray), (⟨#[219, 181]⟩ : ByteArray), (⟨#[224, 165, 170]⟩ : ByteArray), (⟨#[239, 188, 145]⟩ : ByteArray), (⟨#[239, 188, 161]⟩ : ByteArray), (⟨#[239, 189, 158]⟩ : ByteArray), (⟨#[195, 132]⟩ : ByteArray), (⟨#[195, 151]⟩ : ByteArray), (⟨#[208, 150]⟩ : ByteArray), (⟨#[208, 129]⟩ : ByteArray), (⟨#[206, 169]⟩ : ByteArray), (⟨#[206, 162]⟩ : ByteArray), (⟨#[239, 191, 189]⟩ : ByteArray), (⟨#[240, 159, 152, 128]⟩ : ByteArray), (⟨#[47]⟩ : ByteArray), (⟨#[46]⟩ : ByteArray), (⟨#[9]⟩ : ByteArray), (⟨#[128]⟩ : ByteArray), (⟨#[255]⟩ : ByteArray), (⟨#[226, 130]⟩ : ByteArray), (⟨#[195]⟩ : ByteArray)] : List ByteArray)) (inner := [.string (⟨#[97]⟩ : ByteArray), .string (⟨#[90]⟩ : ByteArray), .string (⟨#[55]⟩ : ByteArray), .string (⟨#[32]⟩ : ByteArray), .string (⟨#[194, 160]⟩ : ByteArray), .string (⟨#[227, 128, 128]⟩ : ByteArray), .string (⟨#[45]⟩ : ByteArray), .string (⟨#[226, 128, 147]⟩ : ByteArray), .string (⟨#[226, 136, 146]⟩ : ByteArray), .string (⟨#[39]⟩ : ByteArray), .string (⟨#[226, 128, 153]⟩ : ByteArray), .string (⟨#[217, 163]⟩ : ByteArray), .string (⟨#[219, 181]⟩ : ByteArray), .string (⟨#[224, 165, 170]⟩ : ByteArray), .string (⟨#[239, 188, 145]⟩ : ByteArray), .string (⟨#[239, 188, 161]⟩ : ByteArray), .string (⟨#[239, 189, 158]⟩ : ByteArray), .string (⟨#[195, 132]⟩ : ByteArray), .string (⟨#[195, 151]⟩ : ByteArray), .string (⟨#[208, 150]⟩ : ByteArray), .string (⟨#[208, 129]⟩ : ByteArray), .string (⟨#[206, 169]⟩ : ByteArray), .string (⟨#[206, 162]⟩ : ByteArray), .string (⟨#[239, 191, 189]⟩ : ByteArray), .string (⟨#[240, 159, 152, 128]⟩ : ByteArray), .string (⟨#[47]⟩ : ByteArray), .string (⟨#[46]⟩ : ByteArray), .string (⟨#[9]⟩ : ByteArray), .string (⟨#[128]⟩ : ByteArray), .string (⟨#[255]⟩ : ByteArray), .string (⟨#[226, 130]⟩ : ByteArray), .string (⟨#[195]⟩ : ByteArray)]) (ok := fun _ => True) (okp := fun _ => True) ?hr ?hp (fun _ hk => hk) trivial (Below.refl _ _) (Nat.le_refl _) (by simp) ?_; (case hd => rfl); (case hg => rfl); (case hr => first | (go_simp; done) | (go_simp; rfl)); (case hp => exact (Reps.one (show Kd.M Kd.string _ _ _ (⟨#[97]⟩ : ByteArray) [.string (⟨#[97]⟩ : ByteArray)] from rfl) (Reps.one (show Kd.M Kd.string _ _ _ (⟨#[90]⟩ : ByteArray) [.string (⟨#[90]⟩ : ByteArray)] from rfl) (Reps.one (show Kd.M Kd.string _ _ _ (⟨#[55]⟩ : ByteArray) [.string (⟨#[55]⟩ : ByteArray)] from rfl) (Reps.one (show Kd.M Kd.string _ _ _ (⟨#[32]⟩ : ByteArray) [.string (⟨#[32]⟩ : ByteArray)] from rfl) (Reps.one (show Kd.M Kd.string _ _ _ (⟨#[194, 160]⟩ : ByteArray) [.string (⟨#[194, 160]⟩ : ByteArray)] from rfl) (Reps.one (show Kd.M Kd.string _ _ _ (⟨#[227, 128, 128]⟩ : ByteArray) [.string (⟨#[227, 128, 128]⟩ : ByteArray)] from rfl) (Reps.one (show Kd.M Kd.string _ _ _ (⟨#[45]⟩ : ByteArray) [.string (⟨#[45]⟩ : ByteArray)] from rfl) (Reps.one (show Kd.M Kd.string _ _ _ (⟨#[226, 128, 147]⟩ : ByteArray) [.string (⟨#[226, 128, 147]⟩ : ByteArray)] from rfl) (Reps.one (show Kd.M Kd.string _ _ _ (⟨#[226, 136, 146]⟩ : ByteArray) [.string (⟨#[226, 136, 146]⟩ : ByteArray)] from rfl) (Reps.one (show Kd.M Kd.string _ _ _ (⟨#[39]⟩ : ByteArray) [.string (⟨#[39]⟩ : ByteArray)] from rfl) (Reps.one (show Kd.M Kd.string _ _ _ (⟨#[226, 128, 153]⟩ : ByteArray) [.string (⟨#[226, 128, 153]⟩ : ByteArray)] from rfl) (Reps.one (show Kd.M Kd.string _ _ _ (⟨#[217, 163]⟩ : ByteArray) [.string (⟨#[217, 163]⟩ : ByteArray)] from rfl) (Reps.one (show Kd.M Kd.string _ _ _ (⟨#[219, 181]⟩ : ByteArray) [.string (⟨#[219, 181]⟩ : ByteArray)] from rfl) (Reps.one (show Kd.M Kd.string _ _ _ (⟨#[224, 165, 170]⟩ : ByteArray) [.string (⟨#[224, 165, 170]⟩ : ByteArray)] from rfl) (Reps.one (show Kd.M Kd.string _ _ _ (⟨#[239, 188, 145]⟩ : ByteArray) [.string (⟨#[239, 188, 145]⟩ : ByteArray)] from rfl) (Reps.one (show Kd.M Kd.string _ _ _ (⟨#[239, 188, 161]⟩ : ByteArray) [.string (⟨#[239, 188, 161]⟩ : ByteArray)] from rfl) (Reps.one (show Kd.M Kd.string _ _ _ (⟨#[239, 189, 158]⟩ : ByteArray) [.string (⟨#[239, 189, 158]⟩ : ByteArray)] from rfl) (Reps.one (show Kd.M Kd.string _ _ _ (⟨#[195, 132]⟩ : ByteArray) [.string (⟨#[195, 132]⟩ : ByteArray)] from rfl) (Reps.one (show Kd.M Kd.string _ _ _ (⟨#[195, 151]⟩ : ByteArray) [.string (⟨#[195, 151]⟩ : ByteArray)] from rfl) (Reps.one (show Kd.M Kd.string _ _ _ (⟨#[208, 150]⟩ : ByteArray) [.string (⟨#[208, 150]⟩ : ByteArray)] from rfl) (Reps.one (show Kd.M Kd.string _ _ _ (⟨#[208, 129]⟩ : ByteArray) [.string (⟨#[208, 129]⟩ : ByteArray)] from rfl) (Reps.one (show Kd.M Kd.string _ _ _ (⟨#[206, 169]⟩ : ByteArray) [.string (⟨#[206, 169]⟩ : ByteArray)] from rfl) (Reps.one (show Kd.M Kd.string _ _ _ (⟨#[206, 162]⟩ : ByteArray) [.string (⟨#[206, 162]⟩ : ByteArray)] from rfl) (Reps.one (show Kd.M Kd.string _ _ _ (⟨#[239, 191, 189]⟩ : ByteArray) [.string (⟨#[239, 191, 189]⟩ : ByteArray)] from rfl) (Reps.one (show Kd.M Kd.string _ _ _ (⟨#[240, 159, 152, 128]⟩ : ByteArray) [.string (⟨#[240, 159, 152, 128]⟩ : ByteArray)] from rfl) (Reps.one (show Kd.M Kd.string _ _ _ (⟨#[47]⟩ : ByteArray) [.string (⟨#[47]⟩ : ByteArray)] from rfl) (Reps.one (show Kd.M Kd.string _ _ _ (⟨#[46]⟩ : ByteArray) [.string (⟨#[46]⟩ : ByteArray)] from rfl) (Reps.one (show Kd.M Kd.string _ _ _ (⟨#[9]⟩ : ByteArray) [.string (⟨#[9]⟩ : ByteArray)] from rfl) (Reps.one (show Kd.M Kd.string _ _ _ (⟨#[128]⟩ : ByteArray) [.string (⟨#[128]⟩ : ByteArray)] from rfl) (Reps.one (show Kd.M Kd.string _ _ _ (⟨#[255]⟩ : ByteArray) [.string (⟨#[255]⟩ : ByteArray)] from rfl) (Reps.one (show Kd.M Kd.string _ _ _ (⟨#[226, 130]⟩ : ByteArray) [.string (⟨#[226, 130]⟩ : ByteArray)] from rfl) (Reps.one (show Kd.M Kd.string _ _ _ (⟨#[195]⟩ : ByteArray) [.string (⟨#[195]⟩ : ByteArray)] from rfl) (Reps.none _ _)))))))))))))))))))))))))))))))))); intro v172 w3 ho4 hb hg_ hnew_; clear hg_ hnew_; (first | rw [← Ny171.out] at ho4 | (simp only [Int.reduceToNat] at ho4; rw [← Ny171.out] at ho4)); have n0_ := Aside0.mk (Kd.R_lower ho4 (below_size (by repeat (first | (with_reducible first | exact HB.out | apply below_alloc | apply pw_below_drewN | apply below_drew1) | exact HB.out)))); have n1_ := Aside0.mk (below_step (by repeat (first | (with_reducible first | exact HB.out | apply below_alloc | apply pw_below_drewN | apply below_drew1) | exact HB.out)) hb); clear HB; have HO173 := n0_; have HB := n1_; clear n0_ n1_; clear hb ho4))
  go_loopg [6, 7] k (fun kq v6 v7 w' => ∃ (x6_1 : ByteArray) (x7_1 : Int), v6 = .string x6_1 ∧ v7 = .int .i64 x7_1 ∧ Aside0 (interlocutorlaw3_Signs.l0 kq l0 l1 y171 x6_1 x7_1 = some r) ∧ Aside0 (kq ≤ k) ∧ Aside0 (Kd.R Kd.string 9 w' w.heap.size (fun _ => True) v172 y171) ∧ Aside0 (Below w.heap.size w w'))
  case atStart => exact ⟨((⟨#[]⟩ : ByteArray)), (0), (by first | rfl | (simp; done) | (simp [*]; done)), (by first | rfl | (simp; done) | (simp [*]; done)), H', ⟨Nat.le_refl _⟩, ⟨by (with_reducible repeat (first | apply Kd.R_alloc | apply Kd.R_drewN | apply Kd.R_drew)); exact HO173.out⟩, ⟨by repeat (first | (with_reducible first | exact HB.out | apply below_alloc | apply pw_below_drewN | apply below_drew1) | exact HB.out)⟩⟩
  case round =>
    clear H'
    try clear c1
    try clear p2
    obtain ⟨x6_1, x7_1, rfl, rfl, HA, HK1, HO_5, HB⟩ := hrel
    cases gk with
    | zero => exact absurd HA.out (by simp [interlocutorlaw3_Signs.l0])
    | succ k1 =>
      have H := HA.out
      clear HA
      simp only [interlocutorlaw3_Signs.l0] at H
      have HC5 := Aside0.mk H
      clear H
      go_upto_region 4 with (fail)
      go_cut [16] (fun v16 wc => ∃ (kq : Nat) (x16_4 : Bool), v16 = .bool x16_4 ∧ Aside0 (interlocutorlaw3_Signs.j1 kq l0 l1 y171 x6_1 x7_1 x16_4 = some r) ∧ Aside0 (kq ≤ k1) ∧ Aside0 (Kd.R Kd.string 9 wc w.heap.size (fun _ => True) v172 y171) ∧ Aside0 (Below w.heap.size w wc))
      case first =>
        have H := HC5.out
        clear HC5
        by_cases c6 : x7_1 < (l0.length : Int)
        · rw [if_pos c6] at H
          have c6b0 : decide (x7_1 < (l0.length : Int)) = true := decide_eq_true c6
          clear c6
          (first | rw [c6b0] | (simp only [i64_w, i32_w]; rw [c6b0]) | skip)
          have H' := Aside0.mk H
          clear H
          go_wp2
          go_meet
          case rel => exact ⟨_, (decide (x7_1 < 40)), (by first | rfl | (simp; done) | (simp [*]; done)), H', ⟨by have := HK1.out; first | omega | exact Nat.le_refl _⟩, ⟨by (with_reducible repeat (first | apply Kd.R_alloc | apply Kd.R_drewN | apply Kd.R_drew)); exact HO_5.out⟩, ⟨by repeat (first | (with_reducible first | exact HB.out | apply below_alloc | apply pw_below_drewN | apply below_drew1) | exact HB.out)⟩⟩
        · rw [if_neg c6] at H
          have c6b0 : decide (x7_1 < (l0.length : Int)) = false := decide_eq_false c6
          clear c6
          (first | rw [c6b0] | (simp only [i64_w, i32_w]; rw [c6b0]) | skip)
          have H' := Aside0.mk H
          clear H
          go_wp2
          go_meet
          case rel => exact ⟨_, (false), (by first | rfl | (simp; done) | (simp [*]; done)), H', ⟨by have := HK1.out; first | omega | exact Nat.le_refl _⟩, ⟨by (with_reducible repeat (first | apply Kd.R_alloc | apply Kd.R_drewN | apply Kd.R_drew)); exact HO_5.out⟩, ⟨by repeat (first | (with_reducible first | exact HB.out | apply below_alloc | apply pw_below_drewN | apply below_drew1) | exact HB.out)⟩⟩
      case rest =>
        clear HC5
        try clear c1
        try clear p2
        try clear c6
        try clear c6b0
        try clear p2
        obtain ⟨kq, x16_4, rfl, HA, HJ4, HO_5, HB⟩ := hcut
        cases kq with
        | zero => exact absurd HA.out (by simp [interlocutorlaw3_Signs.j1])
        | succ kj4 =>
          have H := HA.out
          clear HA
          simp only [interlocutorlaw3_Signs.j1] at H
          by_cases c7 : x16_4 = true
          · subst c7
            have H1 : (if 0 ≤ x7_1 then (if x7_1 < (l0.length : Int) then ((interlocutorlaw3_within.f (rd l0 x7_1) (y171.length : Int)).bind fun t175 => (if 0 ≤ t175 then (if t175 < (y171.length : Int) then (if x6_1.size + (rdOf ByteArray.empty y171 t175).size ≤ 9223372036854775807 then ((interlocutorlaw3_within.f (wrap64 (Int.tdiv (rd l0 x7_1) 40)) 7).bind fun t178 => (if t178 = 0 then (if (l1.length : Int) > 0 then ((interlocutorlaw3_within.f (rd l0 x7_1) (wrap64 ((l1.length : Int) + 1))).bind fun t180 => (if 0 ≤ t180 then (if t180 ≤ (l1.length : Int) then (if (x6_1 ++ (rdOf ByteArray.empty y171 t175)).size + (strOfNums (l1.take (t180 : Int).toNat)).size ≤ 9223372036854775807 then (interlocutorlaw3_Signs.l0 kj4 l0 l1 y171 ((x6_1 ++ (rdOf ByteArray.empty y171 t175)) ++ (strOfNums (l1.take (t180 : Int).toNat))) (wrap64 (x7_1 + 1))) else (none)) else (none)) else (none))) else (interlocutorlaw3_Signs.l0 kj4 l0 l1 y171 (x6_1 ++ (rdOf ByteArray.empty y171 t175)) (wrap64 (x7_1 + 1)))) else (interlocutorlaw3_Signs.l0 kj4 l0 l1 y171 (x6_1 ++ (rdOf ByteArray.empty y171 t175)) (wrap64 (x7_1 + 1))))) else (none)) else (none)) else (none))) else (none)) else (none)) = some r := by rw [if_pos rfl] at H; exact H
            clear H
            have H := H1
            clear H1
            by_cases c8 : 0 ≤ x7_1
            · rw [if_pos c8] at H
              have c8b0 : decide (0 ≤ x7_1) = true := decide_eq_true c8
              clear c8
              by_cases c9 : x7_1 < (l0.length : Int)
              · rw [if_pos c9] at H
                have c9b0 : decide (x7_1 < (l0.length : Int)) = true := decide_eq_true c9
                clear c9
                replace H := Option.bind_eq_some_iff.mp H
                obtain ⟨t175, A100, H⟩ := H
                replace H : (if 0 ≤ t175 then (if t175 < (y171.length : Int) then (if x6_1.size + (rdOf ByteArray.empty y171 t175).size ≤ 9223372036854775807 then ((interlocutorlaw3_within.f (wrap64 (Int.tdiv (rd l0 x7_1) 40)) 7).bind fun t178 => (if t178 = 0 then (if (l1.length : Int) > 0 then ((interlocutorlaw3_within.f (rd l0 x7_1) (wrap64 ((l1.length : Int) + 1))).bind fun t180 => (if 0 ≤ t180 then (if t180 ≤ (l1.length : Int) then (if (x6_1 ++ (rdOf ByteArray.empty y171 t175)).size + (strOfNums (l1.take (t180 : Int).toNat)).size ≤ 9223372036854775807 then (interlocutorlaw3_Signs.l0 kj4 l0 l1 y171 ((x6_1 ++ (rdOf ByteArray.empty y171 t175)) ++ (strOfNums (l1.take (t180 : Int).toNat))) (wrap64 (x7_1 + 1))) else (none)) else (none)) else (none))) else (interlocutorlaw3_Signs.l0 kj4 l0 l1 y171 (x6_1 ++ (rdOf ByteArray.empty y171 t175)) (wrap64 (x7_1 + 1)))) else (interlocutorlaw3_Signs.l0 kj4 l0 l1 y171 (x6_1 ++ (rdOf ByteArray.empty y171 t175)) (wrap64 (x7_1 + 1))))) else (none)) else (none)) else (none)) = some r := H
                have A10 := Aside0.mk A100
                clear A100
                by_cases c11 : 0 ≤ t175
                · rw [if_pos c11] at H
                  have c11b0 : decide (0 ≤ t175) = true := decide_eq_true c11
                  clear c11
                  by_cases c12 : t175 < (y171.length : Int)
                  · rw [if_pos c12] at H
                    have c12b0 : decide (t175 < (y171.length : Int)) = true := decide_eq_true c12
                    clear c12
                    by_cases c13 : x6_1.size + (rdOf ByteArray.empty y171 t175).size ≤ 9223372036854775807
                    · rw [if_pos c13] at H
                      have c13b0 := eq_true c13
                      have c13b1 : decide (x6_1.size + (rdOf ByteArray.empty y171 t175).size ≤ 9223372036854775807) = true := decide_eq_true c13
                      try have c13b2 : (9223372036854775807 < x6_1.size + (rdOf ByteArray.empty y171 t175).size) = False := eq_false (Nat.not_lt.2 c13)
                      try (have c13b3 := c13b2; simp only [ByteArray.size_append] at c13b3)
                      replace H := Option.bind_eq_some_iff.mp H
                      obtain ⟨t178, A140, H⟩ := H
                      replace H : (if t178 = 0 then (if (l1.length : Int) > 0 then ((interlocutorlaw3_within.f (rd l0 x7_1) (wrap64 ((l1.length : Int) + 1))).bind fun t180 => (if 0 ≤ t180 then (if t180 ≤ (l1.length : Int) then (if (x6_1 ++ (rdOf ByteArray.empty y171 t175)).size + (strOfNums (l1.take (t180 : Int).toNat)).size ≤ 9223372036854775807 then (interlocutorlaw3_Signs.l0 kj4 l0 l1 y171 ((x6_1 ++ (rdOf ByteArray.empty y171 t175)) ++ (strOfNums (l1.take (t180 : Int).toNat))) (wrap64 (x7_1 + 1))) else (none)) else (none)) else (none))) else (interlocutorlaw3_Signs.l0 kj4 l0 l1 y171 (x6_1 ++ (rdOf ByteArray.empty y171 t175)) (wrap64 (x7_1 + 1)))) else (interlocutorlaw3_Signs.l0 kj4 l0 l1 y171 (x6_1 ++ (rdOf ByteArray.empty y171 t175)) (wrap64 (x7_1 + 1)))) = some r := H
                      have A14 := Aside0.mk A140
                      clear A140
                      by_cases c15 : t178 = 0
                      · rw [if_pos c15] at H
                        have c15b0 : (t178 == 0) = true := beq_iff_eq.mpr c15
                        have c15b1 : (t178 != 0) = false := bne_eq_false_iff_eq.mpr c15
                        clear c15
                        by_cases c16 : (l1.length : Int) > 0
                        · rw [if_pos c16] at H
                          have c16b0 : decide (0 < (l1.length : Int)) = true := decide_eq_true c16
                          have c16b1 : decide (0 < l1.length) = true := decide_eq_true (by omega)
                          clear c16
                          replace H := Option.bind_eq_some_iff.mp H
                          obtain ⟨t180, A170, H⟩ := H
                          replace H : (if 0 ≤ t180 then (if t180 ≤ (l1.length : Int) then (if (x6_1 ++ (rdOf ByteArray.empty y171 t175)).size + (strOfNums (l1.take (t180 : Int).toNat)).size ≤ 9223372036854775807 then (interlocutorlaw3_Signs.l0 kj4 l0 l1 y171 ((x6_1 ++ (rdOf ByteArray.empty y171 t175)) ++ (strOfNums (l1.take (t180 : Int).toNat))) (wrap64 (x7_1 + 1))) else (none)) else (none)) else (none)) = some r := H
                          have A17 := Aside0.mk A170
                          clear A170
                          by_cases c18 : 0 ≤ t180
                          · rw [if_pos c18] at H
                            have c18b0 := eq_true c18
                            have c18b1 : decide (0 ≤ t180) = true := decide_eq_true c18
                            clear c18
                            by_cases c19 : t180 ≤ (l1.length : Int)
                            · rw [if_pos c19] at H
                              have c19b0 := eq_true c19
                              have c19b1 : decide (t180 ≤ (l1.length : Int)) = true := decide_eq_true c19
                              clear c19
                              by_cases c20 : (x6_1 ++ (rdOf ByteArray.empty y171 t175)).size + (strOfNums (l1.take (t180 : Int).toNat)).size ≤ 9223372036854775807
                              · rw [if_pos c20] at H
                                have c20b0 := eq_true c20
                                have c20b1 : decide ((x6_1 ++ (rdOf ByteArray.empty y171 t175)).size + (strOfNums (l1.take (t180 : Int).toNat)).size ≤ 9223372036854775807) = true := decide_eq_true c20
                                try have c20b2 : (9223372036854775807 < (x6_1 ++ (rdOf ByteArray.empty y171 t175)).size + (strOfNums (l1.take (t180 : Int).toNat)).size) = False := eq_false (Nat.not_lt.2 c20)
                                try (have c20b3 := c20b2; simp only [ByteArray.size_append] at c20b3)
                                have H' := Aside0.mk H
                                clear H
                                have p174 : 0 ≤ (x7_1 : Int) := of_decide_eq_true (by first | (with_reducible assumption) | assumption)
                                have q174 : x7_1 < (l0.length : Int) := of_decide_eq_true (by first | (with_reducible assumption) | assumption)
                                obtain ⟨ad174, e174, hx174_0⟩ := Kd.at_int HR0.out x7_1 p174 q174
                                cases e174
                                replace hx174_0 := (HB.out.cell (World.block_lt_of_cell? w _ hx174_0)).trans hx174_0
                                replace p174 := eq_true p174
                                replace q174 := eq_true q174
                                obtain ⟨Ao21, co21, eo21⟩ := Kd.R_slice HO_5.out
                                subst eo21
                                go_wp2_with (first | ((with_reducible refine gate_callee (f := 21) rfl ?_); refine goesL_ (some 27) rfl rfl Try.func21 (by kernel_rfl) rfl #[.int .i64 (rd l0 x7_1), .int .i64 (y171.length : Int)] rfl (by (try simp only [List.map_toArray, List.map_cons, List.map_nil]); first | done | rfl | (simp only [List.length_drop, List.length_take]; rfl)) ?_; (with_reducible refine (interlocutorlaw3_within.calls (rd l0 x7_1) (y171.length : Int) t175 _ A10.out).mono ?_); rintro e w' ⟨rfl, ⟨nd, rfl⟩⟩; refine ⟨_, rfl, ?_⟩; have p176 : 0 ≤ (t175 : Int) := of_decide_eq_true (by first | (with_reducible assumption) | assumption); have q176 : t175 < (y171.length : Int) := of_decide_eq_true (by first | (with_reducible assumption) | assumption); obtain ⟨ad176, e176, hx176_0⟩ := Kd.at_string (Kd.R_reads' HO_5.out).2.2 t175 p176 q176; cases e176; replace p176 := eq_true p176; replace q176 := eq_true q176; have p177 : 0 ≤ (x7_1 : Int) := of_decide_eq_true (by first | (with_reducible assumption) | assumption); have q177 : x7_1 < (l0.length : Int) := of_decide_eq_true (by first | (with_reducible assumption) | assumption); obtain ⟨ad177, e177, hx177_0⟩ := Kd.at_int HR0.out x7_1 p177 q177; obtain rfl : ad174 = ad177 := (by injection e177); replace hx177_0 := (HB.out.cell (World.block_lt_of_cell? w _ hx177_0)).trans hx177_0; replace p177 := eq_true p177; replace q177 := eq_true q177) | ((with_reducible refine gate_callee (f := 21) rfl ?_); refine goesL_ (some 36) rfl rfl Try.func21 (by kernel_rfl) rfl #[.int .i64 (wrap64 (Int.tdiv (rd l0 x7_1) 40)), .int .i64 7] rfl (by (try simp only [List.map_toArray, List.map_cons, List.map_nil]); first | done | rfl | (simp only [List.length_drop, List.length_take]; rfl)) ?_; (with_reducible refine (interlocutorlaw3_within.calls (wrap64 (Int.tdiv (rd l0 x7_1) 40)) 7 t178 _ A14.out).mono ?_); rintro e w' ⟨rfl, ⟨nd, rfl⟩⟩; refine ⟨_, rfl, ?_⟩; have p179 : 0 ≤ (x7_1 : Int) := of_decide_eq_true (by first | (with_reducible assumption) | assumption); have q179 : x7_1 < (l0.length : Int) := of_decide_eq_true (by first | (with_reducible assumption) | assumption); obtain ⟨ad179, e179, hx179_0⟩ := Kd.at_int HR0.out x7_1 p179 q179; obtain rfl : ad174 = ad179 := (by injection e179); replace hx179_0 := (HB.out.cell (World.block_lt_of_cell? w _ hx179_0)).trans hx179_0; replace p179 := eq_true p179; replace q179 := eq_true q179) | ((with_reducible refine gate_callee (f := 21) rfl ?_); refine goesL_ (some 52) rfl rfl Try.func21 (by kernel_rfl) rfl #[.int .i64 (rd l0 x7_1), .int .i64 (wrap64 ((l1.length : Int) + 1))] rfl (by (try simp only [List.map_toArray, List.map_cons, List.map_nil]); first | done | rfl | (simp only [List.length_drop, List.length_take]; rfl)) ?_; (with_reducible refine (interlocutorlaw3_within.calls (rd l0 x7_1) (wrap64 ((l1.length : Int) + 1)) t180 _ A17.out).mono ?_); rintro e w' ⟨rfl, ⟨nd, rfl⟩⟩; refine ⟨_, rfl, ?_⟩; obtain ⟨i022, hi022, _, hsz22, _⟩ := info_parts info5; obtain ⟨hcut22, hA22, hC22⟩ := print_take_of (P := Try.prog) (Value.int .u8) 0 23 5 .i64 Try.underlying23 hi022 hsz22 A1 c1 l1 t180 (of_decide_eq_true (by first | (with_reducible assumption) | assumption)) (of_decide_eq_true (by first | (with_reducible assumption) | assumption)) HC1.out; have HR181 := Aside0.mk (Kd.C_of_reads (h1 := fun _ => rfl) (hA22 _ (Kd.reads_of_C HR1.out))); have HC181 := Aside0.mk hC22; clear hA22 hC22 hi022 hsz22; have hcv23 := fun m_ : Nat => Kd.C_string (P := Try.prog) (A := A1) (c := c1) Try.underlying23 Try.underlying5 Try.underlying9 (Kd.C_below HR181.out (pw_below_drewN HB.out m_)); rw [show (l1.take (t180 : Int).toNat).length = t180.toNat from (by rw [List.length_take]; have h_ : (t180 : Int) ≤ (l1.length : Int) := of_decide_eq_true (by first | (with_reducible assumption) | assumption); omega)] at hcv23; have hcv23z := hcv23 0; simp only [World.drewN_zero] at hcv23z))
                                go_roundg kj4
                                case measure => have := HK1.out; have := HJ4.out; omega
                                case rel => exact ⟨((x6_1 ++ (rdOf ByteArray.empty y171 t175)) ++ (strOfNums (l1.take (t180 : Int).toNat))), (wrap64 (x7_1 + 1)), (by first | rfl | (simp; done) | (simp [*]; done)), (by first | rfl | (simp; done) | (simp [*]; done)), H', ⟨by have := HK1.out; have := HJ4.out; omega⟩, ⟨by (with_reducible repeat (first | apply Kd.R_alloc | apply Kd.R_drewN | apply Kd.R_drew)); exact HO_5.out⟩, ⟨by repeat (first | (with_reducible first | exact HB.out | apply below_alloc | apply pw_below_drewN | apply below_drew1) | exact HB.out)⟩⟩
                              · rw [if_neg c20] at H
                                exact absurd H (by simp)
                            · rw [if_neg c19] at H
                              exact absurd H (by simp)
                          · rw [if_neg c18] at H
                            exact absurd H (by simp)
                        · rw [if_neg c16] at H
                          have c16b0 : decide (0 < (l1.length : Int)) = false := decide_eq_false c16
                          have c16b1 : decide (0 < l1.length) = false := decide_eq_false (by omega)
                          clear c16
                          have H' := Aside0.mk H
                          clear H
                          have p174 : 0 ≤ (x7_1 : Int) := of_decide_eq_true (by first | (with_reducible assumption) | assumption)
                          have q174 : x7_1 < (l0.length : Int) := of_decide_eq_true (by first | (with_reducible assumption) | assumption)
                          obtain ⟨ad174, e174, hx174_0⟩ := Kd.at_int HR0.out x7_1 p174 q174
                          cases e174
                          replace hx174_0 := (HB.out.cell (World.block_lt_of_cell? w _ hx174_0)).trans hx174_0
                          replace p174 := eq_true p174
                          replace q174 := eq_true q174
                          obtain ⟨Ao24, co24, eo24⟩ := Kd.R_slice HO_5.out
                          subst eo24
                          go_wp2_with (first | ((with_reducible refine gate_callee (f := 21) rfl ?_); refine goesL_ (some 27) rfl rfl Try.func21 (by kernel_rfl) rfl #[.int .i64 (rd l0 x7_1), .int .i64 (y171.length : Int)] rfl (by (try simp only [List.map_toArray, List.map_cons, List.map_nil]); first | done | rfl | (simp only [List.length_drop, List.length_take]; rfl)) ?_; (with_reducible refine (interlocutorlaw3_within.calls (rd l0 x7_1) (y171.length : Int) t175 _ A10.out).mono ?_); rintro e w' ⟨rfl, ⟨nd, rfl⟩⟩; refine ⟨_, rfl, ?_⟩; have p176 : 0 ≤ (t175 : Int) := of_decide_eq_true (by first | (with_reducible assumption) | assumption); have q176 : t175 < (y171.length : Int) := of_decide_eq_true (by first | (with_reducible assumption) | assumption); obtain ⟨ad176, e176, hx176_0⟩ := Kd.at_string (Kd.R_reads' HO_5.out).2.2 t175 p176 q176; cases e176; replace p176 := eq_true p176; replace q176 := eq_true q176; have p177 : 0 ≤ (x7_1 : Int) := of_decide_eq_true (by first | (with_reducible assumption) | assumption); have q177 : x7_1 < (l0.length : Int) := of_decide_eq_true (by first | (with_reducible assumption) | assumption); obtain ⟨ad177, e177, hx177_0⟩ := Kd.at_int HR0.out x7_1 p177 q177; obtain rfl : ad174 = ad177 := (by injection e177); replace hx177_0 := (HB.out.cell (World.block_lt_of_cell? w _ hx177_0)).trans hx177_0; replace p177 := eq_true p177; replace q177 := eq_true q177) | ((with_reducible refine gate_callee (f := 21) rfl ?_); refine goesL_ (some 36) rfl rfl Try.func21 (by kernel_rfl) rfl #[.int .i64 (wrap64 (Int.tdiv (rd l0 x7_1) 40)), .int .i64 7] rfl (by (try simp only [List.map_toArray, List.map_cons, List.map_nil]); first | done | rfl | (simp only [List.length_drop, List.length_take]; rfl)) ?_; (with_reducible refine (interlocutorlaw3_within.calls (wrap64 (Int.tdiv (rd l0 x7_1) 40)) 7 t178 _ A14.out).mono ?_); rintro e w' ⟨rfl, ⟨nd, rfl⟩⟩; refine ⟨_, rfl, ?_⟩))
                          go_roundg kj4
                          case measure => have := HK1.out; have := HJ4.out; omega
                          case rel => exact ⟨(x6_1 ++ (rdOf ByteArray.empty y171 t175)), (wrap64 (x7_1 + 1)), (by first | rfl | (simp; done) | (simp [*]; done)), (by first | rfl | (simp; done) | (simp [*]; done)), H', ⟨by have := HK1.out; have := HJ4.out; omega⟩, ⟨by (with_reducible repeat (first | apply Kd.R_alloc | apply Kd.R_drewN | apply Kd.R_drew)); exact HO_5.out⟩, ⟨by repeat (first | (with_reducible first | exact HB.out | apply below_alloc | apply pw_below_drewN | apply below_drew1) | exact HB.out)⟩⟩
                      · rw [if_neg c15] at H
                        have c15b0 : (t178 == 0) = false := beq_eq_false_iff_ne.mpr c15
                        have c15b1 : (t178 != 0) = true := bne_iff_ne.mpr c15
                        have H' := Aside0.mk H
                        clear H
                        have p174 : 0 ≤ (x7_1 : Int) := of_decide_eq_true (by first | (with_reducible assumption) | assumption)
                        have q174 : x7_1 < (l0.length : Int) := of_decide_eq_true (by first | (with_reducible assumption) | assumption)
                        obtain ⟨ad174, e174, hx174_0⟩ := Kd.at_int HR0.out x7_1 p174 q174
                        cases e174
                        replace hx174_0 := (HB.out.cell (World.block_lt_of_cell? w _ hx174_0)).trans hx174_0
                        replace p174 := eq_true p174
                        replace q174 := eq_true q174
                        obtain ⟨Ao25, co25, eo25⟩ := Kd.R_slice HO_5.out
                        subst eo25
                        go_wp2_with (first | ((with_reducible refine gate_callee (f := 21) rfl ?_); refine goesL_ (some 27) rfl rfl Try.func21 (by kernel_rfl) rfl #[.int .i64 (rd l0 x7_1), .int .i64 (y171.length : Int)] rfl (by (try simp only [List.map_toArray, List.map_cons, List.map_nil]); first | done | rfl | (simp only [List.length_drop, List.length_take]; rfl)) ?_; (with_reducible refine (interlocutorlaw3_within.calls (rd l0 x7_1) (y171.length : Int) t175 _ A10.out).mono ?_); rintro e w' ⟨rfl, ⟨nd, rfl⟩⟩; refine ⟨_, rfl, ?_⟩; have p176 : 0 ≤ (t175 : Int) := of_decide_eq_true (by first | (with_reducible assumption) | assumption); have q176 : t175 < (y171.length : Int) := of_decide_eq_true (by first | (with_reducible assumption) | assumption); obtain ⟨ad176, e176, hx176_0⟩ := Kd.at_string (Kd.R_reads' HO_5.out).2.2 t175 p176 q176; cases e176; replace p176 := eq_true p176; replace q176 := eq_true q176; have p177 : 0 ≤ (x7_1 : Int) := of_decide_eq_true (by first | (with_reducible assumption) | assumption); have q177 : x7_1 < (l0.length : Int) := of_decide_eq_true (by first | (with_reducible assumption) | assumption); obtain ⟨ad177, e177, hx177_0⟩ := Kd.at_int HR0.out x7_1 p177 q177; obtain rfl : ad174 = ad177 := (by injection e177); replace hx177_0 := (HB.out.cell (World.block_lt_of_cell? w _ hx177_0)).trans hx177_0; replace p177 := eq_true p177; replace q177 := eq_true q177) | ((with_reducible refine gate_callee (f := 21) rfl ?_); refine goesL_ (some 36) rfl rfl Try.func21 (by kernel_rfl) rfl #[.int .i64 (wrap64 (Int.tdiv (rd l0 x7_1) 40)), .int .i64 7] rfl (by (try simp only [List.map_toArray, List.map_cons, List.map_nil]); first | done | rfl | (simp only [List.length_drop, List.length_take]; rfl)) ?_; (with_reducible refine (interlocutorlaw3_within.calls (wrap64 (Int.tdiv (rd l0 x7_1) 40)) 7 t178 _ A14.out).mono ?_); rintro e w' ⟨rfl, ⟨nd, rfl⟩⟩; refine ⟨_, rfl, ?_⟩))
                        go_roundg kj4
                        case measure => have := HK1.out; have := HJ4.out; omega
                        case rel => exact ⟨(x6_1 ++ (rdOf ByteArray.empty y171 t175)), (wrap64 (x7_1 + 1)), (by first | rfl | (simp; done) | (simp [*]; done)), (by first | rfl | (simp; done) | (simp [*]; done)), H', ⟨by have := HK1.out; have := HJ4.out; omega⟩, ⟨by (with_reducible repeat (first | apply Kd.R_alloc | apply Kd.R_drewN | apply Kd.R_drew)); exact HO_5.out⟩, ⟨by repeat (first | (with_reducible first | exact HB.out | apply below_alloc | apply pw_below_drewN | apply below_drew1) | exact HB.out)⟩⟩
                    · rw [if_neg c13] at H
                      exact absurd H (by simp)
                  · rw [if_neg c12] at H
                    exact absurd H (by simp)
                · rw [if_neg c11] at H
                  exact absurd H (by simp)
              · rw [if_neg c9] at H
                exact absurd H (by simp)
            · rw [if_neg c8] at H
              exact absurd H (by simp)
          · replace c7 := Bool.eq_false_iff.mpr c7
            subst c7
            have H1 : (some x6_1) = some r := by rw [if_neg (show ¬ (false = true) by decide)] at H; exact H
            clear H
            have H := H1
            clear H1
            obtain rfl := Option.some.inj H
            go_wp2
            go_ret
            exact ⟨by first | rfl | (simp [errW_none, errW_some] <;> rfl) | (simp [*, errW_none, errW_some] <;> rfl), by repeat (first | (with_reducible first | exact HB.out | apply below_alloc | apply pw_below_drewN | apply below_drew1) | exact HB.out)⟩

end Go.Proofs.Ytmpmjghhikdefaa.G
