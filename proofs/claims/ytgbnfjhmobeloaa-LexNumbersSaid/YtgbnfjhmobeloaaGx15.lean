-- printed by wip/tool/gprint.py, a program of this work, out of the translation; Lean checks it
import Derived.Test.YtgbnfjhmobeloaaGx0
import Derived.Test.YtgbnfjhmobeloaaGx14
namespace Go.Proofs.Ytgbnfjhmobeloaa.G
open Go.RowKit Go.Proofs.YtgbnfjhmobeloaaW.PrintWords Go.Proofs.YtgbnfjhmobeloaaW.PrintLast Go.Proofs.YtgbnfjhmobeloaaW.PrintMore Go.Proofs.YtgbnfjhmobeloaaW.VWords
attribute [local go_sem] max2_int min2_int max_two min_two max_three min_three max_four min_four   -- for this text's walks alone
set_option linter.unusedVariables false
set_option linter.unusedSimpArgs false

/-! ### interlocutorlaw6_Text: function 17 -/
mutual
def interlocutorlaw6_Text.l0 : Nat → List Int → Int → List ByteArray → ByteArray → Int → Option (ByteArray)
  | 0, _, _, _, _, _ => none
  | k + 1, x0, x1, x5, x6, x7 => if x7 < (x0.length : Int) then (interlocutorlaw6_Text.j1 k x0 x1 x5 x6 x7 (decide (x7 < x1))) else (interlocutorlaw6_Text.j1 k x0 x1 x5 x6 x7 false)
def interlocutorlaw6_Text.j1 : Nat → List Int → Int → List ByteArray → ByteArray → Int → Bool → Option (ByteArray)
  | 0, _, _, _, _, _, _ => none
  | k + 1, x0, x1, x5, x6, x7, x17 => if x17 = true then (if 0 ≤ x7 then (if x7 < (x0.length : Int) then ((interlocutorlaw6_within.f (rd x0 x7) (x5.length : Int)).bind fun t198 => (if 0 ≤ t198 then (if t198 < (x5.length : Int) then (if x6.size + (rdOf ByteArray.empty x5 t198).size ≤ 9223372036854775807 then ((interlocutorlaw6_within.f (wrap64 (Int.tdiv (rd x0 x7) 64)) 3).bind fun t201 => (if t201 > 0 then (if (x6 ++ (rdOf ByteArray.empty x5 t198)).size + 1 ≤ 9223372036854775807 then (interlocutorlaw6_Text.l0 k x0 x1 x5 ((x6 ++ (rdOf ByteArray.empty x5 t198)) ++ (⟨#[32]⟩ : ByteArray)) (wrap64 (x7 + 1))) else (none)) else (interlocutorlaw6_Text.l0 k x0 x1 x5 (x6 ++ (rdOf ByteArray.empty x5 t198)) (wrap64 (x7 + 1))))) else (none)) else (none)) else (none))) else (none)) else (none)) else (some x6)
end
def interlocutorlaw6_Text.f (k : Nat) (l0 : List Int) (a1 : Int) : Option (ByteArray) := interlocutorlaw6_Text.l0 k l0 a1 (([(⟨#[49]⟩ : ByteArray), (⟨#[50]⟩ : ByteArray), (⟨#[49, 50]⟩ : ByteArray), (⟨#[51, 49]⟩ : ByteArray), (⟨#[50, 48, 50, 52]⟩ : ByteArray), (⟨#[57, 57]⟩ : ByteArray), (⟨#[48, 53]⟩ : ByteArray), (⟨#[47]⟩ : ByteArray), (⟨#[47]⟩ : ByteArray), (⟨#[45]⟩ : ByteArray), (⟨#[45]⟩ : ByteArray), (⟨#[46]⟩ : ByteArray), (⟨#[44]⟩ : ByteArray), (⟨#[58]⟩ : ByteArray), (⟨#[58]⟩ : ByteArray), (⟨#[32]⟩ : ByteArray), (⟨#[32]⟩ : ByteArray), (⟨#[109, 97, 121]⟩ : ByteArray), (⟨#[77, 65, 89]⟩ : ByteArray), (⟨#[100, 101, 99]⟩ : ByteArray), (⟨#[109, 111, 110, 100, 97, 121]⟩ : ByteArray), (⟨#[100, 97, 121]⟩ : ByteArray), (⟨#[100, 97, 121, 115]⟩ : ByteArray), (⟨#[119, 101, 101, 107]⟩ : ByteArray), (⟨#[109, 111, 110, 116, 104, 115]⟩ : ByteArray), (⟨#[97, 103, 111]⟩ : ByteArray), (⟨#[104, 101, 110, 99, 101]⟩ : ByteArray), (⟨#[97, 109]⟩ : ByteArray), (⟨#[112, 109]⟩ : ByteArray), (⟨#[101, 117, 114]⟩ : ByteArray), (⟨#[226, 130, 172]⟩ : ByteArray), (⟨#[121, 101, 110]⟩ : ByteArray), (⟨#[115]⟩ : ByteArray), (⟨#[109, 105, 110]⟩ : ByteArray), (⟨#[104]⟩ : ByteArray), (⟨#[116, 111]⟩ : ByteArray), (⟨#[97]⟩ : ByteArray), (⟨#[217, 163]⟩ : ByteArray), (⟨#[120]⟩ : ByteArray), (⟨#[9]⟩ : ByteArray), (⟨#[49, 47, 50, 47, 50, 48, 50, 52]⟩ : ByteArray), (⟨#[49, 50, 58, 51, 48]⟩ : ByteArray), (⟨#[51, 32, 100, 97, 121, 115, 32, 97, 103, 111]⟩ : ByteArray), (⟨#[53, 32, 104, 32, 51, 32, 109, 105, 110]⟩ : ByteArray)] : List ByteArray)) (⟨#[]⟩ : ByteArray) 0
theorem interlocutorlaw6_Text.mono_l : ∀ k, (∀ y0 y1 y2 y3 y4, LeO (interlocutorlaw6_Text.l0 k y0 y1 y2 y3 y4) (interlocutorlaw6_Text.l0 (k + 1) y0 y1 y2 y3 y4)) ∧ (∀ y0 y1 y2 y3 y4 y5, LeO (interlocutorlaw6_Text.j1 k y0 y1 y2 y3 y4 y5) (interlocutorlaw6_Text.j1 (k + 1) y0 y1 y2 y3 y4 y5))
  | 0 => ⟨fun _ _ _ _ _ r h => by simp [interlocutorlaw6_Text.l0] at h, fun _ _ _ _ _ _ r h => by simp [interlocutorlaw6_Text.j1] at h⟩
  | k + 1 => by
    obtain ⟨ih0, ih1⟩ := interlocutorlaw6_Text.mono_l k
    refine ⟨?_, ?_⟩
    · intro y0 y1 y2 y3 y4
      unfold interlocutorlaw6_Text.l0
      repeat' first
      | (with_reducible exact ih0 _ _ _ _ _)
      | (with_reducible exact ih1 _ _ _ _ _ _)
      | (with_reducible exact LeO.refl _)
      | (with_reducible exact LeO.none _)
      | (with_reducible refine LeO.ite ?_ ?_)
      | (with_reducible refine LeO.bind ?_ (fun _ => ?_))
      | exact ih0 _ _ _ _ _
      | exact ih1 _ _ _ _ _ _
      | exact LeO.none _
      | refine LeO.ite ?_ ?_
      | refine LeO.bind ?_ (fun _ => ?_)
    · intro y0 y1 y2 y3 y4 y5
      unfold interlocutorlaw6_Text.j1
      repeat' first
      | (with_reducible exact ih0 _ _ _ _ _)
      | (with_reducible exact ih1 _ _ _ _ _ _)
      | (with_reducible exact LeO.refl _)
      | (with_reducible exact LeO.none _)
      | (with_reducible refine LeO.ite ?_ ?_)
      | (with_reducible refine LeO.bind ?_ (fun _ => ?_))
      | exact ih0 _ _ _ _ _
      | exact ih1 _ _ _ _ _ _
      | exact LeO.none _
      | refine LeO.ite ?_ ?_
      | refine LeO.bind ?_ (fun _ => ?_)
theorem interlocutorlaw6_Text.mono : ∀ a0 a1 k, LeO (interlocutorlaw6_Text.f k a0 a1) (interlocutorlaw6_Text.f (k + 1) a0 a1) := by
  intro a0 a1 k
  obtain ⟨ih0, ih1⟩ := interlocutorlaw6_Text.mono_l k
  unfold interlocutorlaw6_Text.f
  repeat' first
      | (with_reducible exact ih0 _ _ _ _ _)
      | (with_reducible exact ih1 _ _ _ _ _ _)
      | (with_reducible exact LeO.refl _)
      | (with_reducible exact LeO.none _)
      | (with_reducible refine LeO.ite ?_ ?_)
      | (with_reducible refine LeO.bind ?_ (fun _ => ?_))
      | exact ih0 _ _ _ _ _
      | exact ih1 _ _ _ _ _ _
      | exact LeO.none _
      | refine LeO.ite ?_ ?_
      | refine LeO.bind ?_ (fun _ => ?_)
set_option maxHeartbeats 8000000 in
set_option maxRecDepth 100000 in
theorem interlocutorlaw6_Text.calls (k : Nat) (A0 : Option Addr) (c0 : Nat) (l0 : List Int) (a1 : Int) (r : ByteArray) (w : World) (hr0 : Kd.C (Kd.int .i64) w A0 l0.length l0) (hc0 : l0.length ≤ c0) (h : interlocutorlaw6_Text.f k l0 a1 = some r) :
    Calls Try.prog 17 #[.slice A0 l0.length c0, .int .i64 a1] w fun e w' => e = .returned (.string r) ∧ Below w.heap.size w w' := by
  have HR0 := Aside0.mk hr0
  have HC0 := Aside0.mk hc0
  clear hr0 hc0
  have HB := Aside0.mk (Below.refl w.heap.size w)
  have H : (interlocutorlaw6_Text.l0 k l0 a1 (([(⟨#[49]⟩ : ByteArray), (⟨#[50]⟩ : ByteArray), (⟨#[49, 50]⟩ : ByteArray), (⟨#[51, 49]⟩ : ByteArray), (⟨#[50, 48, 50, 52]⟩ : ByteArray), (⟨#[57, 57]⟩ : ByteArray), (⟨#[48, 53]⟩ : ByteArray), (⟨#[47]⟩ : ByteArray), (⟨#[47]⟩ : ByteArray), (⟨#[45]⟩ : ByteArray), (⟨#[45]⟩ : ByteArray), (⟨#[46]⟩ : ByteArray), (⟨#[44]⟩ : ByteArray), (⟨#[58]⟩ : ByteArray), (⟨#[58]⟩ : ByteArray), (⟨#[32]⟩ : ByteArray), (⟨#[32]⟩ : ByteArray), (⟨#[109, 97, 121]⟩ : ByteArray), (⟨#[77, 65, 89]⟩ : ByteArray), (⟨#[100, 101, 99]⟩ : ByteArray), (⟨#[109, 111, 110, 100, 97, 121]⟩ : ByteArray), (⟨#[100, 97, 121]⟩ : ByteArray), (⟨#[100, 97, 121, 115]⟩ : ByteArray), (⟨#[119, 101, 101, 107]⟩ : ByteArray), (⟨#[109, 111, 110, 116, 104, 115]⟩ : ByteArray), (⟨#[97, 103, 111]⟩ : ByteArray), (⟨#[104, 101, 110, 99, 101]⟩ : ByteArray), (⟨#[97, 109]⟩ : ByteArray), (⟨#[112, 109]⟩ : ByteArray), (⟨#[101, 117, 114]⟩ : ByteArray), (⟨#[226, 130, 172]⟩ : ByteArray), (⟨#[121, 101, 110]⟩ : ByteArray), (⟨#[115]⟩ : ByteArray), (⟨#[109, 105, 110]⟩ : ByteArray), (⟨#[104]⟩ : ByteArray), (⟨#[116, 111]⟩ : ByteArray), (⟨#[97]⟩ : ByteArray), (⟨#[217, 163]⟩ : ByteArray), (⟨#[120]⟩ : ByteArray), (⟨#[9]⟩ : ByteArray), (⟨#[49, 47, 50, 47, 50, 48, 50, 52]⟩ : ByteArray), (⟨#[49, 50, 58, 51, 48]⟩ : ByteArray), (⟨#[51, 32, 100, 97, 121, 115, 32, 97, 103, 111]⟩ : ByteArray), (⟨#[53, 32, 104, 32, 51, 32, 109, 105, 110]⟩ : ByteArray)] : List ByteArray)) (⟨#[]⟩ : ByteArray) 0) = some r := h
  clear h
  obtain ⟨y194, hy194⟩ : ∃ y_ : List ByteArray, y_ = (([(⟨#[49]⟩ : ByteArray), (⟨#[50]⟩ : ByteArray), (⟨#[49, 50]⟩ : ByteArray), (⟨#[51, 49]⟩ : ByteArray), (⟨#[50, 48, 50, 52]⟩ : ByteArray), (⟨#[57, 57]⟩ : ByteArray), (⟨#[48, 53]⟩ : ByteArray), (⟨#[47]⟩ : ByteArray), (⟨#[47]⟩ : ByteArray), (⟨#[45]⟩ : ByteArray), (⟨#[45]⟩ : ByteArray), (⟨#[46]⟩ : ByteArray), (⟨#[44]⟩ : ByteArray), (⟨#[58]⟩ : ByteArray), (⟨#[58]⟩ : ByteArray), (⟨#[32]⟩ : ByteArray), (⟨#[32]⟩ : ByteArray), (⟨#[109, 97, 121]⟩ : ByteArray), (⟨#[77, 65, 89]⟩ : ByteArray), (⟨#[100, 101, 99]⟩ : ByteArray), (⟨#[109, 111, 110, 100, 97, 121]⟩ : ByteArray), (⟨#[100, 97, 121]⟩ : ByteArray), (⟨#[100, 97, 121, 115]⟩ : ByteArray), (⟨#[119, 101, 101, 107]⟩ : ByteArray), (⟨#[109, 111, 110, 116, 104, 115]⟩ : ByteArray), (⟨#[97, 103, 111]⟩ : ByteArray), (⟨#[104, 101, 110, 99, 101]⟩ : ByteArray), (⟨#[97, 109]⟩ : ByteArray), (⟨#[112, 109]⟩ : ByteArray), (⟨#[101, 117, 114]⟩ : ByteArray), (⟨#[226, 130, 172]⟩ : ByteArray), (⟨#[121, 101, 110]⟩ : ByteArray), (⟨#[115]⟩ : ByteArray), (⟨#[109, 105, 110]⟩ : ByteArray), (⟨#[104]⟩ : ByteArray), (⟨#[116, 111]⟩ : ByteArray), (⟨#[97]⟩ : ByteArray), (⟨#[217, 163]⟩ : ByteArray), (⟨#[120]⟩ : ByteArray), (⟨#[9]⟩ : ByteArray), (⟨#[49, 47, 50, 47, 50, 48, 50, 52]⟩ : ByteArray), (⟨#[49, 50, 58, 51, 48]⟩ : ByteArray), (⟨#[51, 32, 100, 97, 121, 115, 32, 97, 103, 111]⟩ : ByteArray), (⟨#[53, 32, 104, 32, 51, 32, 109, 105, 110]⟩ : ByteArray)] : List ByteArray)) := ⟨_, rfl⟩
  replace H : (interlocutorlaw6_Text.l0 k l0 a1 y194 (⟨#[]⟩ : ByteArray) 0) = some r := by first | (rw [hy194]; with_reducible exact H) | (have H2_ := (Option.bind_some _ _).symm.trans H; rw [hy194]; with_reducible exact H2_) | (have H2_ := (Option.bind_some _ _).symm.trans H; with_reducible exact H2_) | with_reducible exact H | (rw [hy194]; exact H) | exact H
  have Ny194 := Aside0.mk hy194
  clear hy194
  have H' := Aside0.mk H
  clear H
  go_enter Try.func17, Try.ntmps17
  go_wp2_with (first | ((with_reducible refine gate_dst (N := 8) rfl ?_); refine Kd.R_lit Kd.string _ 9 ?hg (N := 8) ?hd (xs := ([(⟨#[49]⟩ : ByteArray), (⟨#[50]⟩ : ByteArray), (⟨#[49, 50]⟩ : ByteArray), (⟨#[51, 49]⟩ : ByteArray), (⟨#[50, 48, 50, 52]⟩ : ByteArray), (⟨#[57, 57]⟩ : ByteArray), (⟨#[48, 53]⟩ : ByteArray), (⟨#[47]⟩ : ByteArray), (⟨#[47]⟩ : ByteArray), (⟨#[45]⟩ : ByteArray), (⟨#[45]⟩ : ByteArray), (⟨#[46]⟩ : ByteArray), (⟨#[44]⟩ : ByteArray), (⟨#[58]⟩ : ByteArray), (⟨#[58]⟩ : ByteArray), (⟨#[32]⟩ : ByteArray), (⟨#[32]⟩ : ByteArray), (⟨#[109, 97, 121]⟩ : ByteArray), (⟨#[77, 65, 89]⟩ : ByteArray), (⟨#[100, 101, 99]⟩ : ByteArray), (⟨#[109, 111, 110, 100, 97, 121]⟩ : ByteArray), (⟨#[100, 97, 121]⟩ : ByteArray), (⟨#[100, 97, 121, 115]⟩ : ByteArray), (⟨#[119, 101, 101, 107]⟩ : ByteArray), (⟨#[109, 111, 110, 116, 104, 115]⟩ : ByteArray), (⟨#[97, 103, 111]⟩ : ByteArray), (⟨#[104, 101, 110, 99, 101]⟩ : ByteArray), (⟨#[97, 109]⟩ : ByteArray), (⟨#[112, 109]⟩ : ByteArray), (⟨#[101, 117, 114]⟩ : ByteArray), (⟨#[226, 130, 172]⟩ : ByteArray), (⟨#[121, 101, 110]⟩ : ByteArray), (⟨#[115]⟩ : ByteArray), (⟨#[109, 105, 110]⟩ : ByteArray), (⟨#[104]⟩ : ByteArray), (⟨#[116, 111]⟩ : ByteArray), (⟨#[97]⟩ : ByteArray), (⟨#[217, 163]⟩ : ByteArray), (⟨#[120]⟩ : ByteArray), (⟨#[9]⟩ : ByteArray), (⟨#[49, 47, 50, 47, 50, 48, 50, 52]⟩ : ByteArray), (⟨#[49, 50, 58, 51, 48]⟩ : ByteArray), (⟨#[51, 32, 100, 97, 121, 115, 32, 97, 103, 111]⟩ : ByteArray), (⟨#[53, 32, 104, 32, 51, 32, 109, 105, 110]⟩ : ByteArray)] : List ByteArray)) (inner := [.string (⟨#[49]⟩ : ByteArray), .string (⟨#[50]⟩ : ByteArray), .string (⟨#[49, 50]⟩ : ByteArray), .string (⟨#[51, 49]⟩ : ByteArray), .string (⟨#[50, 48, 50, 52]⟩ : ByteArray), .string (⟨#[57, 57]⟩ : ByteArray), .string (⟨#[48, 53]⟩ : ByteArray), .string (⟨#[47]⟩ : ByteArray), .string (⟨#[47]⟩ : ByteArray), .string (⟨#[45]⟩ : ByteArray), .string (⟨#[45]⟩ : ByteArray), .string (⟨#[46]⟩ : ByteArray), .string (⟨#[44]⟩ : ByteArray), .string (⟨#[58]⟩ : ByteArray), .string (⟨#[58]⟩ : ByteArray), .string (⟨#[32]⟩ : ByteArray), .string (⟨#[32]⟩ : ByteArray), .string (⟨#[109, 97, 121]⟩ : ByteArray), .string (⟨#[77, 65, 89]⟩ : ByteArray), .string (⟨#[100, 101, 99]⟩ : ByteArray), .string (⟨#[109, 111, 110, 100, 97, 121]⟩ : ByteArray), .string (⟨#[100, 97, 121]⟩ : ByteArray), .string (⟨#[100, 97, 121, 115]⟩ : ByteArray), .string (⟨#[119, 101, 101, 107]⟩ : ByteArray), .string (⟨#[109, 111, 110, 116, 104, 115]⟩ : ByteArray), .string (⟨#[97, 103, 111]⟩ : ByteArray), .string (⟨#[104, 101, 110, 99, 101]⟩ : ByteArray), .string (⟨#[97, 109]⟩ : ByteArray), .string (⟨#[112, 109]⟩ : ByteArray), .string (⟨#[101, 117, 114]⟩ : ByteArray), .string (⟨#[226, 130, 172]⟩ : ByteArray), .string (⟨#[121, 101, 110]⟩ : ByteArray), .string (⟨#[115]⟩ : ByteArray), .string (⟨#[109, 105, 110]⟩ : ByteArray), .string (⟨#[104]⟩ : ByteArray), .string (⟨#[116, 111]⟩ : ByteArray), .string (⟨#[97]⟩ : ByteArray), .string (⟨#[217, 163]⟩ : ByteArray), .string (⟨#[120]⟩ : ByteArray), .string (⟨#[9]⟩ : ByteArray), .string (⟨#[49, 47, 50, 47, 50, 48, 50, 52]⟩ : ByteArray), .string (⟨#[49, 50, 58, 51, 48]⟩ : ByteArray), .string (⟨#[51, 32, 100, 97, 121, 115, 32, 97, 103, 111]⟩ : ByteArray), .string (⟨#[53, 32, 104, 32, 51, 32, 109, 105, 110]⟩ : ByteArray)]) (ok := fun _ => True) (okp := fun _ => True) ?hr ?hp (fun _ hk => hk) trivial (Below.refl _ _) (Nat.le_refl _) (by simp) ?_; (case hd => rfl); (case hg => rfl); (case hr => first | (go_simp; done) | (go_simp; rfl)); (case hp => exact (Reps.one (show Kd.M Kd.string _ _ _ (⟨#[49]⟩ : ByteArray) [.string (⟨#[49]⟩ : ByteArray)] from rfl) (Reps.one (show Kd.M Kd.string _ _ _ (⟨#[50]⟩ : ByteArray) [.string (⟨#[50]⟩ : ByteArray)] from rfl) (Reps.one (show Kd.M Kd.string _ _ _ (⟨#[49, 50]⟩ : ByteArray) [.string (⟨#[49, 50]⟩ : ByteArray)] from rfl) (Reps.one (show Kd.M Kd.string _ _ _ (⟨#[51, 49]⟩ : ByteArray) [.string (⟨#[51, 49]⟩ : ByteArray)] from rfl) (Reps.one (show Kd.M Kd.string _ _ _ (⟨#[50, 48, 50, 52]⟩ : ByteArray) [.string (⟨#[50, 48, 50, 52]⟩ : ByteArray)] from rfl) (Reps.one (show Kd.M Kd.string _ _ _ (⟨#[57, 57]⟩ : ByteArray) [.string (⟨#[57, 57]⟩ : ByteArray)] from rfl) (Reps.one (show Kd.M Kd.string _ _ _ (⟨#[48, 53]⟩ : ByteArray) [.string (⟨#[48, 53]⟩ : ByteArray)] from rfl) (Reps.one (show Kd.M Kd.string _ _ _ (⟨#[47]⟩ : ByteArray) [.string (⟨#[47]⟩ : ByteArray)] from rfl) (Reps.one (show Kd.M Kd.string _ _ _ (⟨#[47]⟩ : ByteArray) [.string (⟨#[47]⟩ : ByteArray)] from rfl) (Reps.one (show Kd.M Kd.string _ _ _ (⟨#[45]⟩ : ByteArray) [.string (⟨#[45]⟩ : ByteArray)] from rfl) (Reps.one (show Kd.M Kd.string _ _ _ (⟨#[45]⟩ : ByteArray) [.string (⟨#[45]⟩ : ByteArray)] from rfl) (Reps.one (show Kd.M Kd.string _ _ _ (⟨#[46]⟩ : ByteArray) [.string (⟨#[46]⟩ : ByteArray)] from rfl) (Reps.one (show Kd.M Kd.string _ _ _ (⟨#[44]⟩ : ByteArray) [.string (⟨#[44]⟩ : ByteArray)] from rfl) (Reps.one (show Kd.M Kd.string _ _ _ (⟨#[58]⟩ : ByteArray) [.string (⟨#[58]⟩ : ByteArray)] from rfl) (Reps.one (show Kd.M Kd.string _ _ _ (⟨#[58]⟩ : ByteArray) [.string (⟨#[58]⟩ : ByteArray)] from rfl) (Reps.one (show Kd.M Kd.string _ _ _ (⟨#[32]⟩ : ByteArray) [.string (⟨#[32]⟩ : ByteArray)] from rfl) (Reps.one (show Kd.M Kd.string _ _ _ (⟨#[32]⟩ : ByteArray) [.string (⟨#[32]⟩ : ByteArray)] from rfl) (Reps.one (show Kd.M Kd.string _ _ _ (⟨#[109, 97, 121]⟩ : ByteArray) [.string (⟨#[109, 97, 121]⟩ : ByteArray)] from rfl) (Reps.one (show Kd.M Kd.string _ _ _ (⟨#[77, 65, 89]⟩ : ByteArray) [.string (⟨#[77, 65, 89]⟩ : ByteArray)] from rfl) (Reps.one (show Kd.M Kd.string _ _ _ (⟨#[100, 101, 99]⟩ : ByteArray) [.string (⟨#[100, 101, 99]⟩ : ByteArray)] from rfl) (Reps.one (show Kd.M Kd.string _ _ _ (⟨#[109, 111, 110, 100, 97, 121]⟩ : ByteArray) [.string (⟨#[109, 111, 110, 100, 97, 121]⟩ : ByteArray)] from rfl) (Reps.one (show Kd.M Kd.string _ _ _ (⟨#[100, 97, 121]⟩ : ByteArray) [.string (⟨#[100, 97, 121]⟩ : ByteArray)] from rfl) (Reps.one (show Kd.M Kd.string _ _ _ (⟨#[100, 97, 121, 115]⟩ : ByteArray) [.string (⟨#[100, 97, 121, 115]⟩ : ByteArray)] from rfl) (Reps.one (show Kd.M Kd.string _ _ _ (⟨#[119, 101, 101, 107]⟩ : ByteArray) [.string (⟨#[119, 101, 101, 107]⟩ : ByteArray)] from rfl) (Reps.one (show Kd.M Kd.string _ _ _ (⟨#[109, 111, 110, 116, 104, 115]⟩ : ByteArray) [.string (⟨#[109, 111, 110, 116, 104, 115]⟩ : ByteArray)] from rfl) (Reps.one (show Kd.M Kd.string _ _ _ (⟨#[97, 103, 111]⟩ : ByteArray) [.string (⟨#[97, 103, 111]⟩ : ByteArray)] from rfl) (Reps.one (show Kd.M Kd.string _ _ _ (⟨#[104, 101, 110, 99, 101]⟩ : ByteArray) [.string (⟨#[104, 101, 110, 99, 101]⟩ : ByteArray)] from rfl) (Reps.one (show Kd.M Kd.string _ _ _ (⟨#[97, 109]⟩ : ByteArray) [.string (⟨#[97, 109]⟩ : ByteArray)] from rfl) (Reps.one (show Kd.M Kd.string _ _ _ (⟨#[112, 109]⟩ : ByteArray) [.string (⟨#[112, 109]⟩ : ByteArray)] from rfl) (Reps.one (show Kd.M Kd.string _ _ _ (⟨#[101, 117, 114]⟩ : ByteArray) [.string (⟨#[101, 117, 114]⟩ : ByteArray)] from rfl) (Reps.one (show Kd.M Kd.string _ _ _ (⟨#[226, 130, 172]⟩ : ByteArray) [.string (⟨#[226, 130, 172]⟩ : ByteArray)] from rfl) (Reps.one (show Kd.M Kd.string _ _ _ (⟨#[121, 101, 110]⟩ : ByteArray) [.string (⟨#[121, 101, 110]⟩ : ByteArray)] from rfl) (Reps.one (show Kd.M Kd.string _ _ _ (⟨#[115]⟩ : ByteArray) [.string (⟨#[115]⟩ : ByteArray)] from rfl) (Reps.one (show Kd.M Kd.string _ _ _ (⟨#[109, 105, 110]⟩ : ByteArray) [.string (⟨#[109, 105, 110]⟩ : ByteArray)] from rfl) (Reps.one (show Kd.M Kd.string _ _ _ (⟨#[104]⟩ : ByteArray) [.string (⟨#[104]⟩ : ByteArray)] from rfl) (Reps.one (show Kd.M Kd.string _ _ _ (⟨#[116, 111]⟩ : ByteArray) [.string (⟨#[116, 111]⟩ : ByteArray)] from rfl) (Reps.one (show Kd.M Kd.string _ _ _ (⟨#[97]⟩ : ByteArray) [.string (⟨#[97]⟩ : ByteArray)] from rfl) (Reps.one (show Kd.M Kd.string _ _ _ (⟨#[217, 163]⟩ : ByteArray) [.string (⟨#[217, 163]⟩ : ByteArray)] from rfl) (Reps.one (show Kd.M Kd.string _ _ _ (⟨#[120]⟩ : ByteArray) [.string (⟨#[120]⟩ : ByteArray)] from rfl) (Reps.one (show Kd.M Kd.string _ _ _ (⟨#[9]⟩ : ByteArray) [.string (⟨#[9]⟩ : ByteArray)] from rfl) (Reps.one (show Kd.M Kd.string _ _ _ (⟨#[49, 47, 50, 47, 50, 48, 50, 52]⟩ : ByteArray) [.string (⟨#[49, 47, 50, 47, 50, 48, 50, 52]⟩ : ByteArray)] from rfl) (Reps.one (show Kd.M Kd.string _ _ _ (⟨#[49, 50, 58, 51, 48]⟩ : ByteArray) [.string (⟨#[49, 50, 58, 51, 48]⟩ : ByteArray)] from rfl) (Reps.one (show Kd.M Kd.string _ _ _ (⟨#[51, 32, 100, 97, 121, 115, 32, 97, 103, 111]⟩ : ByteArray) [.string (⟨#[51, 32, 100, 97, 121, 115, 32, 97, 103, 111]⟩ : ByteArray)] from rfl) (Reps.one (show Kd.M Kd.string _ _ _ (⟨#[53, 32, 104, 32, 51, 32, 109, 105, 110]⟩ : ByteArray) [.string (⟨#[53, 32, 104, 32, 51, 32, 109, 105, 110]⟩ : ByteArray)] from rfl) (Reps.none _ _)))))))))))))))))))))))))))))))))))))))))))))); intro v195 w3 ho4 hb hg_ hnew_; clear hg_ hnew_; (first | rw [← Ny194.out] at ho4 | (simp only [Int.reduceToNat] at ho4; rw [← Ny194.out] at ho4)); have n0_ := Aside0.mk (Kd.R_lower ho4 (below_size (by repeat (first | (with_reducible first | exact HB.out | apply below_alloc | apply pw_below_drewN | apply below_drew1) | exact HB.out)))); have n1_ := Aside0.mk (below_step (by repeat (first | (with_reducible first | exact HB.out | apply below_alloc | apply pw_below_drewN | apply below_drew1) | exact HB.out)) hb); clear HB; have HO196 := n0_; have HB := n1_; clear n0_ n1_; clear hb ho4))
  go_loopg [6, 7] k (fun kq v6 v7 w' => ∃ (x6_1 : ByteArray) (x7_1 : Int), v6 = .string x6_1 ∧ v7 = .int .i64 x7_1 ∧ Aside0 (interlocutorlaw6_Text.l0 kq l0 a1 y194 x6_1 x7_1 = some r) ∧ Aside0 (kq ≤ k) ∧ Aside0 (Kd.R Kd.string 9 w' w.heap.size (fun _ => True) v195 y194) ∧ Aside0 (Below w.heap.size w w'))
  case atStart => exact ⟨((⟨#[]⟩ : ByteArray)), (0), (by first | rfl | (simp; done) | (simp [*]; done)), (by first | rfl | (simp; done) | (simp [*]; done)), H', ⟨Nat.le_refl _⟩, ⟨by (with_reducible repeat (first | apply Kd.R_alloc | apply Kd.R_drewN | apply Kd.R_drew)); exact HO196.out⟩, ⟨by repeat (first | (with_reducible first | exact HB.out | apply below_alloc | apply pw_below_drewN | apply below_drew1) | exact HB.out)⟩⟩
  case round =>
    clear H'
    try clear c1
    try clear p2
    obtain ⟨x6_1, x7_1, rfl, rfl, HA, HK1, HO_5, HB⟩ := hrel
    cases gk with
    | zero => exact absurd HA.out (by simp [interlocutorlaw6_Text.l0])
    | succ k1 =>
      have H := HA.out
      clear HA
      simp only [interlocutorlaw6_Text.l0] at H
      have HC5 := Aside0.mk H
      clear H
      go_upto_region 4 with (fail)
      go_cut [17] (fun v17 wc => ∃ (kq : Nat) (x17_4 : Bool), v17 = .bool x17_4 ∧ Aside0 (interlocutorlaw6_Text.j1 kq l0 a1 y194 x6_1 x7_1 x17_4 = some r) ∧ Aside0 (kq ≤ k1) ∧ Aside0 (Kd.R Kd.string 9 wc w.heap.size (fun _ => True) v195 y194) ∧ Aside0 (Below w.heap.size w wc))
      case first =>
        have H := HC5.out
        clear HC5
        by_cases c6 : x7_1 < (l0.length : Int)
        · rw [if_pos c6] at H
          have c6b0 : decide (x7_1 < (l0.length : Int)) = true := decide_eq_true c6
          clear c6
          (first | rw [c6b0] | (simp only [i64_w, i32_w]; rw [c6b0]) | skip)
          have H' := Aside0.mk H
          clear H
          go_wp2
          go_meet
          case rel => exact ⟨_, (decide (x7_1 < a1)), (by first | rfl | (simp; done) | (simp [*]; done)), H', ⟨by have := HK1.out; first | omega | exact Nat.le_refl _⟩, ⟨by (with_reducible repeat (first | apply Kd.R_alloc | apply Kd.R_drewN | apply Kd.R_drew)); exact HO_5.out⟩, ⟨by repeat (first | (with_reducible first | exact HB.out | apply below_alloc | apply pw_below_drewN | apply below_drew1) | exact HB.out)⟩⟩
        · rw [if_neg c6] at H
          have c6b0 : decide (x7_1 < (l0.length : Int)) = false := decide_eq_false c6
          clear c6
          (first | rw [c6b0] | (simp only [i64_w, i32_w]; rw [c6b0]) | skip)
          have H' := Aside0.mk H
          clear H
          go_wp2
          go_meet
          case rel => exact ⟨_, (false), (by first | rfl | (simp; done) | (simp [*]; done)), H', ⟨by have := HK1.out; first | omega | exact Nat.le_refl _⟩, ⟨by (with_reducible repeat (first | apply Kd.R_alloc | apply Kd.R_drewN | apply Kd.R_drew)); exact HO_5.out⟩, ⟨by repeat (first | (with_reducible first | exact HB.out | apply below_alloc | apply pw_below_drewN | apply below_drew1) | exact HB.out)⟩⟩
      case rest =>
        clear HC5
        try clear c1
        try clear p2
        try clear c6
        try clear c6b0
        try clear p2
        obtain ⟨kq, x17_4, rfl, HA, HJ4, HO_5, HB⟩ := hcut
        cases kq with
        | zero => exact absurd HA.out (by simp [interlocutorlaw6_Text.j1])
        | succ kj4 =>
          have H := HA.out
          clear HA
          simp only [interlocutorlaw6_Text.j1] at H
          by_cases c7 : x17_4 = true
          · subst c7
            have H1 : (if 0 ≤ x7_1 then (if x7_1 < (l0.length : Int) then ((interlocutorlaw6_within.f (rd l0 x7_1) (y194.length : Int)).bind fun t198 => (if 0 ≤ t198 then (if t198 < (y194.length : Int) then (if x6_1.size + (rdOf ByteArray.empty y194 t198).size ≤ 9223372036854775807 then ((interlocutorlaw6_within.f (wrap64 (Int.tdiv (rd l0 x7_1) 64)) 3).bind fun t201 => (if t201 > 0 then (if (x6_1 ++ (rdOf ByteArray.empty y194 t198)).size + 1 ≤ 9223372036854775807 then (interlocutorlaw6_Text.l0 kj4 l0 a1 y194 ((x6_1 ++ (rdOf ByteArray.empty y194 t198)) ++ (⟨#[32]⟩ : ByteArray)) (wrap64 (x7_1 + 1))) else (none)) else (interlocutorlaw6_Text.l0 kj4 l0 a1 y194 (x6_1 ++ (rdOf ByteArray.empty y194 t198)) (wrap64 (x7_1 + 1))))) else (none)) else (none)) else (none))) else (none)) else (none)) = some r := by rw [if_pos rfl] at H; exact H
            clear H
            have H := H1
            clear H1
            by_cases c8 : 0 ≤ x7_1
            · rw [if_pos c8] at H
              have c8b0 : decide (0 ≤ x7_1) = true := decide_eq_true c8
              clear c8
              by_cases c9 : x7_1 < (l0.length : Int)
              · rw [if_pos c9] at H
                have c9b0 : decide (x7_1 < (l0.length : Int)) = true := decide_eq_true c9
                clear c9
                replace H := Option.bind_eq_some_iff.mp H
                obtain ⟨t198, A100, H⟩ := H
                replace H : (if 0 ≤ t198 then (if t198 < (y194.length : Int) then (if x6_1.size + (rdOf ByteArray.empty y194 t198).size ≤ 9223372036854775807 then ((interlocutorlaw6_within.f (wrap64 (Int.tdiv (rd l0 x7_1) 64)) 3).bind fun t201 => (if t201 > 0 then (if (x6_1 ++ (rdOf ByteArray.empty y194 t198)).size + 1 ≤ 9223372036854775807 then (interlocutorlaw6_Text.l0 kj4 l0 a1 y194 ((x6_1 ++ (rdOf ByteArray.empty y194 t198)) ++ (⟨#[32]⟩ : ByteArray)) (wrap64 (x7_1 + 1))) else (none)) else (interlocutorlaw6_Text.l0 kj4 l0 a1 y194 (x6_1 ++ (rdOf ByteArray.empty y194 t198)) (wrap64 (x7_1 + 1))))) else (none)) else (none)) else (none)) = some r := H
                have A10 := Aside0.mk A100
                clear A100
                by_cases c11 : 0 ≤ t198
                · rw [if_pos c11] at H
                  have c11b0 : decide (0 ≤ t198) = true := decide_eq_true c11
                  clear c11
                  by_cases c12 : t198 < (y194.length : Int)
                  · rw [if_pos c12] at H
                    have c12b0 : decide (t198 < (y194.length : Int)) = true := decide_eq_true c12
                    clear c12
                    by_cases c13 : x6_1.size + (rdOf ByteArray.empty y194 t198).size ≤ 9223372036854775807
                    · rw [if_pos c13] at H
                      have c13b0 := eq_true c13
                      have c13b1 : decide (x6_1.size + (rdOf ByteArray.empty y194 t198).size ≤ 9223372036854775807) = true := decide_eq_true c13
                      try have c13b2 : (9223372036854775807 < x6_1.size + (rdOf ByteArray.empty y194 t198).size) = False := eq_false (Nat.not_lt.2 c13)
                      try (have c13b3 := c13b2; simp only [ByteArray.size_append] at c13b3)
                      try (have c13b4 := c13b2; simp only [ByteArray.size_append, ByteArray.size_extract, Nat.min_self] at c13b4)
                      try (have c13b5 := c13b2; simp only [ByteArray.size_append, ByteArray.size_extract, Nat.min_self, size_mk_, List.size_toArray, List.length_cons, List.length_nil, Nat.zero_add, Nat.reduceAdd] at c13b5)
                      replace H := Option.bind_eq_some_iff.mp H
                      obtain ⟨t201, A140, H⟩ := H
                      replace H : (if t201 > 0 then (if (x6_1 ++ (rdOf ByteArray.empty y194 t198)).size + 1 ≤ 9223372036854775807 then (interlocutorlaw6_Text.l0 kj4 l0 a1 y194 ((x6_1 ++ (rdOf ByteArray.empty y194 t198)) ++ (⟨#[32]⟩ : ByteArray)) (wrap64 (x7_1 + 1))) else (none)) else (interlocutorlaw6_Text.l0 kj4 l0 a1 y194 (x6_1 ++ (rdOf ByteArray.empty y194 t198)) (wrap64 (x7_1 + 1)))) = some r := H
                      have A14 := Aside0.mk A140
                      clear A140
                      by_cases c15 : t201 > 0
                      · rw [if_pos c15] at H
                        have c15b0 : decide (0 < t201) = true := decide_eq_true c15
                        clear c15
                        by_cases c16 : (x6_1 ++ (rdOf ByteArray.empty y194 t198)).size + 1 ≤ 9223372036854775807
                        · rw [if_pos c16] at H
                          have c16b0 := eq_true c16
                          have c16b1 : decide ((x6_1 ++ (rdOf ByteArray.empty y194 t198)).size + 1 ≤ 9223372036854775807) = true := decide_eq_true c16
                          try have c16b2 : (9223372036854775807 < (x6_1 ++ (rdOf ByteArray.empty y194 t198)).size + 1) = False := eq_false (Nat.not_lt.2 c16)
                          try (have c16b3 := c16b2; simp only [ByteArray.size_append] at c16b3)
                          try (have c16b4 := c16b2; simp only [ByteArray.size_append, ByteArray.size_extract, Nat.min_self] at c16b4)
                          try (have c16b5 := c16b2; simp only [ByteArray.size_append, ByteArray.size_extract, Nat.min_self, size_mk_, List.size_toArray, List.length_cons, List.length_nil, Nat.zero_add, Nat.reduceAdd] at c16b5)
                          have H' := Aside0.mk H
                          clear H
                          have p197 : 0 ≤ (x7_1 : Int) := of_decide_eq_true (by first | (with_reducible assumption) | assumption)
                          have q197 : x7_1 < (l0.length : Int) := of_decide_eq_true (by first | (with_reducible assumption) | assumption)
                          obtain ⟨ad197, e197, hx197_0⟩ := Kd.at_int HR0.out x7_1 p197 q197
                          cases e197
                          replace hx197_0 := (HB.out.cell (World.block_lt_of_cell? w _ hx197_0)).trans hx197_0
                          replace p197 := eq_true p197
                          replace q197 := eq_true q197
                          obtain ⟨Ao17, co17, eo17⟩ := Kd.R_slice HO_5.out
                          subst eo17
                          go_wp2_with (first | ((with_reducible refine gate_callee (f := 27) rfl ?_); refine goesL_ (some 28) rfl rfl Try.func27 (by kernel_rfl) rfl #[.int .i64 (rd l0 x7_1), .int .i64 (y194.length : Int)] rfl (by (try simp only [List.map_toArray, List.map_cons, List.map_nil]); first | done | rfl | (simp only [List.length_drop, List.length_take]; rfl)) ?_; (with_reducible refine (interlocutorlaw6_within.calls (rd l0 x7_1) (y194.length : Int) t198 _ A10.out).mono ?_); rintro e w' ⟨rfl, ⟨nd, rfl⟩⟩; refine ⟨_, rfl, ?_⟩; have p199 : 0 ≤ (t198 : Int) := of_decide_eq_true (by first | (with_reducible assumption) | assumption); have q199 : t198 < (y194.length : Int) := of_decide_eq_true (by first | (with_reducible assumption) | assumption); obtain ⟨ad199, e199, hx199_0⟩ := Kd.at_string (Kd.R_reads' HO_5.out).2.2 t198 p199 q199; cases e199; replace p199 := eq_true p199; replace q199 := eq_true q199; have p200 : 0 ≤ (x7_1 : Int) := of_decide_eq_true (by first | (with_reducible assumption) | assumption); have q200 : x7_1 < (l0.length : Int) := of_decide_eq_true (by first | (with_reducible assumption) | assumption); obtain ⟨ad200, e200, hx200_0⟩ := Kd.at_int HR0.out x7_1 p200 q200; obtain rfl : ad197 = ad200 := (by injection e200); replace hx200_0 := (HB.out.cell (World.block_lt_of_cell? w _ hx200_0)).trans hx200_0; replace p200 := eq_true p200; replace q200 := eq_true q200) | ((with_reducible refine gate_callee (f := 27) rfl ?_); refine goesL_ (some 37) rfl rfl Try.func27 (by kernel_rfl) rfl #[.int .i64 (wrap64 (Int.tdiv (rd l0 x7_1) 64)), .int .i64 3] rfl (by (try simp only [List.map_toArray, List.map_cons, List.map_nil]); first | done | rfl | (simp only [List.length_drop, List.length_take]; rfl)) ?_; (with_reducible refine (interlocutorlaw6_within.calls (wrap64 (Int.tdiv (rd l0 x7_1) 64)) 3 t201 _ A14.out).mono ?_); rintro e w' ⟨rfl, ⟨nd, rfl⟩⟩; refine ⟨_, rfl, ?_⟩))
                          go_roundg kj4
                          case measure => have := HK1.out; have := HJ4.out; omega
                          case rel => exact ⟨((x6_1 ++ (rdOf ByteArray.empty y194 t198)) ++ (⟨#[32]⟩ : ByteArray)), (wrap64 (x7_1 + 1)), (by first | rfl | (simp; done) | (simp [*]; done)), (by first | rfl | (simp; done) | (simp [*]; done)), H', ⟨by have := HK1.out; have := HJ4.out; omega⟩, ⟨by (with_reducible repeat (first | apply Kd.R_alloc | apply Kd.R_drewN | apply Kd.R_drew)); exact HO_5.out⟩, ⟨by repeat (first | (with_reducible first | exact HB.out | apply below_alloc | apply pw_below_drewN | apply below_drew1) | exact HB.out)⟩⟩
                        · rw [if_neg c16] at H
                          exact absurd H (by simp)
                      · rw [if_neg c15] at H
                        have c15b0 : decide (0 < t201) = false := decide_eq_false c15
                        clear c15
                        have H' := Aside0.mk H
                        clear H
                        have p197 : 0 ≤ (x7_1 : Int) := of_decide_eq_true (by first | (with_reducible assumption) | assumption)
                        have q197 : x7_1 < (l0.length : Int) := of_decide_eq_true (by first | (with_reducible assumption) | assumption)
                        obtain ⟨ad197, e197, hx197_0⟩ := Kd.at_int HR0.out x7_1 p197 q197
                        cases e197
                        replace hx197_0 := (HB.out.cell (World.block_lt_of_cell? w _ hx197_0)).trans hx197_0
                        replace p197 := eq_true p197
                        replace q197 := eq_true q197
                        obtain ⟨Ao18, co18, eo18⟩ := Kd.R_slice HO_5.out
                        subst eo18
                        go_wp2_with (first | ((with_reducible refine gate_callee (f := 27) rfl ?_); refine goesL_ (some 28) rfl rfl Try.func27 (by kernel_rfl) rfl #[.int .i64 (rd l0 x7_1), .int .i64 (y194.length : Int)] rfl (by (try simp only [List.map_toArray, List.map_cons, List.map_nil]); first | done | rfl | (simp only [List.length_drop, List.length_take]; rfl)) ?_; (with_reducible refine (interlocutorlaw6_within.calls (rd l0 x7_1) (y194.length : Int) t198 _ A10.out).mono ?_); rintro e w' ⟨rfl, ⟨nd, rfl⟩⟩; refine ⟨_, rfl, ?_⟩; have p199 : 0 ≤ (t198 : Int) := of_decide_eq_true (by first | (with_reducible assumption) | assumption); have q199 : t198 < (y194.length : Int) := of_decide_eq_true (by first | (with_reducible assumption) | assumption); obtain ⟨ad199, e199, hx199_0⟩ := Kd.at_string (Kd.R_reads' HO_5.out).2.2 t198 p199 q199; cases e199; replace p199 := eq_true p199; replace q199 := eq_true q199; have p200 : 0 ≤ (x7_1 : Int) := of_decide_eq_true (by first | (with_reducible assumption) | assumption); have q200 : x7_1 < (l0.length : Int) := of_decide_eq_true (by first | (with_reducible assumption) | assumption); obtain ⟨ad200, e200, hx200_0⟩ := Kd.at_int HR0.out x7_1 p200 q200; obtain rfl : ad197 = ad200 := (by injection e200); replace hx200_0 := (HB.out.cell (World.block_lt_of_cell? w _ hx200_0)).trans hx200_0; replace p200 := eq_true p200; replace q200 := eq_true q200) | ((with_reducible refine gate_callee (f := 27) rfl ?_); refine goesL_ (some 37) rfl rfl Try.func27 (by kernel_rfl) rfl #[.int .i64 (wrap64 (Int.tdiv (rd l0 x7_1) 64)), .int .i64 3] rfl (by (try simp only [List.map_toArray, List.map_cons, List.map_nil]); first | done | rfl | (simp only [List.length_drop, List.length_take]; rfl)) ?_; (with_reducible refine (interlocutorlaw6_within.calls (wrap64 (Int.tdiv (rd l0 x7_1) 64)) 3 t201 _ A14.out).mono ?_); rintro e w' ⟨rfl, ⟨nd, rfl⟩⟩; refine ⟨_, rfl, ?_⟩))
                        go_roundg kj4
                        case measure => have := HK1.out; have := HJ4.out; omega
                        case rel => exact ⟨(x6_1 ++ (rdOf ByteArray.empty y194 t198)), (wrap64 (x7_1 + 1)), (by first | rfl | (simp; done) | (simp [*]; done)), (by first | rfl | (simp; done) | (simp [*]; done)), H', ⟨by have := HK1.out; have := HJ4.out; omega⟩, ⟨by (with_reducible repeat (first | apply Kd.R_alloc | apply Kd.R_drewN | apply Kd.R_drew)); exact HO_5.out⟩, ⟨by repeat (first | (with_reducible first | exact HB.out | apply below_alloc | apply pw_below_drewN | apply below_drew1) | exact HB.out)⟩⟩
                    · rw [if_neg c13] at H
                      exact absurd H (by simp)
                  · rw [if_neg c12] at H
                    exact absurd H (by simp)
                · rw [if_neg c11] at H
                  exact absurd H (by simp)
              · rw [if_neg c9] at H
                exact absurd H (by simp)
            · rw [if_neg c8] at H
              exact absurd H (by simp)
          · replace c7 := Bool.eq_false_iff.mpr c7
            subst c7
            have H1 : (some x6_1) = some r := by rw [if_neg (show ¬ (false = true) by decide)] at H; exact H
            clear H
            have H := H1
            clear H1
            obtain rfl := Option.some.inj H
            go_wp2
            go_ret
            exact ⟨by first | rfl | (simp [errW_none, errW_some] <;> rfl) | (simp [*, errW_none, errW_some] <;> rfl), by repeat (first | (with_reducible first | exact HB.out | apply below_alloc | apply pw_below_drewN | apply below_drew1) | exact HB.out)⟩

end Go.Proofs.Ytgbnfjhmobeloaa.G
