import Derived.Test.YtgbnfjhmobeloaaGx0
import Derived.Test.YtgbnfjhmobeloaaGx2
import Derived.Test.YtgbnfjhmobeloaaGx7
import Derived.Test.YtgbnfjhmobeloaaGx14
import Derived.Test.YtgbnfjhmobeloaaGx15
import Derived.Test.YtgbnfjhmobeloaaGx20
import Derived.Test.YtgbnfjhmobeloaaGx21
namespace Go.Proofs.Ytgbnfjhmobeloaa.G
open Go.RowKit Go.Proofs.YtgbnfjhmobeloaaW.PrintWords Go.Proofs.YtgbnfjhmobeloaaW.PrintLast Go.Proofs.YtgbnfjhmobeloaaW.PrintMore Go.Proofs.YtgbnfjhmobeloaaW.VWords
attribute [local go_sem] max2_int min2_int max_two min_two max_three min_three max_four min_four
set_option linter.unusedVariables false
set_option linter.unusedSimpArgs false
attribute [local go_sem high] eqA53
mutual
def interlocutorlaw6_LexWords.l0 : Nat → List Int → List ByteArray → Int → ByteArray → Int → Int → List (S53) → Option (Bool)
  | 0, _, _, _, _, _, _, _ => none
  | k + 1, x0, x4, x5, x306000, x306001, x306002, x306003 => if x5 < (x0.length : Int) then (interlocutorlaw6_LexWords.j1 k x0 x4 x5 (decide (x5 < 12)) x306000 x306001 x306002 x306003) else (interlocutorlaw6_LexWords.j1 k x0 x4 x5 false x306000 x306001 x306002 x306003)
def interlocutorlaw6_LexWords.j1 : Nat → List Int → List ByteArray → Int → Bool → ByteArray → Int → Int → List (S53) → Option (Bool)
  | 0, _, _, _, _, _, _, _, _ => none
  | k + 1, x0, x4, x5, x26, x306000, x306001, x306002, x306003 => if x26 = true then (if 0 ≤ x5 then (if x5 < (x0.length : Int) then ((interlocutorlaw6_within.f (rd x0 x5) 6).bind fun t310 => (if 0 ≤ t310 then (if t310 < (x4.length : Int) then ((interlocutorlaw6_within.f (wrap64 (Int.tdiv (rd x0 x5) 6)) 3).bind fun t313 => ((interlocutorlaw6_within.f (wrap64 (Int.tdiv (rd x0 x5) 18)) 3).bind fun t315 => (if x306003.length < 4398046511104 then (interlocutorlaw6_LexWords.l0 k x0 x4 (wrap64 (x5 + 1)) x306000 x306001 x306002 (x306003 ++ [(⟨rdOf ByteArray.empty x4 t310, wrap64 (1 + t313), t315⟩ : S53)])) else (none)))) else (none)) else (none))) else (none)) else (none)) else ((interlocutorref3_Fold.f k (⟨#[97, 97, 98, 97, 97]⟩ : ByteArray)).bind fun bt319 => ((lex_Tokens.f x306000 x306001 x306002 x306003 ([] : List (S108)) ([] : List (S138)) bt319.1).bind fun t325 => (interlocutorlaw6_LexWords.l1 k bt319.1 t325 0 0 x306000 x306001 x306002 x306003)))
def interlocutorlaw6_LexWords.l1 : Nat → List Int → List (S47) → Int → Int → ByteArray → Int → Int → List (S53) → Option (Bool)
  | 0, _, _, _, _, _, _, _, _ => none
  | k + 1, x6, x8, x9, x10, x306000, x306001, x306002, x306003 => if x10 < 5 then (interlocutorlaw6_LexWords.l2 k x6 x8 x9 x10 ([] : List (S53)) 0 x306000 x306001 x306002 x306003) else (if (x8.length : Int) = x9 then ((interlocutorref6_Tokens.f k x306000 x306001 x306002 x306003 ([] : List (S108)) ([] : List (S138)) x6).bind fun t328 => ((interlocutorref6_Same.f k x8 t328).bind fun t331 => (some t331))) else (some false))
def interlocutorlaw6_LexWords.l2 : Nat → List Int → List (S47) → Int → Int → List (S53) → Int → ByteArray → Int → Int → List (S53) → Option (Bool)
  | 0, _, _, _, _, _, _, _, _, _, _ => none
  | k + 1, x6, x8, x9, x10, x11, x12, x306000, x306001, x306002, x306003 => if x12 < (x306003.length : Int) then (if 0 ≤ x12 then (if (wrap64 (x10 + (((rd_T53 x306003 x12).f0).size : Int))) > 5 then (interlocutorlaw6_LexWords.j4 k x6 x8 x9 x10 x11 x12 true x306000 x306001 x306002 x306003 ((rd_T53 x306003 x12).f0) ((rd_T53 x306003 x12).f1) ((rd_T53 x306003 x12).f2)) else (if 0 ≤ x10 then (if x10 ≤ (wrap64 (x10 + (((rd_T53 x306003 x12).f0).size : Int))) then (if (wrap64 (x10 + (((rd_T53 x306003 x12).f0).size : Int))) ≤ 5 then (interlocutorlaw6_LexWords.j4 k x6 x8 x9 x10 x11 x12 (((⟨#[97, 97, 98, 97, 97]⟩ : ByteArray).extract (x10 : Int).toNat ((wrap64 (x10 + (((rd_T53 x306003 x12).f0).size : Int))) : Int).toNat).toList != ((rd_T53 x306003 x12).f0).toList) x306000 x306001 x306002 x306003 ((rd_T53 x306003 x12).f0) ((rd_T53 x306003 x12).f1) ((rd_T53 x306003 x12).f2)) else (none)) else (none)) else (none))) else (none)) else (interlocutorlaw6_LexWords.l1 k x6 x8 x9 (wrap64 (x10 + 1)) x306000 x306001 x306002 x306003)
def interlocutorlaw6_LexWords.j4 : Nat → List Int → List (S47) → Int → Int → List (S53) → Int → Bool → ByteArray → Int → Int → List (S53) → ByteArray → Int → Int → Option (Bool)
  | 0, _, _, _, _, _, _, _, _, _, _, _, _, _, _ => none
  | k + 1, x6, x8, x9, x10, x11, x12, x96, x306000, x306001, x306002, x306003, x334000, x334001, x334002 => if x96 = true then (interlocutorlaw6_LexWords.l2 k x6 x8 x9 x10 x11 (wrap64 (x12 + 1)) x306000 x306001 x306002 x306003) else (interlocutorlaw6_LexWords.l3 k x6 x8 x9 x10 x11 x12 false 0 x306000 x306001 x306002 x306003 x334000 x334001 x334002)
def interlocutorlaw6_LexWords.l3 : Nat → List Int → List (S47) → Int → Int → List (S53) → Int → Bool → Int → ByteArray → Int → Int → List (S53) → ByteArray → Int → Int → Option (Bool)
  | 0, _, _, _, _, _, _, _, _, _, _, _, _, _, _, _ => none
  | k + 1, x6, x8, x9, x10, x11, x12, x14, x15, x306000, x306001, x306002, x306003, x334000, x334001, x334002 => if x15 < (x11.length : Int) then (if x14 = true then (interlocutorlaw6_LexWords.l3 k x6 x8 x9 x10 x11 x12 true (wrap64 (x15 + 1)) x306000 x306001 x306002 x306003 x334000 x334001 x334002) else (if 0 ≤ x15 then (interlocutorlaw6_LexWords.l3 k x6 x8 x9 x10 x11 x12 ((((rd_T53 x11 x15).f0).toList) == x334000.toList && (((rd_T53 x11 x15).f1) == x334001 && (((rd_T53 x11 x15).f2) == x334002))) (wrap64 (x15 + 1)) x306000 x306001 x306002 x306003 x334000 x334001 x334002) else (none))) else (if x14 = true then (interlocutorlaw6_LexWords.l2 k x6 x8 x9 x10 x11 (wrap64 (x12 + 1)) x306000 x306001 x306002 x306003) else (if x11.length < 4398046511104 then (interlocutorlaw6_LexWords.l2 k x6 x8 (wrap64 (x9 + 1)) x10 (x11 ++ [(⟨x334000, x334001, x334002⟩ : S53)]) (wrap64 (x12 + 1)) x306000 x306001 x306002 x306003) else (none)))
end
def interlocutorlaw6_LexWords.f (k : Nat) (l0 : List Int) : Option (Bool) := (interlocutorlaw6_known.f k).bind fun t304 => (if t304 = true then (interlocutorlaw6_LexWords.l0 k l0 (([(⟨#[97]⟩ : ByteArray), (⟨#[97, 97]⟩ : ByteArray), (⟨#[97, 98]⟩ : ByteArray), (⟨#[97, 97, 98]⟩ : ByteArray), (⟨#[98]⟩ : ByteArray), (⟨#[97]⟩ : ByteArray)] : List ByteArray)) 0 (⟨#[]⟩ : ByteArray) 0 0 ([] : List (S53))) else (some false))
theorem interlocutorlaw6_LexWords.mono_l : ∀ k, (∀ y0 y1 y2 y3 y4 y5 y6, LeO (interlocutorlaw6_LexWords.l0 k y0 y1 y2 y3 y4 y5 y6) (interlocutorlaw6_LexWords.l0 (k + 1) y0 y1 y2 y3 y4 y5 y6)) ∧ (∀ y0 y1 y2 y3 y4 y5 y6 y7, LeO (interlocutorlaw6_LexWords.j1 k y0 y1 y2 y3 y4 y5 y6 y7) (interlocutorlaw6_LexWords.j1 (k + 1) y0 y1 y2 y3 y4 y5 y6 y7)) ∧ (∀ y0 y1 y2 y3 y4 y5 y6 y7, LeO (interlocutorlaw6_LexWords.l1 k y0 y1 y2 y3 y4 y5 y6 y7) (interlocutorlaw6_LexWords.l1 (k + 1) y0 y1 y2 y3 y4 y5 y6 y7)) ∧ (∀ y0 y1 y2 y3 y4 y5 y6 y7 y8 y9, LeO (interlocutorlaw6_LexWords.l2 k y0 y1 y2 y3 y4 y5 y6 y7 y8 y9) (interlocutorlaw6_LexWords.l2 (k + 1) y0 y1 y2 y3 y4 y5 y6 y7 y8 y9)) ∧ (∀ y0 y1 y2 y3 y4 y5 y6 y7 y8 y9 y10 y11 y12 y13, LeO (interlocutorlaw6_LexWords.j4 k y0 y1 y2 y3 y4 y5 y6 y7 y8 y9 y10 y11 y12 y13) (interlocutorlaw6_LexWords.j4 (k + 1) y0 y1 y2 y3 y4 y5 y6 y7 y8 y9 y10 y11 y12 y13)) ∧ (∀ y0 y1 y2 y3 y4 y5 y6 y7 y8 y9 y10 y11 y12 y13 y14, LeO (interlocutorlaw6_LexWords.l3 k y0 y1 y2 y3 y4 y5 y6 y7 y8 y9 y10 y11 y12 y13 y14) (interlocutorlaw6_LexWords.l3 (k + 1) y0 y1 y2 y3 y4 y5 y6 y7 y8 y9 y10 y11 y12 y13 y14))
  | 0 => ⟨fun _ _ _ _ _ _ _ r h => by simp [interlocutorlaw6_LexWords.l0] at h, fun _ _ _ _ _ _ _ _ r h => by simp [interlocutorlaw6_LexWords.j1] at h, fun _ _ _ _ _ _ _ _ r h => by simp [interlocutorlaw6_LexWords.l1] at h, fun _ _ _ _ _ _ _ _ _ _ r h => by simp [interlocutorlaw6_LexWords.l2] at h, fun _ _ _ _ _ _ _ _ _ _ _ _ _ _ r h => by simp [interlocutorlaw6_LexWords.j4] at h, fun _ _ _ _ _ _ _ _ _ _ _ _ _ _ _ r h => by simp [interlocutorlaw6_LexWords.l3] at h⟩
  | k + 1 => by
    obtain ⟨ih0, ih1, ih2, ih3, ih4, ih5⟩ := interlocutorlaw6_LexWords.mono_l k
    refine ⟨?_, ?_, ?_, ?_, ?_, ?_⟩
    · intro y0 y1 y2 y3 y4 y5 y6
      unfold interlocutorlaw6_LexWords.l0
      repeat' first
      | (with_reducible exact ih0 _ _ _ _ _ _ _)
      | (with_reducible exact ih1 _ _ _ _ _ _ _ _)
      | (with_reducible exact ih2 _ _ _ _ _ _ _ _)
      | (with_reducible exact ih3 _ _ _ _ _ _ _ _ _ _)
      | (with_reducible exact ih4 _ _ _ _ _ _ _ _ _ _ _ _ _ _)
      | (with_reducible exact ih5 _ _ _ _ _ _ _ _ _ _ _ _ _ _ _)
      | (with_reducible exact interlocutorlaw6_known.mono _)
      | (with_reducible exact interlocutorref3_Fold.mono _ _)
      | (with_reducible exact interlocutorref6_Same.mono _ _ _)
      | (with_reducible exact interlocutorref6_Tokens.mono _ _ _ _ _ _ _ _)
      | (with_reducible exact LeO.refl _)
      | (with_reducible exact LeO.none _)
      | (with_reducible refine LeO.ite ?_ ?_)
      | (with_reducible refine LeO.bind ?_ (fun _ => ?_))
      | exact ih0 _ _ _ _ _ _ _
      | exact ih1 _ _ _ _ _ _ _ _
      | exact ih2 _ _ _ _ _ _ _ _
      | exact ih3 _ _ _ _ _ _ _ _ _ _
      | exact ih4 _ _ _ _ _ _ _ _ _ _ _ _ _ _
      | exact ih5 _ _ _ _ _ _ _ _ _ _ _ _ _ _ _
      | exact interlocutorlaw6_known.mono _
      | exact interlocutorref3_Fold.mono _ _
      | exact interlocutorref6_Same.mono _ _ _
      | exact interlocutorref6_Tokens.mono _ _ _ _ _ _ _ _
      | exact LeO.none _
      | refine LeO.ite ?_ ?_
      | refine LeO.bind ?_ (fun _ => ?_)
    · intro y0 y1 y2 y3 y4 y5 y6 y7
      unfold interlocutorlaw6_LexWords.j1
      repeat' first
      | (with_reducible exact ih0 _ _ _ _ _ _ _)
      | (with_reducible exact ih1 _ _ _ _ _ _ _ _)
      | (with_reducible exact ih2 _ _ _ _ _ _ _ _)
      | (with_reducible exact ih3 _ _ _ _ _ _ _ _ _ _)
      | (with_reducible exact ih4 _ _ _ _ _ _ _ _ _ _ _ _ _ _)
      | (with_reducible exact ih5 _ _ _ _ _ _ _ _ _ _ _ _ _ _ _)
      | (with_reducible exact interlocutorlaw6_known.mono _)
      | (with_reducible exact interlocutorref3_Fold.mono _ _)
      | (with_reducible exact interlocutorref6_Same.mono _ _ _)
      | (with_reducible exact interlocutorref6_Tokens.mono _ _ _ _ _ _ _ _)
      | (with_reducible exact LeO.refl _)
      | (with_reducible exact LeO.none _)
      | (with_reducible refine LeO.ite ?_ ?_)
      | (with_reducible refine LeO.bind ?_ (fun _ => ?_))
      | exact ih0 _ _ _ _ _ _ _
      | exact ih1 _ _ _ _ _ _ _ _
      | exact ih2 _ _ _ _ _ _ _ _
      | exact ih3 _ _ _ _ _ _ _ _ _ _
      | exact ih4 _ _ _ _ _ _ _ _ _ _ _ _ _ _
      | exact ih5 _ _ _ _ _ _ _ _ _ _ _ _ _ _ _
      | exact interlocutorlaw6_known.mono _
      | exact interlocutorref3_Fold.mono _ _
      | exact interlocutorref6_Same.mono _ _ _
      | exact interlocutorref6_Tokens.mono _ _ _ _ _ _ _ _
      | exact LeO.none _
      | refine LeO.ite ?_ ?_
      | refine LeO.bind ?_ (fun _ => ?_)
    · intro y0 y1 y2 y3 y4 y5 y6 y7
      unfold interlocutorlaw6_LexWords.l1
      repeat' first
      | (with_reducible exact ih0 _ _ _ _ _ _ _)
      | (with_reducible exact ih1 _ _ _ _ _ _ _ _)
      | (with_reducible exact ih2 _ _ _ _ _ _ _ _)
      | (with_reducible exact ih3 _ _ _ _ _ _ _ _ _ _)
      | (with_reducible exact ih4 _ _ _ _ _ _ _ _ _ _ _ _ _ _)
      | (with_reducible exact ih5 _ _ _ _ _ _ _ _ _ _ _ _ _ _ _)
      | (with_reducible exact interlocutorlaw6_known.mono _)
      | (with_reducible exact interlocutorref3_Fold.mono _ _)
      | (with_reducible exact interlocutorref6_Same.mono _ _ _)
      | (with_reducible exact interlocutorref6_Tokens.mono _ _ _ _ _ _ _ _)
      | (with_reducible exact LeO.refl _)
      | (with_reducible exact LeO.none _)
      | (with_reducible refine LeO.ite ?_ ?_)
      | (with_reducible refine LeO.bind ?_ (fun _ => ?_))
      | exact ih0 _ _ _ _ _ _ _
      | exact ih1 _ _ _ _ _ _ _ _
      | exact ih2 _ _ _ _ _ _ _ _
      | exact ih3 _ _ _ _ _ _ _ _ _ _
      | exact ih4 _ _ _ _ _ _ _ _ _ _ _ _ _ _
      | exact ih5 _ _ _ _ _ _ _ _ _ _ _ _ _ _ _
      | exact interlocutorlaw6_known.mono _
      | exact interlocutorref3_Fold.mono _ _
      | exact interlocutorref6_Same.mono _ _ _
      | exact interlocutorref6_Tokens.mono _ _ _ _ _ _ _ _
      | exact LeO.none _
      | refine LeO.ite ?_ ?_
      | refine LeO.bind ?_ (fun _ => ?_)
    · intro y0 y1 y2 y3 y4 y5 y6 y7 y8 y9
      unfold interlocutorlaw6_LexWords.l2
      repeat' first
      | (with_reducible exact ih0 _ _ _ _ _ _ _)
      | (with_reducible exact ih1 _ _ _ _ _ _ _ _)
      | (with_reducible exact ih2 _ _ _ _ _ _ _ _)
      | (with_reducible exact ih3 _ _ _ _ _ _ _ _ _ _)
      | (with_reducible exact ih4 _ _ _ _ _ _ _ _ _ _ _ _ _ _)
      | (with_reducible exact ih5 _ _ _ _ _ _ _ _ _ _ _ _ _ _ _)
      | (with_reducible exact interlocutorlaw6_known.mono _)
      | (with_reducible exact interlocutorref3_Fold.mono _ _)
      | (with_reducible exact interlocutorref6_Same.mono _ _ _)
      | (with_reducible exact interlocutorref6_Tokens.mono _ _ _ _ _ _ _ _)
      | (with_reducible exact LeO.refl _)
      | (with_reducible exact LeO.none _)
      | (with_reducible refine LeO.ite ?_ ?_)
      | (with_reducible refine LeO.bind ?_ (fun _ => ?_))
      | exact ih0 _ _ _ _ _ _ _
      | exact ih1 _ _ _ _ _ _ _ _
      | exact ih2 _ _ _ _ _ _ _ _
      | exact ih3 _ _ _ _ _ _ _ _ _ _
      | exact ih4 _ _ _ _ _ _ _ _ _ _ _ _ _ _
      | exact ih5 _ _ _ _ _ _ _ _ _ _ _ _ _ _ _
      | exact interlocutorlaw6_known.mono _
      | exact interlocutorref3_Fold.mono _ _
      | exact interlocutorref6_Same.mono _ _ _
      | exact interlocutorref6_Tokens.mono _ _ _ _ _ _ _ _
      | exact LeO.none _
      | refine LeO.ite ?_ ?_
      | refine LeO.bind ?_ (fun _ => ?_)
    · intro y0 y1 y2 y3 y4 y5 y6 y7 y8 y9 y10 y11 y12 y13
      unfold interlocutorlaw6_LexWords.j4
      repeat' first
      | (with_reducible exact ih0 _ _ _ _ _ _ _)
      | (with_reducible exact ih1 _ _ _ _ _ _ _ _)
      | (with_reducible exact ih2 _ _ _ _ _ _ _ _)
      | (with_reducible exact ih3 _ _ _ _ _ _ _ _ _ _)
      | (with_reducible exact ih4 _ _ _ _ _ _ _ _ _ _ _ _ _ _)
      | (with_reducible exact ih5 _ _ _ _ _ _ _ _ _ _ _ _ _ _ _)
      | (with_reducible exact interlocutorlaw6_known.mono _)
      | (with_reducible exact interlocutorref3_Fold.mono _ _)
      | (with_reducible exact interlocutorref6_Same.mono _ _ _)
      | (with_reducible exact interlocutorref6_Tokens.mono _ _ _ _ _ _ _ _)
      | (with_reducible exact LeO.refl _)
      | (with_reducible exact LeO.none _)
      | (with_reducible refine LeO.ite ?_ ?_)
      | (with_reducible refine LeO.bind ?_ (fun _ => ?_))
      | exact ih0 _ _ _ _ _ _ _
      | exact ih1 _ _ _ _ _ _ _ _
      | exact ih2 _ _ _ _ _ _ _ _
      | exact ih3 _ _ _ _ _ _ _ _ _ _
      | exact ih4 _ _ _ _ _ _ _ _ _ _ _ _ _ _
      | exact ih5 _ _ _ _ _ _ _ _ _ _ _ _ _ _ _
      | exact interlocutorlaw6_known.mono _
      | exact interlocutorref3_Fold.mono _ _
      | exact interlocutorref6_Same.mono _ _ _
      | exact interlocutorref6_Tokens.mono _ _ _ _ _ _ _ _
      | exact LeO.none _
      | refine LeO.ite ?_ ?_
      | refine LeO.bind ?_ (fun _ => ?_)
    · intro y0 y1 y2 y3 y4 y5 y6 y7 y8 y9 y10 y11 y12 y13 y14
      unfold interlocutorlaw6_LexWords.l3
      repeat' first
      | (with_reducible exact ih0 _ _ _ _ _ _ _)
      | (with_reducible exact ih1 _ _ _ _ _ _ _ _)
      | (with_reducible exact ih2 _ _ _ _ _ _ _ _)
      | (with_reducible exact ih3 _ _ _ _ _ _ _ _ _ _)
      | (with_reducible exact ih4 _ _ _ _ _ _ _ _ _ _ _ _ _ _)
      | (with_reducible exact ih5 _ _ _ _ _ _ _ _ _ _ _ _ _ _ _)
      | (with_reducible exact interlocutorlaw6_known.mono _)
      | (with_reducible exact interlocutorref3_Fold.mono _ _)
      | (with_reducible exact interlocutorref6_Same.mono _ _ _)
      | (with_reducible exact interlocutorref6_Tokens.mono _ _ _ _ _ _ _ _)
      | (with_reducible exact LeO.refl _)
      | (with_reducible exact LeO.none _)
      | (with_reducible refine LeO.ite ?_ ?_)
      | (with_reducible refine LeO.bind ?_ (fun _ => ?_))
      | exact ih0 _ _ _ _ _ _ _
      | exact ih1 _ _ _ _ _ _ _ _
      | exact ih2 _ _ _ _ _ _ _ _
      | exact ih3 _ _ _ _ _ _ _ _ _ _
      | exact ih4 _ _ _ _ _ _ _ _ _ _ _ _ _ _
      | exact ih5 _ _ _ _ _ _ _ _ _ _ _ _ _ _ _
      | exact interlocutorlaw6_known.mono _
      | exact interlocutorref3_Fold.mono _ _
      | exact interlocutorref6_Same.mono _ _ _
      | exact interlocutorref6_Tokens.mono _ _ _ _ _ _ _ _
      | exact LeO.none _
      | refine LeO.ite ?_ ?_
      | refine LeO.bind ?_ (fun _ => ?_)
def interlocutorlaw6_LexWords.T8 : Bool × List (List Nat × List Nat) := (true, [([], []), ([0], [0]), ([], []), ([], []), ([], []), ([3, 4], [3, 4]), ([5], [5]), ([6], [6]), ([2, 7], [2, 7]), ([8], [8]), ([], []), ([], []), ([10, 11], [10, 11]), ([12], [12]), ([13], [13]), ([14, 7], [14]), ([15], [15]), ([], []), ([], []), ([17, 18], [17, 18]), ([19], [19]), ([20], [20]), ([21, 15], [21]), ([9, 16, 22], [9, 16, 22]), ([23], [23]), ([1, 24, 22], [1, 24]), ([0, 1, 2, 3, 4, 5, 6, 7, 8, 9, 10, 11, 12, 13, 14, 15, 16, 17, 18, 19, 20, 21, 22, 23, 24, 25], []), ([26, 25, 25, 0, 1, 2, 3, 4, 5, 6, 7, 8, 9, 10, 11, 12, 13, 14, 15, 16, 17, 18, 19, 20, 21, 22, 23, 24, 25], [25, 26])])
def interlocutorlaw6_LexWords.B8 : List Nat := [0, 1, 0, 0, 0, 24, 56, 120, 252, 508, 0, 0, 3072, 7168, 15360, 31992, 64760, 0, 0, 393216, 917504, 1966080, 4127992, 8388604, 16777212, 33554431, 67108863, 134217727]
theorem interlocutorlaw6_LexWords.tab8 : rtab .any (opsOf Try.f7 8) = interlocutorlaw6_LexWords.T8 := by kernel_rfl
theorem interlocutorlaw6_LexWords.bits8 : waitsOk interlocutorlaw6_LexWords.T8.2 interlocutorlaw6_LexWords.B8 = true := by kernel_rfl
def interlocutorlaw6_LexWords.T20 : Bool × List (List Nat × List Nat) := (true, [([], []), ([], []), ([1], [1]), ([2], [2]), ([0, 3], [0, 3]), ([4], [4]), ([5], [5]), ([6], [6]), ([6], [6]), ([6], [6]), ([9, 6], [6, 9]), ([10, 6], [6, 10]), ([8, 11, 6], [6, 8, 11]), ([7, 12, 6], [6, 7, 12]), ([6], [6]), ([14, 6], [6, 14]), ([13, 15, 6], [6, 13, 15]), ([6, 16], [6, 16])])
def interlocutorlaw6_LexWords.B20 : List Nat := [0, 0, 2, 6, 15, 31, 63, 127, 127, 127, 639, 1663, 3967, 8191, 127, 16511, 65535, 131071]
theorem interlocutorlaw6_LexWords.tab20 : rtab .any (opsOf Try.f7 20) = interlocutorlaw6_LexWords.T20 := by kernel_rfl
theorem interlocutorlaw6_LexWords.bits20 : waitsOk interlocutorlaw6_LexWords.T20.2 interlocutorlaw6_LexWords.B20 = true := by kernel_rfl
def interlocutorlaw6_LexWords.T25 : Bool × List (List Nat × List Nat) := (true, [([], []), ([0], [0]), ([1], [1]), ([1], [1]), ([2, 3, 1], [1, 2, 3]), ([4, 1], [1, 4]), ([1], [1]), ([5, 6, 1], [1, 5, 6]), ([1, 7], [1, 7]), ([8, 1, 0, 1, 2, 3, 4, 5, 6, 7, 8], [0, 8])])
def interlocutorlaw6_LexWords.B25 : List Nat := [0, 1, 3, 3, 15, 31, 3, 127, 255, 511]
theorem interlocutorlaw6_LexWords.tab25 : rtab .any (opsOf Try.f7 25) = interlocutorlaw6_LexWords.T25 := by kernel_rfl
theorem interlocutorlaw6_LexWords.bits25 : waitsOk interlocutorlaw6_LexWords.T25.2 interlocutorlaw6_LexWords.B25 = true := by kernel_rfl
set_option maxHeartbeats 8000000 in
set_option maxRecDepth 100000 in
theorem interlocutorlaw6_LexWords.calls (k : Nat) (A0 : Option Addr) (c0 : Nat) (l0 : List Int) (r : Bool) (HRT0 : r = true) (w : World) (hr0 : Kd.C (Kd.int .i64) w A0 l0.length l0) (hc0 : l0.length ≤ c0) (h : interlocutorlaw6_LexWords.f k l0 = some r) :
    Calls Try.prog 7 #[.slice A0 l0.length c0] w fun e w' => e = .returned (.bool r) ∧ Below w.heap.size w w' := by
  have HRT := Aside0.mk HRT0
  clear HRT0
  have hu32 := Try.underlying32
  have hu53 := Try.underlying53
  have HR0 := Aside0.mk hr0
  have HC0 := Aside0.mk hc0
  clear hr0 hc0
  have HB := Aside0.mk (Below.refl w.heap.size w)
  have H : ((interlocutorlaw6_known.f k).bind fun t304 => (if t304 = true then (interlocutorlaw6_LexWords.l0 k l0 (([(⟨#[97]⟩ : ByteArray), (⟨#[97, 97]⟩ : ByteArray), (⟨#[97, 98]⟩ : ByteArray), (⟨#[97, 97, 98]⟩ : ByteArray), (⟨#[98]⟩ : ByteArray), (⟨#[97]⟩ : ByteArray)] : List ByteArray)) 0 (⟨#[]⟩ : ByteArray) 0 0 ([] : List (S53))) else (some false))) = some r := h
  clear h
  replace H := Option.bind_eq_some_iff.mp H
  obtain ⟨t304, A20, H⟩ := H
  replace H : (if t304 = true then (interlocutorlaw6_LexWords.l0 k l0 (([(⟨#[97]⟩ : ByteArray), (⟨#[97, 97]⟩ : ByteArray), (⟨#[97, 98]⟩ : ByteArray), (⟨#[97, 97, 98]⟩ : ByteArray), (⟨#[98]⟩ : ByteArray), (⟨#[97]⟩ : ByteArray)] : List ByteArray)) 0 (⟨#[]⟩ : ByteArray) 0 0 ([] : List (S53))) else (some false)) = some r := H
  have A2 := Aside0.mk A20
  clear A20
  by_cases c3 : t304 = true
  · subst c3
    have H1 : (interlocutorlaw6_LexWords.l0 k l0 (([(⟨#[97]⟩ : ByteArray), (⟨#[97, 97]⟩ : ByteArray), (⟨#[97, 98]⟩ : ByteArray), (⟨#[97, 97, 98]⟩ : ByteArray), (⟨#[98]⟩ : ByteArray), (⟨#[97]⟩ : ByteArray)] : List ByteArray)) 0 (⟨#[]⟩ : ByteArray) 0 0 ([] : List (S53))) = some r := by rw [if_pos rfl] at H; exact H
    clear H
    have H := H1
    clear H1
    obtain ⟨y306, hy306⟩ : ∃ y_ : List ByteArray, y_ = (([(⟨#[97]⟩ : ByteArray), (⟨#[97, 97]⟩ : ByteArray), (⟨#[97, 98]⟩ : ByteArray), (⟨#[97, 97, 98]⟩ : ByteArray), (⟨#[98]⟩ : ByteArray), (⟨#[97]⟩ : ByteArray)] : List ByteArray)) := ⟨_, rfl⟩
    replace H : (interlocutorlaw6_LexWords.l0 k l0 y306 0 (⟨#[]⟩ : ByteArray) 0 0 ([] : List (S53))) = some r := by first | (rw [hy306]; with_reducible exact H) | (have H2_ := (Option.bind_some _ _).symm.trans H; rw [hy306]; with_reducible exact H2_) | (have H2_ := (Option.bind_some _ _).symm.trans H; with_reducible exact H2_) | with_reducible exact H | (rw [hy306]; exact H) | exact H
    have Ny306 := Aside0.mk hy306
    clear hy306
    have H' := Aside0.mk H
    clear H
    go_enter Try.func7, Try.ntmps7
    go_wp2_with (first | ((with_reducible refine gate_callee (f := 14) rfl ?_); refine goesL_ (some 16) rfl rfl Try.func14 (by kernel_rfl) rfl #[] rfl (by (try simp only [List.map_toArray, List.map_cons, List.map_nil]); first | done | rfl | (simp only [List.length_drop, List.length_take]; rfl)) ?_; (with_reducible refine (interlocutorlaw6_known.calls k  true _ A2.out).mono ?_); rintro e w4 ⟨rfl, hb⟩; refine ⟨_, rfl, ?_⟩; have n0_ := Aside0.mk (below_step (by exact wU HB.out) hb); clear HB; have HB := n0_; clear n0_; (try clear hb); (try clear hb2); (try clear hk); (try clear hi)) | ((with_reducible refine gate_dst (N := 3) rfl ?_); (try (refine gate_guard (by rfl) ?_; dsimp only)); refine box_event ?hg (N := 3) ?hd (cs := #[.string (⟨#[]⟩ : ByteArray), .int .i64 0, .int .i64 0, .slice none 0 0, .slice none 0 0, .slice none 0 0]) (t := 32) ?hr ?_; (case hd => rfl); (case hg => rfl); (case hr => first | (go_simp; done) | (go_simp; rfl)); intro gb305 hg w5 hbox hb; have n0_ := Aside0.mk (below_step (by exact wU HB.out) hb); have n1_ := Aside0.mk (hbox); have n2_ := Aside0.mk ((by rw [hg]; exact (below_size (by exact wU HB.out)) : w.heap.size ≤ gb305)); have n3_ := Aside0.mk ((by rw [hg]; exact (below_size (by exact wU HB.out)) : w.heap.size ≤ gb305)); clear HB; have HB := n0_; have BK305 := n1_; have GW305 := n2_; have GE305 := n3_; clear n0_ n1_ n2_ n3_; clear hb hbox hg) | ((with_reducible refine gate_dst (N := 18) rfl ?_); (try (refine gate_guard (by rfl) ?_; dsimp only)); refine Kd.R_lit Kd.string _ 9 ?hg (N := 18) ?hd (xs := ([(⟨#[97]⟩ : ByteArray), (⟨#[97, 97]⟩ : ByteArray), (⟨#[97, 98]⟩ : ByteArray), (⟨#[97, 97, 98]⟩ : ByteArray), (⟨#[98]⟩ : ByteArray), (⟨#[97]⟩ : ByteArray)] : List ByteArray)) (inner := [.string (⟨#[97]⟩ : ByteArray), .string (⟨#[97, 97]⟩ : ByteArray), .string (⟨#[97, 98]⟩ : ByteArray), .string (⟨#[97, 97, 98]⟩ : ByteArray), .string (⟨#[98]⟩ : ByteArray), .string (⟨#[97]⟩ : ByteArray)]) (ok := fun _ => True) (okp := fun _ => True) ?hr ?hp (fun _ hk => hk) trivial (Below.refl _ _) (Nat.le_refl _) (by simp) ?_; (case hd => rfl); (case hg => rfl); (case hr => first | (go_simp; done) | (go_simp; rfl)); (case hp => exact (Reps.one (show Kd.M Kd.string _ _ _ (⟨#[97]⟩ : ByteArray) [.string (⟨#[97]⟩ : ByteArray)] from rfl) (Reps.one (show Kd.M Kd.string _ _ _ (⟨#[97, 97]⟩ : ByteArray) [.string (⟨#[97, 97]⟩ : ByteArray)] from rfl) (Reps.one (show Kd.M Kd.string _ _ _ (⟨#[97, 98]⟩ : ByteArray) [.string (⟨#[97, 98]⟩ : ByteArray)] from rfl) (Reps.one (show Kd.M Kd.string _ _ _ (⟨#[97, 97, 98]⟩ : ByteArray) [.string (⟨#[97, 97, 98]⟩ : ByteArray)] from rfl) (Reps.one (show Kd.M Kd.string _ _ _ (⟨#[98]⟩ : ByteArray) [.string (⟨#[98]⟩ : ByteArray)] from rfl) (Reps.one (show Kd.M Kd.string _ _ _ (⟨#[97]⟩ : ByteArray) [.string (⟨#[97]⟩ : ByteArray)] from rfl) (Reps.none _ _)))))))); intro v307 w6 ho7 hb hg_ hnew_; clear hg_ hnew_; (first | rw [← Ny306.out] at ho7 | (simp only [Int.reduceToNat] at ho7; rw [← Ny306.out] at ho7)); have n0_ := Aside0.mk (Kd.R_lower ho7 (below_size (by exact wS HB.out GE305.out))); have n1_ := Aside0.mk (blk_below (g := gb305) (o := .cells #[.string (⟨#[]⟩ : ByteArray), .int .i64 0, .int .i64 0, .slice none 0 0, .slice none 0 0, .slice none 0 0] 32 (0, 0)) (by (with_reducible repeat (first | refine blk_drewN ?_ _ | refine blk_drew ?_ | refine blk_alloc ?_ _)); exact BK305.out) hb); have n2_ := Aside0.mk (below_step (by exact wS HB.out GE305.out) hb); clear BK305; clear HB; have HO308 := n0_; have BK305 := n1_; have HB := n2_; clear n0_ n1_ n2_; clear hb ho7))
    go_loopg [5] k (fun kq v5 w' => ∃ (x5_1 : Int) (x306003_1 : List (S53)) (u306003 : Value), v5 = .int .i64 x5_1 ∧ Aside0 (interlocutorlaw6_LexWords.l0 kq l0 y306 x5_1 (⟨#[]⟩ : ByteArray) 0 0 x306003_1 = some r) ∧ Aside0 (kq ≤ k) ∧ Aside0 (Kd.R Kd.string 9 w' w.heap.size (fun _ => True) v307 y306) ∧ Aside0 (Kd.R k53 53 w' w.heap.size (fun _ => True) u306003 x306003_1) ∧ Aside0 (w'.heap[gb305]? = some (.cells #[.string (⟨#[]⟩ : ByteArray), .int .i64 0, .int .i64 0, u306003, (.slice none 0 0), (.slice none 0 0)] 32 (0, 0))) ∧ Aside0 (Below w.heap.size w w'))
    case atStart => exact ⟨(0), (([] : List (S53))), (.slice none 0 0), (by first | rfl | (simp; done) | (simp [*]; done)), H', ⟨Nat.le_refl _⟩, ⟨by (with_reducible repeat (first | apply Kd.R_alloc | apply Kd.R_drewN | apply Kd.R_drew)); exact HO308.out⟩, ⟨by first | exact Kd.R_nil _ _ _ _ _ | exact Kd.N_nil _ _ _ _ _ | exact Kd.V_nil _ _ _ _ _ | exact Kd.Q_nil _ _ _ _ _ | exact Kd.S_nil _ _ _ _ _⟩, ⟨by (with_reducible repeat (first | refine blk_drewN ?_ _ | refine blk_drew ?_ | refine blk_alloc ?_ _)); exact BK305.out⟩, ⟨by exact wS HB.out GE305.out⟩⟩
    case round =>
      clear H'
      try clear c1
      try clear p2
      try clear c3
      try clear c7
      obtain ⟨x5_1, x306003_1, u306003, rfl, HA, HK1, HO_4, HO_306003, BK305, HB⟩ := hrel
      cases gk with
      | zero => exact absurd HA.out (by simp [interlocutorlaw6_LexWords.l0])
      | succ k1 =>
        have H := HA.out
        clear HA
        simp only [interlocutorlaw6_LexWords.l0] at H
        have HC8 := Aside0.mk H
        clear H
        go_upto_region 6 with (fail)
        go_cut [26] (fun v26 wc => ∃ (kq : Nat) (x26_7 : Bool), v26 = .bool x26_7 ∧ Aside0 (interlocutorlaw6_LexWords.j1 kq l0 y306 x5_1 x26_7 (⟨#[]⟩ : ByteArray) 0 0 x306003_1 = some r) ∧ Aside0 (kq ≤ k1) ∧ Aside0 (Kd.R Kd.string 9 wc w.heap.size (fun _ => True) v307 y306) ∧ Aside0 (Kd.R k53 53 wc w.heap.size (fun _ => True) u306003 x306003_1) ∧ Aside0 (wc.heap[gb305]? = some (.cells #[.string (⟨#[]⟩ : ByteArray), .int .i64 0, .int .i64 0, u306003, (.slice none 0 0), (.slice none 0 0)] 32 (0, 0))) ∧ Aside0 (Below w.heap.size w wc))
        case first =>
          have H := HC8.out
          clear HC8
          by_cases c9 : x5_1 < (l0.length : Int)
          · rw [if_pos c9] at H
            have c9b0 : decide (x5_1 < (l0.length : Int)) = true := decide_eq_true c9
            clear c9
            (first | rw [c9b0] | (simp only [i64_w, i32_w]; rw [c9b0]) | skip)
            have H' := Aside0.mk H
            clear H
            go_wp2
            go_meet
            case rel => exact ⟨_, (decide (x5_1 < 12)), (by first | rfl | (simp; done) | (simp [*]; done)), H', ⟨by have := HK1.out; first | omega | exact Nat.le_refl _⟩, ⟨by (with_reducible repeat (first | apply Kd.R_alloc | apply Kd.R_drewN | apply Kd.R_drew)); exact HO_4.out⟩, ⟨by (with_reducible repeat (first | apply Kd.R_alloc | apply Kd.R_drewN | apply Kd.R_drew)); exact HO_306003.out⟩, ⟨by (with_reducible repeat (first | refine blk_drewN ?_ _ | refine blk_drew ?_ | refine blk_alloc ?_ _)); exact BK305.out⟩, ⟨by exact wS HB.out GE305.out⟩⟩
          · rw [if_neg c9] at H
            have c9b0 : decide (x5_1 < (l0.length : Int)) = false := decide_eq_false c9
            clear c9
            (first | rw [c9b0] | (simp only [i64_w, i32_w]; rw [c9b0]) | skip)
            have H' := Aside0.mk H
            clear H
            go_wp2
            go_meet
            case rel => exact ⟨_, (false), (by first | rfl | (simp; done) | (simp [*]; done)), H', ⟨by have := HK1.out; first | omega | exact Nat.le_refl _⟩, ⟨by (with_reducible repeat (first | apply Kd.R_alloc | apply Kd.R_drewN | apply Kd.R_drew)); exact HO_4.out⟩, ⟨by (with_reducible repeat (first | apply Kd.R_alloc | apply Kd.R_drewN | apply Kd.R_drew)); exact HO_306003.out⟩, ⟨by (with_reducible repeat (first | refine blk_drewN ?_ _ | refine blk_drew ?_ | refine blk_alloc ?_ _)); exact BK305.out⟩, ⟨by exact wS HB.out GE305.out⟩⟩
        case rest =>
          clear HC8
          try clear c1
          try clear p2
          try clear c3
          try clear c7
          try clear c9
          try clear c9b0
          try clear p2
          obtain ⟨kq, x26_7, rfl, HA, HJ7, HO_4, HO_306003, BK305, HB⟩ := hcut
          cases kq with
          | zero => exact absurd HA.out (by simp [interlocutorlaw6_LexWords.j1])
          | succ kj7 =>
            have H := HA.out
            clear HA
            simp only [interlocutorlaw6_LexWords.j1] at H
            by_cases c10 : x26_7 = true
            · subst c10
              have H1 : (if 0 ≤ x5_1 then (if x5_1 < (l0.length : Int) then ((interlocutorlaw6_within.f (rd l0 x5_1) 6).bind fun t310 => (if 0 ≤ t310 then (if t310 < (y306.length : Int) then ((interlocutorlaw6_within.f (wrap64 (Int.tdiv (rd l0 x5_1) 6)) 3).bind fun t313 => ((interlocutorlaw6_within.f (wrap64 (Int.tdiv (rd l0 x5_1) 18)) 3).bind fun t315 => (if x306003_1.length < 4398046511104 then (interlocutorlaw6_LexWords.l0 kj7 l0 y306 (wrap64 (x5_1 + 1)) (⟨#[]⟩ : ByteArray) 0 0 (x306003_1 ++ [(⟨rdOf ByteArray.empty y306 t310, wrap64 (1 + t313), t315⟩ : S53)])) else (none)))) else (none)) else (none))) else (none)) else (none)) = some r := by rw [if_pos rfl] at H; exact H
              clear H
              have H := H1
              clear H1
              by_cases c11 : 0 ≤ x5_1
              · rw [if_pos c11] at H
                have c11b0 : decide (0 ≤ x5_1) = true := decide_eq_true c11
                clear c11
                by_cases c12 : x5_1 < (l0.length : Int)
                · rw [if_pos c12] at H
                  have c12b0 : decide (x5_1 < (l0.length : Int)) = true := decide_eq_true c12
                  clear c12
                  replace H := Option.bind_eq_some_iff.mp H
                  obtain ⟨t310, A130, H⟩ := H
                  replace H : (if 0 ≤ t310 then (if t310 < (y306.length : Int) then ((interlocutorlaw6_within.f (wrap64 (Int.tdiv (rd l0 x5_1) 6)) 3).bind fun t313 => ((interlocutorlaw6_within.f (wrap64 (Int.tdiv (rd l0 x5_1) 18)) 3).bind fun t315 => (if x306003_1.length < 4398046511104 then (interlocutorlaw6_LexWords.l0 kj7 l0 y306 (wrap64 (x5_1 + 1)) (⟨#[]⟩ : ByteArray) 0 0 (x306003_1 ++ [(⟨rdOf ByteArray.empty y306 t310, wrap64 (1 + t313), t315⟩ : S53)])) else (none)))) else (none)) else (none)) = some r := H
                  have A13 := Aside0.mk A130
                  clear A130
                  by_cases c14 : 0 ≤ t310
                  · rw [if_pos c14] at H
                    have c14b0 : decide (0 ≤ t310) = true := decide_eq_true c14
                    clear c14
                    by_cases c15 : t310 < (y306.length : Int)
                    · rw [if_pos c15] at H
                      have c15b0 : decide (t310 < (y306.length : Int)) = true := decide_eq_true c15
                      clear c15
                      replace H := Option.bind_eq_some_iff.mp H
                      obtain ⟨t313, A160, H⟩ := H
                      replace H : ((interlocutorlaw6_within.f (wrap64 (Int.tdiv (rd l0 x5_1) 18)) 3).bind fun t315 => (if x306003_1.length < 4398046511104 then (interlocutorlaw6_LexWords.l0 kj7 l0 y306 (wrap64 (x5_1 + 1)) (⟨#[]⟩ : ByteArray) 0 0 (x306003_1 ++ [(⟨rdOf ByteArray.empty y306 t310, wrap64 (1 + t313), t315⟩ : S53)])) else (none))) = some r := H
                      have A16 := Aside0.mk A160
                      clear A160
                      replace H := Option.bind_eq_some_iff.mp H
                      obtain ⟨t315, A170, H⟩ := H
                      replace H : (if x306003_1.length < 4398046511104 then (interlocutorlaw6_LexWords.l0 kj7 l0 y306 (wrap64 (x5_1 + 1)) (⟨#[]⟩ : ByteArray) 0 0 (x306003_1 ++ [(⟨rdOf ByteArray.empty y306 t310, wrap64 (1 + t313), t315⟩ : S53)])) else (none)) = some r := H
                      have A17 := Aside0.mk A170
                      clear A170
                      by_cases c18 : x306003_1.length < 4398046511104
                      · rw [if_pos c18] at H
                        have LMc18 := Aside0.mk c18
                        clear c18
                        obtain ⟨y316, hy316⟩ : ∃ y_ : List (S53), y_ = (x306003_1 ++ [(⟨rdOf ByteArray.empty y306 t310, wrap64 (1 + t313), t315⟩ : S53)]) := ⟨_, rfl⟩
                        replace H : (interlocutorlaw6_LexWords.l0 kj7 l0 y306 (wrap64 (x5_1 + 1)) (⟨#[]⟩ : ByteArray) 0 0 y316) = some r := by first | (rw [hy316]; with_reducible exact H) | (have H2_ := (Option.bind_some _ _).symm.trans H; rw [hy316]; with_reducible exact H2_) | (have H2_ := (Option.bind_some _ _).symm.trans H; with_reducible exact H2_) | with_reducible exact H | (rw [hy316]; exact H) | exact H
                        have Ny316 := Aside0.mk hy316
                        clear hy316
                        have H' := Aside0.mk H
                        clear H
                        try go_wp2
                        have n0_ := Aside0.mk (Kd.R_drew HO_4.out)
                        have n1_ := Aside0.mk (Kd.R_drew HO_306003.out)
                        have n2_ := Aside0.mk (blk_drew BK305.out)
                        have n3_ := Aside0.mk (below_drew1 HB.out)
                        clear HO_4 HO_306003 BK305 HB
                        have HO_4 := n0_
                        have HO_306003 := n1_
                        have BK305 := n2_
                        have HB := n3_
                        clear n0_ n1_ n2_ n3_
                        have p309 : 0 ≤ (x5_1 : Int) := of_decide_eq_true (by first | (with_reducible assumption) | assumption)
                        have q309 : x5_1 < (l0.length : Int) := of_decide_eq_true (by first | (with_reducible assumption) | assumption)
                        obtain ⟨ad309, e309, hx309_0⟩ := Kd.at_int HR0.out x5_1 p309 q309
                        have hw309_0 := hx309_0
                        cases e309
                        replace hx309_0 := (HB.out.cell (World.block_lt_of_cell? w _ hx309_0)).trans hx309_0
                        replace p309 := eq_true p309
                        replace q309 := eq_true q309
                        have p312 : 0 ≤ (x5_1 : Int) := of_decide_eq_true (by first | (with_reducible assumption) | assumption)
                        have q312 : x5_1 < (l0.length : Int) := of_decide_eq_true (by first | (with_reducible assumption) | assumption)
                        obtain ⟨ad312, e312, hx312_0⟩ := Kd.at_int HR0.out x5_1 p312 q312
                        have hw312_0 := hx312_0
                        obtain rfl : ad309 = ad312 := (by injection e312)
                        replace hx312_0 := (HB.out.cell (World.block_lt_of_cell? w _ hx312_0)).trans hx312_0
                        replace p312 := eq_true p312
                        replace q312 := eq_true q312
                        have p314 : 0 ≤ (x5_1 : Int) := of_decide_eq_true (by first | (with_reducible assumption) | assumption)
                        have q314 : x5_1 < (l0.length : Int) := of_decide_eq_true (by first | (with_reducible assumption) | assumption)
                        obtain ⟨ad314, e314, hx314_0⟩ := Kd.at_int HR0.out x5_1 p314 q314
                        have hw314_0 := hx314_0
                        obtain rfl : ad309 = ad314 := (by injection e314)
                        replace hx314_0 := (HB.out.cell (World.block_lt_of_cell? w _ hx314_0)).trans hx314_0
                        replace p314 := eq_true p314
                        replace q314 := eq_true q314
                        have p311 : 0 ≤ (t310 : Int) := of_decide_eq_true (by first | (with_reducible assumption) | assumption)
                        have q311 : t310 < (y306.length : Int) := of_decide_eq_true (by first | (with_reducible assumption) | assumption)
                        try (obtain ⟨AqHO_4_, cqHO_4_, eqHO_4_⟩ := Kd.R_slice HO_4.out; subst eqHO_4_)
                        obtain ⟨ad311, e311, hx311_0⟩ := Kd.at_string (Kd.R_reads' HO_4.out).2.2 t310 p311 q311
                        cases e311
                        replace p311 := eq_true p311
                        replace q311 := eq_true q311
                        refine start_ (n := 28) (S := fun w' => w'.cell? ⟨gb305, 0, none⟩ = some (.string (⟨#[]⟩ : ByteArray)) ∧ w'.cell? ⟨gb305, 1, none⟩ = some (.int .i64 0) ∧ w'.cell? ⟨gb305, 2, none⟩ = some (.int .i64 0) ∧ w'.cell? ⟨gb305, 3, none⟩ = some (u306003) ∧ w'.cell? ⟨gb305, 4, none⟩ = some (.slice none 0 0) ∧ w'.cell? ⟨gb305, 5, none⟩ = some (.slice none 0 0) ∧ w'.cell? (ad309.add (x5_1).toNat) = some (.int .i64 (rd l0 x5_1)) ∧ w'.cell? (ad309.add (x5_1).toNat) = some (.int .i64 (rd l0 x5_1)) ∧ w'.cell? (ad309.add (x5_1).toNat) = some (.int .i64 (rd l0 x5_1)) ∧ w'.cell? (ad311.add (t310).toNat) = some (.string (rdOf ByteArray.empty y306 t310))) (ds := [25, 27]) #[false, false, false, false, false, false, false, false, false, false, false, false, false, false, false, false, false, false, false, false, false, false, false, false, false, false, false, false] (by kernel_rfl) rfl rfl ⟨(blk_cell BK305.out 0).trans rfl, (blk_cell BK305.out 1).trans rfl, (blk_cell BK305.out 2).trans rfl, (blk_cell BK305.out 3).trans rfl, (blk_cell BK305.out 4).trans rfl, (blk_cell BK305.out 5).trans rfl, ((HB.out.cell (World.block_lt_of_cell? w _ hw309_0)).trans hw309_0), ((HB.out.cell (World.block_lt_of_cell? w _ hw312_0)).trans hw312_0), ((HB.out.cell (World.block_lt_of_cell? w _ hw314_0)).trans hw314_0), hx311_0⟩ (fun hHeld => ?_); refine with_tabW interlocutorlaw6_LexWords.tab8 interlocutorlaw6_LexWords.bits8 (fun HT_ HW_ => ?_)
                        generalize wc.drew = w19 at HO_4 HO_306003 BK305 HB hx309_0 hx311_0 hx312_0 hx314_0 hHeld ⊢
                        refine pure_ (i := 0) (N := some 29) (v := ?_) (a' := ?_) #[true, false, false, false, false, false, false, false, false, false, false, false, false, false, false, false, false, false, false, false, false, false, false, false, false, false, false, false] rfl rfl (any_of HT_.out (by kernel_rfl)) (fun _ _ _ h => h) (Or.inl ⟨by rfl, ?_⟩) ?_ ?_
                        rotate_left
                        · intro w'
                          go_simp
                          with_reducible rfl
                        rotate_left
                        · simp only [Act.put, List.setIfInBounds_toArray, List.set_cons_zero, List.set_cons_succ, i64_w, i32_w]
                          rfl
                        refine pure_ (i := 2) (N := some 31) (v := ?_) (a' := ?_) #[true, false, true, false, false, false, false, false, false, false, false, false, false, false, false, false, false, false, false, false, false, false, false, false, false, false, false, false] rfl rfl (any_of HT_.out (by kernel_rfl)) (fun _ _ _ h => h) (Or.inl ⟨by rfl, ?_⟩) ?_ ?_
                        rotate_left
                        · intro w'
                          go_simp
                          with_reducible rfl
                        rotate_left
                        · simp only [Act.put, List.setIfInBounds_toArray, List.set_cons_zero, List.set_cons_succ, i64_w, i32_w]
                          rfl
                        refine pure_ (i := 3) (N := some 32) (v := ?_) (a' := ?_) #[true, false, true, true, false, false, false, false, false, false, false, false, false, false, false, false, false, false, false, false, false, false, false, false, false, false, false, false] rfl rfl (any_of HT_.out (by kernel_rfl)) (fun _ _ _ h => h) (Or.inl ⟨by rfl, ?_⟩) ?_ ?_
                        rotate_left
                        · intro w'
                          go_simp
                          with_reducible rfl
                        rotate_left
                        · simp only [Act.put, List.setIfInBounds_toArray, List.set_cons_zero, List.set_cons_succ, i64_w, i32_w]
                          rfl
                        refine pure_ (i := 4) (N := some 33) (v := ?_) (a' := ?_) #[true, false, true, true, true, false, false, false, false, false, false, false, false, false, false, false, false, false, false, false, false, false, false, false, false, false, false, false] rfl rfl (any_of HT_.out (by kernel_rfl)) (fun _ _ _ h => h) (Or.inl ⟨by rfl, ?_⟩) ?_ ?_
                        rotate_left
                        · intro w'
                          go_simp
                          with_reducible rfl
                        rotate_left
                        · simp only [Act.put, List.setIfInBounds_toArray, List.set_cons_zero, List.set_cons_succ, i64_w, i32_w]
                          rfl
                        refine pure_ (i := 5) (N := some 34) (v := ?_) (a' := ?_) #[true, false, true, true, true, true, false, false, false, false, false, false, false, false, false, false, false, false, false, false, false, false, false, false, false, false, false, false] rfl rfl (any_of HT_.out (by kernel_rfl)) (fun _ _ _ h => h) (Or.inl ⟨by rfl, ?_⟩) ?_ ?_
                        rotate_left
                        · intro w'
                          go_simp
                          with_reducible rfl
                        rotate_left
                        · simp only [Act.put, List.setIfInBounds_toArray, List.set_cons_zero, List.set_cons_succ, i64_w, i32_w]
                          rfl
                        refine pure_ (i := 10) (N := some 39) (v := ?_) (a' := ?_) #[true, false, true, true, true, true, false, false, false, false, true, false, false, false, false, false, false, false, false, false, false, false, false, false, false, false, false, false] rfl rfl (any_of HT_.out (by kernel_rfl)) (fun _ _ _ h => h) (Or.inl ⟨by rfl, ?_⟩) ?_ ?_
                        rotate_left
                        · intro w'
                          go_simp
                          with_reducible rfl
                        rotate_left
                        · simp only [Act.put, List.setIfInBounds_toArray, List.set_cons_zero, List.set_cons_succ, i64_w, i32_w]
                          rfl
                        refine pure_ (i := 11) (N := some 40) (v := ?_) (a' := ?_) #[true, false, true, true, true, true, false, false, false, false, true, true, false, false, false, false, false, false, false, false, false, false, false, false, false, false, false, false] rfl rfl (any_of HT_.out (by kernel_rfl)) (fun _ _ _ h => h) (Or.inl ⟨by rfl, ?_⟩) ?_ ?_
                        rotate_left
                        · intro w'
                          go_simp
                          with_reducible rfl
                        rotate_left
                        · simp only [Act.put, List.setIfInBounds_toArray, List.set_cons_zero, List.set_cons_succ, i64_w, i32_w]
                          rfl
                        refine pure_ (i := 12) (N := some 41) (v := ?_) (a' := ?_) #[true, false, true, true, true, true, false, false, false, false, true, true, true, false, false, false, false, false, false, false, false, false, false, false, false, false, false, false] rfl rfl (any_of HT_.out (by kernel_rfl)) (fun _ _ _ h => h) (Or.inl ⟨by rfl, ?_⟩) ?_ ?_
                        rotate_left
                        · intro w'
                          go_simp
                          with_reducible rfl
                        rotate_left
                        · simp only [Act.put, List.setIfInBounds_toArray, List.set_cons_zero, List.set_cons_succ, i64_w, i32_w]
                          rfl
                        refine pure_ (i := 17) (N := some 46) (v := ?_) (a' := ?_) #[true, false, true, true, true, true, false, false, false, false, true, true, true, false, false, false, false, true, false, false, false, false, false, false, false, false, false, false] rfl rfl (any_of HT_.out (by kernel_rfl)) (fun _ _ _ h => h) (Or.inl ⟨by rfl, ?_⟩) ?_ ?_
                        rotate_left
                        · intro w'
                          go_simp
                          with_reducible rfl
                        rotate_left
                        · simp only [Act.put, List.setIfInBounds_toArray, List.set_cons_zero, List.set_cons_succ, i64_w, i32_w]
                          rfl
                        refine pure_ (i := 18) (N := some 47) (v := ?_) (a' := ?_) #[true, false, true, true, true, true, false, false, false, false, true, true, true, false, false, false, false, true, true, false, false, false, false, false, false, false, false, false] rfl rfl (any_of HT_.out (by kernel_rfl)) (fun _ _ _ h => h) (Or.inl ⟨by rfl, ?_⟩) ?_ ?_
                        rotate_left
                        · intro w'
                          go_simp
                          with_reducible rfl
                        rotate_left
                        · simp only [Act.put, List.setIfInBounds_toArray, List.set_cons_zero, List.set_cons_succ, i64_w, i32_w]
                          rfl
                        refine pure_ (i := 19) (N := some 48) (v := ?_) (a' := ?_) #[true, false, true, true, true, true, false, false, false, false, true, true, true, false, false, false, false, true, true, true, false, false, false, false, false, false, false, false] rfl rfl (any_of HT_.out (by kernel_rfl)) (fun _ _ _ h => h) (Or.inl ⟨by rfl, ?_⟩) ?_ ?_
                        rotate_left
                        · intro w'
                          go_simp
                          with_reducible rfl
                        rotate_left
                        · simp only [Act.put, List.setIfInBounds_toArray, List.set_cons_zero, List.set_cons_succ, i64_w, i32_w]
                          rfl
                        refine take_ (i := 1) (N := some 30) (v := ?_) (a' := ?_) #[true, true, true, true, true, true, false, false, false, false, true, true, true, false, false, false, false, true, true, true, false, false, false, false, false, false, false, false] rfl rfl (take_ofW HT_.out HW_.out (by kernel_rfl)) (fun _ _ _ h => h) (Or.inl ⟨by rfl, ?_⟩) hHeld ?_ ?_
                        rotate_left
                        · rintro w' ⟨s0, s1, s2, s3, s4, s5, s6, s7, s8, s9⟩
                          go_simp
                          with_reducible rfl
                        rotate_left
                        · simp only [Act.put, List.setIfInBounds_toArray, List.set_cons_zero, List.set_cons_succ, i64_w, i32_w]
                          rfl
                        refine take_ (i := 6) (N := some 35) (v := ?_) (a' := ?_) #[true, true, true, true, true, true, true, false, false, false, true, true, true, false, false, false, false, true, true, true, false, false, false, false, false, false, false, false] rfl rfl (take_ofW HT_.out HW_.out (by kernel_rfl)) (fun _ _ _ h => h) (Or.inl ⟨by rfl, ?_⟩) hHeld ?_ ?_
                        rotate_left
                        · rintro w' ⟨s0, s1, s2, s3, s4, s5, s6, s7, s8, s9⟩
                          go_simp
                          with_reducible rfl
                        rotate_left
                        · simp only [Act.put, List.setIfInBounds_toArray, List.set_cons_zero, List.set_cons_succ, i64_w, i32_w]
                          rfl
                        refine take_ (i := 13) (N := some 42) (v := ?_) (a' := ?_) #[true, true, true, true, true, true, true, false, false, false, true, true, true, true, false, false, false, true, true, true, false, false, false, false, false, false, false, false] rfl rfl (take_ofW HT_.out HW_.out (by kernel_rfl)) (fun _ _ _ h => h) (Or.inl ⟨by rfl, ?_⟩) hHeld ?_ ?_
                        rotate_left
                        · rintro w' ⟨s0, s1, s2, s3, s4, s5, s6, s7, s8, s9⟩
                          go_simp
                          with_reducible rfl
                        rotate_left
                        · simp only [Act.put, List.setIfInBounds_toArray, List.set_cons_zero, List.set_cons_succ, i64_w, i32_w]
                          rfl
                        refine pure_ (i := 14) (N := some 43) (v := ?_) (a' := ?_) #[true, true, true, true, true, true, true, false, false, false, true, true, true, true, true, false, false, true, true, true, false, false, false, false, false, false, false, false] rfl rfl (any_of HT_.out (by kernel_rfl)) (fun _ _ _ h => h) (Or.inl ⟨by rfl, ?_⟩) ?_ ?_
                        rotate_left
                        · intro w'
                          go_simp
                          with_reducible rfl
                        rotate_left
                        · simp only [Act.put, List.setIfInBounds_toArray, List.set_cons_zero, List.set_cons_succ, i64_w, i32_w]
                          rfl
                        refine take_ (i := 20) (N := some 49) (v := ?_) (a' := ?_) #[true, true, true, true, true, true, true, false, false, false, true, true, true, true, true, false, false, true, true, true, true, false, false, false, false, false, false, false] rfl rfl (take_ofW HT_.out HW_.out (by kernel_rfl)) (fun _ _ _ h => h) (Or.inl ⟨by rfl, ?_⟩) hHeld ?_ ?_
                        rotate_left
                        · rintro w' ⟨s0, s1, s2, s3, s4, s5, s6, s7, s8, s9⟩
                          go_simp
                          with_reducible rfl
                        rotate_left
                        · simp only [Act.put, List.setIfInBounds_toArray, List.set_cons_zero, List.set_cons_succ, i64_w, i32_w]
                          rfl
                        refine pure_ (i := 21) (N := some 50) (v := ?_) (a' := ?_) #[true, true, true, true, true, true, true, false, false, false, true, true, true, true, true, false, false, true, true, true, true, true, false, false, false, false, false, false] rfl rfl (any_of HT_.out (by kernel_rfl)) (fun _ _ _ h => h) (Or.inl ⟨by rfl, ?_⟩) ?_ ?_
                        rotate_left
                        · intro w'
                          go_simp
                          with_reducible rfl
                        rotate_left
                        · simp only [Act.put, List.setIfInBounds_toArray, List.set_cons_zero, List.set_cons_succ, i64_w, i32_w]
                          rfl
                        refine one_ (i := 7) (N := some 36) #[true, true, true, true, true, true, true, true, false, false, true, true, true, true, true, false, false, true, true, true, true, true, false, false, false, false, false, false] rfl rfl (one_of HT_.out (by kernel_rfl)) (by decide) (fun K hK => ?_)
                        refine goes_ Try.func27 (by kernel_rfl) rfl #[.int .i64 (rd l0 x5_1), .int .i64 6] (by rfl) rfl rfl (by (try simp only [List.map_toArray, List.map_cons, List.map_nil]); first | done | rfl | (simp only [List.length_drop, List.length_take]; rfl)) ?_
                        with_reducible refine (interlocutorlaw6_within.calls (rd l0 x5_1) 6 t310 _ A13.out).mono ?_
                        rintro e w' ⟨rfl, ⟨nd, rfl⟩⟩
                        refine ⟨_, rfl, ?_⟩
                        obtain ⟨Ao20, co20, eo20⟩ := Kd.R_slice HO_4.out
                        (first | subst eo20 | (injection eo20 with f1_ f2_ f3_; have f4_ := f1_.symm; have f5_ := f3_.symm; clear f1_ f2_ f3_; subst f4_; subst f5_))
                        refine hK.out _ _ ⟨(blk_cell BK305.out 0).trans rfl, (blk_cell BK305.out 1).trans rfl, (blk_cell BK305.out 2).trans rfl, (blk_cell BK305.out 3).trans rfl, (blk_cell BK305.out 4).trans rfl, (blk_cell BK305.out 5).trans rfl, ((HB.out.cell (World.block_lt_of_cell? w _ hw309_0)).trans hw309_0), ((HB.out.cell (World.block_lt_of_cell? w _ hw312_0)).trans hw312_0), ((HB.out.cell (World.block_lt_of_cell? w _ hw314_0)).trans hw314_0), hHeld.2.2.2.2.2.2.2.2.2⟩ (fun hHeld => ?_)
                        clear hK K
                        refine norm_ (a' := ?_) ?_ ?_
                        rotate_left
                        · show Act.put _ (some 36) _ = _
                          simp only [Act.put, List.setIfInBounds_toArray, List.set_cons_zero, List.set_cons_succ, i64_w, i32_w]
                          rfl
                        refine pure_ (i := 8) (N := some 37) (v := ?_) (a' := ?_) #[true, true, true, true, true, true, true, true, true, false, true, true, true, true, true, false, false, true, true, true, true, true, false, false, false, false, false, false] rfl rfl (any_of HT_.out (by kernel_rfl)) (fun _ _ _ h => h) (Or.inl ⟨by rfl, ?_⟩) ?_ ?_
                        rotate_left
                        · intro w'
                          go_simp
                          with_reducible rfl
                        rotate_left
                        · simp only [Act.put, List.setIfInBounds_toArray, List.set_cons_zero, List.set_cons_succ, i64_w, i32_w]
                          rfl
                        refine take_ (i := 9) (N := some 38) (v := ?_) (a' := ?_) #[true, true, true, true, true, true, true, true, true, true, true, true, true, true, true, false, false, true, true, true, true, true, false, false, false, false, false, false] rfl rfl (take_ofW HT_.out HW_.out (by kernel_rfl)) (fun _ _ _ h => h) (Or.inl ⟨by rfl, ?_⟩) hHeld ?_ ?_
                        rotate_left
                        · rintro w' ⟨s0, s1, s2, s3, s4, s5, s6, s7, s8, s9⟩
                          go_simp
                          with_reducible rfl
                        rotate_left
                        · simp only [Act.put, List.setIfInBounds_toArray, List.set_cons_zero, List.set_cons_succ, i64_w, i32_w]
                          rfl
                        refine one_ (i := 15) (N := some 44) #[true, true, true, true, true, true, true, true, true, true, true, true, true, true, true, true, false, true, true, true, true, true, false, false, false, false, false, false] rfl rfl (one_of HT_.out (by kernel_rfl)) (by decide) (fun K hK => ?_)
                        refine goes_ Try.func27 (by kernel_rfl) rfl #[.int .i64 (wrap64 (Int.tdiv (rd l0 x5_1) 6)), .int .i64 3] (by rfl) rfl rfl (by (try simp only [List.map_toArray, List.map_cons, List.map_nil]); first | done | rfl | (simp only [List.length_drop, List.length_take]; rfl)) ?_
                        with_reducible refine (interlocutorlaw6_within.calls (wrap64 (Int.tdiv (rd l0 x5_1) 6)) 3 t313 _ A16.out).mono ?_
                        rintro e w' ⟨rfl, ⟨nd, rfl⟩⟩
                        refine ⟨_, rfl, ?_⟩
                        refine hK.out _ _ ⟨(blk_cell BK305.out 0).trans rfl, (blk_cell BK305.out 1).trans rfl, (blk_cell BK305.out 2).trans rfl, (blk_cell BK305.out 3).trans rfl, (blk_cell BK305.out 4).trans rfl, (blk_cell BK305.out 5).trans rfl, ((HB.out.cell (World.block_lt_of_cell? w _ hw309_0)).trans hw309_0), ((HB.out.cell (World.block_lt_of_cell? w _ hw312_0)).trans hw312_0), ((HB.out.cell (World.block_lt_of_cell? w _ hw314_0)).trans hw314_0), hHeld.2.2.2.2.2.2.2.2.2⟩ (fun hHeld => ?_)
                        clear hK K
                        refine norm_ (a' := ?_) ?_ ?_
                        rotate_left
                        · show Act.put _ (some 44) _ = _
                          simp only [Act.put, List.setIfInBounds_toArray, List.set_cons_zero, List.set_cons_succ, i64_w, i32_w]
                          rfl
                        refine pure_ (i := 16) (N := some 45) (v := ?_) (a' := ?_) #[true, true, true, true, true, true, true, true, true, true, true, true, true, true, true, true, true, true, true, true, true, true, false, false, false, false, false, false] rfl rfl (any_of HT_.out (by kernel_rfl)) (fun _ _ _ h => h) (Or.inl ⟨by rfl, ?_⟩) ?_ ?_
                        rotate_left
                        · intro w'
                          go_simp
                          with_reducible rfl
                        rotate_left
                        · simp only [Act.put, List.setIfInBounds_toArray, List.set_cons_zero, List.set_cons_succ, i64_w, i32_w]
                          rfl
                        refine one_ (i := 22) (N := some 51) #[true, true, true, true, true, true, true, true, true, true, true, true, true, true, true, true, true, true, true, true, true, true, true, false, false, false, false, false] rfl rfl (one_of HT_.out (by kernel_rfl)) (by decide) (fun K hK => ?_)
                        refine goes_ Try.func27 (by kernel_rfl) rfl #[.int .i64 (wrap64 (Int.tdiv (rd l0 x5_1) 18)), .int .i64 3] (by rfl) rfl rfl (by (try simp only [List.map_toArray, List.map_cons, List.map_nil]); first | done | rfl | (simp only [List.length_drop, List.length_take]; rfl)) ?_
                        with_reducible refine (interlocutorlaw6_within.calls (wrap64 (Int.tdiv (rd l0 x5_1) 18)) 3 t315 _ A17.out).mono ?_
                        rintro e w' ⟨rfl, ⟨nd, rfl⟩⟩
                        refine ⟨_, rfl, ?_⟩
                        refine hK.out _ _ ⟨(blk_cell BK305.out 0).trans rfl, (blk_cell BK305.out 1).trans rfl, (blk_cell BK305.out 2).trans rfl, (blk_cell BK305.out 3).trans rfl, (blk_cell BK305.out 4).trans rfl, (blk_cell BK305.out 5).trans rfl, ((HB.out.cell (World.block_lt_of_cell? w _ hw309_0)).trans hw309_0), ((HB.out.cell (World.block_lt_of_cell? w _ hw312_0)).trans hw312_0), ((HB.out.cell (World.block_lt_of_cell? w _ hw314_0)).trans hw314_0), hHeld.2.2.2.2.2.2.2.2.2⟩ (fun hHeld => ?_)
                        clear hK K
                        refine norm_ (a' := ?_) ?_ ?_
                        rotate_left
                        · show Act.put _ (some 51) _ = _
                          simp only [Act.put, List.setIfInBounds_toArray, List.set_cons_zero, List.set_cons_succ, i64_w, i32_w]
                          rfl
                        refine pure_ (i := 23) (N := some 52) (v := ?_) (a' := ?_) #[true, true, true, true, true, true, true, true, true, true, true, true, true, true, true, true, true, true, true, true, true, true, true, true, false, false, false, false] rfl rfl (any_of HT_.out (by kernel_rfl)) (fun _ _ _ h => h) (Or.inl ⟨by rfl, ?_⟩) ?_ ?_
                        rotate_left
                        · intro w'
                          go_simp
                          with_reducible rfl
                        rotate_left
                        · simp only [Act.put, List.setIfInBounds_toArray, List.set_cons_zero, List.set_cons_succ, i64_w, i32_w]
                          rfl
                        refine one_ (i := 24) (N := some 53) #[true, true, true, true, true, true, true, true, true, true, true, true, true, true, true, true, true, true, true, true, true, true, true, true, true, false, false, false] rfl rfl (one_of HT_.out (by kernel_rfl)) (by decide) (fun K hK => ?_)
                        refine value_ (w1 := ?_) (v := ?_) (by rfl) rfl ?_ ?_
                        rotate_left 2
                        · go_simp
                          constructor
                          · rfl
                          · rfl
                        refine hK.out _ _ ⟨(blk_cell (blk_alloc BK305.out _) 0).trans rfl, (blk_cell (blk_alloc BK305.out _) 1).trans rfl, (blk_cell (blk_alloc BK305.out _) 2).trans rfl, (blk_cell (blk_alloc BK305.out _) 3).trans rfl, (blk_cell (blk_alloc BK305.out _) 4).trans rfl, (blk_cell (blk_alloc BK305.out _) 5).trans rfl, (World.cell?_alloc_lt _ _ _ (World.block_lt_of_cell? _ _ (((HB.out.cell (World.block_lt_of_cell? w _ hw309_0)).trans hw309_0)))).trans (((HB.out.cell (World.block_lt_of_cell? w _ hw309_0)).trans hw309_0)), (World.cell?_alloc_lt _ _ _ (World.block_lt_of_cell? _ _ (((HB.out.cell (World.block_lt_of_cell? w _ hw312_0)).trans hw312_0)))).trans (((HB.out.cell (World.block_lt_of_cell? w _ hw312_0)).trans hw312_0)), (World.cell?_alloc_lt _ _ _ (World.block_lt_of_cell? _ _ (((HB.out.cell (World.block_lt_of_cell? w _ hw314_0)).trans hw314_0)))).trans (((HB.out.cell (World.block_lt_of_cell? w _ hw314_0)).trans hw314_0)), (World.cell?_alloc_lt _ _ _ (World.block_lt_of_cell? _ _ (hHeld.2.2.2.2.2.2.2.2.2))).trans (hHeld.2.2.2.2.2.2.2.2.2)⟩ (fun hHeld => ?_)
                        clear hK K
                        refine norm_ (a' := ?_) ?_ ?_
                        rotate_left
                        · show Act.put _ (some 53) _ = _
                          simp only [Act.put, List.setIfInBounds_toArray, List.set_cons_zero, List.set_cons_succ, i64_w, i32_w]
                          rfl
                        refine last_ (i := 25) (N := some 54) #[true, true, true, true, true, true, true, true, true, true, true, true, true, true, true, true, true, true, true, true, true, true, true, true, true, true, false, false] rfl rfl (one_of HT_.out (by kernel_rfl)) (by decide) (fun K hK => ?_)
                        refine Kd.R_append_step k53 (w0 := w) w.heap.size (by rfl) (.tmp 30) (.tmp 53) 28 53 (.agg #[(.string ⟨#[]⟩), (.int .i64 0), (.int .i64 0)]) 32 rfl Try.underlying28 info53 rfl (by decide) (by omega) u306003 x306003_1 (⟨rdOf ByteArray.empty y306 t310, wrap64 (1 + t313), t315⟩ : S53) [.string (rdOf ByteArray.empty y306 t310), .int .i64 (wrap64 (1 + t313)), .int .i64 t315] (fun _ => True) (fun _ => False) rfl rfl ?aP (fun _ hk => hk.elim) ?aF ?aO ?aB ?aS ?aL ?_
                        (case aP => exact k53_mkM _ _ _ (⟨rdOf ByteArray.empty y306 t310, wrap64 (1 + t313), t315⟩ : S53))
                        (case aB => exact (by exact wS HB.out GE305.out))
                        (case aF => exact (fun _ _ => trivial))
                        (case aO => exact (by (with_reducible repeat (first | apply Kd.R_alloc | apply Kd.R_drewN | apply Kd.R_drew)); exact HO_306003.out))
                        (case aS => exact (below_size (by exact wS HB.out GE305.out)))
                        (case aL => have := LMc18.out; omega)
                        intro v317 w21 ho hb hg hat
                        rw [← Ny316.out] at ho
                        have n0_ := Aside0.mk (Kd.R_over' (by (with_reducible repeat (first | apply Kd.R_alloc | apply Kd.R_drewN | apply Kd.R_drew)); exact HO_4.out) (Kd.R_typed (by (with_reducible repeat (first | apply Kd.R_alloc | apply Kd.R_drewN | apply Kd.R_drew)); exact HO_306003.out)) (by decide) hg)
                        have n1_ := Aside0.mk (blk_grown (g := gb305) (o := .cells #[.string (⟨#[]⟩ : ByteArray), .int .i64 0, .int .i64 0, u306003, .slice none 0 0, .slice none 0 0] 32 (0, 0)) (by (with_reducible repeat (first | refine blk_drewN ?_ _ | refine blk_drew ?_ | refine blk_alloc ?_ _)); exact BK305.out) hg (Kd.R_ne HO_306003.out BK305.out (by decide)))
                        have n2_ := Aside0.mk (hb)
                        have n3_ := Aside0.mk (ho)
                        clear HO_4 BK305 HB HO_306003
                        have HO_4 := n0_
                        have BK305 := n1_
                        have HB := n2_
                        have HO318 := n3_
                        clear n0_ n1_ n2_ n3_ ho hb hg hat
                        obtain ⟨Ao22, co22, eo22⟩ := Kd.R_slice HO318.out
                        (first | subst eo22 | (injection eo22 with f1_ f2_ f3_; have f4_ := f1_.symm; have f5_ := f3_.symm; clear f1_ f2_ f3_; subst f4_; subst f5_))
                        refine hK.out _ _ ?_
                        clear hK K
                        refine norm_ (a' := ?_) ?_ ?_
                        rotate_left
                        · show Act.put _ (some 54) _ = _
                          simp only [Act.put, List.setIfInBounds_toArray, List.set_cons_zero, List.set_cons_succ, i64_w, i32_w]
                          rfl
                        refine pure_ (i := 26) (N := some 55) (v := ?_) (a' := ?_) #[true, true, true, true, true, true, true, true, true, true, true, true, true, true, true, true, true, true, true, true, true, true, true, true, true, true, true, false] rfl rfl (any_of HT_.out (by kernel_rfl)) (fun _ _ _ h => h) (Or.inl ⟨by rfl, ?_⟩) ?_ ?_
                        rotate_left
                        · intro w'
                          go_simp
                          with_reducible rfl
                        rotate_left
                        · simp only [Act.put, List.setIfInBounds_toArray, List.set_cons_zero, List.set_cons_succ, i64_w, i32_w]
                          rfl
                        refine last_ (i := 27) (N := none) #[true, true, true, true, true, true, true, true, true, true, true, true, true, true, true, true, true, true, true, true, true, true, true, true, true, true, true, true] rfl rfl (one_of HT_.out (by kernel_rfl)) (by decide) (fun K hK => ?_)
                        have hs23 : w21.cell? ⟨gb305, 3, none⟩ = some (u306003) := (blk_cell BK305.out 3).trans rfl
                        have hfs23 := blk_frozen BK305.out 3
                        refine skip_ (w1 := ?_) (by rfl) rfl ?_ ?_
                        rotate_left
                        · go_simp
                          rfl
                        refine hK.out _ _ ?_
                        clear hK K
                        refine done_ (done_of HT_.out (by kernel_rfl)) ?_
                        try go_wp2
                        go_roundg kj7
                        case measure => have := HK1.out; have := HJ7.out; omega
                        case rel => exact ⟨(wrap64 (x5_1 + 1)), (y316), (.slice Ao22 y316.length co22), (by first | rfl | (simp; done) | (simp [*]; done)), H', ⟨by have := HK1.out; have := HJ7.out; omega⟩, ⟨by (with_reducible repeat (first | apply Kd.R_alloc | apply Kd.R_drewN | apply Kd.R_drew)); exact Kd.R_mono (Kd.R_far (p := ⟨gb305, 3, none⟩) (Kd.R_types HO_4.out BK305.out (by decide)) (fun _ hk => hk.2) (.slice Ao22 y316.length co22)) (fun _ hk => trivial)⟩, ⟨by (with_reducible repeat (first | apply Kd.R_alloc | apply Kd.R_drewN | apply Kd.R_drew)); exact Kd.R_mono (Kd.R_far (p := ⟨gb305, 3, none⟩) (Kd.R_types HO318.out BK305.out (by decide)) (fun _ hk => hk.2) (.slice Ao22 y316.length co22)) (fun _ hk => trivial)⟩, ⟨by (with_reducible repeat (first | refine blk_drewN ?_ _ | refine blk_drew ?_ | refine blk_alloc ?_ _)); refine blk_put (cs := #[.string (⟨#[]⟩ : ByteArray), .int .i64 0, .int .i64 0, u306003, .slice none 0 0, .slice none 0 0]) ?_ 3 _ rfl; (with_reducible repeat (first | refine blk_drewN ?_ _ | refine blk_drew ?_ | refine blk_alloc ?_ _)); exact BK305.out⟩, ⟨by exact wS HB.out GE305.out⟩⟩
                      · rw [if_neg c18] at H
                        exact absurd H (by simp)
                    · rw [if_neg c15] at H
                      exact absurd H (by simp)
                  · rw [if_neg c14] at H
                    exact absurd H (by simp)
                · rw [if_neg c12] at H
                  exact absurd H (by simp)
              · rw [if_neg c11] at H
                exact absurd H (by simp)
            · replace c10 := Bool.eq_false_iff.mpr c10
              subst c10
              have H1 : ((interlocutorref3_Fold.f kj7 (⟨#[97, 97, 98, 97, 97]⟩ : ByteArray)).bind fun bt319 => ((lex_Tokens.f (⟨#[]⟩ : ByteArray) 0 0 x306003_1 ([] : List (S108)) ([] : List (S138)) bt319.1).bind fun t325 => (interlocutorlaw6_LexWords.l1 kj7 bt319.1 t325 0 0 (⟨#[]⟩ : ByteArray) 0 0 x306003_1))) = some r := by rw [if_neg (show ¬ (false = true) by decide)] at H; exact H
              clear H
              have H := H1
              clear H1
              replace H := Option.bind_eq_some_iff.mp H
              obtain ⟨⟨t319, t320⟩, A240, H⟩ := H
              replace H : ((lex_Tokens.f (⟨#[]⟩ : ByteArray) 0 0 x306003_1 ([] : List (S108)) ([] : List (S138)) t319).bind fun t325 => (interlocutorlaw6_LexWords.l1 kj7 t319 t325 0 0 (⟨#[]⟩ : ByteArray) 0 0 x306003_1)) = some r := H
              have A24 := Aside0.mk A240
              clear A240
              replace H := Option.bind_eq_some_iff.mp H
              obtain ⟨t325, A250, H⟩ := H
              replace H : (interlocutorlaw6_LexWords.l1 kj7 t319 t325 0 0 (⟨#[]⟩ : ByteArray) 0 0 x306003_1) = some r := H
              have A25 := Aside0.mk A250
              clear A250
              have H' := Aside0.mk H
              clear H
              go_wp2_with (first | ((with_reducible refine gate_callee (f := 19) rfl ?_); refine goesL_ (some 57) rfl rfl Try.func19 (by kernel_rfl) rfl #[.string (⟨#[97, 97, 98, 97, 97]⟩ : ByteArray)] rfl (by (try simp only [List.map_toArray, List.map_cons, List.map_nil]); first | done | rfl | (simp only [List.length_drop, List.length_take]; rfl)) ?_; (with_reducible refine (interlocutorref3_Fold.calls kj7 (⟨#[97, 97, 98, 97, 97]⟩ : ByteArray) t319 t320 _ A24.out).mono ?_); rintro e w26 ⟨v321, v323, rfl, ho0, ho1, hb⟩; refine ⟨_, rfl, ?_⟩; have n0_ := Aside0.mk (Kd.R_below (by (with_reducible repeat (first | apply Kd.R_alloc | apply Kd.R_drewN | apply Kd.R_drew)); exact HO_4.out) hb); have n1_ := Aside0.mk (Kd.R_below (by (with_reducible repeat (first | apply Kd.R_alloc | apply Kd.R_drewN | apply Kd.R_drew)); exact HO_306003.out) hb); have n2_ := Aside0.mk (Kd.R_lower ho0 (below_size (by exact wS HB.out GE305.out))); have n3_ := Aside0.mk (Kd.R_lower ho1 (below_size (by exact wS HB.out GE305.out))); have n4_ := Aside0.mk (blk_below (g := gb305) (o := .cells #[.string (⟨#[]⟩ : ByteArray), .int .i64 0, .int .i64 0, u306003, .slice none 0 0, .slice none 0 0] 32 (0, 0)) (by (with_reducible repeat (first | refine blk_drewN ?_ _ | refine blk_drew ?_ | refine blk_alloc ?_ _)); exact BK305.out) hb); have n5_ := Aside0.mk (below_step (by exact wS HB.out GE305.out) hb); clear HO_4; clear HO_306003; clear BK305; clear HB; have HO_4 := n0_; have HO_306003 := n1_; have HO322 := n2_; have HO324 := n3_; have BK305 := n4_; have HB := n5_; clear n0_ n1_ n2_ n3_ n4_ n5_; (try clear hb); (try clear hb2); (try clear hk); (try clear hi); (try clear ho0); (try clear ho1); have hcz27_0 : w26.cell? ⟨gb305, 0, none⟩ = some (.string (⟨#[]⟩ : ByteArray)) := (blk_cell BK305.out 0).trans rfl; have hcz27_1 : w26.cell? ⟨gb305, 1, none⟩ = some (.int .i64 0) := (blk_cell BK305.out 1).trans rfl; have hcz27_2 : w26.cell? ⟨gb305, 2, none⟩ = some (.int .i64 0) := (blk_cell BK305.out 2).trans rfl; have hcz27_3 : w26.cell? ⟨gb305, 3, none⟩ = some (u306003) := (blk_cell BK305.out 3).trans rfl; have hcz27_4 : w26.cell? ⟨gb305, 4, none⟩ = some (.slice none 0 0) := (blk_cell BK305.out 4).trans rfl; have hcz27_5 : w26.cell? ⟨gb305, 5, none⟩ = some (.slice none 0 0) := (blk_cell BK305.out 5).trans rfl; have hfz27_0 := blk_frozen BK305.out 0; have hfz27_1 := blk_frozen BK305.out 1; have hfz27_2 := blk_frozen BK305.out 2; have hfz27_3 := blk_frozen BK305.out 3; have hfz27_4 := blk_frozen BK305.out 4; have hfz27_5 := blk_frozen BK305.out 5; obtain ⟨Ao28, co28, eo28⟩ := Kd.R_slice HO_306003.out; subst eo28; obtain ⟨Ao29, co29, eo29⟩ := Kd.R_slice HO322.out; subst eo29) | ((with_reducible refine gate_callee (f := 20) rfl ?_); refine goesL_ (some 62) rfl rfl Try.func20 (by kernel_rfl) rfl #[.agg #[.string (⟨#[]⟩ : ByteArray), .int .i64 0, .int .i64 0, .slice Ao28 x306003_1.length co28, .slice none 0 0, .slice none 0 0], .slice Ao29 t319.length co29] rfl (by (try simp only [List.map_toArray, List.map_cons, List.map_nil]); first | done | rfl | (simp only [List.length_drop, List.length_take]; rfl)) ?_; (refine (lex_Tokens.calls (⟨#[]⟩ : ByteArray) 0 0 _ _ x306003_1 _ _ ([] : List (S108)) _ _ ([] : List (S138)) _ _ t319 t325 _ ?side1 ?side2 ?side3 ?side4 ?side5 ?side6 ?side7 ?side8 A25.out).mono ?_); (case side1 => repeat (first | exact (Kd.R_reads' HO_306003.out).2.2 | (with_reducible refine Kd.C_alloc ?_ _) | (with_reducible refine Kd.C_drewN ?_ _) | (with_reducible refine Kd.C_drew ?_))); (case side2 => exact (Kd.R_reads' HO_306003.out).2.1); (case side3 => exact Kd.C_nil _ _); (case side4 => exact Nat.le_refl _); (case side5 => exact Kd.C_nil _ _); (case side6 => exact Nat.le_refl _); (case side7 => repeat (first | exact (Kd.R_reads' HO322.out).2.2 | (with_reducible refine Kd.C_alloc ?_ _) | (with_reducible refine Kd.C_drewN ?_ _) | (with_reducible refine Kd.C_drew ?_))); (case side8 => exact (Kd.R_reads' HO322.out).2.1); rintro e w30 ⟨v326, rfl, ho0, hb⟩; refine ⟨_, rfl, ?_⟩; have n0_ := Aside0.mk (Kd.R_below (by (with_reducible repeat (first | apply Kd.R_alloc | apply Kd.R_drewN | apply Kd.R_drew)); exact HO_4.out) hb); have n1_ := Aside0.mk (Kd.R_below (by (with_reducible repeat (first | apply Kd.R_alloc | apply Kd.R_drewN | apply Kd.R_drew)); exact HO_306003.out) hb); have n2_ := Aside0.mk (Kd.R_below (by (with_reducible repeat (first | apply Kd.R_alloc | apply Kd.R_drewN | apply Kd.R_drew)); exact HO322.out) hb); have n3_ := Aside0.mk (Kd.R_below (by (with_reducible repeat (first | apply Kd.R_alloc | apply Kd.R_drewN | apply Kd.R_drew)); exact HO324.out) hb); have n4_ := Aside0.mk (Kd.R_lower ho0 (below_size (by exact wS HB.out GE305.out))); have n5_ := Aside0.mk (blk_below (g := gb305) (o := .cells #[.string (⟨#[]⟩ : ByteArray), .int .i64 0, .int .i64 0, .slice Ao28 x306003_1.length co28, .slice none 0 0, .slice none 0 0] 32 (0, 0)) (by (with_reducible repeat (first | refine blk_drewN ?_ _ | refine blk_drew ?_ | refine blk_alloc ?_ _)); exact BK305.out) hb); have n6_ := Aside0.mk (below_step (by exact wS HB.out GE305.out) hb); clear HO_4; clear HO_306003; clear HO322; clear HO324; clear BK305; clear HB; have HO_4 := n0_; have HO_306003 := n1_; have HO322 := n2_; have HO324 := n3_; have HO327 := n4_; have BK305 := n5_; have HB := n6_; clear n0_ n1_ n2_ n3_ n4_ n5_ n6_; (try clear hb); (try clear hb2); (try clear hk); (try clear hi); (try clear ho0)))
              go_loopg [9, 10] kj7 (fun kq v9 v10 w' => ∃ (x9_3 : Int) (x10_3 : Int), v9 = .int .i64 x9_3 ∧ v10 = .int .i64 x10_3 ∧ Aside0 (interlocutorlaw6_LexWords.l1 kq t319 t325 x9_3 x10_3 (⟨#[]⟩ : ByteArray) 0 0 x306003_1 = some r) ∧ Aside0 (kq ≤ kj7) ∧ Aside0 (Kd.R (Kd.int .i64) 3 w' w.heap.size (fun _ => True) (.slice Ao29 t319.length co29) t319) ∧ Aside0 (Kd.R k47 47 w' w.heap.size (fun _ => True) v326 t325) ∧ Aside0 (Kd.R k53 53 w' w.heap.size (fun _ => True) (.slice Ao28 x306003_1.length co28) x306003_1) ∧ Aside0 (w'.heap[gb305]? = some (.cells #[.string (⟨#[]⟩ : ByteArray), .int .i64 0, .int .i64 0, (.slice Ao28 x306003_1.length co28), (.slice none 0 0), (.slice none 0 0)] 32 (0, 0))) ∧ Aside0 (Below w.heap.size w w'))
              case atStart => exact ⟨(0), (0), (by first | rfl | (simp; done) | (simp [*]; done)), (by first | rfl | (simp; done) | (simp [*]; done)), H', ⟨Nat.le_refl _⟩, ⟨by (with_reducible repeat (first | apply Kd.R_alloc | apply Kd.R_drewN | apply Kd.R_drew)); exact Kd.R_mono HO322.out (fun _ hk => trivial)⟩, ⟨by (with_reducible repeat (first | apply Kd.R_alloc | apply Kd.R_drewN | apply Kd.R_drew)); exact HO327.out⟩, ⟨by (with_reducible repeat (first | apply Kd.R_alloc | apply Kd.R_drewN | apply Kd.R_drew)); exact HO_306003.out⟩, ⟨by (with_reducible repeat (first | refine blk_drewN ?_ _ | refine blk_drew ?_ | refine blk_alloc ?_ _)); exact BK305.out⟩, ⟨by exact wS HB.out GE305.out⟩⟩
              case round =>
                clear H'
                try clear c1
                try clear c2
                try clear p2
                try clear c3
                try clear p3
                try clear q3
                try clear hx3
                try clear p6
                try clear c7
                try clear c9
                try clear c9b0
                try clear c10
                try clear c11
                try clear c11b0
                try clear c12
                try clear c12b0
                try clear c14
                try clear c14b0
                try clear c15
                try clear c15b0
                try clear c18
                try clear c19
                try clear c20
                try clear c27
                try clear p30
                try clear q30
                try clear hx30
                try clear hcz27_0
                try clear hcz27_1
                try clear hcz27_2
                try clear hcz27_3
                try clear hcz27_4
                try clear hcz27_5
                try clear hfz27_0
                try clear hfz27_1
                try clear hfz27_2
                try clear hfz27_3
                try clear hfz27_4
                try clear hfz27_5
                try clear hx309_0
                try clear hx311_0
                try clear hx312_0
                try clear hx314_0
                try clear p2
                try clear p309
                try clear p311
                try clear p312
                try clear p314
                try clear q309
                try clear q311
                try clear q312
                try clear q314
                obtain ⟨x9_3, x10_3, rfl, rfl, HA, HK3, HO_6, HO_8, HO_306003, BK305, HB⟩ := hrel
                cases gk with
                | zero => exact absurd HA.out (by simp [interlocutorlaw6_LexWords.l1])
                | succ k3 =>
                  have H := HA.out
                  clear HA
                  simp only [interlocutorlaw6_LexWords.l1] at H
                  by_cases c31 : x10_3 < 5
                  · rw [if_pos c31] at H
                    have c31b0 : decide (x10_3 < 5) = true := decide_eq_true c31
                    clear c31
                    have H' := Aside0.mk H
                    clear H
                    go_wp2
                    go_loopg [9, 11, 12] k3 (fun kq v9 v11 v12 w' => ∃ (x9_4 : Int) (x11_4 : List (S53)) (x12_4 : Int), v9 = .int .i64 x9_4 ∧ v12 = .int .i64 x12_4 ∧ Aside0 (interlocutorlaw6_LexWords.l2 kq t319 t325 x9_4 x10_3 x11_4 x12_4 (⟨#[]⟩ : ByteArray) 0 0 x306003_1 = some r) ∧ Aside0 (kq ≤ k3) ∧ Aside0 (Kd.R (Kd.int .i64) 3 w' w.heap.size (fun _ => True) (.slice Ao29 t319.length co29) t319) ∧ Aside0 (Kd.R k47 47 w' w.heap.size (fun _ => True) v326 t325) ∧ Aside0 (Kd.R k53 53 w' w.heap.size (fun k_ => some k_ ≠ ((.slice Ao28 x306003_1.length co28) : Value).ownBlock) v11 x11_4) ∧ Aside0 (Kd.R k53 53 w' w.heap.size (fun k_ => some k_ ≠ (v11 : Value).ownBlock) (.slice Ao28 x306003_1.length co28) x306003_1) ∧ Aside0 (w'.heap[gb305]? = some (.cells #[.string (⟨#[]⟩ : ByteArray), .int .i64 0, .int .i64 0, (.slice Ao28 x306003_1.length co28), (.slice none 0 0), (.slice none 0 0)] 32 (0, 0))) ∧ Aside0 (Below w.heap.size w w'))
                    case atStart => exact ⟨(x9_3), (([] : List (S53))), (0), (by first | rfl | (simp; done) | (simp [*]; done)), (by first | rfl | (simp; done) | (simp [*]; done)), H', ⟨Nat.le_refl _⟩, ⟨by (with_reducible repeat (first | apply Kd.R_alloc | apply Kd.R_drewN | apply Kd.R_drew)); exact HO_6.out⟩, ⟨by (with_reducible repeat (first | apply Kd.R_alloc | apply Kd.R_drewN | apply Kd.R_drew)); exact HO_8.out⟩, ⟨by first | exact Kd.R_nil _ _ _ _ _ | exact Kd.N_nil _ _ _ _ _ | exact Kd.V_nil _ _ _ _ _ | exact Kd.Q_nil _ _ _ _ _ | exact Kd.S_nil _ _ _ _ _⟩, ⟨by (with_reducible repeat (first | apply Kd.R_alloc | apply Kd.R_drewN | apply Kd.R_drew)); exact Kd.R_mono HO_306003.out (fun _ hk => (by simp [Value.ownBlock]))⟩, ⟨by (with_reducible repeat (first | refine blk_drewN ?_ _ | refine blk_drew ?_ | refine blk_alloc ?_ _)); exact BK305.out⟩, ⟨by exact wS HB.out GE305.out⟩⟩
                    case round =>
                      clear H'
                      try clear c1
                      try clear c2
                      try clear p2
                      try clear c3
                      try clear p3
                      try clear q3
                      try clear hx3
                      try clear p6
                      try clear c7
                      try clear c9
                      try clear c9b0
                      try clear c10
                      try clear c11
                      try clear c11b0
                      try clear c12
                      try clear c12b0
                      try clear c14
                      try clear c14b0
                      try clear c15
                      try clear c15b0
                      try clear c18
                      try clear c19
                      try clear c20
                      try clear c27
                      try clear p30
                      try clear q30
                      try clear hx30
                      try clear c31
                      try clear c31b0
                      try clear p31
                      try clear q31
                      try clear hx31
                      try clear hcz27_0
                      try clear hcz27_1
                      try clear hcz27_2
                      try clear hcz27_3
                      try clear hcz27_4
                      try clear hcz27_5
                      try clear hfz27_0
                      try clear hfz27_1
                      try clear hfz27_2
                      try clear hfz27_3
                      try clear hfz27_4
                      try clear hfz27_5
                      try clear hx309_0
                      try clear hx311_0
                      try clear hx312_0
                      try clear hx314_0
                      try clear p2
                      try clear p3
                      try clear p30
                      try clear p309
                      try clear p311
                      try clear p312
                      try clear p314
                      try clear p6
                      try clear q3
                      try clear q30
                      try clear q309
                      try clear q311
                      try clear q312
                      try clear q314
                      obtain ⟨x9_4, x11_4, x12_4, rfl, rfl, HA, HK4, HO_6, HO_8, HO_11, HO_306003, BK305, HB⟩ := hrel
                      cases gk with
                      | zero => exact absurd HA.out (by simp [interlocutorlaw6_LexWords.l2])
                      | succ k4 =>
                        have H := HA.out
                        clear HA
                        simp only [interlocutorlaw6_LexWords.l2] at H
                        by_cases c32 : x12_4 < (x306003_1.length : Int)
                        · rw [if_pos c32] at H
                          have c32b0 : decide (x12_4 < (x306003_1.length : Int)) = true := decide_eq_true c32
                          clear c32
                          by_cases c33 : 0 ≤ x12_4
                          · rw [if_pos c33] at H
                            have c33b0 : decide (0 ≤ x12_4) = true := decide_eq_true c33
                            clear c33
                            have HC34 := Aside0.mk H
                            clear H
                            have hcz35_0 : wr.cell? ⟨gb305, 0, none⟩ = some (.string (⟨#[]⟩ : ByteArray)) := (blk_cell BK305.out 0).trans rfl
                            have hcz35_1 : wr.cell? ⟨gb305, 1, none⟩ = some (.int .i64 0) := (blk_cell BK305.out 1).trans rfl
                            have hcz35_2 : wr.cell? ⟨gb305, 2, none⟩ = some (.int .i64 0) := (blk_cell BK305.out 2).trans rfl
                            have hcz35_3 : wr.cell? ⟨gb305, 3, none⟩ = some (.slice Ao28 x306003_1.length co28) := (blk_cell BK305.out 3).trans rfl
                            have hcz35_4 : wr.cell? ⟨gb305, 4, none⟩ = some (.slice none 0 0) := (blk_cell BK305.out 4).trans rfl
                            have hcz35_5 : wr.cell? ⟨gb305, 5, none⟩ = some (.slice none 0 0) := (blk_cell BK305.out 5).trans rfl
                            have hfz35_0 := blk_frozen BK305.out 0
                            have hfz35_1 := blk_frozen BK305.out 1
                            have hfz35_2 := blk_frozen BK305.out 2
                            have hfz35_3 := blk_frozen BK305.out 3
                            have hfz35_4 := blk_frozen BK305.out 4
                            have hfz35_5 := blk_frozen BK305.out 5
                            have p332 : 0 ≤ (x12_4 : Int) := of_decide_eq_true (by first | (with_reducible assumption) | assumption)
                            have q332 : x12_4 < (x306003_1.length : Int) := of_decide_eq_true (by first | (with_reducible assumption) | assumption)
                            obtain ⟨ad332, e332, hx332_0, hx332_1, hx332_2⟩ := at_T53 (Kd.R_reads' HO_306003.out).2.2 x12_4 p332 q332
                            cases e332
                            replace p332 := eq_true p332
                            replace q332 := eq_true q332
                            go_upto_region 20 with (first | ((with_reducible refine gate_dst (N := 13) rfl ?_); (try (refine gate_guard (by rfl) ?_; dsimp only)); refine box_event ?hg (N := 13) ?hd (cs := #[.string (⟨#[]⟩ : ByteArray), .int .i64 0, .int .i64 0]) (t := 53) ?hr ?_; (case hd => rfl); (case hg => rfl); (case hr => first | (go_simp; done) | (go_simp; rfl)); intro gb333 hg w36 hbox hb; have n0_ := Aside0.mk (Kd.R_below (by (with_reducible repeat (first | apply Kd.R_alloc | apply Kd.R_drewN | apply Kd.R_drew)); exact HO_6.out) hb); have n1_ := Aside0.mk (Kd.R_below (by (with_reducible repeat (first | apply Kd.R_alloc | apply Kd.R_drewN | apply Kd.R_drew)); exact HO_8.out) hb); have n2_ := Aside0.mk (Kd.R_below (Kd.R_elderB (by (with_reducible repeat (first | apply Kd.R_alloc | apply Kd.R_drewN | apply Kd.R_drew)); exact HO_11.out) gb333 (Nat.le_of_eq hg.symm)) hb); have n3_ := Aside0.mk (Kd.R_below (Kd.R_elderB (by (with_reducible repeat (first | apply Kd.R_alloc | apply Kd.R_drewN | apply Kd.R_drew)); exact HO_306003.out) gb333 (Nat.le_of_eq hg.symm)) hb); have n4_ := Aside0.mk (blk_below (g := gb305) (o := .cells #[.string (⟨#[]⟩ : ByteArray), .int .i64 0, .int .i64 0, .slice (some ad332) x306003_1.length co28, .slice none 0 0, .slice none 0 0] 32 (0, 0)) (by (with_reducible repeat (first | refine blk_drewN ?_ _ | refine blk_drew ?_ | refine blk_alloc ?_ _)); exact BK305.out) hb); have n5_ := Aside0.mk (below_step (by exact wS HB.out GE305.out) hb); have n6_ := Aside0.mk (hbox); have n7_ := Aside0.mk ((by rw [hg]; exact (below_size (by exact wS HB.out GE305.out)) : w.heap.size ≤ gb333)); have n8_ := Aside0.mk ((by rw [hg]; exact (below_size (by exact wS HB.out GE305.out)) : w.heap.size ≤ gb333)); have n9_ := Aside0.mk ((by rw [hg]; exact Nat.ne_of_lt (blk_lt (g := gb305) (o := .cells #[.string (⟨#[]⟩ : ByteArray), .int .i64 0, .int .i64 0, .slice (some ad332) x306003_1.length co28, .slice none 0 0, .slice none 0 0] 32 (0, 0)) (by (with_reducible repeat (first | refine blk_drewN ?_ _ | refine blk_drew ?_ | refine blk_alloc ?_ _)); exact BK305.out)) : gb305 ≠ gb333)); have n10_ := Aside0.mk ((by rw [hg]; exact Nat.ne_of_gt (blk_lt (g := gb305) (o := .cells #[.string (⟨#[]⟩ : ByteArray), .int .i64 0, .int .i64 0, .slice (some ad332) x306003_1.length co28, .slice none 0 0, .slice none 0 0] 32 (0, 0)) (by (with_reducible repeat (first | refine blk_drewN ?_ _ | refine blk_drew ?_ | refine blk_alloc ?_ _)); exact BK305.out)) : gb333 ≠ gb305)); clear HO_6; clear HO_8; clear HO_11; clear HO_306003; clear BK305; clear HB; have HO_6 := n0_; have HO_8 := n1_; have HO_11 := n2_; have HO_306003 := n3_; have BK305 := n4_; have HB := n5_; have BK333 := n6_; have GW333 := n7_; have GE333 := n8_; have NB305_333 := n9_; have NB333_305 := n10_; clear n0_ n1_ n2_ n3_ n4_ n5_ n6_ n7_ n8_ n9_ n10_; clear hb hbox hg; have hnb37 := NB333_305.out; have hnc37 := NB305_333.out; have hcz38_0 : w36.cell? ⟨gb333, 0, none⟩ = some (.string (⟨#[]⟩ : ByteArray)) := (blk_cell BK333.out 0).trans rfl; have hcz38_1 : w36.cell? ⟨gb333, 1, none⟩ = some (.int .i64 0) := (blk_cell BK333.out 1).trans rfl; have hcz38_2 : w36.cell? ⟨gb333, 2, none⟩ = some (.int .i64 0) := (blk_cell BK333.out 2).trans rfl; have hfz38_0 := blk_frozen BK333.out 0; have hfz38_1 := blk_frozen BK333.out 1; have hfz38_2 := blk_frozen BK333.out 2))
                            (try simp only [Act.put, List.setIfInBounds_toArray, List.set_cons_zero, List.set_cons_succ])
                            go_cut [96] (fun v96 wc => ∃ (kq : Nat) (x96_33 : Bool), v96 = .bool x96_33 ∧ Aside0 (interlocutorlaw6_LexWords.j4 kq t319 t325 x9_4 x10_3 x11_4 x12_4 x96_33 (⟨#[]⟩ : ByteArray) 0 0 x306003_1 ((rd_T53 x306003_1 x12_4).f0) ((rd_T53 x306003_1 x12_4).f1) ((rd_T53 x306003_1 x12_4).f2) = some r) ∧ Aside0 (kq ≤ k4) ∧ Aside0 (Kd.R (Kd.int .i64) 3 wc w.heap.size (fun _ => True) (.slice Ao29 t319.length co29) t319) ∧ Aside0 (Kd.R k47 47 wc w.heap.size (fun _ => True) v326 t325) ∧ Aside0 (Kd.R k53 53 wc w.heap.size (fun k_ => some k_ ≠ ((.slice (some ad332) x306003_1.length co28) : Value).ownBlock ∧ k_ ≠ gb333) u11 x11_4) ∧ Aside0 (Kd.R k53 53 wc w.heap.size (fun k_ => some k_ ≠ (u11 : Value).ownBlock ∧ k_ ≠ gb333) (.slice (some ad332) x306003_1.length co28) x306003_1) ∧ Aside0 (wc.heap[gb305]? = some (.cells #[.string (⟨#[]⟩ : ByteArray), .int .i64 0, .int .i64 0, (.slice (some ad332) x306003_1.length co28), (.slice none 0 0), (.slice none 0 0)] 32 (0, 0))) ∧ Aside0 (wc.heap[gb333]? = some (.cells #[.string ((rd_T53 x306003_1 x12_4).f0), .int .i64 ((rd_T53 x306003_1 x12_4).f1), .int .i64 ((rd_T53 x306003_1 x12_4).f2)] 53 (0, 0))) ∧ Aside0 (Below w.heap.size w wc))
                            case first =>
                              have H := HC34.out
                              clear HC34
                              by_cases c39 : (wrap64 (x10_3 + (((rd_T53 x306003_1 x12_4).f0).size : Int))) > 5
                              · rw [if_pos c39] at H
                                have c39b0 : decide (5 < (wrap64 (x10_3 + (((rd_T53 x306003_1 x12_4).f0).size : Int)))) = true := decide_eq_true c39
                                clear c39
                                (first | rw [c39b0] | (simp only [i64_w, i32_w]; rw [c39b0]) | skip)
                                have H' := Aside0.mk H
                                clear H
                                try go_wp2
                                have n0_ : Aside0 (Kd.R (Kd.int .i64) 3 (((w36.setCell ⟨gb333, 0, none⟩ (.string ((rd_T53 x306003_1 x12_4).f0))).setCell ⟨gb333, 1, none⟩ (.int .i64 ((rd_T53 x306003_1 x12_4).f1))).setCell ⟨gb333, 2, none⟩ (.int .i64 ((rd_T53 x306003_1 x12_4).f2))) w.heap.size (fun _ => True) (.slice Ao29 t319.length co29) t319) := ⟨by (with_reducible repeat (first | apply Kd.R_alloc | apply Kd.R_drewN | apply Kd.R_drew)); exact Kd.R_mono (Kd.R_far (p := ⟨gb333, 2, none⟩) (Kd.R_far (p := ⟨gb333, 1, none⟩) (Kd.R_far (p := ⟨gb333, 0, none⟩) (Kd.R_types HO_6.out BK333.out (by decide)) (fun _ hk => hk.2) (.string ((rd_T53 x306003_1 x12_4).f0))) (fun _ hk => hk.2) (.int .i64 ((rd_T53 x306003_1 x12_4).f1))) (fun _ hk => hk.2) (.int .i64 ((rd_T53 x306003_1 x12_4).f2))) (fun _ hk => trivial)⟩
                                have n1_ : Aside0 (Kd.R k47 47 (((w36.setCell ⟨gb333, 0, none⟩ (.string ((rd_T53 x306003_1 x12_4).f0))).setCell ⟨gb333, 1, none⟩ (.int .i64 ((rd_T53 x306003_1 x12_4).f1))).setCell ⟨gb333, 2, none⟩ (.int .i64 ((rd_T53 x306003_1 x12_4).f2))) w.heap.size (fun _ => True) v326 t325) := ⟨by (with_reducible repeat (first | apply Kd.R_alloc | apply Kd.R_drewN | apply Kd.R_drew)); exact Kd.R_mono (Kd.R_far (p := ⟨gb333, 2, none⟩) (Kd.R_far (p := ⟨gb333, 1, none⟩) (Kd.R_far (p := ⟨gb333, 0, none⟩) (Kd.R_types HO_8.out BK333.out (by decide)) (fun _ hk => hk.2) (.string ((rd_T53 x306003_1 x12_4).f0))) (fun _ hk => hk.2) (.int .i64 ((rd_T53 x306003_1 x12_4).f1))) (fun _ hk => hk.2) (.int .i64 ((rd_T53 x306003_1 x12_4).f2))) (fun _ hk => trivial)⟩
                                have n2_ : Aside0 (Kd.R k53 53 (((w36.setCell ⟨gb333, 0, none⟩ (.string ((rd_T53 x306003_1 x12_4).f0))).setCell ⟨gb333, 1, none⟩ (.int .i64 ((rd_T53 x306003_1 x12_4).f1))).setCell ⟨gb333, 2, none⟩ (.int .i64 ((rd_T53 x306003_1 x12_4).f2))) w.heap.size (fun k_ => some k_ ≠ (.slice (some ad332) x306003_1.length co28 : Value).ownBlock ∧ k_ ≠ gb333) u11 x11_4) := ⟨by (with_reducible repeat (first | apply Kd.R_alloc | apply Kd.R_drewN | apply Kd.R_drew)); exact Kd.R_mono (Kd.R_far (p := ⟨gb333, 2, none⟩) (Kd.R_far (p := ⟨gb333, 1, none⟩) (Kd.R_far (p := ⟨gb333, 0, none⟩) (Kd.R_mono HO_11.out (fun k_ hk => (⟨hk, hk.2⟩ : _ ∧ k_ ≠ gb333))) (fun _ hk => hk.2) (.string ((rd_T53 x306003_1 x12_4).f0))) (fun _ hk => hk.2) (.int .i64 ((rd_T53 x306003_1 x12_4).f1))) (fun _ hk => hk.2) (.int .i64 ((rd_T53 x306003_1 x12_4).f2))) (fun _ hk => ⟨hk.1.1, hk.1.2⟩)⟩
                                have n3_ : Aside0 (Kd.R k53 53 (((w36.setCell ⟨gb333, 0, none⟩ (.string ((rd_T53 x306003_1 x12_4).f0))).setCell ⟨gb333, 1, none⟩ (.int .i64 ((rd_T53 x306003_1 x12_4).f1))).setCell ⟨gb333, 2, none⟩ (.int .i64 ((rd_T53 x306003_1 x12_4).f2))) w.heap.size (fun k_ => some k_ ≠ (u11 : Value).ownBlock ∧ k_ ≠ gb333) (.slice (some ad332) x306003_1.length co28) x306003_1) := ⟨by (with_reducible repeat (first | apply Kd.R_alloc | apply Kd.R_drewN | apply Kd.R_drew)); exact Kd.R_mono (Kd.R_far (p := ⟨gb333, 2, none⟩) (Kd.R_far (p := ⟨gb333, 1, none⟩) (Kd.R_far (p := ⟨gb333, 0, none⟩) (Kd.R_mono HO_306003.out (fun k_ hk => (⟨hk, hk.2⟩ : _ ∧ k_ ≠ gb333))) (fun _ hk => hk.2) (.string ((rd_T53 x306003_1 x12_4).f0))) (fun _ hk => hk.2) (.int .i64 ((rd_T53 x306003_1 x12_4).f1))) (fun _ hk => hk.2) (.int .i64 ((rd_T53 x306003_1 x12_4).f2))) (fun _ hk => ⟨hk.1.1, hk.1.2⟩)⟩
                                have n4_ : Aside0 ((((w36.setCell ⟨gb333, 0, none⟩ (.string ((rd_T53 x306003_1 x12_4).f0))).setCell ⟨gb333, 1, none⟩ (.int .i64 ((rd_T53 x306003_1 x12_4).f1))).setCell ⟨gb333, 2, none⟩ (.int .i64 ((rd_T53 x306003_1 x12_4).f2))).heap[gb305]? = some (.cells #[.string (⟨#[]⟩ : ByteArray), .int .i64 0, .int .i64 0, .slice (some ad332) x306003_1.length co28, .slice none 0 0, .slice none 0 0] 32 (0, 0))) := ⟨by (with_reducible repeat (first | refine blk_drewN ?_ _ | refine blk_drew ?_ | refine blk_alloc ?_ _)); refine blk_far ?_ NB305_333.out _; (with_reducible repeat (first | refine blk_drewN ?_ _ | refine blk_drew ?_ | refine blk_alloc ?_ _)); refine blk_far ?_ NB305_333.out _; (with_reducible repeat (first | refine blk_drewN ?_ _ | refine blk_drew ?_ | refine blk_alloc ?_ _)); refine blk_far ?_ NB305_333.out _; (with_reducible repeat (first | refine blk_drewN ?_ _ | refine blk_drew ?_ | refine blk_alloc ?_ _)); exact BK305.out⟩
                                have n5_ : Aside0 ((((w36.setCell ⟨gb333, 0, none⟩ (.string ((rd_T53 x306003_1 x12_4).f0))).setCell ⟨gb333, 1, none⟩ (.int .i64 ((rd_T53 x306003_1 x12_4).f1))).setCell ⟨gb333, 2, none⟩ (.int .i64 ((rd_T53 x306003_1 x12_4).f2))).heap[gb333]? = some (.cells #[.string ((rd_T53 x306003_1 x12_4).f0), .int .i64 ((rd_T53 x306003_1 x12_4).f1), .int .i64 ((rd_T53 x306003_1 x12_4).f2)] 53 (0, 0))) := ⟨by (with_reducible repeat (first | refine blk_drewN ?_ _ | refine blk_drew ?_ | refine blk_alloc ?_ _)); refine blk_put (cs := #[.string ((rd_T53 x306003_1 x12_4).f0), .int .i64 ((rd_T53 x306003_1 x12_4).f1), .int .i64 0]) ?_ 2 _ rfl; (with_reducible repeat (first | refine blk_drewN ?_ _ | refine blk_drew ?_ | refine blk_alloc ?_ _)); refine blk_put (cs := #[.string ((rd_T53 x306003_1 x12_4).f0), .int .i64 0, .int .i64 0]) ?_ 1 _ rfl; (with_reducible repeat (first | refine blk_drewN ?_ _ | refine blk_drew ?_ | refine blk_alloc ?_ _)); refine blk_put (cs := #[.string (⟨#[]⟩ : ByteArray), .int .i64 0, .int .i64 0]) ?_ 0 _ rfl; (with_reducible repeat (first | refine blk_drewN ?_ _ | refine blk_drew ?_ | refine blk_alloc ?_ _)); exact BK333.out⟩
                                have n6_ : Aside0 (Below w.heap.size w (((w36.setCell ⟨gb333, 0, none⟩ (.string ((rd_T53 x306003_1 x12_4).f0))).setCell ⟨gb333, 1, none⟩ (.int .i64 ((rd_T53 x306003_1 x12_4).f1))).setCell ⟨gb333, 2, none⟩ (.int .i64 ((rd_T53 x306003_1 x12_4).f2)))) := ⟨by repeat (first | (with_reducible first | exact HB.out | apply below_alloc | apply pw_below_drewN | apply below_drew1 | refine below_set ?_ GE305.out | refine below_set ?_ GE333.out) | exact HB.out)⟩
                                (try clear HO_6)
                                (try clear HO_8)
                                (try clear HO_11)
                                (try clear HO_306003)
                                (try clear BK305)
                                (try clear BK333)
                                (try clear HB)
                                generalize (((w36.setCell ⟨gb333, 0, none⟩ (.string ((rd_T53 x306003_1 x12_4).f0))).setCell ⟨gb333, 1, none⟩ (.int .i64 ((rd_T53 x306003_1 x12_4).f1))).setCell ⟨gb333, 2, none⟩ (.int .i64 ((rd_T53 x306003_1 x12_4).f2))) = w40 at n0_ n1_ n2_ n3_ n4_ n5_ n6_ ⊢
                                have HO_6 := n0_
                                have HO_8 := n1_
                                have HO_11 := n2_
                                have HO_306003 := n3_
                                have BK305 := n4_
                                have BK333 := n5_
                                have HB := n6_
                                clear n0_ n1_ n2_ n3_ n4_ n5_ n6_
                                have n0_ := Aside0.mk (Kd.R_drew HO_6.out)
                                have n1_ := Aside0.mk (Kd.R_drew HO_8.out)
                                have n2_ := Aside0.mk (Kd.R_drew HO_11.out)
                                have n3_ := Aside0.mk (Kd.R_drew HO_306003.out)
                                have n4_ := Aside0.mk (blk_drew BK305.out)
                                have n5_ := Aside0.mk (blk_drew BK333.out)
                                have n6_ := Aside0.mk (below_drew1 HB.out)
                                clear HO_6 HO_8 HO_11 HO_306003 BK305 BK333 HB
                                have HO_6 := n0_
                                have HO_8 := n1_
                                have HO_11 := n2_
                                have HO_306003 := n3_
                                have BK305 := n4_
                                have BK333 := n5_
                                have HB := n6_
                                clear n0_ n1_ n2_ n3_ n4_ n5_ n6_
                                refine start_ (n := 18) (S := fun w' => w'.cell? ⟨gb333, 0, none⟩ = some (.string ((rd_T53 x306003_1 x12_4).f0)) ∧ w'.cell? ⟨gb333, 1, none⟩ = some (.int .i64 ((rd_T53 x306003_1 x12_4).f1)) ∧ w'.cell? ⟨gb333, 2, none⟩ = some (.int .i64 ((rd_T53 x306003_1 x12_4).f2))) (ds := []) #[false, false, false, false, false, false, false, false, false, false, false, false, false, false, false, false, false, false] (by kernel_rfl) rfl rfl ⟨(blk_cell BK333.out 0).trans rfl, (blk_cell BK333.out 1).trans rfl, (blk_cell BK333.out 2).trans rfl⟩ (fun hHeld => ?_); refine with_tabW interlocutorlaw6_LexWords.tab20 interlocutorlaw6_LexWords.bits20 (fun HT_ HW_ => ?_)
                                generalize w40.drew = w41 at HO_6 HO_8 HO_11 HO_306003 BK305 BK333 HB hHeld ⊢
                                refine pure_ (i := 0) (N := some 79) (v := ?_) (a' := ?_) #[true, false, false, false, false, false, false, false, false, false, false, false, false, false, false, false, false, false] rfl rfl (any_of HT_.out (by kernel_rfl)) (fun _ _ _ h => h) (Or.inl ⟨by rfl, ?_⟩) ?_ ?_
                                rotate_left
                                · intro w'
                                  go_simp
                                  with_reducible rfl
                                rotate_left
                                · simp only [Act.put, List.setIfInBounds_toArray, List.set_cons_zero, List.set_cons_succ, i64_w, i32_w]
                                  rfl
                                refine pure_ (i := 1) (N := some 80) (v := ?_) (a' := ?_) #[true, true, false, false, false, false, false, false, false, false, false, false, false, false, false, false, false, false] rfl rfl (any_of HT_.out (by kernel_rfl)) (fun _ _ _ h => h) (Or.inl ⟨by rfl, ?_⟩) ?_ ?_
                                rotate_left
                                · intro w'
                                  go_simp
                                  with_reducible rfl
                                rotate_left
                                · simp only [Act.put, List.setIfInBounds_toArray, List.set_cons_zero, List.set_cons_succ, i64_w, i32_w]
                                  rfl
                                refine take_ (i := 2) (N := some 81) (v := ?_) (a' := ?_) #[true, true, true, false, false, false, false, false, false, false, false, false, false, false, false, false, false, false] rfl rfl (take_ofW HT_.out HW_.out (by kernel_rfl)) (fun _ _ _ h => h) (Or.inl ⟨by rfl, ?_⟩) hHeld ?_ ?_
                                rotate_left
                                · rintro w' ⟨s0, s1, s2⟩
                                  go_simp
                                  with_reducible rfl
                                rotate_left
                                · simp only [Act.put, List.setIfInBounds_toArray, List.set_cons_zero, List.set_cons_succ, i64_w, i32_w]
                                  rfl
                                refine pure_ (i := 3) (N := some 82) (v := ?_) (a' := ?_) #[true, true, true, true, false, false, false, false, false, false, false, false, false, false, false, false, false, false] rfl rfl (any_of HT_.out (by kernel_rfl)) (fun _ _ _ h => h) (Or.inl ⟨by rfl, ?_⟩) ?_ ?_
                                rotate_left
                                · intro w'
                                  go_simp
                                  with_reducible rfl
                                rotate_left
                                · simp only [Act.put, List.setIfInBounds_toArray, List.set_cons_zero, List.set_cons_succ, i64_w, i32_w]
                                  rfl
                                refine pure_ (i := 4) (N := some 83) (v := ?_) (a' := ?_) #[true, true, true, true, true, false, false, false, false, false, false, false, false, false, false, false, false, false] rfl rfl (any_of HT_.out (by kernel_rfl)) (fun _ _ _ h => h) (Or.inl ⟨by rfl, ?_⟩) ?_ ?_
                                rotate_left
                                · intro w'
                                  go_simp
                                  with_reducible rfl
                                rotate_left
                                · simp only [Act.put, List.setIfInBounds_toArray, List.set_cons_zero, List.set_cons_succ, i64_w, i32_w]
                                  rfl
                                refine pure_ (i := 5) (N := some 84) (v := ?_) (a' := ?_) #[true, true, true, true, true, true, false, false, false, false, false, false, false, false, false, false, false, false] rfl rfl (any_of HT_.out (by kernel_rfl)) (fun _ _ _ h => h) (Or.inl ⟨by rfl, ?_⟩) ?_ ?_
                                rotate_left
                                · intro w'
                                  go_simp
                                  with_reducible rfl
                                rotate_left
                                · simp only [Act.put, List.setIfInBounds_toArray, List.set_cons_zero, List.set_cons_succ, i64_w, i32_w]
                                  rfl
                                refine pure_ (i := 6) (N := some 85) (v := ?_) (a' := ?_) #[true, true, true, true, true, true, true, false, false, false, false, false, false, false, false, false, false, false] rfl rfl (any_of HT_.out (by kernel_rfl)) (fun _ _ _ h => h) (Or.inl ⟨by rfl, ?_⟩) ?_ ?_
                                rotate_left
                                · intro w'
                                  go_simp
                                  with_reducible rfl
                                rotate_left
                                · simp only [Act.put, List.setIfInBounds_toArray, List.set_cons_zero, List.set_cons_succ, i64_w, i32_w]
                                  rfl
                                refine pure_ (i := 7) (N := some 86) (v := undef) (a' := ?_) #[true, true, true, true, true, true, true, true, false, false, false, false, false, false, false, false, false, false] rfl rfl (any_of HT_.out (by kernel_rfl)) (fun _ _ _ h => h) (Or.inr ⟨by rfl, rfl⟩) ?_ ?_
                                rotate_left
                                · simp only [Act.put, List.setIfInBounds_toArray, List.set_cons_zero, List.set_cons_succ, i64_w, i32_w]
                                  rfl
                                refine pure_ (i := 8) (N := some 87) (v := undef) (a' := ?_) #[true, true, true, true, true, true, true, true, true, false, false, false, false, false, false, false, false, false] rfl rfl (any_of HT_.out (by kernel_rfl)) (fun _ _ _ h => h) (Or.inr ⟨by rfl, rfl⟩) ?_ ?_
                                rotate_left
                                · simp only [Act.put, List.setIfInBounds_toArray, List.set_cons_zero, List.set_cons_succ, i64_w, i32_w]
                                  rfl
                                refine pure_ (i := 9) (N := some 88) (v := undef) (a' := ?_) #[true, true, true, true, true, true, true, true, true, true, false, false, false, false, false, false, false, false] rfl rfl (any_of HT_.out (by kernel_rfl)) (fun _ _ _ h => h) (Or.inr ⟨by rfl, rfl⟩) ?_ ?_
                                rotate_left
                                · simp only [Act.put, List.setIfInBounds_toArray, List.set_cons_zero, List.set_cons_succ, i64_w, i32_w]
                                  rfl
                                refine pure_ (i := 10) (N := some 89) (v := undef) (a' := ?_) #[true, true, true, true, true, true, true, true, true, true, true, false, false, false, false, false, false, false] rfl rfl (any_of HT_.out (by kernel_rfl)) (fun _ _ _ h => h) (Or.inr ⟨by rfl, rfl⟩) ?_ ?_
                                rotate_left
                                · simp only [Act.put, List.setIfInBounds_toArray, List.set_cons_zero, List.set_cons_succ, i64_w, i32_w]
                                  rfl
                                refine pure_ (i := 11) (N := some 90) (v := undef) (a' := ?_) #[true, true, true, true, true, true, true, true, true, true, true, true, false, false, false, false, false, false] rfl rfl (any_of HT_.out (by kernel_rfl)) (fun _ _ _ h => h) (Or.inr ⟨by rfl, rfl⟩) ?_ ?_
                                rotate_left
                                · simp only [Act.put, List.setIfInBounds_toArray, List.set_cons_zero, List.set_cons_succ, i64_w, i32_w]
                                  rfl
                                refine pure_ (i := 12) (N := some 91) (v := undef) (a' := ?_) #[true, true, true, true, true, true, true, true, true, true, true, true, true, false, false, false, false, false] rfl rfl (any_of HT_.out (by kernel_rfl)) (fun _ _ _ h => h) (Or.inr ⟨by rfl, rfl⟩) ?_ ?_
                                rotate_left
                                · simp only [Act.put, List.setIfInBounds_toArray, List.set_cons_zero, List.set_cons_succ, i64_w, i32_w]
                                  rfl
                                refine pure_ (i := 13) (N := some 92) (v := undef) (a' := ?_) #[true, true, true, true, true, true, true, true, true, true, true, true, true, true, false, false, false, false] rfl rfl (any_of HT_.out (by kernel_rfl)) (fun _ _ _ h => h) (Or.inr ⟨by rfl, rfl⟩) ?_ ?_
                                rotate_left
                                · simp only [Act.put, List.setIfInBounds_toArray, List.set_cons_zero, List.set_cons_succ, i64_w, i32_w]
                                  rfl
                                refine pure_ (i := 14) (N := some 93) (v := undef) (a' := ?_) #[true, true, true, true, true, true, true, true, true, true, true, true, true, true, true, false, false, false] rfl rfl (any_of HT_.out (by kernel_rfl)) (fun _ _ _ h => h) (Or.inr ⟨by rfl, rfl⟩) ?_ ?_
                                rotate_left
                                · simp only [Act.put, List.setIfInBounds_toArray, List.set_cons_zero, List.set_cons_succ, i64_w, i32_w]
                                  rfl
                                refine pure_ (i := 15) (N := some 94) (v := undef) (a' := ?_) #[true, true, true, true, true, true, true, true, true, true, true, true, true, true, true, true, false, false] rfl rfl (any_of HT_.out (by kernel_rfl)) (fun _ _ _ h => h) (Or.inr ⟨by rfl, rfl⟩) ?_ ?_
                                rotate_left
                                · simp only [Act.put, List.setIfInBounds_toArray, List.set_cons_zero, List.set_cons_succ, i64_w, i32_w]
                                  rfl
                                refine pure_ (i := 16) (N := some 95) (v := undef) (a' := ?_) #[true, true, true, true, true, true, true, true, true, true, true, true, true, true, true, true, true, false] rfl rfl (any_of HT_.out (by kernel_rfl)) (fun _ _ _ h => h) (Or.inr ⟨by rfl, rfl⟩) ?_ ?_
                                rotate_left
                                · simp only [Act.put, List.setIfInBounds_toArray, List.set_cons_zero, List.set_cons_succ, i64_w, i32_w]
                                  rfl
                                refine pure_ (i := 17) (N := some 96) (v := ?_) (a' := ?_) #[true, true, true, true, true, true, true, true, true, true, true, true, true, true, true, true, true, true] rfl rfl (any_of HT_.out (by kernel_rfl)) (fun _ _ _ h => h) (Or.inl ⟨by rfl, ?_⟩) ?_ ?_
                                rotate_left
                                · intro w'
                                  go_simp
                                  with_reducible rfl
                                rotate_left
                                · simp only [Act.put, List.setIfInBounds_toArray, List.set_cons_zero, List.set_cons_succ, i64_w, i32_w]
                                  rfl
                                refine done_ (done_of HT_.out (by kernel_rfl)) ?_
                                try go_wp2
                                go_meet
                                case rel => exact ⟨_, (true), (by first | rfl | (simp; done) | (simp [*]; done)), H', ⟨by have := HK1.out; have := HJ7.out; have := HK3.out; have := HK4.out; first | omega | exact Nat.le_refl _⟩, ⟨by (with_reducible repeat (first | apply Kd.R_alloc | apply Kd.R_drewN | apply Kd.R_drew)); exact HO_6.out⟩, ⟨by (with_reducible repeat (first | apply Kd.R_alloc | apply Kd.R_drewN | apply Kd.R_drew)); exact HO_8.out⟩, ⟨by (with_reducible repeat (first | apply Kd.R_alloc | apply Kd.R_drewN | apply Kd.R_drew)); exact HO_11.out⟩, ⟨by (with_reducible repeat (first | apply Kd.R_alloc | apply Kd.R_drewN | apply Kd.R_drew)); exact HO_306003.out⟩, ⟨by (with_reducible repeat (first | refine blk_drewN ?_ _ | refine blk_drew ?_ | refine blk_alloc ?_ _)); exact BK305.out⟩, ⟨by (with_reducible repeat (first | refine blk_drewN ?_ _ | refine blk_drew ?_ | refine blk_alloc ?_ _)); exact BK333.out⟩, ⟨by repeat (first | (with_reducible first | exact HB.out | apply below_alloc | apply pw_below_drewN | apply below_drew1 | refine below_set ?_ GE305.out | refine below_set ?_ GE333.out) | exact HB.out)⟩⟩
                              · rw [if_neg c39] at H
                                have c39b0 : decide (5 < (wrap64 (x10_3 + (((rd_T53 x306003_1 x12_4).f0).size : Int)))) = false := decide_eq_false c39
                                clear c39
                                (first | rw [c39b0] | (simp only [i64_w, i32_w]; rw [c39b0]) | skip)
                                by_cases c42 : 0 ≤ x10_3
                                · rw [if_pos c42] at H
                                  have c42b0 := eq_true c42
                                  have c42b1 : decide (0 ≤ x10_3) = true := decide_eq_true c42
                                  clear c42
                                  by_cases c43 : x10_3 ≤ (wrap64 (x10_3 + (((rd_T53 x306003_1 x12_4).f0).size : Int)))
                                  · rw [if_pos c43] at H
                                    have c43b0 := eq_true c43
                                    have c43b1 : decide (x10_3 ≤ (wrap64 (x10_3 + (((rd_T53 x306003_1 x12_4).f0).size : Int)))) = true := decide_eq_true c43
                                    by_cases c44 : (wrap64 (x10_3 + (((rd_T53 x306003_1 x12_4).f0).size : Int))) ≤ 5
                                    · rw [if_pos c44] at H
                                      have c44b0 := eq_true c44
                                      have c44b1 : decide ((wrap64 (x10_3 + (((rd_T53 x306003_1 x12_4).f0).size : Int))) ≤ 5) = true := decide_eq_true c44
                                      have H' := Aside0.mk H
                                      clear H
                                      try go_wp2
                                      have n0_ : Aside0 (Kd.R (Kd.int .i64) 3 (((w36.setCell ⟨gb333, 0, none⟩ (.string ((rd_T53 x306003_1 x12_4).f0))).setCell ⟨gb333, 1, none⟩ (.int .i64 ((rd_T53 x306003_1 x12_4).f1))).setCell ⟨gb333, 2, none⟩ (.int .i64 ((rd_T53 x306003_1 x12_4).f2))) w.heap.size (fun _ => True) (.slice Ao29 t319.length co29) t319) := ⟨by (with_reducible repeat (first | apply Kd.R_alloc | apply Kd.R_drewN | apply Kd.R_drew)); exact Kd.R_mono (Kd.R_far (p := ⟨gb333, 2, none⟩) (Kd.R_far (p := ⟨gb333, 1, none⟩) (Kd.R_far (p := ⟨gb333, 0, none⟩) (Kd.R_types HO_6.out BK333.out (by decide)) (fun _ hk => hk.2) (.string ((rd_T53 x306003_1 x12_4).f0))) (fun _ hk => hk.2) (.int .i64 ((rd_T53 x306003_1 x12_4).f1))) (fun _ hk => hk.2) (.int .i64 ((rd_T53 x306003_1 x12_4).f2))) (fun _ hk => trivial)⟩
                                      have n1_ : Aside0 (Kd.R k47 47 (((w36.setCell ⟨gb333, 0, none⟩ (.string ((rd_T53 x306003_1 x12_4).f0))).setCell ⟨gb333, 1, none⟩ (.int .i64 ((rd_T53 x306003_1 x12_4).f1))).setCell ⟨gb333, 2, none⟩ (.int .i64 ((rd_T53 x306003_1 x12_4).f2))) w.heap.size (fun _ => True) v326 t325) := ⟨by (with_reducible repeat (first | apply Kd.R_alloc | apply Kd.R_drewN | apply Kd.R_drew)); exact Kd.R_mono (Kd.R_far (p := ⟨gb333, 2, none⟩) (Kd.R_far (p := ⟨gb333, 1, none⟩) (Kd.R_far (p := ⟨gb333, 0, none⟩) (Kd.R_types HO_8.out BK333.out (by decide)) (fun _ hk => hk.2) (.string ((rd_T53 x306003_1 x12_4).f0))) (fun _ hk => hk.2) (.int .i64 ((rd_T53 x306003_1 x12_4).f1))) (fun _ hk => hk.2) (.int .i64 ((rd_T53 x306003_1 x12_4).f2))) (fun _ hk => trivial)⟩
                                      have n2_ : Aside0 (Kd.R k53 53 (((w36.setCell ⟨gb333, 0, none⟩ (.string ((rd_T53 x306003_1 x12_4).f0))).setCell ⟨gb333, 1, none⟩ (.int .i64 ((rd_T53 x306003_1 x12_4).f1))).setCell ⟨gb333, 2, none⟩ (.int .i64 ((rd_T53 x306003_1 x12_4).f2))) w.heap.size (fun k_ => some k_ ≠ (.slice (some ad332) x306003_1.length co28 : Value).ownBlock ∧ k_ ≠ gb333) u11 x11_4) := ⟨by (with_reducible repeat (first | apply Kd.R_alloc | apply Kd.R_drewN | apply Kd.R_drew)); exact Kd.R_mono (Kd.R_far (p := ⟨gb333, 2, none⟩) (Kd.R_far (p := ⟨gb333, 1, none⟩) (Kd.R_far (p := ⟨gb333, 0, none⟩) (Kd.R_mono HO_11.out (fun k_ hk => (⟨hk, hk.2⟩ : _ ∧ k_ ≠ gb333))) (fun _ hk => hk.2) (.string ((rd_T53 x306003_1 x12_4).f0))) (fun _ hk => hk.2) (.int .i64 ((rd_T53 x306003_1 x12_4).f1))) (fun _ hk => hk.2) (.int .i64 ((rd_T53 x306003_1 x12_4).f2))) (fun _ hk => ⟨hk.1.1, hk.1.2⟩)⟩
                                      have n3_ : Aside0 (Kd.R k53 53 (((w36.setCell ⟨gb333, 0, none⟩ (.string ((rd_T53 x306003_1 x12_4).f0))).setCell ⟨gb333, 1, none⟩ (.int .i64 ((rd_T53 x306003_1 x12_4).f1))).setCell ⟨gb333, 2, none⟩ (.int .i64 ((rd_T53 x306003_1 x12_4).f2))) w.heap.size (fun k_ => some k_ ≠ (u11 : Value).ownBlock ∧ k_ ≠ gb333) (.slice (some ad332) x306003_1.length co28) x306003_1) := ⟨by (with_reducible repeat (first | apply Kd.R_alloc | apply Kd.R_drewN | apply Kd.R_drew)); exact Kd.R_mono (Kd.R_far (p := ⟨gb333, 2, none⟩) (Kd.R_far (p := ⟨gb333, 1, none⟩) (Kd.R_far (p := ⟨gb333, 0, none⟩) (Kd.R_mono HO_306003.out (fun k_ hk => (⟨hk, hk.2⟩ : _ ∧ k_ ≠ gb333))) (fun _ hk => hk.2) (.string ((rd_T53 x306003_1 x12_4).f0))) (fun _ hk => hk.2) (.int .i64 ((rd_T53 x306003_1 x12_4).f1))) (fun _ hk => hk.2) (.int .i64 ((rd_T53 x306003_1 x12_4).f2))) (fun _ hk => ⟨hk.1.1, hk.1.2⟩)⟩
                                      have n4_ : Aside0 ((((w36.setCell ⟨gb333, 0, none⟩ (.string ((rd_T53 x306003_1 x12_4).f0))).setCell ⟨gb333, 1, none⟩ (.int .i64 ((rd_T53 x306003_1 x12_4).f1))).setCell ⟨gb333, 2, none⟩ (.int .i64 ((rd_T53 x306003_1 x12_4).f2))).heap[gb305]? = some (.cells #[.string (⟨#[]⟩ : ByteArray), .int .i64 0, .int .i64 0, .slice (some ad332) x306003_1.length co28, .slice none 0 0, .slice none 0 0] 32 (0, 0))) := ⟨by (with_reducible repeat (first | refine blk_drewN ?_ _ | refine blk_drew ?_ | refine blk_alloc ?_ _)); refine blk_far ?_ NB305_333.out _; (with_reducible repeat (first | refine blk_drewN ?_ _ | refine blk_drew ?_ | refine blk_alloc ?_ _)); refine blk_far ?_ NB305_333.out _; (with_reducible repeat (first | refine blk_drewN ?_ _ | refine blk_drew ?_ | refine blk_alloc ?_ _)); refine blk_far ?_ NB305_333.out _; (with_reducible repeat (first | refine blk_drewN ?_ _ | refine blk_drew ?_ | refine blk_alloc ?_ _)); exact BK305.out⟩
                                      have n5_ : Aside0 ((((w36.setCell ⟨gb333, 0, none⟩ (.string ((rd_T53 x306003_1 x12_4).f0))).setCell ⟨gb333, 1, none⟩ (.int .i64 ((rd_T53 x306003_1 x12_4).f1))).setCell ⟨gb333, 2, none⟩ (.int .i64 ((rd_T53 x306003_1 x12_4).f2))).heap[gb333]? = some (.cells #[.string ((rd_T53 x306003_1 x12_4).f0), .int .i64 ((rd_T53 x306003_1 x12_4).f1), .int .i64 ((rd_T53 x306003_1 x12_4).f2)] 53 (0, 0))) := ⟨by (with_reducible repeat (first | refine blk_drewN ?_ _ | refine blk_drew ?_ | refine blk_alloc ?_ _)); refine blk_put (cs := #[.string ((rd_T53 x306003_1 x12_4).f0), .int .i64 ((rd_T53 x306003_1 x12_4).f1), .int .i64 0]) ?_ 2 _ rfl; (with_reducible repeat (first | refine blk_drewN ?_ _ | refine blk_drew ?_ | refine blk_alloc ?_ _)); refine blk_put (cs := #[.string ((rd_T53 x306003_1 x12_4).f0), .int .i64 0, .int .i64 0]) ?_ 1 _ rfl; (with_reducible repeat (first | refine blk_drewN ?_ _ | refine blk_drew ?_ | refine blk_alloc ?_ _)); refine blk_put (cs := #[.string (⟨#[]⟩ : ByteArray), .int .i64 0, .int .i64 0]) ?_ 0 _ rfl; (with_reducible repeat (first | refine blk_drewN ?_ _ | refine blk_drew ?_ | refine blk_alloc ?_ _)); exact BK333.out⟩
                                      have n6_ : Aside0 (Below w.heap.size w (((w36.setCell ⟨gb333, 0, none⟩ (.string ((rd_T53 x306003_1 x12_4).f0))).setCell ⟨gb333, 1, none⟩ (.int .i64 ((rd_T53 x306003_1 x12_4).f1))).setCell ⟨gb333, 2, none⟩ (.int .i64 ((rd_T53 x306003_1 x12_4).f2)))) := ⟨by repeat (first | (with_reducible first | exact HB.out | apply below_alloc | apply pw_below_drewN | apply below_drew1 | refine below_set ?_ GE305.out | refine below_set ?_ GE333.out) | exact HB.out)⟩
                                      (try clear HO_6)
                                      (try clear HO_8)
                                      (try clear HO_11)
                                      (try clear HO_306003)
                                      (try clear BK305)
                                      (try clear BK333)
                                      (try clear HB)
                                      generalize (((w36.setCell ⟨gb333, 0, none⟩ (.string ((rd_T53 x306003_1 x12_4).f0))).setCell ⟨gb333, 1, none⟩ (.int .i64 ((rd_T53 x306003_1 x12_4).f1))).setCell ⟨gb333, 2, none⟩ (.int .i64 ((rd_T53 x306003_1 x12_4).f2))) = w45 at n0_ n1_ n2_ n3_ n4_ n5_ n6_ ⊢
                                      have HO_6 := n0_
                                      have HO_8 := n1_
                                      have HO_11 := n2_
                                      have HO_306003 := n3_
                                      have BK305 := n4_
                                      have BK333 := n5_
                                      have HB := n6_
                                      clear n0_ n1_ n2_ n3_ n4_ n5_ n6_
                                      have n0_ := Aside0.mk (Kd.R_drew HO_6.out)
                                      have n1_ := Aside0.mk (Kd.R_drew HO_8.out)
                                      have n2_ := Aside0.mk (Kd.R_drew HO_11.out)
                                      have n3_ := Aside0.mk (Kd.R_drew HO_306003.out)
                                      have n4_ := Aside0.mk (blk_drew BK305.out)
                                      have n5_ := Aside0.mk (blk_drew BK333.out)
                                      have n6_ := Aside0.mk (below_drew1 HB.out)
                                      clear HO_6 HO_8 HO_11 HO_306003 BK305 BK333 HB
                                      have HO_6 := n0_
                                      have HO_8 := n1_
                                      have HO_11 := n2_
                                      have HO_306003 := n3_
                                      have BK305 := n4_
                                      have BK333 := n5_
                                      have HB := n6_
                                      clear n0_ n1_ n2_ n3_ n4_ n5_ n6_
                                      refine start_ (n := 18) (S := fun w' => w'.cell? ⟨gb333, 0, none⟩ = some (.string ((rd_T53 x306003_1 x12_4).f0)) ∧ w'.cell? ⟨gb333, 1, none⟩ = some (.int .i64 ((rd_T53 x306003_1 x12_4).f1)) ∧ w'.cell? ⟨gb333, 2, none⟩ = some (.int .i64 ((rd_T53 x306003_1 x12_4).f2))) (ds := []) #[false, false, false, false, false, false, false, false, false, false, false, false, false, false, false, false, false, false] (by kernel_rfl) rfl rfl ⟨(blk_cell BK333.out 0).trans rfl, (blk_cell BK333.out 1).trans rfl, (blk_cell BK333.out 2).trans rfl⟩ (fun hHeld => ?_); refine with_tabW interlocutorlaw6_LexWords.tab20 interlocutorlaw6_LexWords.bits20 (fun HT_ HW_ => ?_)
                                      generalize w45.drew = w46 at HO_6 HO_8 HO_11 HO_306003 BK305 BK333 HB hHeld ⊢
                                      refine pure_ (i := 0) (N := some 79) (v := ?_) (a' := ?_) #[true, false, false, false, false, false, false, false, false, false, false, false, false, false, false, false, false, false] rfl rfl (any_of HT_.out (by kernel_rfl)) (fun _ _ _ h => h) (Or.inl ⟨by rfl, ?_⟩) ?_ ?_
                                      rotate_left
                                      · intro w'
                                        go_simp
                                        with_reducible rfl
                                      rotate_left
                                      · simp only [Act.put, List.setIfInBounds_toArray, List.set_cons_zero, List.set_cons_succ, i64_w, i32_w]
                                        rfl
                                      refine pure_ (i := 1) (N := some 80) (v := ?_) (a' := ?_) #[true, true, false, false, false, false, false, false, false, false, false, false, false, false, false, false, false, false] rfl rfl (any_of HT_.out (by kernel_rfl)) (fun _ _ _ h => h) (Or.inl ⟨by rfl, ?_⟩) ?_ ?_
                                      rotate_left
                                      · intro w'
                                        go_simp
                                        with_reducible rfl
                                      rotate_left
                                      · simp only [Act.put, List.setIfInBounds_toArray, List.set_cons_zero, List.set_cons_succ, i64_w, i32_w]
                                        rfl
                                      refine take_ (i := 2) (N := some 81) (v := ?_) (a' := ?_) #[true, true, true, false, false, false, false, false, false, false, false, false, false, false, false, false, false, false] rfl rfl (take_ofW HT_.out HW_.out (by kernel_rfl)) (fun _ _ _ h => h) (Or.inl ⟨by rfl, ?_⟩) hHeld ?_ ?_
                                      rotate_left
                                      · rintro w' ⟨s0, s1, s2⟩
                                        go_simp
                                        with_reducible rfl
                                      rotate_left
                                      · simp only [Act.put, List.setIfInBounds_toArray, List.set_cons_zero, List.set_cons_succ, i64_w, i32_w]
                                        rfl
                                      refine pure_ (i := 3) (N := some 82) (v := ?_) (a' := ?_) #[true, true, true, true, false, false, false, false, false, false, false, false, false, false, false, false, false, false] rfl rfl (any_of HT_.out (by kernel_rfl)) (fun _ _ _ h => h) (Or.inl ⟨by rfl, ?_⟩) ?_ ?_
                                      rotate_left
                                      · intro w'
                                        go_simp
                                        with_reducible rfl
                                      rotate_left
                                      · simp only [Act.put, List.setIfInBounds_toArray, List.set_cons_zero, List.set_cons_succ, i64_w, i32_w]
                                        rfl
                                      refine pure_ (i := 4) (N := some 83) (v := ?_) (a' := ?_) #[true, true, true, true, true, false, false, false, false, false, false, false, false, false, false, false, false, false] rfl rfl (any_of HT_.out (by kernel_rfl)) (fun _ _ _ h => h) (Or.inl ⟨by rfl, ?_⟩) ?_ ?_
                                      rotate_left
                                      · intro w'
                                        go_simp
                                        with_reducible rfl
                                      rotate_left
                                      · simp only [Act.put, List.setIfInBounds_toArray, List.set_cons_zero, List.set_cons_succ, i64_w, i32_w]
                                        rfl
                                      refine pure_ (i := 5) (N := some 84) (v := ?_) (a' := ?_) #[true, true, true, true, true, true, false, false, false, false, false, false, false, false, false, false, false, false] rfl rfl (any_of HT_.out (by kernel_rfl)) (fun _ _ _ h => h) (Or.inl ⟨by rfl, ?_⟩) ?_ ?_
                                      rotate_left
                                      · intro w'
                                        go_simp
                                        with_reducible rfl
                                      rotate_left
                                      · simp only [Act.put, List.setIfInBounds_toArray, List.set_cons_zero, List.set_cons_succ, i64_w, i32_w]
                                        rfl
                                      refine pure_ (i := 6) (N := some 85) (v := ?_) (a' := ?_) #[true, true, true, true, true, true, true, false, false, false, false, false, false, false, false, false, false, false] rfl rfl (any_of HT_.out (by kernel_rfl)) (fun _ _ _ h => h) (Or.inl ⟨by rfl, ?_⟩) ?_ ?_
                                      rotate_left
                                      · intro w'
                                        go_simp
                                        with_reducible rfl
                                      rotate_left
                                      · simp only [Act.put, List.setIfInBounds_toArray, List.set_cons_zero, List.set_cons_succ, i64_w, i32_w]
                                        rfl
                                      refine pure_ (i := 7) (N := some 86) (v := ?_) (a' := ?_) #[true, true, true, true, true, true, true, true, false, false, false, false, false, false, false, false, false, false] rfl rfl (any_of HT_.out (by kernel_rfl)) (fun _ _ _ h => h) (Or.inl ⟨by rfl, ?_⟩) ?_ ?_
                                      rotate_left
                                      · intro w'
                                        go_simp
                                        with_reducible rfl
                                      rotate_left
                                      · simp only [Act.put, List.setIfInBounds_toArray, List.set_cons_zero, List.set_cons_succ, i64_w, i32_w]
                                        rfl
                                      refine pure_ (i := 8) (N := some 87) (v := ?_) (a' := ?_) #[true, true, true, true, true, true, true, true, true, false, false, false, false, false, false, false, false, false] rfl rfl (any_of HT_.out (by kernel_rfl)) (fun _ _ _ h => h) (Or.inl ⟨by rfl, ?_⟩) ?_ ?_
                                      rotate_left
                                      · intro w'
                                        go_simp
                                        with_reducible rfl
                                      rotate_left
                                      · simp only [Act.put, List.setIfInBounds_toArray, List.set_cons_zero, List.set_cons_succ, i64_w, i32_w]
                                        rfl
                                      refine pure_ (i := 9) (N := some 88) (v := ?_) (a' := ?_) #[true, true, true, true, true, true, true, true, true, true, false, false, false, false, false, false, false, false] rfl rfl (any_of HT_.out (by kernel_rfl)) (fun _ _ _ h => h) (Or.inl ⟨by rfl, ?_⟩) ?_ ?_
                                      rotate_left
                                      · intro w'
                                        go_simp
                                        with_reducible rfl
                                      rotate_left
                                      · simp only [Act.put, List.setIfInBounds_toArray, List.set_cons_zero, List.set_cons_succ, i64_w, i32_w]
                                        rfl
                                      refine pure_ (i := 14) (N := some 93) (v := ?_) (a' := ?_) #[true, true, true, true, true, true, true, true, true, true, false, false, false, false, true, false, false, false] rfl rfl (any_of HT_.out (by kernel_rfl)) (fun _ _ _ h => h) (Or.inl ⟨by rfl, ?_⟩) ?_ ?_
                                      rotate_left
                                      · intro w'
                                        go_simp
                                        with_reducible rfl
                                      rotate_left
                                      · simp only [Act.put, List.setIfInBounds_toArray, List.set_cons_zero, List.set_cons_succ, i64_w, i32_w]
                                        rfl
                                      refine take_ (i := 10) (N := some 89) (v := ?_) (a' := ?_) #[true, true, true, true, true, true, true, true, true, true, true, false, false, false, true, false, false, false] rfl rfl (take_ofW HT_.out HW_.out (by kernel_rfl)) (fun _ _ _ h => h) (Or.inl ⟨by rfl, ?_⟩) hHeld ?_ ?_
                                      rotate_left
                                      · rintro w' ⟨s0, s1, s2⟩
                                        go_simp
                                        with_reducible rfl
                                      rotate_left
                                      · simp only [Act.put, List.setIfInBounds_toArray, List.set_cons_zero, List.set_cons_succ, i64_w, i32_w]
                                        rfl
                                      refine pure_ (i := 11) (N := some 90) (v := ?_) (a' := ?_) #[true, true, true, true, true, true, true, true, true, true, true, true, false, false, true, false, false, false] rfl rfl (any_of HT_.out (by kernel_rfl)) (fun _ _ _ h => h) (Or.inl ⟨by rfl, ?_⟩) ?_ ?_
                                      rotate_left
                                      · intro w'
                                        go_simp
                                        with_reducible rfl
                                      rotate_left
                                      · simp only [Act.put, List.setIfInBounds_toArray, List.set_cons_zero, List.set_cons_succ, i64_w, i32_w]
                                        rfl
                                      refine pure_ (i := 12) (N := some 91) (v := ?_) (a' := ?_) #[true, true, true, true, true, true, true, true, true, true, true, true, true, false, true, false, false, false] rfl rfl (any_of HT_.out (by kernel_rfl)) (fun _ _ _ h => h) (Or.inl ⟨by rfl, ?_⟩) ?_ ?_
                                      rotate_left
                                      · intro w'
                                        go_simp
                                        with_reducible rfl
                                      rotate_left
                                      · simp only [Act.put, List.setIfInBounds_toArray, List.set_cons_zero, List.set_cons_succ, i64_w, i32_w]
                                        rfl
                                      refine pure_ (i := 13) (N := some 92) (v := ?_) (a' := ?_) #[true, true, true, true, true, true, true, true, true, true, true, true, true, true, true, false, false, false] rfl rfl (any_of HT_.out (by kernel_rfl)) (fun _ _ _ h => h) (Or.inl ⟨by rfl, ?_⟩) ?_ ?_
                                      rotate_left
                                      · intro w'
                                        go_simp
                                        with_reducible rfl
                                      rotate_left
                                      · simp only [Act.put, List.setIfInBounds_toArray, List.set_cons_zero, List.set_cons_succ, i64_w, i32_w]
                                        rfl
                                      refine take_ (i := 15) (N := some 94) (v := ?_) (a' := ?_) #[true, true, true, true, true, true, true, true, true, true, true, true, true, true, true, true, false, false] rfl rfl (take_ofW HT_.out HW_.out (by kernel_rfl)) (fun _ _ _ h => h) (Or.inl ⟨by rfl, ?_⟩) hHeld ?_ ?_
                                      rotate_left
                                      · rintro w' ⟨s0, s1, s2⟩
                                        go_simp
                                        with_reducible rfl
                                      rotate_left
                                      · simp only [Act.put, List.setIfInBounds_toArray, List.set_cons_zero, List.set_cons_succ, i64_w, i32_w]
                                        rfl
                                      refine pure_ (i := 16) (N := some 95) (v := ?_) (a' := ?_) #[true, true, true, true, true, true, true, true, true, true, true, true, true, true, true, true, true, false] rfl rfl (any_of HT_.out (by kernel_rfl)) (fun _ _ _ h => h) (Or.inl ⟨by rfl, ?_⟩) ?_ ?_
                                      rotate_left
                                      · intro w'
                                        go_simp
                                        with_reducible rfl
                                      rotate_left
                                      · simp only [Act.put, List.setIfInBounds_toArray, List.set_cons_zero, List.set_cons_succ, i64_w, i32_w]
                                        rfl
                                      refine pure_ (i := 17) (N := some 96) (v := ?_) (a' := ?_) #[true, true, true, true, true, true, true, true, true, true, true, true, true, true, true, true, true, true] rfl rfl (any_of HT_.out (by kernel_rfl)) (fun _ _ _ h => h) (Or.inl ⟨by rfl, ?_⟩) ?_ ?_
                                      rotate_left
                                      · intro w'
                                        go_simp
                                        with_reducible rfl
                                      rotate_left
                                      · simp only [Act.put, List.setIfInBounds_toArray, List.set_cons_zero, List.set_cons_succ, i64_w, i32_w]
                                        rfl
                                      refine done_ (done_of HT_.out (by kernel_rfl)) ?_
                                      try go_wp2
                                      go_meet
                                      case rel => exact ⟨_, ((((⟨#[97, 97, 98, 97, 97]⟩ : ByteArray).extract (x10_3 : Int).toNat ((wrap64 (x10_3 + (((rd_T53 x306003_1 x12_4).f0).size : Int))) : Int).toNat).toList != ((rd_T53 x306003_1 x12_4).f0).toList)), (by first | rfl | (simp; done) | (simp [*]; done)), H', ⟨by have := HK1.out; have := HJ7.out; have := HK3.out; have := HK4.out; first | omega | exact Nat.le_refl _⟩, ⟨by (with_reducible repeat (first | apply Kd.R_alloc | apply Kd.R_drewN | apply Kd.R_drew)); exact HO_6.out⟩, ⟨by (with_reducible repeat (first | apply Kd.R_alloc | apply Kd.R_drewN | apply Kd.R_drew)); exact HO_8.out⟩, ⟨by (with_reducible repeat (first | apply Kd.R_alloc | apply Kd.R_drewN | apply Kd.R_drew)); exact HO_11.out⟩, ⟨by (with_reducible repeat (first | apply Kd.R_alloc | apply Kd.R_drewN | apply Kd.R_drew)); exact HO_306003.out⟩, ⟨by (with_reducible repeat (first | refine blk_drewN ?_ _ | refine blk_drew ?_ | refine blk_alloc ?_ _)); exact BK305.out⟩, ⟨by (with_reducible repeat (first | refine blk_drewN ?_ _ | refine blk_drew ?_ | refine blk_alloc ?_ _)); exact BK333.out⟩, ⟨by repeat (first | (with_reducible first | exact HB.out | apply below_alloc | apply pw_below_drewN | apply below_drew1 | refine below_set ?_ GE305.out | refine below_set ?_ GE333.out) | exact HB.out)⟩⟩
                                    · rw [if_neg c44] at H
                                      exact absurd H (by simp)
                                  · rw [if_neg c43] at H
                                    exact absurd H (by simp)
                                · rw [if_neg c42] at H
                                  exact absurd H (by simp)
                            case rest =>
                              clear HC34
                              try clear c1
                              try clear c2
                              try clear p2
                              try clear c3
                              try clear p3
                              try clear q3
                              try clear hx3
                              try clear c4
                              try clear p6
                              try clear c7
                              try clear c9
                              try clear c9b0
                              try clear c10
                              try clear c11
                              try clear c11b0
                              try clear c12
                              try clear c12b0
                              try clear c14
                              try clear c14b0
                              try clear c15
                              try clear c15b0
                              try clear c18
                              try clear c19
                              try clear c20
                              try clear c27
                              try clear p30
                              try clear q30
                              try clear hx30
                              try clear c31
                              try clear c31b0
                              try clear p31
                              try clear q31
                              try clear hx31
                              try clear c32
                              try clear c32b0
                              try clear c33
                              try clear c33b0
                              try clear p33
                              try clear q33
                              try clear hx33
                              try clear c37
                              try clear c39
                              try clear c39b0
                              try clear c42
                              try clear c42b0
                              try clear c42b1
                              try clear c43
                              try clear c43b0
                              try clear c43b1
                              try clear c44
                              try clear c44b0
                              try clear c44b1
                              try clear hcz27_0
                              try clear hcz27_1
                              try clear hcz27_2
                              try clear hcz27_3
                              try clear hcz27_4
                              try clear hcz27_5
                              try clear hcz35_0
                              try clear hcz35_1
                              try clear hcz35_2
                              try clear hcz35_3
                              try clear hcz35_4
                              try clear hcz35_5
                              try clear hcz38_0
                              try clear hcz38_1
                              try clear hcz38_2
                              try clear hfz27_0
                              try clear hfz27_1
                              try clear hfz27_2
                              try clear hfz27_3
                              try clear hfz27_4
                              try clear hfz27_5
                              try clear hfz35_0
                              try clear hfz35_1
                              try clear hfz35_2
                              try clear hfz35_3
                              try clear hfz35_4
                              try clear hfz35_5
                              try clear hfz38_0
                              try clear hfz38_1
                              try clear hfz38_2
                              try clear hx309_0
                              try clear hx311_0
                              try clear hx312_0
                              try clear hx314_0
                              try clear hx332_0
                              try clear hx332_1
                              try clear hx332_2
                              try clear p2
                              try clear p3
                              try clear p30
                              try clear p309
                              try clear p31
                              try clear p311
                              try clear p312
                              try clear p314
                              try clear p332
                              try clear p6
                              try clear q3
                              try clear q30
                              try clear q309
                              try clear q31
                              try clear q311
                              try clear q312
                              try clear q314
                              try clear q332
                              obtain ⟨kq, x96_33, rfl, HA, HJ33, HO_6, HO_8, HO_11, HO_306003, BK305, BK333, HB⟩ := hcut
                              cases kq with
                              | zero => exact absurd HA.out (by simp [interlocutorlaw6_LexWords.j4])
                              | succ kj33 =>
                                have H := HA.out
                                clear HA
                                simp only [interlocutorlaw6_LexWords.j4] at H
                                by_cases c47 : x96_33 = true
                                · subst c47
                                  have H1 : (interlocutorlaw6_LexWords.l2 kj33 t319 t325 x9_4 x10_3 x11_4 (wrap64 (x12_4 + 1)) (⟨#[]⟩ : ByteArray) 0 0 x306003_1) = some r := by rw [if_pos rfl] at H; exact H
                                  clear H
                                  have H := H1
                                  clear H1
                                  have H' := Aside0.mk H
                                  clear H
                                  go_wp2
                                  go_roundg kj33
                                  case measure => have := HK1.out; have := HJ7.out; have := HK3.out; have := HK4.out; have := HJ33.out; omega
                                  case rel => exact ⟨(x9_4), (x11_4), (wrap64 (x12_4 + 1)), (by first | rfl | (simp; done) | (simp [*]; done)), (by first | rfl | (simp; done) | (simp [*]; done)), H', ⟨by have := HK1.out; have := HJ7.out; have := HK3.out; have := HK4.out; have := HJ33.out; omega⟩, ⟨by (with_reducible repeat (first | apply Kd.R_alloc | apply Kd.R_drewN | apply Kd.R_drew)); exact HO_6.out⟩, ⟨by (with_reducible repeat (first | apply Kd.R_alloc | apply Kd.R_drewN | apply Kd.R_drew)); exact HO_8.out⟩, ⟨by (with_reducible repeat (first | apply Kd.R_alloc | apply Kd.R_drewN | apply Kd.R_drew)); exact Kd.R_mono HO_11.out (fun _ hk => hk.1)⟩, ⟨by (with_reducible repeat (first | apply Kd.R_alloc | apply Kd.R_drewN | apply Kd.R_drew)); exact Kd.R_mono HO_306003.out (fun _ hk => hk.1)⟩, ⟨by (with_reducible repeat (first | refine blk_drewN ?_ _ | refine blk_drew ?_ | refine blk_alloc ?_ _)); exact BK305.out⟩, ⟨by repeat (first | (with_reducible first | exact HB.out | apply below_alloc | apply pw_below_drewN | apply below_drew1 | refine below_set ?_ GE305.out | refine below_set ?_ GE333.out) | exact HB.out)⟩⟩
                                · replace c47 := Bool.eq_false_iff.mpr c47
                                  subst c47
                                  have H1 : (interlocutorlaw6_LexWords.l3 kj33 t319 t325 x9_4 x10_3 x11_4 x12_4 false 0 (⟨#[]⟩ : ByteArray) 0 0 x306003_1 ((rd_T53 x306003_1 x12_4).f0) ((rd_T53 x306003_1 x12_4).f1) ((rd_T53 x306003_1 x12_4).f2)) = some r := by rw [if_neg (show ¬ (false = true) by decide)] at H; exact H
                                  clear H
                                  have H := H1
                                  clear H1
                                  have H' := Aside0.mk H
                                  clear H
                                  go_wp2
                                  go_loopg [14, 15] kj33 (fun kq v14 v15 w' => ∃ (x14_6 : Bool) (x15_6 : Int), v14 = .bool x14_6 ∧ v15 = .int .i64 x15_6 ∧ Aside0 (interlocutorlaw6_LexWords.l3 kq t319 t325 x9_4 x10_3 x11_4 x12_4 x14_6 x15_6 (⟨#[]⟩ : ByteArray) 0 0 x306003_1 ((rd_T53 x306003_1 x12_4).f0) ((rd_T53 x306003_1 x12_4).f1) ((rd_T53 x306003_1 x12_4).f2) = some r) ∧ Aside0 (kq ≤ kj33) ∧ Aside0 (Kd.R (Kd.int .i64) 3 w' w.heap.size (fun _ => True) (.slice Ao29 t319.length co29) t319) ∧ Aside0 (Kd.R k47 47 w' w.heap.size (fun _ => True) v326 t325) ∧ Aside0 (Kd.R k53 53 w' w.heap.size (fun k_ => some k_ ≠ ((.slice (some ad332) x306003_1.length co28) : Value).ownBlock ∧ k_ ≠ gb333) u11 x11_4) ∧ Aside0 (Kd.R k53 53 w' w.heap.size (fun k_ => some k_ ≠ (u11 : Value).ownBlock ∧ k_ ≠ gb333) (.slice (some ad332) x306003_1.length co28) x306003_1) ∧ Aside0 (w'.heap[gb305]? = some (.cells #[.string (⟨#[]⟩ : ByteArray), .int .i64 0, .int .i64 0, (.slice (some ad332) x306003_1.length co28), (.slice none 0 0), (.slice none 0 0)] 32 (0, 0))) ∧ Aside0 (w'.heap[gb333]? = some (.cells #[.string ((rd_T53 x306003_1 x12_4).f0), .int .i64 ((rd_T53 x306003_1 x12_4).f1), .int .i64 ((rd_T53 x306003_1 x12_4).f2)] 53 (0, 0))) ∧ Aside0 (Below w.heap.size w w'))
                                  case atStart => exact ⟨(false), (0), (by first | rfl | (simp; done) | (simp [*]; done)), (by first | rfl | (simp; done) | (simp [*]; done)), H', ⟨Nat.le_refl _⟩, ⟨by (with_reducible repeat (first | apply Kd.R_alloc | apply Kd.R_drewN | apply Kd.R_drew)); exact HO_6.out⟩, ⟨by (with_reducible repeat (first | apply Kd.R_alloc | apply Kd.R_drewN | apply Kd.R_drew)); exact HO_8.out⟩, ⟨by (with_reducible repeat (first | apply Kd.R_alloc | apply Kd.R_drewN | apply Kd.R_drew)); exact HO_11.out⟩, ⟨by (with_reducible repeat (first | apply Kd.R_alloc | apply Kd.R_drewN | apply Kd.R_drew)); exact HO_306003.out⟩, ⟨by (with_reducible repeat (first | refine blk_drewN ?_ _ | refine blk_drew ?_ | refine blk_alloc ?_ _)); exact BK305.out⟩, ⟨by (with_reducible repeat (first | refine blk_drewN ?_ _ | refine blk_drew ?_ | refine blk_alloc ?_ _)); exact BK333.out⟩, ⟨by repeat (first | (with_reducible first | exact HB.out | apply below_alloc | apply pw_below_drewN | apply below_drew1 | refine below_set ?_ GE305.out | refine below_set ?_ GE333.out) | exact HB.out)⟩⟩
                                  case round =>
                                    clear H'
                                    try clear c1
                                    try clear c2
                                    try clear p2
                                    try clear c3
                                    try clear p3
                                    try clear q3
                                    try clear hx3
                                    try clear c4
                                    try clear p6
                                    try clear c7
                                    try clear c9
                                    try clear c9b0
                                    try clear c10
                                    try clear c11
                                    try clear c11b0
                                    try clear c12
                                    try clear c12b0
                                    try clear c14
                                    try clear c14b0
                                    try clear c15
                                    try clear c15b0
                                    try clear c18
                                    try clear c19
                                    try clear c20
                                    try clear c27
                                    try clear p30
                                    try clear q30
                                    try clear hx30
                                    try clear c31
                                    try clear c31b0
                                    try clear p31
                                    try clear q31
                                    try clear hx31
                                    try clear c32
                                    try clear c32b0
                                    try clear c33
                                    try clear c33b0
                                    try clear p33
                                    try clear q33
                                    try clear hx33
                                    try clear c37
                                    try clear c39
                                    try clear c39b0
                                    try clear c42
                                    try clear c42b0
                                    try clear c42b1
                                    try clear c43
                                    try clear c43b0
                                    try clear c43b1
                                    try clear c44
                                    try clear c44b0
                                    try clear c44b1
                                    try clear c47
                                    try clear hcz27_0
                                    try clear hcz27_1
                                    try clear hcz27_2
                                    try clear hcz27_3
                                    try clear hcz27_4
                                    try clear hcz27_5
                                    try clear hcz35_0
                                    try clear hcz35_1
                                    try clear hcz35_2
                                    try clear hcz35_3
                                    try clear hcz35_4
                                    try clear hcz35_5
                                    try clear hcz38_0
                                    try clear hcz38_1
                                    try clear hcz38_2
                                    try clear hfz27_0
                                    try clear hfz27_1
                                    try clear hfz27_2
                                    try clear hfz27_3
                                    try clear hfz27_4
                                    try clear hfz27_5
                                    try clear hfz35_0
                                    try clear hfz35_1
                                    try clear hfz35_2
                                    try clear hfz35_3
                                    try clear hfz35_4
                                    try clear hfz35_5
                                    try clear hfz38_0
                                    try clear hfz38_1
                                    try clear hfz38_2
                                    try clear hx309_0
                                    try clear hx311_0
                                    try clear hx312_0
                                    try clear hx314_0
                                    try clear hx332_0
                                    try clear hx332_1
                                    try clear hx332_2
                                    try clear p2
                                    try clear p3
                                    try clear p30
                                    try clear p309
                                    try clear p31
                                    try clear p311
                                    try clear p312
                                    try clear p314
                                    try clear p33
                                    try clear p332
                                    try clear p6
                                    try clear q3
                                    try clear q30
                                    try clear q309
                                    try clear q31
                                    try clear q311
                                    try clear q312
                                    try clear q314
                                    try clear q33
                                    try clear q332
                                    obtain ⟨x14_6, x15_6, rfl, rfl, HA, HK6, HO_6, HO_8, HO_11, HO_306003, BK305, BK333, HB⟩ := hrel
                                    cases gk with
                                    | zero => exact absurd HA.out (by simp [interlocutorlaw6_LexWords.l3])
                                    | succ k6 =>
                                      have H := HA.out
                                      clear HA
                                      simp only [interlocutorlaw6_LexWords.l3] at H
                                      by_cases c48 : x15_6 < (x11_4.length : Int)
                                      · rw [if_pos c48] at H
                                        have c48b0 : decide (x15_6 < (x11_4.length : Int)) = true := decide_eq_true c48
                                        clear c48
                                        by_cases c49 : x14_6 = true
                                        · subst c49
                                          have H1 : (interlocutorlaw6_LexWords.l3 k6 t319 t325 x9_4 x10_3 x11_4 x12_4 true (wrap64 (x15_6 + 1)) (⟨#[]⟩ : ByteArray) 0 0 x306003_1 ((rd_T53 x306003_1 x12_4).f0) ((rd_T53 x306003_1 x12_4).f1) ((rd_T53 x306003_1 x12_4).f2)) = some r := by rw [if_pos rfl] at H; exact H
                                          clear H
                                          have H := H1
                                          clear H1
                                          have H' := Aside0.mk H
                                          clear H
                                          obtain ⟨Ao50, co50, eo50⟩ := Kd.R_slice HO_11.out
                                          subst eo50
                                          try go_wp2
                                          have n0_ := Aside0.mk (Kd.R_drew HO_6.out)
                                          have n1_ := Aside0.mk (Kd.R_drew HO_8.out)
                                          have n2_ := Aside0.mk (Kd.R_drew HO_11.out)
                                          have n3_ := Aside0.mk (Kd.R_drew HO_306003.out)
                                          have n4_ := Aside0.mk (blk_drew BK305.out)
                                          have n5_ := Aside0.mk (blk_drew BK333.out)
                                          have n6_ := Aside0.mk (below_drew1 HB.out)
                                          clear HO_6 HO_8 HO_11 HO_306003 BK305 BK333 HB
                                          have HO_6 := n0_
                                          have HO_8 := n1_
                                          have HO_11 := n2_
                                          have HO_306003 := n3_
                                          have BK305 := n4_
                                          have BK333 := n5_
                                          have HB := n6_
                                          clear n0_ n1_ n2_ n3_ n4_ n5_ n6_
                                          refine start_ (n := 10) (S := fun w' => True) (ds := []) #[false, false, false, false, false, false, false, false, false, false] (by kernel_rfl) rfl rfl trivial (fun hHeld => ?_); refine with_tabW interlocutorlaw6_LexWords.tab25 interlocutorlaw6_LexWords.bits25 (fun HT_ HW_ => ?_)
                                          generalize wr.drew = w51 at HO_6 HO_8 HO_11 HO_306003 BK305 BK333 HB hHeld ⊢
                                          refine pure_ (i := 0) (N := some 103) (v := ?_) (a' := ?_) #[true, false, false, false, false, false, false, false, false, false] rfl rfl (any_of HT_.out (by kernel_rfl)) (fun _ _ _ h => h) (Or.inl ⟨by rfl, ?_⟩) ?_ ?_
                                          rotate_left
                                          · intro w'
                                            go_simp
                                            with_reducible rfl
                                          rotate_left
                                          · simp only [Act.put, List.setIfInBounds_toArray, List.set_cons_zero, List.set_cons_succ, i64_w, i32_w]
                                            rfl
                                          refine pure_ (i := 1) (N := some 104) (v := ?_) (a' := ?_) #[true, true, false, false, false, false, false, false, false, false] rfl rfl (any_of HT_.out (by kernel_rfl)) (fun _ _ _ h => h) (Or.inl ⟨by rfl, ?_⟩) ?_ ?_
                                          rotate_left
                                          · intro w'
                                            go_simp
                                            with_reducible rfl
                                          rotate_left
                                          · simp only [Act.put, List.setIfInBounds_toArray, List.set_cons_zero, List.set_cons_succ, i64_w, i32_w]
                                            rfl
                                          refine pure_ (i := 2) (N := some 105) (v := undef) (a' := ?_) #[true, true, true, false, false, false, false, false, false, false] rfl rfl (any_of HT_.out (by kernel_rfl)) (fun _ _ _ h => h) (Or.inr ⟨by rfl, rfl⟩) ?_ ?_
                                          rotate_left
                                          · simp only [Act.put, List.setIfInBounds_toArray, List.set_cons_zero, List.set_cons_succ, i64_w, i32_w]
                                            rfl
                                          refine pure_ (i := 3) (N := some 106) (v := undef) (a' := ?_) #[true, true, true, true, false, false, false, false, false, false] rfl rfl (any_of HT_.out (by kernel_rfl)) (fun _ _ _ h => h) (Or.inr ⟨by rfl, rfl⟩) ?_ ?_
                                          rotate_left
                                          · simp only [Act.put, List.setIfInBounds_toArray, List.set_cons_zero, List.set_cons_succ, i64_w, i32_w]
                                            rfl
                                          refine pure_ (i := 4) (N := some 107) (v := undef) (a' := ?_) #[true, true, true, true, true, false, false, false, false, false] rfl rfl (any_of HT_.out (by kernel_rfl)) (fun _ _ _ h => h) (Or.inr ⟨by rfl, rfl⟩) ?_ ?_
                                          rotate_left
                                          · simp only [Act.put, List.setIfInBounds_toArray, List.set_cons_zero, List.set_cons_succ, i64_w, i32_w]
                                            rfl
                                          refine pure_ (i := 5) (N := some 108) (v := undef) (a' := ?_) #[true, true, true, true, true, true, false, false, false, false] rfl rfl (any_of HT_.out (by kernel_rfl)) (fun _ _ _ h => h) (Or.inr ⟨by rfl, rfl⟩) ?_ ?_
                                          rotate_left
                                          · simp only [Act.put, List.setIfInBounds_toArray, List.set_cons_zero, List.set_cons_succ, i64_w, i32_w]
                                            rfl
                                          refine pure_ (i := 6) (N := some 109) (v := undef) (a' := ?_) #[true, true, true, true, true, true, true, false, false, false] rfl rfl (any_of HT_.out (by kernel_rfl)) (fun _ _ _ h => h) (Or.inr ⟨by rfl, rfl⟩) ?_ ?_
                                          rotate_left
                                          · simp only [Act.put, List.setIfInBounds_toArray, List.set_cons_zero, List.set_cons_succ, i64_w, i32_w]
                                            rfl
                                          refine pure_ (i := 7) (N := some 110) (v := undef) (a' := ?_) #[true, true, true, true, true, true, true, true, false, false] rfl rfl (any_of HT_.out (by kernel_rfl)) (fun _ _ _ h => h) (Or.inr ⟨by rfl, rfl⟩) ?_ ?_
                                          rotate_left
                                          · simp only [Act.put, List.setIfInBounds_toArray, List.set_cons_zero, List.set_cons_succ, i64_w, i32_w]
                                            rfl
                                          refine pure_ (i := 8) (N := some 111) (v := ?_) (a' := ?_) #[true, true, true, true, true, true, true, true, true, false] rfl rfl (any_of HT_.out (by kernel_rfl)) (fun _ _ _ h => h) (Or.inl ⟨by rfl, ?_⟩) ?_ ?_
                                          rotate_left
                                          · intro w'
                                            go_simp
                                            with_reducible rfl
                                          rotate_left
                                          · simp only [Act.put, List.setIfInBounds_toArray, List.set_cons_zero, List.set_cons_succ, i64_w, i32_w]
                                            rfl
                                          refine pure_ (i := 9) (N := some 14) (v := ?_) (a' := ?_) #[true, true, true, true, true, true, true, true, true, true] rfl rfl (any_of HT_.out (by kernel_rfl)) (fun _ _ _ h => h) (Or.inl ⟨by rfl, ?_⟩) ?_ ?_
                                          rotate_left
                                          · intro w'
                                            go_simp
                                            with_reducible rfl
                                          rotate_left
                                          · simp only [Act.put, List.setIfInBounds_toArray, List.set_cons_zero, List.set_cons_succ, i64_w, i32_w]
                                            rfl
                                          refine done_ (done_of HT_.out (by kernel_rfl)) ?_
                                          try go_wp2
                                          go_roundg k6
                                          case measure => have := HK1.out; have := HJ7.out; have := HK3.out; have := HK4.out; have := HJ33.out; have := HK6.out; omega
                                          case rel => exact ⟨(true), (wrap64 (x15_6 + 1)), (by first | rfl | (simp; done) | (simp [*]; done)), (by first | rfl | (simp; done) | (simp [*]; done)), H', ⟨by have := HK1.out; have := HJ7.out; have := HK3.out; have := HK4.out; have := HJ33.out; have := HK6.out; omega⟩, ⟨by (with_reducible repeat (first | apply Kd.R_alloc | apply Kd.R_drewN | apply Kd.R_drew)); exact HO_6.out⟩, ⟨by (with_reducible repeat (first | apply Kd.R_alloc | apply Kd.R_drewN | apply Kd.R_drew)); exact HO_8.out⟩, ⟨by (with_reducible repeat (first | apply Kd.R_alloc | apply Kd.R_drewN | apply Kd.R_drew)); exact HO_11.out⟩, ⟨by (with_reducible repeat (first | apply Kd.R_alloc | apply Kd.R_drewN | apply Kd.R_drew)); exact HO_306003.out⟩, ⟨by (with_reducible repeat (first | refine blk_drewN ?_ _ | refine blk_drew ?_ | refine blk_alloc ?_ _)); exact BK305.out⟩, ⟨by (with_reducible repeat (first | refine blk_drewN ?_ _ | refine blk_drew ?_ | refine blk_alloc ?_ _)); exact BK333.out⟩, ⟨by repeat (first | (with_reducible first | exact HB.out | apply below_alloc | apply pw_below_drewN | apply below_drew1 | refine below_set ?_ GE305.out | refine below_set ?_ GE333.out) | exact HB.out)⟩⟩
                                        · replace c49 := Bool.eq_false_iff.mpr c49
                                          subst c49
                                          have H1 : (if 0 ≤ x15_6 then (interlocutorlaw6_LexWords.l3 k6 t319 t325 x9_4 x10_3 x11_4 x12_4 ((((rd_T53 x11_4 x15_6).f0).toList) == ((rd_T53 x306003_1 x12_4).f0).toList && (((rd_T53 x11_4 x15_6).f1) == ((rd_T53 x306003_1 x12_4).f1) && (((rd_T53 x11_4 x15_6).f2) == ((rd_T53 x306003_1 x12_4).f2)))) (wrap64 (x15_6 + 1)) (⟨#[]⟩ : ByteArray) 0 0 x306003_1 ((rd_T53 x306003_1 x12_4).f0) ((rd_T53 x306003_1 x12_4).f1) ((rd_T53 x306003_1 x12_4).f2)) else (none)) = some r := by rw [if_neg (show ¬ (false = true) by decide)] at H; exact H
                                          clear H
                                          have H := H1
                                          clear H1
                                          by_cases c52 : 0 ≤ x15_6
                                          · rw [if_pos c52] at H
                                            have c52b0 : decide (0 ≤ x15_6) = true := decide_eq_true c52
                                            clear c52
                                            have H' := Aside0.mk H
                                            clear H
                                            obtain ⟨Ao53, co53, eo53⟩ := Kd.R_slice HO_11.out
                                            subst eo53
                                            try go_wp2
                                            have n0_ := Aside0.mk (Kd.R_drew HO_6.out)
                                            have n1_ := Aside0.mk (Kd.R_drew HO_8.out)
                                            have n2_ := Aside0.mk (Kd.R_drew HO_11.out)
                                            have n3_ := Aside0.mk (Kd.R_drew HO_306003.out)
                                            have n4_ := Aside0.mk (blk_drew BK305.out)
                                            have n5_ := Aside0.mk (blk_drew BK333.out)
                                            have n6_ := Aside0.mk (below_drew1 HB.out)
                                            clear HO_6 HO_8 HO_11 HO_306003 BK305 BK333 HB
                                            have HO_6 := n0_
                                            have HO_8 := n1_
                                            have HO_11 := n2_
                                            have HO_306003 := n3_
                                            have BK305 := n4_
                                            have BK333 := n5_
                                            have HB := n6_
                                            clear n0_ n1_ n2_ n3_ n4_ n5_ n6_
                                            have p334 : 0 ≤ (x15_6 : Int) := of_decide_eq_true (by first | (with_reducible assumption) | assumption)
                                            have q334 : x15_6 < (x11_4.length : Int) := of_decide_eq_true (by first | (with_reducible assumption) | assumption)
                                            obtain ⟨ad334, e334, hx334_0, hx334_1, hx334_2⟩ := at_T53 (Kd.R_reads' HO_11.out).2.2 x15_6 p334 q334
                                            cases e334
                                            replace p334 := eq_true p334
                                            replace q334 := eq_true q334
                                            refine start_ (n := 10) (S := fun w' => w'.cell? ⟨gb333, 0, none⟩ = some (.string ((rd_T53 x306003_1 x12_4).f0)) ∧ w'.cell? ⟨gb333, 1, none⟩ = some (.int .i64 ((rd_T53 x306003_1 x12_4).f1)) ∧ w'.cell? ⟨gb333, 2, none⟩ = some (.int .i64 ((rd_T53 x306003_1 x12_4).f2)) ∧ w'.cell? (ad334.add ((x15_6).toNat * 3)) = some (.string ((rd_T53 x11_4 x15_6).f0)) ∧ w'.cell? ⟨(ad334.add ((x15_6).toNat * 3)).block, (ad334.add ((x15_6).toNat * 3)).off + 1, none⟩ = some (.int .i64 ((rd_T53 x11_4 x15_6).f1)) ∧ w'.cell? ⟨(ad334.add ((x15_6).toNat * 3)).block, (ad334.add ((x15_6).toNat * 3)).off + 2, none⟩ = some (.int .i64 ((rd_T53 x11_4 x15_6).f2))) (ds := []) #[false, false, false, false, false, false, false, false, false, false] (by kernel_rfl) rfl rfl ⟨(blk_cell BK333.out 0).trans rfl, (blk_cell BK333.out 1).trans rfl, (blk_cell BK333.out 2).trans rfl, hx334_0, hx334_1, hx334_2⟩ (fun hHeld => ?_); refine with_tabW interlocutorlaw6_LexWords.tab25 interlocutorlaw6_LexWords.bits25 (fun HT_ HW_ => ?_)
                                            generalize wr.drew = w54 at HO_6 HO_8 HO_11 HO_306003 BK305 BK333 HB hx334_0 hx334_1 hx334_2 hHeld ⊢
                                            refine pure_ (i := 0) (N := some 103) (v := ?_) (a' := ?_) #[true, false, false, false, false, false, false, false, false, false] rfl rfl (any_of HT_.out (by kernel_rfl)) (fun _ _ _ h => h) (Or.inl ⟨by rfl, ?_⟩) ?_ ?_
                                            rotate_left
                                            · intro w'
                                              go_simp
                                              with_reducible rfl
                                            rotate_left
                                            · simp only [Act.put, List.setIfInBounds_toArray, List.set_cons_zero, List.set_cons_succ, i64_w, i32_w]
                                              rfl
                                            refine pure_ (i := 1) (N := some 104) (v := ?_) (a' := ?_) #[true, true, false, false, false, false, false, false, false, false] rfl rfl (any_of HT_.out (by kernel_rfl)) (fun _ _ _ h => h) (Or.inl ⟨by rfl, ?_⟩) ?_ ?_
                                            rotate_left
                                            · intro w'
                                              go_simp
                                              with_reducible rfl
                                            rotate_left
                                            · simp only [Act.put, List.setIfInBounds_toArray, List.set_cons_zero, List.set_cons_succ, i64_w, i32_w]
                                              rfl
                                            refine pure_ (i := 2) (N := some 105) (v := ?_) (a' := ?_) #[true, true, true, false, false, false, false, false, false, false] rfl rfl (any_of HT_.out (by kernel_rfl)) (fun _ _ _ h => h) (Or.inl ⟨by rfl, ?_⟩) ?_ ?_
                                            rotate_left
                                            · intro w'
                                              go_simp
                                              with_reducible rfl
                                            rotate_left
                                            · simp only [Act.put, List.setIfInBounds_toArray, List.set_cons_zero, List.set_cons_succ, i64_w, i32_w]
                                              rfl
                                            refine pure_ (i := 3) (N := some 106) (v := ?_) (a' := ?_) #[true, true, true, true, false, false, false, false, false, false] rfl rfl (any_of HT_.out (by kernel_rfl)) (fun _ _ _ h => h) (Or.inl ⟨by rfl, ?_⟩) ?_ ?_
                                            rotate_left
                                            · intro w'
                                              go_simp
                                              with_reducible rfl
                                            rotate_left
                                            · simp only [Act.put, List.setIfInBounds_toArray, List.set_cons_zero, List.set_cons_succ, i64_w, i32_w]
                                              rfl
                                            refine pure_ (i := 4) (N := some 107) (v := ?_) (a' := ?_) #[true, true, true, true, true, false, false, false, false, false] rfl rfl (any_of HT_.out (by kernel_rfl)) (fun _ _ _ h => h) (Or.inl ⟨by rfl, ?_⟩) ?_ ?_
                                            rotate_left
                                            · intro w'
                                              go_simp
                                              with_reducible rfl
                                            rotate_left
                                            · simp only [Act.put, List.setIfInBounds_toArray, List.set_cons_zero, List.set_cons_succ, i64_w, i32_w]
                                              rfl
                                            refine take_ (i := 5) (N := some 108) (v := ?_) (a' := ?_) #[true, true, true, true, true, true, false, false, false, false] rfl rfl (take_ofW HT_.out HW_.out (by kernel_rfl)) (fun _ _ _ h => h) (Or.inl ⟨by rfl, ?_⟩) hHeld ?_ ?_
                                            rotate_left
                                            · rintro w' ⟨s0, s1, s2, s3, s4, s5⟩
                                              go_simp
                                              with_reducible rfl
                                            rotate_left
                                            · simp only [Act.put, List.setIfInBounds_toArray, List.set_cons_zero, List.set_cons_succ, i64_w, i32_w]
                                              rfl
                                            refine take_ (i := 6) (N := some 109) (v := ?_) (a' := ?_) #[true, true, true, true, true, true, true, false, false, false] rfl rfl (take_ofW HT_.out HW_.out (by kernel_rfl)) (fun _ _ _ h => h) (Or.inl ⟨by rfl, ?_⟩) hHeld ?_ ?_
                                            rotate_left
                                            · rintro w' ⟨s0, s1, s2, s3, s4, s5⟩
                                              go_simp
                                              with_reducible rfl
                                            rotate_left
                                            · simp only [Act.put, List.setIfInBounds_toArray, List.set_cons_zero, List.set_cons_succ, i64_w, i32_w]
                                              rfl
                                            refine pure_ (i := 7) (N := some 110) (v := ?_) (a' := ?_) #[true, true, true, true, true, true, true, true, false, false] rfl rfl (any_of HT_.out (by kernel_rfl)) (fun _ _ _ h => h) (Or.inl ⟨by rfl, ?_⟩) ?_ ?_
                                            rotate_left
                                            · intro w'
                                              go_simp
                                              with_reducible rfl
                                            rotate_left
                                            · simp only [Act.put, List.setIfInBounds_toArray, List.set_cons_zero, List.set_cons_succ, i64_w, i32_w]
                                              rfl
                                            refine pure_ (i := 8) (N := some 111) (v := ?_) (a' := ?_) #[true, true, true, true, true, true, true, true, true, false] rfl rfl (any_of HT_.out (by kernel_rfl)) (fun _ _ _ h => h) (Or.inl ⟨by rfl, ?_⟩) ?_ ?_
                                            rotate_left
                                            · intro w'
                                              go_simp
                                              with_reducible rfl
                                            rotate_left
                                            · simp only [Act.put, List.setIfInBounds_toArray, List.set_cons_zero, List.set_cons_succ, i64_w, i32_w]
                                              rfl
                                            refine pure_ (i := 9) (N := some 14) (v := ?_) (a' := ?_) #[true, true, true, true, true, true, true, true, true, true] rfl rfl (any_of HT_.out (by kernel_rfl)) (fun _ _ _ h => h) (Or.inl ⟨by rfl, ?_⟩) ?_ ?_
                                            rotate_left
                                            · intro w'
                                              go_simp
                                              with_reducible rfl
                                            rotate_left
                                            · simp only [Act.put, List.setIfInBounds_toArray, List.set_cons_zero, List.set_cons_succ, i64_w, i32_w]
                                              rfl
                                            refine done_ (done_of HT_.out (by kernel_rfl)) ?_
                                            try go_wp2
                                            go_roundg k6
                                            case measure => have := HK1.out; have := HJ7.out; have := HK3.out; have := HK4.out; have := HJ33.out; have := HK6.out; omega
                                            case rel => exact ⟨(((((rd_T53 x11_4 x15_6).f0).toList) == ((rd_T53 x306003_1 x12_4).f0).toList && (((rd_T53 x11_4 x15_6).f1) == ((rd_T53 x306003_1 x12_4).f1) && (((rd_T53 x11_4 x15_6).f2) == ((rd_T53 x306003_1 x12_4).f2))))), (wrap64 (x15_6 + 1)), (by first | rfl | (simp; done) | (simp [*]; done)), (by first | rfl | (simp; done) | (simp [*]; done)), H', ⟨by have := HK1.out; have := HJ7.out; have := HK3.out; have := HK4.out; have := HJ33.out; have := HK6.out; omega⟩, ⟨by (with_reducible repeat (first | apply Kd.R_alloc | apply Kd.R_drewN | apply Kd.R_drew)); exact HO_6.out⟩, ⟨by (with_reducible repeat (first | apply Kd.R_alloc | apply Kd.R_drewN | apply Kd.R_drew)); exact HO_8.out⟩, ⟨by (with_reducible repeat (first | apply Kd.R_alloc | apply Kd.R_drewN | apply Kd.R_drew)); exact HO_11.out⟩, ⟨by (with_reducible repeat (first | apply Kd.R_alloc | apply Kd.R_drewN | apply Kd.R_drew)); exact HO_306003.out⟩, ⟨by (with_reducible repeat (first | refine blk_drewN ?_ _ | refine blk_drew ?_ | refine blk_alloc ?_ _)); exact BK305.out⟩, ⟨by (with_reducible repeat (first | refine blk_drewN ?_ _ | refine blk_drew ?_ | refine blk_alloc ?_ _)); exact BK333.out⟩, ⟨by repeat (first | (with_reducible first | exact HB.out | apply below_alloc | apply pw_below_drewN | apply below_drew1 | refine below_set ?_ GE305.out | refine below_set ?_ GE333.out) | exact HB.out)⟩⟩
                                          · rw [if_neg c52] at H
                                            exact absurd H (by simp)
                                      · rw [if_neg c48] at H
                                        have c48b0 : decide (x15_6 < (x11_4.length : Int)) = false := decide_eq_false c48
                                        clear c48
                                        by_cases c55 : x14_6 = true
                                        · subst c55
                                          have H1 : (interlocutorlaw6_LexWords.l2 k6 t319 t325 x9_4 x10_3 x11_4 (wrap64 (x12_4 + 1)) (⟨#[]⟩ : ByteArray) 0 0 x306003_1) = some r := by rw [if_pos rfl] at H; exact H
                                          clear H
                                          have H := H1
                                          clear H1
                                          have H' := Aside0.mk H
                                          clear H
                                          obtain ⟨Ao56, co56, eo56⟩ := Kd.R_slice HO_11.out
                                          subst eo56
                                          go_wp2
                                          go_roundg k6
                                          case measure => have := HK1.out; have := HJ7.out; have := HK3.out; have := HK4.out; have := HJ33.out; have := HK6.out; omega
                                          case rel => exact ⟨(x9_4), (x11_4), (wrap64 (x12_4 + 1)), (by first | rfl | (simp; done) | (simp [*]; done)), (by first | rfl | (simp; done) | (simp [*]; done)), H', ⟨by have := HK1.out; have := HJ7.out; have := HK3.out; have := HK4.out; have := HJ33.out; have := HK6.out; omega⟩, ⟨by (with_reducible repeat (first | apply Kd.R_alloc | apply Kd.R_drewN | apply Kd.R_drew)); exact HO_6.out⟩, ⟨by (with_reducible repeat (first | apply Kd.R_alloc | apply Kd.R_drewN | apply Kd.R_drew)); exact HO_8.out⟩, ⟨by (with_reducible repeat (first | apply Kd.R_alloc | apply Kd.R_drewN | apply Kd.R_drew)); exact Kd.R_mono HO_11.out (fun _ hk => hk.1)⟩, ⟨by (with_reducible repeat (first | apply Kd.R_alloc | apply Kd.R_drewN | apply Kd.R_drew)); exact Kd.R_mono HO_306003.out (fun _ hk => hk.1)⟩, ⟨by (with_reducible repeat (first | refine blk_drewN ?_ _ | refine blk_drew ?_ | refine blk_alloc ?_ _)); exact BK305.out⟩, ⟨by repeat (first | (with_reducible first | exact HB.out | apply below_alloc | apply pw_below_drewN | apply below_drew1 | refine below_set ?_ GE305.out | refine below_set ?_ GE333.out) | exact HB.out)⟩⟩
                                        · replace c55 := Bool.eq_false_iff.mpr c55
                                          subst c55
                                          have H1 : (if x11_4.length < 4398046511104 then (interlocutorlaw6_LexWords.l2 k6 t319 t325 (wrap64 (x9_4 + 1)) x10_3 (x11_4 ++ [(⟨((rd_T53 x306003_1 x12_4).f0), ((rd_T53 x306003_1 x12_4).f1), ((rd_T53 x306003_1 x12_4).f2)⟩ : S53)]) (wrap64 (x12_4 + 1)) (⟨#[]⟩ : ByteArray) 0 0 x306003_1) else (none)) = some r := by rw [if_neg (show ¬ (false = true) by decide)] at H; exact H
                                          clear H
                                          have H := H1
                                          clear H1
                                          by_cases c57 : x11_4.length < 4398046511104
                                          · rw [if_pos c57] at H
                                            have LMc57 := Aside0.mk c57
                                            clear c57
                                            obtain ⟨y335, hy335⟩ : ∃ y_ : List (S53), y_ = (x11_4 ++ [(⟨((rd_T53 x306003_1 x12_4).f0), ((rd_T53 x306003_1 x12_4).f1), ((rd_T53 x306003_1 x12_4).f2)⟩ : S53)]) := ⟨_, rfl⟩
                                            replace H : (interlocutorlaw6_LexWords.l2 k6 t319 t325 (wrap64 (x9_4 + 1)) x10_3 y335 (wrap64 (x12_4 + 1)) (⟨#[]⟩ : ByteArray) 0 0 x306003_1) = some r := by first | (rw [hy335]; with_reducible exact H) | (have H2_ := (Option.bind_some _ _).symm.trans H; rw [hy335]; with_reducible exact H2_) | (have H2_ := (Option.bind_some _ _).symm.trans H; with_reducible exact H2_) | with_reducible exact H | (rw [hy335]; exact H) | exact H
                                            have Ny335 := Aside0.mk hy335
                                            clear hy335
                                            have H' := Aside0.mk H
                                            clear H
                                            obtain ⟨Ao58, co58, eo58⟩ := Kd.R_slice HO_11.out
                                            subst eo58
                                            have hnb59 := NB333_305.out
                                            have hnc59 := NB305_333.out
                                            have hcz60_0 : wr.cell? ⟨gb333, 0, none⟩ = some (.string ((rd_T53 x306003_1 x12_4).f0)) := (blk_cell BK333.out 0).trans rfl
                                            have hcz60_1 : wr.cell? ⟨gb333, 1, none⟩ = some (.int .i64 ((rd_T53 x306003_1 x12_4).f1)) := (blk_cell BK333.out 1).trans rfl
                                            have hcz60_2 : wr.cell? ⟨gb333, 2, none⟩ = some (.int .i64 ((rd_T53 x306003_1 x12_4).f2)) := (blk_cell BK333.out 2).trans rfl
                                            have hfz60_0 := blk_frozen BK333.out 0
                                            have hfz60_1 := blk_frozen BK333.out 1
                                            have hfz60_2 := blk_frozen BK333.out 2
                                            go_wp2_with (first | ((with_reducible refine gate_builtin (b := .append) (xs := #[.tmp 114, .tmp 116]) rfl ?_); (try (refine gate_guard (by rfl) ?_; dsimp only)); at_builtin; refine Kd.R_append k53 (w0 := w) w.heap.size rfl (.tmp 114) (.tmp 116) 28 53 (.agg #[(.string ⟨#[]⟩), (.int .i64 0), (.int .i64 0)]) 32 rfl Try.underlying28 info53 rfl (by decide) (by omega) (.slice Ao58 x11_4.length co58) x11_4 (⟨((rd_T53 x306003_1 x12_4).f0), ((rd_T53 x306003_1 x12_4).f1), ((rd_T53 x306003_1 x12_4).f2)⟩ : S53) [.string ((rd_T53 x306003_1 x12_4).f0), .int .i64 ((rd_T53 x306003_1 x12_4).f1), .int .i64 ((rd_T53 x306003_1 x12_4).f2)] (fun k_ => some k_ ≠ (.slice (some ad332) x306003_1.length co28 : Value).ownBlock ∧ k_ ≠ gb333) (fun _ => False) rfl rfl ?aP (fun _ hk => hk.elim) ?aF ?aO ?aB ?aS ?aL ?_; (case aP => exact k53_mkM _ _ _ (⟨((rd_T53 x306003_1 x12_4).f0), ((rd_T53 x306003_1 x12_4).f1), ((rd_T53 x306003_1 x12_4).f2)⟩ : S53)); (case aB => exact (by repeat (first | (with_reducible first | exact HB.out | apply below_alloc | apply pw_below_drewN | apply below_drew1 | refine below_set ?_ GE305.out | refine below_set ?_ GE333.out) | exact HB.out))); (case aF => exact (fun k_ hk => ⟨Kd.fresh' (Kd.R_lt (by (with_reducible repeat (first | apply Kd.R_alloc | apply Kd.R_drewN | apply Kd.R_drew)); exact HO_306003.out)) k_ hk, Kd.freshB (g := gb333) (o := .cells #[.string ((rd_T53 x306003_1 x12_4).f0), .int .i64 ((rd_T53 x306003_1 x12_4).f1), .int .i64 ((rd_T53 x306003_1 x12_4).f2)] 53 (0, 0)) (by (with_reducible repeat (first | refine blk_drewN ?_ _ | refine blk_drew ?_ | refine blk_alloc ?_ _)); exact BK333.out) k_ hk⟩)); (case aO => exact (by (with_reducible repeat (first | apply Kd.R_alloc | apply Kd.R_drewN | apply Kd.R_drew)); exact HO_11.out)); (case aS => exact (below_size (by repeat (first | (with_reducible first | exact HB.out | apply below_alloc | apply pw_below_drewN | apply below_drew1 | refine below_set ?_ GE305.out | refine below_set ?_ GE333.out) | exact HB.out)))); (case aL => have := LMc57.out; omega); intro v336 w61 ho hb hg hat; rw [← Ny335.out] at ho; have n0_ := Aside0.mk (Kd.R_over' (by (with_reducible repeat (first | apply Kd.R_alloc | apply Kd.R_drewN | apply Kd.R_drew)); exact HO_6.out) (Kd.R_typed (by (with_reducible repeat (first | apply Kd.R_alloc | apply Kd.R_drewN | apply Kd.R_drew)); exact HO_11.out)) (by decide) hg); have n1_ := Aside0.mk (Kd.R_over' (by (with_reducible repeat (first | apply Kd.R_alloc | apply Kd.R_drewN | apply Kd.R_drew)); exact HO_8.out) (Kd.R_typed (by (with_reducible repeat (first | apply Kd.R_alloc | apply Kd.R_drewN | apply Kd.R_drew)); exact HO_11.out)) (by decide) hg); have n2_ := Aside0.mk (Kd.R_after (ok := (fun k_ => k_ ≠ gb333)) (by (with_reducible repeat (first | apply Kd.R_alloc | apply Kd.R_drewN | apply Kd.R_drew)); exact Kd.R_mono HO_306003.out (fun _ hk => ⟨hk.2, hk.1⟩)) hg hat); have n3_ := Aside0.mk (blk_grown (g := gb305) (o := .cells #[.string (⟨#[]⟩ : ByteArray), .int .i64 0, .int .i64 0, .slice (some ad332) x306003_1.length co28, .slice none 0 0, .slice none 0 0] 32 (0, 0)) (by (with_reducible repeat (first | refine blk_drewN ?_ _ | refine blk_drew ?_ | refine blk_alloc ?_ _)); exact BK305.out) hg (Kd.R_ne HO_11.out BK305.out (by decide))); have n4_ := Aside0.mk (blk_grown (g := gb333) (o := .cells #[.string ((rd_T53 x306003_1 x12_4).f0), .int .i64 ((rd_T53 x306003_1 x12_4).f1), .int .i64 ((rd_T53 x306003_1 x12_4).f2)] 53 (0, 0)) (by (with_reducible repeat (first | refine blk_drewN ?_ _ | refine blk_drew ?_ | refine blk_alloc ?_ _)); exact BK333.out) hg (Kd.R_away HO_11.out (fun _ hk => hk.2))); have n5_ := Aside0.mk (hb); have n6_ := Aside0.mk (ho); clear HO_6; clear HO_8; clear HO_306003; clear BK305; clear BK333; clear HB; clear HO_11; have HO_6 := n0_; have HO_8 := n1_; have HO_306003 := n2_; have BK305 := n3_; have BK333 := n4_; have HB := n5_; have HO337 := n6_; clear n0_ n1_ n2_ n3_ n4_ n5_ n6_; clear ho hb hg hat))
                                            go_roundg k6
                                            case measure => have := HK1.out; have := HJ7.out; have := HK3.out; have := HK4.out; have := HJ33.out; have := HK6.out; omega
                                            case rel => exact ⟨(wrap64 (x9_4 + 1)), (y335), (wrap64 (x12_4 + 1)), (by first | rfl | (simp; done) | (simp [*]; done)), (by first | rfl | (simp; done) | (simp [*]; done)), H', ⟨by have := HK1.out; have := HJ7.out; have := HK3.out; have := HK4.out; have := HJ33.out; have := HK6.out; omega⟩, ⟨by (with_reducible repeat (first | apply Kd.R_alloc | apply Kd.R_drewN | apply Kd.R_drew)); exact HO_6.out⟩, ⟨by (with_reducible repeat (first | apply Kd.R_alloc | apply Kd.R_drewN | apply Kd.R_drew)); exact HO_8.out⟩, ⟨by (with_reducible repeat (first | apply Kd.R_alloc | apply Kd.R_drewN | apply Kd.R_drew)); exact Kd.R_mono HO337.out (fun _ hk => hk.1)⟩, ⟨by (with_reducible repeat (first | apply Kd.R_alloc | apply Kd.R_drewN | apply Kd.R_drew)); exact Kd.R_mono HO_306003.out (fun _ hk => hk.2)⟩, ⟨by (with_reducible repeat (first | refine blk_drewN ?_ _ | refine blk_drew ?_ | refine blk_alloc ?_ _)); exact BK305.out⟩, ⟨by repeat (first | (with_reducible first | exact HB.out | apply below_alloc | apply pw_below_drewN | apply below_drew1 | refine below_set ?_ GE305.out | refine below_set ?_ GE333.out) | exact HB.out)⟩⟩
                                          · rw [if_neg c57] at H
                                            exact absurd H (by simp)
                          · rw [if_neg c33] at H
                            exact absurd H (by simp)
                        · rw [if_neg c32] at H
                          have c32b0 : decide (x12_4 < (x306003_1.length : Int)) = false := decide_eq_false c32
                          clear c32
                          have H' := Aside0.mk H
                          clear H
                          have hcz62_0 : wr.cell? ⟨gb305, 0, none⟩ = some (.string (⟨#[]⟩ : ByteArray)) := (blk_cell BK305.out 0).trans rfl
                          have hcz62_1 : wr.cell? ⟨gb305, 1, none⟩ = some (.int .i64 0) := (blk_cell BK305.out 1).trans rfl
                          have hcz62_2 : wr.cell? ⟨gb305, 2, none⟩ = some (.int .i64 0) := (blk_cell BK305.out 2).trans rfl
                          have hcz62_3 : wr.cell? ⟨gb305, 3, none⟩ = some (.slice Ao28 x306003_1.length co28) := (blk_cell BK305.out 3).trans rfl
                          have hcz62_4 : wr.cell? ⟨gb305, 4, none⟩ = some (.slice none 0 0) := (blk_cell BK305.out 4).trans rfl
                          have hcz62_5 : wr.cell? ⟨gb305, 5, none⟩ = some (.slice none 0 0) := (blk_cell BK305.out 5).trans rfl
                          have hfz62_0 := blk_frozen BK305.out 0
                          have hfz62_1 := blk_frozen BK305.out 1
                          have hfz62_2 := blk_frozen BK305.out 2
                          have hfz62_3 := blk_frozen BK305.out 3
                          have hfz62_4 := blk_frozen BK305.out 4
                          have hfz62_5 := blk_frozen BK305.out 5
                          go_wp2
                          go_roundg k4
                          case measure => have := HK1.out; have := HJ7.out; have := HK3.out; have := HK4.out; omega
                          case rel => exact ⟨(x9_4), (wrap64 (x10_3 + 1)), (by first | rfl | (simp; done) | (simp [*]; done)), (by first | rfl | (simp; done) | (simp [*]; done)), H', ⟨by have := HK1.out; have := HJ7.out; have := HK3.out; have := HK4.out; omega⟩, ⟨by (with_reducible repeat (first | apply Kd.R_alloc | apply Kd.R_drewN | apply Kd.R_drew)); exact HO_6.out⟩, ⟨by (with_reducible repeat (first | apply Kd.R_alloc | apply Kd.R_drewN | apply Kd.R_drew)); exact HO_8.out⟩, ⟨by (with_reducible repeat (first | apply Kd.R_alloc | apply Kd.R_drewN | apply Kd.R_drew)); exact Kd.R_mono HO_306003.out (fun _ hk => trivial)⟩, ⟨by (with_reducible repeat (first | refine blk_drewN ?_ _ | refine blk_drew ?_ | refine blk_alloc ?_ _)); exact BK305.out⟩, ⟨by exact wS HB.out GE305.out⟩⟩
                  · rw [if_neg c31] at H
                    have c31b0 : decide (x10_3 < 5) = false := decide_eq_false c31
                    clear c31
                    by_cases c63 : (t325.length : Int) = x9_3
                    · rw [if_pos c63] at H
                      have c63b0 : ((t325.length : Int) == x9_3) = true := beq_iff_eq.mpr c63
                      have c63b1 : ((t325.length : Int) != x9_3) = false := bne_eq_false_iff_eq.mpr c63
                      clear c63
                      replace H := Option.bind_eq_some_iff.mp H
                      obtain ⟨t328, A640, H⟩ := H
                      replace H : ((interlocutorref6_Same.f k3 t325 t328).bind fun t331 => (some t331)) = some r := H
                      have A64 := Aside0.mk A640
                      clear A640
                      replace H := Option.bind_eq_some_iff.mp H
                      obtain ⟨t331, A650, H⟩ := H
                      replace H : (some t331) = some r := H
                      have A65 := Aside0.mk A650
                      clear A650
                      obtain rfl := Option.some.inj H
                      obtain ⟨Ao66, co66, eo66⟩ := Kd.R_slice HO_8.out
                      subst eo66
                      have hcz67_0 : wr.cell? ⟨gb305, 0, none⟩ = some (.string (⟨#[]⟩ : ByteArray)) := (blk_cell BK305.out 0).trans rfl
                      have hcz67_1 : wr.cell? ⟨gb305, 1, none⟩ = some (.int .i64 0) := (blk_cell BK305.out 1).trans rfl
                      have hcz67_2 : wr.cell? ⟨gb305, 2, none⟩ = some (.int .i64 0) := (blk_cell BK305.out 2).trans rfl
                      have hcz67_3 : wr.cell? ⟨gb305, 3, none⟩ = some (.slice Ao28 x306003_1.length co28) := (blk_cell BK305.out 3).trans rfl
                      have hcz67_4 : wr.cell? ⟨gb305, 4, none⟩ = some (.slice none 0 0) := (blk_cell BK305.out 4).trans rfl
                      have hcz67_5 : wr.cell? ⟨gb305, 5, none⟩ = some (.slice none 0 0) := (blk_cell BK305.out 5).trans rfl
                      have hfz67_0 := blk_frozen BK305.out 0
                      have hfz67_1 := blk_frozen BK305.out 1
                      have hfz67_2 := blk_frozen BK305.out 2
                      have hfz67_3 := blk_frozen BK305.out 3
                      have hfz67_4 := blk_frozen BK305.out 4
                      have hfz67_5 := blk_frozen BK305.out 5
                      go_wp2_with (first | (go_at_call 21; (refine (interlocutorref6_Tokens.calls k3 (⟨#[]⟩ : ByteArray) 0 0 _ _ x306003_1 _ _ ([] : List (S108)) _ _ ([] : List (S138)) _ _ t319 t328 _ ?side1 ?side2 ?side3 ?side4 ?side5 ?side6 ?side7 ?side8 A64.out).mono ?_); (case side1 => repeat (first | exact (Kd.R_reads' HO_306003.out).2.2 | (with_reducible refine Kd.C_alloc ?_ _) | (with_reducible refine Kd.C_drewN ?_ _) | (with_reducible refine Kd.C_drew ?_))); (case side2 => exact (Kd.R_reads' HO_306003.out).2.1); (case side3 => exact Kd.C_nil _ _); (case side4 => exact Nat.le_refl _); (case side5 => exact Kd.C_nil _ _); (case side6 => exact Nat.le_refl _); (case side7 => repeat (first | exact (Kd.R_reads' HO_6.out).2.2 | (with_reducible refine Kd.C_alloc ?_ _) | (with_reducible refine Kd.C_drewN ?_ _) | (with_reducible refine Kd.C_drew ?_))); (case side8 => exact (Kd.R_reads' HO_6.out).2.1); rintro e w68 ⟨v329, rfl, ho0, hb⟩; have n0_ := Aside0.mk (Kd.R_below (by (with_reducible repeat (first | apply Kd.R_alloc | apply Kd.R_drewN | apply Kd.R_drew)); exact HO_6.out) hb); have n1_ := Aside0.mk (Kd.R_elder' (by (with_reducible repeat (first | apply Kd.R_alloc | apply Kd.R_drewN | apply Kd.R_drew)); exact HO_8.out) (Kd.R_base ho0) hb); have n2_ := Aside0.mk (Kd.R_below (by (with_reducible repeat (first | apply Kd.R_alloc | apply Kd.R_drewN | apply Kd.R_drew)); exact HO_306003.out) hb); have n3_ := Aside0.mk (Kd.R_lower (Kd.R_new' ho0 (Kd.R_lt (by (with_reducible repeat (first | apply Kd.R_alloc | apply Kd.R_drewN | apply Kd.R_drew)); exact HO_8.out))) (below_size (by exact wS HB.out GE305.out))); have n4_ := Aside0.mk (blk_below (g := gb305) (o := .cells #[.string (⟨#[]⟩ : ByteArray), .int .i64 0, .int .i64 0, .slice Ao28 x306003_1.length co28, .slice none 0 0, .slice none 0 0] 32 (0, 0)) (by (with_reducible repeat (first | refine blk_drewN ?_ _ | refine blk_drew ?_ | refine blk_alloc ?_ _)); exact BK305.out) hb); have n5_ := Aside0.mk (below_step (by exact wS HB.out GE305.out) hb); clear HO_6; clear HO_8; clear HO_306003; clear BK305; clear HB; have HO_6 := n0_; have HO_8 := n1_; have HO_306003 := n2_; have HO330 := n3_; have BK305 := n4_; have HB := n5_; clear n0_ n1_ n2_ n3_ n4_ n5_; (try clear hb); (try clear hb2); (try clear hk); (try clear hi); (try clear ho0); obtain ⟨Ao69, co69, eo69⟩ := Kd.R_slice HO330.out; subst eo69) | (go_at_call 24; (with_reducible refine (interlocutorref6_Same.calls k3 _ _ t325 _ _ t328 t331 _ ?side1 ?side2 ?side3 ?side4 A65.out).mono ?_); (case side1 => repeat (first | exact (Kd.R_reads' HO_8.out).2.2 | (with_reducible refine Kd.C_alloc ?_ _) | (with_reducible refine Kd.C_drewN ?_ _) | (with_reducible refine Kd.C_drew ?_))); (case side2 => exact (Kd.R_reads' HO_8.out).2.1); (case side3 => repeat (first | exact (Kd.R_reads' HO330.out).2.2 | (with_reducible refine Kd.C_alloc ?_ _) | (with_reducible refine Kd.C_drewN ?_ _) | (with_reducible refine Kd.C_drew ?_))); (case side4 => exact (Kd.R_reads' HO330.out).2.1); rintro e w' ⟨rfl, ⟨nd, rfl⟩⟩))
                      go_ret
                      exact ⟨by first | rfl | (simp [errW_none, errW_some] <;> rfl) | (simp [*, errW_none, errW_some] <;> rfl), by exact wS HB.out GE305.out⟩
                    · rw [if_neg c63] at H
                      have c63b0 : ((t325.length : Int) == x9_3) = false := beq_eq_false_iff_ne.mpr c63
                      have c63b1 : ((t325.length : Int) != x9_3) = true := bne_iff_ne.mpr c63
                      exact absurd ((Option.some.inj H).trans HRT.out) (by decide)
  · replace c3 := Bool.eq_false_iff.mpr c3
    subst c3
    have H1 : (some false) = some r := by rw [if_neg (show ¬ (false = true) by decide)] at H; exact H
    clear H
    have H := H1
    clear H1
    exact absurd ((Option.some.inj H).trans HRT.out) (by decide)
def interlocutorlaw6_LexWords.Pure : Prop := ∀ (l0 : List Int), l0.length ≤ maxLen → l0.length * 8 ≤ 140737488351232 → (∀ x ∈ l0, (Lit.int .i64 x).wf = true) → ∃ k, interlocutorlaw6_LexWords.f k l0 = some true
theorem interlocutorlaw6_LexWords.walk (P : interlocutorlaw6_LexWords.Pure) (a0 : Option Addr) (len0 cap0 : Nat) (z0 : List Int) (w : World) (w0 : (a0 = none ∧ len0 = 0 ∧ cap0 = 0 ∧ z0 = []) ∨ ∃ x, a0 = some x ∧ len0 ≤ cap0 ∧ cap0 ≤ maxLen ∧ z0.length = cap0 ∧ (∀ i, i < z0.length → w.cell? (x.add i) = some (.int .i64 (z0.getD i 0))) ∧ ∀ n ∈ z0, (Lit.int .i64 n).wf = true) (y0 : len0 * 8 ≤ 140737488351232) :
    Calls Try.prog 7 #[.slice a0 len0 cap0] w fun e w' => e = .returned (.bool true) ∧ Below w.heap.size w w' := by
  obtain ⟨l0, rfl, hr0, hm0, hw0, hc0⟩ := ReadsInt.ofRowC w0
  obtain ⟨k, h⟩ := P l0 hm0 y0 hw0
  refine (interlocutorlaw6_LexWords.calls k _ _ l0 true rfl w (Kd.C_of_reads (d := (0 : Int)) (h1 := fun _ => rfl) hr0) hc0 h).mono ?_
  rintro e w' ⟨rfl, hd⟩
  exact ⟨rfl, hd⟩
end Go.Proofs.Ytgbnfjhmobeloaa.G
