/- DecKnown holds for every input: these are just so. No condition. -/
import Derived.Test.YtjbihflpjkaifaaDoorPlain2a
import Derived.Test.YtjbihflpjkaifaaDoorPlain2t
import Derived.Test.YtjbihflpjkaifaaDoorGx16
namespace Go.Proofs.YtjbihflpjkaifaaDoor.Pure
open Go.RowKit Go.Proofs.YtjbihflpjkaifaaDoor.G Go.Proofs.YtjbihflpjkaifaaDoorW.PrintWords Go.Proofs.YtjbihflpjkaifaaDoorW.PrintLast Go.Proofs.YtjbihflpjkaifaaDoorW.PrintMore Go.Proofs.YtjbihflpjkaifaaDoor.Plain
set_option linter.unusedVariables false
set_option linter.unusedSimpArgs false
theorem txt_eval (B : List UInt8) (u s d : Nat) (h : Lib.nDigits (u / 10 ^ s) = d) : txt B u s = if s = 0 then B ++ dgs d u else B ++ dgs d (u / 10 ^ s) ++ [46] ++ dgs s u := by
  subst h
  unfold txt
  by_cases hs : s = 0
  · subst hs
    simp
  · rw [if_neg hs, if_neg hs]
theorem t1 : dec_Text.f 0 0 = some ⟨#[48]⟩ := by
  have h := text_ok 0 0 (by decide) (by decide) (by decide)
  rw [txt_eval _ _ _ 1 (Lib.nDigits_small (by decide))] at h
  exact h
theorem t2 : dec_Text.f 0 3 = some ⟨#[48, 46, 48, 48, 48]⟩ := by
  have h := text_ok 0 3 (by decide) (by decide) (by decide)
  rw [txt_eval _ _ _ 1 (Lib.nDigits_small (by decide))] at h
  exact h
theorem t3 : dec_Text.f 5 0 = some ⟨#[53]⟩ := by
  have h := text_ok 5 0 (by decide) (by decide) (by decide)
  rw [txt_eval _ _ _ 1 (Lib.nDigits_small (by decide))] at h
  exact h
theorem t4 : dec_Text.f (-5) 0 = some ⟨#[45, 53]⟩ := by
  have h := text_ok (-5) 0 (by decide) (by decide) (by decide)
  rw [txt_eval _ _ _ 1 (Lib.nDigits_small (by decide))] at h
  exact h
theorem t5 : dec_Text.f 5 1 = some ⟨#[48, 46, 53]⟩ := by
  have h := text_ok 5 1 (by decide) (by decide) (by decide)
  rw [txt_eval _ _ _ 1 (Lib.nDigits_small (by decide))] at h
  exact h
theorem t6 : dec_Text.f (-1234) 2 = some ⟨#[45, 49, 50, 46, 51, 52]⟩ := by
  have h := text_ok (-1234) 2 (by decide) (by decide) (by decide)
  rw [txt_eval _ _ _ 2 (Lib.nDigits_unique 1 _ (by decide) (by decide))] at h
  exact h
theorem t7 : dec_Text.f 999999999999999999 18 = some ⟨#[48, 46, 57, 57, 57, 57, 57, 57, 57, 57, 57, 57, 57, 57, 57, 57, 57, 57, 57, 57]⟩ := by
  have h := text_ok 999999999999999999 18 (by decide) (by decide) (by decide)
  rw [txt_eval _ _ _ 1 (Lib.nDigits_small (by decide))] at h
  refine Eq.trans h ?_
  decide +kernel
theorem t8 : dec_Text.f 1 18 = some ⟨#[48, 46, 48, 48, 48, 48, 48, 48, 48, 48, 48, 48, 48, 48, 48, 48, 48, 48, 48, 49]⟩ := by
  have h := text_ok 1 18 (by decide) (by decide) (by decide)
  rw [txt_eval _ _ _ 1 (Lib.nDigits_small (by decide))] at h
  refine Eq.trans h ?_
  decide +kernel
theorem DecKnown : interlocutorlaw2_DecKnown.Pure := by
  intro a0 w0
  obtain ⟨k, hk⟩ : ∃ k : Nat, k = 100 := ⟨_, rfl⟩
  refine ⟨k, ?_⟩
  have hW := within_ok a0 8 (by decide) (by decide)
  obtain ⟨d, hd, hd2⟩ : ∃ d : Nat, a0 % 8 = (d : Int) ∧ d < 8 := ⟨(a0 % 8).toNat, by omega, by omega⟩
  rw [hd] at hW
  unfold interlocutorlaw2_DecKnown.f
  rw [known_ok k (by omega), Option.bind_some, if_pos rfl, t1, t2, t3, t4, t5, t6, t7, t8]
  simp only [Option.bind_some]
  rw [hW, Option.bind_some]
  clear hW hd hk w0
  have h : d = 0 ∨ d = 1 ∨ d = 2 ∨ d = 3 ∨ d = 4 ∨ d = 5 ∨ d = 6 ∨ d = 7 := by omega
  rcases h with rfl | rfl | rfl | rfl | rfl | rfl | rfl | rfl <;> decide +kernel
end Go.Proofs.YtjbihflpjkaifaaDoor.Pure
