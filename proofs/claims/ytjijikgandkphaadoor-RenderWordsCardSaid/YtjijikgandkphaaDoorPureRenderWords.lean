/- RenderWords holds for every input: of several words for a value the first one is written; there is none for another. No condition. -/
import Derived.Test.YtjijikgandkphaaDoorGx25
import Derived.Test.YtjijikgandkphaaDoorPlain11
namespace Go.Proofs.YtjijikgandkphaaDoor.Pure
open Go.RowKit Go.Proofs.YtjijikgandkphaaDoor.G Go.Proofs.YtjijikgandkphaaDoorW.PrintWords Go.Proofs.YtjijikgandkphaaDoorW.PrintLast Go.Proofs.YtjijikgandkphaaDoor.Plain
set_option linter.unusedVariables false
set_option linter.unusedSimpArgs false
abbrev abc : ByteArray := ⟨#[97, 98, 99, 100, 101, 102, 103, 104, 105, 106, 107, 108, 109, 110, 111]⟩
abbrev wSty : List S31 := [⟨4, [⟨2, ⟨#[]⟩, 1, 0, 1⟩]⟩]
theorem abc_one : ∀ c : Fin 15, (abc.extract c.val (c.val + 1)).toList ≠ [] ∧ (abc.extract c.val (c.val + 1)).size ≤ 1 := by decide +kernel
set_option maxRecDepth 100000 in
theorem months : ∀ c : Fin 12, act_Right.f 60 4 [2000, 1 + (c.val : Int), 1] = some true ∧ (fieldsF 60 4 [2000, 1 + (c.val : Int), 1]).map (fun fs => (fs.length, (rd_T81 fs 1).f0)) = some (3, 1 + (c.val : Int)) := by decide +kernel
/-- What has been found so far. -/
structure Found (m : Int) (want : ByteArray) (lex : List S24) : Prop where
  small : want.size ≤ 1
  none_ : want.toList = [] → lex.find? (hits 1 m) = none
  some_ : want.toList ≠ [] → ∃ x, lex.find? (hits 1 m) = some x ∧ x.f0 = want
theorem words_write (m : Int) (h0 : 1 ≤ m) (h1 : m ≤ 12) (want : ByteArray) (lex : List S24) (h : Found m want lex) (k : Nat) (hk : 60 ≤ k) :
    ∃ b, render_Write.f k ⟨#[]⟩ 0 0 lex [] wSty 0 4 [2000, m, 1] = some b ∧ ((want.toList = [] ∧ b = (⟨#[]⟩, 7)) ∨ (want.toList ≠ [] ∧ b = (want, 0))) := by
  obtain ⟨hr, hf⟩ := months ⟨(m - 1).toNat, by omega⟩
  have e : 1 + (((⟨(m - 1).toNat, by omega⟩ : Fin 12).val : Nat) : Int) = m := by show 1 + (((m - 1).toNat : Nat) : Int) = m; omega
  rw [e] at hr hf
  obtain ⟨fs, hfs, hf2⟩ := Option.map_eq_some_iff.1 hf
  have hl : fs.length = 3 := congrArg Prod.fst hf2
  have hm : (rd_T81 fs 1).f0 = m := congrArg Prod.snd hf2
  have hw : ∀ b, partsF 60 0 lex fs [⟨2, ⟨#[]⟩, 1, 0, 1⟩] ⟨#[]⟩ = some b → render_Write.f k ⟨#[]⟩ 0 0 lex [] wSty 0 4 [2000, m, 1] = some b := fun b hb => by
    refine at_rounds (g := fun k => render_Write.f k ⟨#[]⟩ 0 0 lex [] wSty 0 4 [2000, m, 1]) (fun k => render_Write.mono _ _ _ _ _ _ _ _ _ k) hk ?_
    show writeF 60 0 lex wSty 0 4 [2000, m, 1] = some b
    unfold writeF
    rw [if_neg (by decide), if_neg (by decide), hr, Option.bind_some, if_neg (by decide), hfs, Option.bind_some]
    exact hb
  have hp : partF 60 0 lex fs ⟨2, ⟨#[]⟩, 1, 0, 1⟩ = some (oks (wordF 1 m lex)) := by
    unfold partF
    rw [if_neg (by decide), if_neg (by rw [hl]; decide), if_pos rfl, hm]
  by_cases hwt : want.toList = []
  · refine ⟨_, hw _ ?_, Or.inl ⟨hwt, rfl⟩⟩
    rw [partsF, hp, Option.bind_some, wordF, h.none_ hwt]
    rfl
  · obtain ⟨x, hx, hx0⟩ := h.some_ hwt
    refine ⟨_, hw _ ?_, Or.inr ⟨hwt, rfl⟩⟩
    have e1 : oks (wordF 1 m lex) = (want, true) := by rw [wordF, hx, ← hx0]; rfl
    rw [partsF, hp, Option.bind_some, e1, if_neg (by show ¬ (true = false); decide), if_pos (by have := h.small; show 0 + want.size ≤ 9223372036854775807; omega), partsF]
    have e2 : (⟨#[]⟩ : ByteArray) ++ want = want := by
      apply ByteArray.ext
      simp
    rw [e2, if_neg (by have := h.small; omega)]
theorem words_end (m : Int) (h0 : 1 ≤ m) (h1 : m ≤ 12) (want : ByteArray) (lex : List S24) (h : Found m want lex) (k : Nat) (hk : 60 ≤ k) :
    ((render_Write.f k ⟨#[]⟩ 0 0 lex ([] : List (S96)) (([(⟨4, (([(⟨2, (⟨#[]⟩ : ByteArray), 1, 0, 1⟩ : S27)] : List (S27)))⟩ : S31)] : List (S31))) 0 4 (([2000, m, 1] : List Int))).bind fun bt400 => (if want.toList = ([] : List UInt8) then (if bt400.2 = 7 then (some (bt400.1.toList == ([] : List UInt8))) else (some false)) else (if bt400.2 = 0 then (some (bt400.1.toList == want.toList)) else (some false)))) = some true := by
  obtain ⟨b, hb, hc⟩ := words_write m h0 h1 want lex h k hk
  rw [show render_Write.f k ⟨#[]⟩ 0 0 lex [] [⟨4, [⟨2, ⟨#[]⟩, 1, 0, 1⟩]⟩] 0 4 [2000, m, 1] = some b from hb, Option.bind_some]
  rcases hc with ⟨hw, rfl⟩ | ⟨hw, rfl⟩
  · rw [if_pos hw, if_pos rfl]
    show some ((⟨#[]⟩ : ByteArray).toList == []) = some true
    decide +kernel
  · rw [if_neg hw, if_pos rfl]
    simp
theorem words_loop (ns : List Int) (hns : ns.length ≤ 9223372036854775807) (m : Int) (h0 : 1 ≤ m) (h1 : m ≤ 12) : ∀ (d i k : Nat) (want : ByteArray) (lex : List S24), i + d = 15 → i ≤ ns.length → lex.length = i → Found m want lex → 2 * d + 62 ≤ k →
    interlocutorlaw11_RenderWords.l0 k ns want m (i : Int) ⟨#[]⟩ 0 0 lex = some true
  | d, i, k, want, lex, hd, hi, hlex, hF, hk => by
    obtain ⟨k1, rfl⟩ : ∃ q, k = q + 2 := ⟨k - 2, by omega⟩
    rw [interlocutorlaw11_RenderWords.l0]
    by_cases hlt : (i : Int) < (ns.length : Int)
    · rw [if_pos hlt]
      cases d with
      | zero =>
        rw [decide_eq_false (by omega), interlocutorlaw11_RenderWords.j1, if_neg (by decide)]
        exact words_end m h0 h1 want lex hF k1 (by omega)
      | succ d =>
        rw [decide_eq_true (show (i : Int) < 15 by omega), interlocutorlaw11_RenderWords.j1, if_pos rfl]
        have hwr : wrap64 ((i : Int) + 1) = ((i + 1 : Nat) : Int) := by unfold wrap64; omega
        rw [if_pos (by omega), hwr, if_pos (by omega), if_pos (by omega), if_pos hlt, within_ok _ 2 (by decide) (by decide), Option.bind_some, within_ok _ 4 (by decide) (by decide), Option.bind_some, if_pos (by omega), Option.bind_some]
        rw [show ((i : Int).toNat) = i from Int.toNat_natCast i, show (((i + 1 : Nat) : Int).toNat) = i + 1 from Int.toNat_natCast (i + 1)]
        obtain ⟨c1, hc1⟩ : ∃ z, z = wrap64 (1 + rd ns (i : Int) % 2) := ⟨_, rfl⟩
        obtain ⟨c2, hc2⟩ : ∃ z, z = wrap64 (1 + wrap64 (Int.tdiv (rd ns (i : Int)) 2) % 4) := ⟨_, rfl⟩
        rw [← hc1, ← hc2]
        obtain ⟨a1, a2⟩ := abc_one ⟨i, by omega⟩
        have step : ∀ want', Found m want' (lex ++ [⟨abc.extract i (i + 1), c1, c2⟩]) → interlocutorlaw11_RenderWords.l0 k1 ns want' m ((i + 1 : Nat) : Int) ⟨#[]⟩ 0 0 (lex ++ [⟨abc.extract i (i + 1), c1, c2⟩]) = some true := fun want' hF' =>
          words_loop ns hns m h0 h1 d (i + 1) k1 want' _ (by omega) (by omega) (by rw [List.length_append, hlex]; rfl) hF' (by omega)
        have kept : ¬ (want.toList = [] ∧ c1 = 1 ∧ c2 = m) → Found m want (lex ++ [⟨abc.extract i (i + 1), c1, c2⟩]) := fun hn => ⟨hF.small, fun hw => by
          rw [List.find?_append, hF.none_ hw, Option.none_or, List.find?_cons]
          have hh : hits 1 m ⟨abc.extract i (i + 1), c1, c2⟩ = false := by
            show (c1 == 1 && c2 == m) = false
            rw [Bool.and_eq_false_iff]
            by_cases e1 : c1 = 1
            · exact Or.inr (beq_eq_false_iff_ne.2 (fun e2 => hn ⟨hw, e1, e2⟩))
            · exact Or.inl (beq_eq_false_iff_ne.2 e1)
          rw [hh]
          rfl, fun hw => by
          obtain ⟨x, hx, hx0⟩ := hF.some_ hw
          exact ⟨x, by rw [List.find?_append, hx, Option.some_or], hx0⟩⟩
        by_cases hw : want.toList = []
        · rw [if_pos hw]
          by_cases e1 : c1 = 1
          · rw [if_pos e1]
            by_cases e2 : c2 = m
            · rw [if_pos e2]
              refine step _ ⟨a2, fun hn => absurd hn a1, fun _ => ⟨⟨abc.extract i (i + 1), c1, c2⟩, ?_, rfl⟩⟩
              rw [List.find?_append, hF.none_ hw, Option.none_or, List.find?_cons]
              have hh : hits 1 m ⟨abc.extract i (i + 1), c1, c2⟩ = true := by
                show (c1 == 1 && c2 == m) = true
                rw [e1, e2]
                simp
              rw [hh]
            · rw [if_neg e2]
              exact step _ (kept (fun h => e2 h.2.2))
          · rw [if_neg e1]
            exact step _ (kept (fun h => e1 h.2.1))
        · rw [if_neg hw]
          exact step _ (kept (fun h => hw h.1))
    · rw [if_neg hlt, interlocutorlaw11_RenderWords.j1, if_neg (by decide)]
      exact words_end m h0 h1 want lex hF k1 (by omega)
theorem RenderWords : interlocutorlaw11_RenderWords.Pure := by
  intro ns a1 hns _ _ _
  refine ⟨200, ?_⟩
  unfold interlocutorlaw11_RenderWords.f
  rw [known_at 200 (by decide), Option.bind_some, if_pos rfl, within_ok a1 12 (by decide) (by decide), Option.bind_some]
  have h1 := Int.emod_nonneg a1 (show (12 : Int) ≠ 0 by decide)
  have h2 := Int.emod_lt_of_pos a1 (show (0 : Int) < 12 by decide)
  rw [show wrap64 (1 + a1 % 12) = 1 + a1 % 12 by unfold wrap64; omega]
  exact words_loop ns (by unfold maxLen at hns; omega) (1 + a1 % 12) (by omega) (by omega) 15 0 200 ⟨#[]⟩ [] rfl (by omega) rfl ⟨by decide, fun _ => rfl, fun h => absurd (show (⟨#[]⟩ : ByteArray).toList = [] by decide +kernel) h⟩ (by decide)
end Go.Proofs.YtjijikgandkphaaDoor.Pure
