/- Plain facts on UTF-8: a string's signs told by its list of bytes. -/
import Derived.Test.YtgbnfjhmobeloaaPlain3r
namespace Go.Proofs.Ytgbnfjhmobeloaa.Plain
open Go.RowKit Go.Proofs.Ytgbnfjhmobeloaa.G Go.Proofs.YtgbnfjhmobeloaaW.PrintWords Go.Proofs.YtgbnfjhmobeloaaW.PrintLast Go.Proofs.YtgbnfjhmobeloaaW.PrintMore
set_option linter.unusedVariables false
set_option linter.unusedSimpArgs false
/-- Is the byte number k one that goes on with a sign? -/
def ctn (t : List Int) (k : Nat) : Bool := match t[k]? with | some b => b / 64 == 2 | none => false
/-- The sign that a list of bytes begins with, and its length. -/
def decL (l : List Int) : Int × Nat :=
  let b0 := l.getD 0 0
  if b0 < 128 then (b0, 1)
  else if b0 / 32 = 6 ∧ ctn l 1 = true then
    let c := b0 % 32 * 64 + l.getD 1 0 % 64
    if 128 ≤ c then (c, 2) else (65533, 1)
  else if b0 / 16 = 14 ∧ ctn l 1 = true ∧ ctn l 2 = true then
    let c := b0 % 16 * 4096 + l.getD 1 0 % 64 * 64 + l.getD 2 0 % 64
    if 2048 ≤ c ∧ ¬ (55296 ≤ c ∧ c ≤ 57343) then (c, 3) else (65533, 1)
  else if b0 / 8 = 30 ∧ ctn l 1 = true ∧ ctn l 2 = true ∧ ctn l 3 = true then
    let c := b0 % 8 * 262144 + l.getD 1 0 % 64 * 4096 + l.getD 2 0 % 64 * 64 + l.getD 3 0 % 64
    if 65536 ≤ c ∧ c ≤ 1114111 then (c, 4) else (65533, 1)
  else (65533, 1)
theorem get_bytes (s : ByteArray) (i : Nat) (h : i < s.size) : ((s.get! i).toNat : Int) = (bytesOf s).getD i 0 := by
  have h' : i < s.data.toList.length := by rw [data_length]; exact h
  unfold bytesOf
  rw [List.getD_eq_getElem?_getD, List.getElem?_map, List.getElem?_eq_getElem h']
  simp only [Option.map_some, Option.getD_some]
  congr 2
  have hs : i < s.data.size := by simpa using h'
  simp only [ByteArray.get!]
  rw [getElem!_pos s.data i hs]
  rfl
theorem byte_range (s : ByteArray) : ∀ x ∈ bytesOf s, 0 ≤ x ∧ x ≤ 255 := by
  intro x hx
  unfold bytesOf at hx
  obtain ⟨b, _, rfl⟩ := List.mem_map.1 hx
  have := b.toNat_lt
  omega
theorem getD_drop (l : List Int) (i k : Nat) : (l.drop i).getD k 0 = l.getD (i + k) 0 := by
  rw [List.getD_eq_getElem?_getD, List.getD_eq_getElem?_getD, List.getElem?_drop]
theorem getD_range (l : List Int) (h : ∀ x ∈ l, 0 ≤ x ∧ x ≤ 255) (k : Nat) : 0 ≤ l.getD k 0 ∧ l.getD k 0 ≤ 255 := by
  rw [List.getD_eq_getElem?_getD]
  rcases Nat.lt_or_ge k l.length with hk | hk
  · rw [List.getElem?_eq_getElem hk]
    exact h _ (List.getElem_mem hk)
  · rw [List.getElem?_eq_none hk]
    simp
theorem ctn_iff (l : List Int) (k : Nat) : ctn l k = true ↔ k < l.length ∧ l.getD k 0 / 64 = 2 := by
  unfold ctn
  rw [List.getD_eq_getElem?_getD]
  rcases Nat.lt_or_ge k l.length with hk | hk
  · rw [List.getElem?_eq_getElem hk]
    simp [hk]
  · rw [List.getElem?_eq_none hk]
    first | (simp; done) | (simp; omega)
theorem decode_core (n0 n1 n2 n3 : Nat) (k1 k2 k3 : Bool) (a0 a1 a2 a3 : Int) (e0 : (n0 : Int) = a0) (g1 : k1 = true → (n1 : Int) = a1) (g2 : k2 = true → (n2 : Int) = a2) (g3 : k3 = true → (n3 : Int) = a3) (r0 : 0 ≤ a0 ∧ a0 ≤ 255) (r1 : 0 ≤ a1 ∧ a1 ≤ 255) (r2 : 0 ≤ a2 ∧ a2 ≤ 255) (r3 : 0 ≤ a3 ∧ a3 ≤ 255)
    (p : Nat × Nat) (q : Int × Nat)
    (hp : p = if n0 < 128 then (n0, 1) else if (n0 / 32 == 6 && k1) = true then (if 128 ≤ n0 % 32 * 64 + n1 % 64 then (n0 % 32 * 64 + n1 % 64, 2) else (Utf8.runeError, 1)) else if (n0 / 16 == 14 && k1 && k2) = true then (if (decide (2048 ≤ n0 % 16 * 4096 + n1 % 64 * 64 + n2 % 64) && Utf8.valid ((n0 % 16 * 4096 + n1 % 64 * 64 + n2 % 64 : Nat) : Int)) = true then (n0 % 16 * 4096 + n1 % 64 * 64 + n2 % 64, 3) else (Utf8.runeError, 1)) else if (n0 / 8 == 30 && k1 && k2 && k3) = true then (if (decide (65536 ≤ n0 % 8 * 262144 + n1 % 64 * 4096 + n2 % 64 * 64 + n3 % 64) && Utf8.valid ((n0 % 8 * 262144 + n1 % 64 * 4096 + n2 % 64 * 64 + n3 % 64 : Nat) : Int)) = true then (n0 % 8 * 262144 + n1 % 64 * 4096 + n2 % 64 * 64 + n3 % 64, 4) else (Utf8.runeError, 1)) else (Utf8.runeError, 1))
    (hq : q = if a0 < 128 then (a0, 1) else if a0 / 32 = 6 ∧ k1 = true then (if 128 ≤ a0 % 32 * 64 + a1 % 64 then (a0 % 32 * 64 + a1 % 64, 2) else (65533, 1)) else if a0 / 16 = 14 ∧ k1 = true ∧ k2 = true then (if 2048 ≤ a0 % 16 * 4096 + a1 % 64 * 64 + a2 % 64 ∧ ¬ (55296 ≤ a0 % 16 * 4096 + a1 % 64 * 64 + a2 % 64 ∧ a0 % 16 * 4096 + a1 % 64 * 64 + a2 % 64 ≤ 57343) then (a0 % 16 * 4096 + a1 % 64 * 64 + a2 % 64, 3) else (65533, 1)) else if a0 / 8 = 30 ∧ k1 = true ∧ k2 = true ∧ k3 = true then (if 65536 ≤ a0 % 8 * 262144 + a1 % 64 * 4096 + a2 % 64 * 64 + a3 % 64 ∧ a0 % 8 * 262144 + a1 % 64 * 4096 + a2 % 64 * 64 + a3 % 64 ≤ 1114111 then (a0 % 8 * 262144 + a1 % 64 * 4096 + a2 % 64 * 64 + a3 % 64, 4) else (65533, 1)) else (65533, 1)) :
    (p.1 : Int) = q.1 ∧ p.2 = q.2 := by
  by_cases c1 : n0 < 128
  · rw [if_pos c1] at hp
    rw [if_pos (by omega)] at hq
    rw [hp, hq]
    exact ⟨e0, rfl⟩
  rw [if_neg c1] at hp
  rw [if_neg (by omega)] at hq
  by_cases c2 : a0 / 32 = 6 ∧ k1 = true
  · have h1 := g1 c2.2
    rw [if_pos c2] at hq
    rw [if_pos (by rw [c2.2, Bool.and_true, beq_iff_eq]; omega)] at hp
    by_cases c3 : 128 ≤ a0 % 32 * 64 + a1 % 64
    · rw [if_pos c3] at hq
      rw [if_pos (by omega)] at hp
      rw [hp, hq]
      exact ⟨by simp only []; omega, rfl⟩
    · rw [if_neg c3] at hq
      rw [if_neg (by omega)] at hp
      rw [hp, hq]
      exact ⟨rfl, rfl⟩
  rw [if_neg c2] at hq
  rw [if_neg (by rw [Bool.and_eq_true, beq_iff_eq]; intro hh; exact c2 ⟨by omega, hh.2⟩)] at hp
  by_cases c4 : a0 / 16 = 14 ∧ k1 = true ∧ k2 = true
  · have h1 := g1 c4.2.1
    have h2 := g2 c4.2.2
    rw [if_pos c4] at hq
    rw [if_pos (by rw [c4.2.1, c4.2.2, Bool.and_true, Bool.and_true, beq_iff_eq]; omega)] at hp
    unfold Utf8.valid Utf8.runeError at hp
    by_cases c5 : 2048 ≤ a0 % 16 * 4096 + a1 % 64 * 64 + a2 % 64 ∧ ¬ (55296 ≤ a0 % 16 * 4096 + a1 % 64 * 64 + a2 % 64 ∧ a0 % 16 * 4096 + a1 % 64 * 64 + a2 % 64 ≤ 57343)
    · rw [if_pos c5] at hq
      rw [if_pos (by simp only [Bool.and_eq_true, Bool.or_eq_true, decide_eq_true_eq]; omega)] at hp
      rw [hp, hq]
      exact ⟨by simp only []; omega, rfl⟩
    · rw [if_neg c5] at hq
      rw [if_neg (by simp only [Bool.and_eq_true, Bool.or_eq_true, decide_eq_true_eq]; omega)] at hp
      rw [hp, hq]
      exact ⟨rfl, rfl⟩
  rw [if_neg c4] at hq
  rw [if_neg (by simp only [Bool.and_eq_true, beq_iff_eq]; intro hh; exact c4 ⟨by omega, hh.1.2, hh.2⟩)] at hp
  by_cases c6 : a0 / 8 = 30 ∧ k1 = true ∧ k2 = true ∧ k3 = true
  · have h1 := g1 c6.2.1
    have h2 := g2 c6.2.2.1
    have h3 := g3 c6.2.2.2
    rw [if_pos c6] at hq
    rw [if_pos (by rw [c6.2.1, c6.2.2.1, c6.2.2.2, Bool.and_true, Bool.and_true, Bool.and_true, beq_iff_eq]; omega)] at hp
    unfold Utf8.valid Utf8.runeError at hp
    by_cases c7 : 65536 ≤ a0 % 8 * 262144 + a1 % 64 * 4096 + a2 % 64 * 64 + a3 % 64 ∧ a0 % 8 * 262144 + a1 % 64 * 4096 + a2 % 64 * 64 + a3 % 64 ≤ 1114111
    · rw [if_pos c7] at hq
      rw [if_pos (by simp only [Bool.and_eq_true, Bool.or_eq_true, decide_eq_true_eq]; omega)] at hp
      rw [hp, hq]
      exact ⟨by simp only []; omega, rfl⟩
    · rw [if_neg c7] at hq
      rw [if_neg (by simp only [Bool.and_eq_true, Bool.or_eq_true, decide_eq_true_eq]; omega)] at hp
      rw [hp, hq]
      exact ⟨rfl, rfl⟩
  rw [if_neg c6] at hq
  rw [if_neg (by simp only [Bool.and_eq_true, beq_iff_eq]; intro hh; exact c6 ⟨by omega, hh.1.1.2, hh.1.2, hh.2⟩)] at hp
  rw [hp, hq]
  exact ⟨rfl, rfl⟩
theorem decode_eq (s : ByteArray) (pos : Nat) (h : pos < s.size) : ((Utf8.decode s pos).1 : Int) = (decL ((bytesOf s).drop pos)).1 ∧ (Utf8.decode s pos).2 = (decL ((bytesOf s).drop pos)).2 := by
  have hl := bytesOf_length s
  have hb := byte_range s
  have e0 : ((s.get! (pos + 0)).toNat : Int) = ((bytesOf s).drop pos).getD 0 0 := by rw [getD_drop]; exact get_bytes s _ (by omega)
  have hc : ∀ k : Nat, (decide (pos + k < s.size) && (s.get! (pos + k)).toNat / 64 == 2) = ctn ((bytesOf s).drop pos) k := by
    intro k
    rw [Bool.eq_iff_iff, ctn_iff, List.length_drop, hl, getD_drop]
    simp only [Bool.and_eq_true, decide_eq_true_eq, beq_iff_eq]
    constructor
    · rintro ⟨h1, h2⟩
      refine ⟨by omega, ?_⟩
      rw [← get_bytes s (pos + k) h1]
      omega
    · rintro ⟨h1, h2⟩
      refine ⟨by omega, ?_⟩
      rw [← get_bytes s (pos + k) (by omega)] at h2
      omega
  have hg : ∀ k : Nat, ctn ((bytesOf s).drop pos) k = true → ((s.get! (pos + k)).toNat : Int) = ((bytesOf s).drop pos).getD k 0 := by
    intro k hk
    rw [ctn_iff, List.length_drop, hl] at hk
    rw [getD_drop]
    exact get_bytes s _ (by omega)
  have hr := fun k => getD_range ((bytesOf s).drop pos) (fun x hx => hb x (List.mem_of_mem_drop hx)) k
  have r0 := hr 0
  have r1 := hr 1
  have r2 := hr 2
  have r3 := hr 3
  exact decode_core (s.get! (pos + 0)).toNat (s.get! (pos + 1)).toNat (s.get! (pos + 2)).toNat (s.get! (pos + 3)).toNat _ _ _ _ _ _ _ e0 (hg 1) (hg 2) (hg 3) r0 r1 r2 r3 _ _ (by simp only [Utf8.decode, hc, ge_iff_le]) (by simp only [decL])
end Go.Proofs.Ytgbnfjhmobeloaa.Plain
