/- Rows of readings: what is first (plain Lean, no program in sight). -/
set_option linter.unusedVariables false
set_option linter.unusedSimpArgs false
namespace Go.Proofs.YtlgndfplikhflaaDoorW.Rk
/-- A comparison of values, total, by which only equal ones are alike. -/
structure Tot {V : Type} (c : V → V → Int) : Prop where
  eq0 : ∀ a b, c a b = 0 ↔ a = b
  neg : ∀ a b, c b a = - c a b
  tr : ∀ a b d, c a b ≤ 0 → c b d ≤ 0 → c a d ≤ 0

section
variable {V R : Type} {c : V → V → Int} (T : Tot c) {v : R → V} {k : R → Int} (ext : ∀ a b : R, v a = v b → k a = k b → a = b)

theorem Tot.refl (T : Tot c) (a : V) : c a a = 0 := (T.eq0 a a).2 rfl
theorem Tot.lt_tr (T : Tot c) {a b d : V} (h1 : c a b < 0) (h2 : c b d ≤ 0) : c a d < 0 := by
  have h3 := T.tr a b d (by omega) h2
  rcases Int.lt_or_eq_of_le h3 with h | h
  · exact h
  · have e := (T.eq0 a d).1 h
    subst e
    have := T.neg a b
    omega

variable (c v k)
/-- Of two readings the first is before. -/
def rlt (a b : R) : Prop := k a < k b ∨ (k a = k b ∧ c (v a) (v b) < 0)
/-- .. or as the other. -/
def rle (a b : R) : Prop := k a < k b ∨ (k a = k b ∧ c (v a) (v b) ≤ 0)
instance (a b : R) : Decidable (rlt c v k a b) := by unfold rlt; exact inferInstance
instance (a b : R) : Decidable (rle c v k a b) := by unfold rle; exact inferInstance
/-- The first of each value. -/
def uniq [DecidableEq V] : List V → List R → List R
  | _, [] => []
  | s, r :: l => if v r ∈ s then uniq s l else r :: uniq (v r :: s) l
/-- Is a reading the least of its value? -/
def isMin (l : List R) (x : R) : Prop := x ∈ l ∧ ∀ y ∈ l, v y = v x → k x ≤ k y
variable {c v k}

include T in
theorem rlt_irrefl (a : R) : ¬ rlt c v k a a := by
  unfold rlt
  rw [T.refl]
  omega
include T in
theorem rlt_trans {a b d : R} (h1 : rlt c v k a b) (h2 : rlt c v k b d) : rlt c v k a d := by
  unfold rlt at *
  rcases h1 with h1 | ⟨e1, h1⟩ <;> rcases h2 with h2 | ⟨e2, h2⟩
  · exact Or.inl (by omega)
  · exact Or.inl (by omega)
  · exact Or.inl (by omega)
  · exact Or.inr ⟨by omega, T.lt_tr h1 (by omega)⟩
include T in
theorem rle_trans {a b d : R} (h1 : rle c v k a b) (h2 : rle c v k b d) : rle c v k a d := by
  unfold rle at *
  rcases h1 with h1 | ⟨e1, h1⟩ <;> rcases h2 with h2 | ⟨e2, h2⟩
  · exact Or.inl (by omega)
  · exact Or.inl (by omega)
  · exact Or.inl (by omega)
  · exact Or.inr ⟨by omega, T.tr _ _ _ h1 h2⟩
include T in
theorem rle_total (a b : R) : rle c v k a b ∨ rle c v k b a := by
  unfold rle
  have := T.neg (v a) (v b)
  omega
include T in
theorem rle_lt {a b : R} (h : rle c v k a b) (hv : v a ≠ v b) : rlt c v k a b := by
  unfold rle at h; unfold rlt
  have : c (v a) (v b) ≠ 0 := fun e => hv ((T.eq0 _ _).1 e)
  omega
theorem rle_cost {a b : R} (h : rle c v k a b) : k a ≤ k b := by unfold rle at h; omega

theorem uniq_sublist [DecidableEq V] : ∀ (s : List V) (l : List R), List.Sublist (uniq v s l) l
  | _, [] => List.Sublist.refl _
  | s, r :: l => by
    unfold uniq
    split
    · exact (uniq_sublist s l).cons r
    · exact (uniq_sublist _ l).cons_cons r
theorem uniq_out [DecidableEq V] : ∀ (s : List V) (l : List R) (x : R), x ∈ uniq v s l → v x ∉ s
  | _, [], x, h => by simp [uniq] at h
  | s, r :: l, x, h => by
    unfold uniq at h
    split at h
    · exact uniq_out s l x h
    · rcases List.mem_cons.1 h with rfl | h'
      · assumption
      · have := uniq_out _ l x h'
        exact fun hx => this (List.mem_cons_of_mem _ hx)
theorem uniq_apart [DecidableEq V] : ∀ (s : List V) (l : List R), (uniq v s l).Pairwise (fun a b => v a ≠ v b)
  | _, [] => List.Pairwise.nil
  | s, r :: l => by
    unfold uniq
    split
    · exact uniq_apart s l
    · refine List.Pairwise.cons (fun b hb e => ?_) (uniq_apart _ l)
      exact uniq_out _ l b hb (e ▸ List.mem_cons_self)
theorem uniq_min [DecidableEq V] : ∀ (s : List V) (l : List R), l.Pairwise (rle c v k) → ∀ x, x ∈ uniq v s l → ∀ y ∈ l, v y = v x → k x ≤ k y
  | _, [], _, x, h => by simp [uniq] at h
  | s, r :: l, hl, x, h => by
    have hl' := List.pairwise_cons.1 hl
    have hout := uniq_out s (r :: l) x h
    unfold uniq at h
    intro y hy e
    split at h
    · next hs =>
      rcases List.mem_cons.1 hy with rfl | hy'
      · exact absurd (e ▸ hs) hout
      · exact uniq_min s l hl'.2 x h y hy' e
    · next hs =>
      rcases List.mem_cons.1 h with rfl | h'
      · rcases List.mem_cons.1 hy with rfl | hy'
        · exact Int.le_refl _
        · exact rle_cost (hl'.1 y hy')
      · have ho := uniq_out _ l x h'
        rcases List.mem_cons.1 hy with rfl | hy'
        · exact absurd (e ▸ List.mem_cons_self) ho
        · exact uniq_min _ l hl'.2 x h' y hy' e
include ext in
theorem uniq_in [DecidableEq V] : ∀ (s : List V) (l : List R), l.Pairwise (rle c v k) → ∀ x ∈ l, v x ∉ s → (∀ y ∈ l, v y = v x → k x ≤ k y) → x ∈ uniq v s l
  | _, [], _, x, h, _, _ => by simp at h
  | s, r :: l, hl, x, h, hs, hm => by
    have hl' := List.pairwise_cons.1 hl
    unfold uniq
    split
    · next hr =>
      rcases List.mem_cons.1 h with rfl | h'
      · exact absurd hr hs
      · exact uniq_in s l hl'.2 x h' hs (fun y hy => hm y (List.mem_cons_of_mem _ hy))
    · next hr =>
      by_cases e : v r = v x
      · have : x = r := by
          rcases List.mem_cons.1 h with rfl | h'
          · rfl
          · have h1 := rle_cost (hl'.1 x h')
            have h2 := hm r List.mem_cons_self e
            exact ext _ _ e.symm (by omega)
        subst this
        exact List.mem_cons_self
      · rcases List.mem_cons.1 h with rfl | h'
        · exact absurd rfl e
        · refine List.mem_cons_of_mem _ (uniq_in _ l hl'.2 x h' ?_ (fun y hy => hm y (List.mem_cons_of_mem _ hy)))
          intro hx
          rcases List.mem_cons.1 hx with h1 | h1
          · exact e h1.symm
          · exact hs h1

include T in
/-- Two rows that rise, and hold the same, are one. -/
theorem rising_eq : ∀ (a b : List R), a.Pairwise (rlt c v k) → b.Pairwise (rlt c v k) → (∀ x, x ∈ a ↔ x ∈ b) → a = b
  | [], [], _, _, _ => rfl
  | [], y :: b, _, _, h => by have := (h y).2 List.mem_cons_self; simp at this
  | x :: a, [], _, _, h => by have := (h x).1 List.mem_cons_self; simp at this
  | x :: a, y :: b, ha, hb, h => by
    have ha' := List.pairwise_cons.1 ha
    have hb' := List.pairwise_cons.1 hb
    have e : x = y := by
      rcases List.mem_cons.1 ((h x).1 List.mem_cons_self) with e | h1
      · exact e
      · rcases List.mem_cons.1 ((h y).2 List.mem_cons_self) with e | h2
        · exact e.symm
        · exact absurd (rlt_trans T (ha'.1 y h2) (hb'.1 x h1)) (rlt_irrefl T x)
    subst e
    refine congrArg (x :: ·) (rising_eq a b ha'.2 hb'.2 fun z => ⟨fun hz => ?_, fun hz => ?_⟩)
    · rcases List.mem_cons.1 ((h z).1 (List.mem_cons_of_mem _ hz)) with e | h1
      · subst e; exact absurd (ha'.1 z hz) (rlt_irrefl T z)
      · exact h1
    · rcases List.mem_cons.1 ((h z).2 (List.mem_cons_of_mem _ hz)) with e | h1
      · subst e; exact absurd (hb'.1 z hz) (rlt_irrefl T z)
      · exact h1

variable (c v k)
/-- The best of a row: each value once, with its least cost, in order. -/
def best [DecidableEq V] (l : List R) : List R := uniq v [] (l.mergeSort fun a b => decide (rle c v k a b))
variable {c v k}
include T in
theorem sorted_all (l : List R) : (l.mergeSort fun a b => decide (rle c v k a b)).Pairwise (rle c v k) := by
  have h := List.pairwise_mergeSort (le := fun a b => decide (rle c v k a b)) (fun a b d h1 h2 => decide_eq_true (rle_trans T (of_decide_eq_true h1) (of_decide_eq_true h2))) (fun a b => by
    rcases rle_total (v := v) (k := k) T a b with h | h <;> simp [h]) l
  exact h.imp fun h => of_decide_eq_true h
include T in
theorem uniq_rising [DecidableEq V] (l : List R) (h : l.Pairwise (rle c v k)) : (uniq v [] l).Pairwise (rlt c v k) :=
  ((h.sublist (uniq_sublist [] l)).and (uniq_apart [] l)).imp fun ⟨h1, h2⟩ => rle_lt T h1 h2
include ext in
theorem uniq_mem [DecidableEq V] (l : List R) (h : l.Pairwise (rle c v k)) (x : R) : x ∈ uniq v [] l ↔ isMin v k l x :=
  ⟨fun hx => ⟨(uniq_sublist [] l).subset hx, fun y hy e => uniq_min [] l h x hx y hy e⟩, fun ⟨h1, h2⟩ => uniq_in ext [] l h x h1 (by simp) h2⟩
include T in
theorem best_rising [DecidableEq V] (l : List R) : (best c v k l).Pairwise (rlt c v k) := uniq_rising T _ (sorted_all T l)
include T ext in
theorem best_mem [DecidableEq V] (l : List R) (x : R) : x ∈ best c v k l ↔ isMin v k l x := by
  unfold best
  rw [uniq_mem ext _ (sorted_all T l)]
  unfold isMin
  simp only [List.mem_mergeSort]
include T ext in
/-- A row that rises, and holds the least of each value, is the best. -/
theorem best_of [DecidableEq V] (l a : List R) (h1 : a.Pairwise (rlt c v k)) (h2 : ∀ x, x ∈ a ↔ isMin v k l x) : a = best c v k l :=
  rising_eq T _ _ h1 (best_rising T l) fun x => (h2 x).trans (best_mem T ext l x).symm
include T ext in
/-- The first ones of a row in whatever order, sorted. -/
theorem best_sorted [DecidableEq V] (l d : List R) (hp : d.Perm l) (hd : d.Pairwise (rle c v k)) : uniq v [] d = best c v k l :=
  best_of T ext l _ (uniq_rising T d hd) fun x => by
    rw [uniq_mem ext d hd]
    unfold isMin
    simp only [hp.mem_iff]
theorem best_length [DecidableEq V] (l : List R) : (best c v k l).length ≤ l.length := by
  have := (uniq_sublist (v := v) [] (l.mergeSort fun a b => decide (rle c v k a b))).length_le
  rw [List.length_mergeSort] at this
  exact this
end

/-! ### The document's own -/
section
variable {V R : Type} {c : V → V → Int} (T : Tot c) {v : R → V} {k : R → Int} (ext : ∀ a b : R, v a = v b → k a = k b → a = b)
variable (c v k)
/-- A reading, among others by value, with the least cost. -/
def add : List R → R → List R
  | [], r => [r]
  | x :: l, r => if c (v x) (v r) < 0 then x :: add l r else if c (v x) (v r) = 0 then (if k r < k x then r :: l else x :: l) else r :: x :: l
variable {c v k}
end
end Go.Proofs.YtlgndfplikhflaaDoorW.Rk
