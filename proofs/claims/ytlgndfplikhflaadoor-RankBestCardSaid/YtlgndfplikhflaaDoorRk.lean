set_option linter.unusedVariables false
set_option linter.unusedSimpArgs false
namespace Go.Proofs.YtlgndfplikhflaaDoorW.Rk
structure Tot {V : Type} (c : V → V → Int) : Prop where
  eq0 : ∀ a b, c a b = 0 ↔ a = b
  neg : ∀ a b, c b a = - c a b
  tr : ∀ a b d, c a b ≤ 0 → c b d ≤ 0 → c a d ≤ 0
section
variable {V R : Type} {c : V → V → Int} (T : Tot c) {v : R → V} {k : R → Int} (ext : ∀ a b : R, v a = v b → k a = k b → a = b)
theorem Tot.refl (T : Tot c) (a : V) : c a a = 0 := (T.eq0 a a).2 rfl
theorem Tot.lt_tr (T : Tot c) {a b d : V} (h1 : c a b < 0) (h2 : c b d ≤ 0) : c a d < 0 := by
  have h3 := T.tr a b d (by omega) h2
  rcases Int.lt_or_eq_of_le h3 with h | h
  · exact h
  · have e := (T.eq0 a d).1 h
    subst e
    have := T.neg a b
    omega
theorem Tot.tr_lt (T : Tot c) {a b d : V} (h1 : c a b ≤ 0) (h2 : c b d < 0) : c a d < 0 := by
  have h3 := T.tr a b d h1 (by omega)
  rcases Int.lt_or_eq_of_le h3 with h | h
  · exact h
  · have e := (T.eq0 a d).1 h
    subst e
    have := T.neg a b
    omega
variable (c v k)
def rlt (a b : R) : Prop := k a < k b ∨ (k a = k b ∧ c (v a) (v b) < 0)
def rle (a b : R) : Prop := k a < k b ∨ (k a = k b ∧ c (v a) (v b) ≤ 0)
instance (a b : R) : Decidable (rlt c v k a b) := by unfold rlt; exact inferInstance
instance (a b : R) : Decidable (rle c v k a b) := by unfold rle; exact inferInstance
def uniq [DecidableEq V] : List V → List R → List R
  | _, [] => []
  | s, r :: l => if v r ∈ s then uniq s l else r :: uniq (v r :: s) l
def isMin (l : List R) (x : R) : Prop := x ∈ l ∧ ∀ y ∈ l, v y = v x → k x ≤ k y
variable {c v k}
include T in
theorem rlt_irrefl (a : R) : ¬ rlt c v k a a := by
  unfold rlt
  rw [T.refl]
  omega
include T in
theorem rlt_trans {a b d : R} (h1 : rlt c v k a b) (h2 : rlt c v k b d) : rlt c v k a d := by
  unfold rlt at *
  rcases h1 with h1 | ⟨e1, h1⟩ <;> rcases h2 with h2 | ⟨e2, h2⟩
  · exact Or.inl (by omega)
  · exact Or.inl (by omega)
  · exact Or.inl (by omega)
  · exact Or.inr ⟨by omega, T.lt_tr h1 (by omega)⟩
include T in
theorem rle_trans {a b d : R} (h1 : rle c v k a b) (h2 : rle c v k b d) : rle c v k a d := by
  unfold rle at *
  rcases h1 with h1 | ⟨e1, h1⟩ <;> rcases h2 with h2 | ⟨e2, h2⟩
  · exact Or.inl (by omega)
  · exact Or.inl (by omega)
  · exact Or.inl (by omega)
  · exact Or.inr ⟨by omega, T.tr _ _ _ h1 h2⟩
include T in
theorem rle_total (a b : R) : rle c v k a b ∨ rle c v k b a := by
  unfold rle
  have := T.neg (v a) (v b)
  omega
theorem rlt_le {a b : R} (h : rlt c v k a b) : rle c v k a b := by
  unfold rlt at h; unfold rle; omega
include T in
theorem rle_lt {a b : R} (h : rle c v k a b) (hv : v a ≠ v b) : rlt c v k a b := by
  unfold rle at h; unfold rlt
  have : c (v a) (v b) ≠ 0 := fun e => hv ((T.eq0 _ _).1 e)
  omega
theorem rle_cost {a b : R} (h : rle c v k a b) : k a ≤ k b := by unfold rle at h; omega
theorem uniq_sublist [DecidableEq V] : ∀ (s : List V) (l : List R), List.Sublist (uniq v s l) l
  | _, [] => List.Sublist.refl _
  | s, r :: l => by
    unfold uniq
    split
    · exact (uniq_sublist s l).cons r
    · exact (uniq_sublist _ l).cons_cons r
theorem uniq_out [DecidableEq V] : ∀ (s : List V) (l : List R) (x : R), x ∈ uniq v s l → v x ∉ s
  | _, [], x, h => by simp [uniq] at h
  | s, r :: l, x, h => by
    unfold uniq at h
    split at h
    · exact uniq_out s l x h
    · rcases List.mem_cons.1 h with rfl | h'
      · assumption
      · have := uniq_out _ l x h'
        exact fun hx => this (List.mem_cons_of_mem _ hx)
theorem uniq_apart [DecidableEq V] : ∀ (s : List V) (l : List R), (uniq v s l).Pairwise (fun a b => v a ≠ v b)
  | _, [] => List.Pairwise.nil
  | s, r :: l => by
    unfold uniq
    split
    · exact uniq_apart s l
    · refine List.Pairwise.cons (fun b hb e => ?_) (uniq_apart _ l)
      exact uniq_out _ l b hb (e ▸ List.mem_cons_self)
theorem uniq_min [DecidableEq V] : ∀ (s : List V) (l : List R), l.Pairwise (rle c v k) → ∀ x, x ∈ uniq v s l → ∀ y ∈ l, v y = v x → k x ≤ k y
  | _, [], _, x, h => by simp [uniq] at h
  | s, r :: l, hl, x, h => by
    have hl' := List.pairwise_cons.1 hl
    have hout := uniq_out s (r :: l) x h
    unfold uniq at h
    intro y hy e
    split at h
    · next hs =>
      rcases List.mem_cons.1 hy with rfl | hy'
      · exact absurd (e ▸ hs) hout
      · exact uniq_min s l hl'.2 x h y hy' e
    · next hs =>
      rcases List.mem_cons.1 h with rfl | h'
      · rcases List.mem_cons.1 hy with rfl | hy'
        · exact Int.le_refl _
        · exact rle_cost (hl'.1 y hy')
      · have ho := uniq_out _ l x h'
        rcases List.mem_cons.1 hy with rfl | hy'
        · exact absurd (e ▸ List.mem_cons_self) ho
        · exact uniq_min _ l hl'.2 x h' y hy' e
include ext in
theorem uniq_in [DecidableEq V] : ∀ (s : List V) (l : List R), l.Pairwise (rle c v k) → ∀ x ∈ l, v x ∉ s → (∀ y ∈ l, v y = v x → k x ≤ k y) → x ∈ uniq v s l
  | _, [], _, x, h, _, _ => by simp at h
  | s, r :: l, hl, x, h, hs, hm => by
    have hl' := List.pairwise_cons.1 hl
    unfold uniq
    split
    · next hr =>
      rcases List.mem_cons.1 h with rfl | h'
      · exact absurd hr hs
      · exact uniq_in s l hl'.2 x h' hs (fun y hy => hm y (List.mem_cons_of_mem _ hy))
    · next hr =>
      by_cases e : v r = v x
      · have : x = r := by
          rcases List.mem_cons.1 h with rfl | h'
          · rfl
          · have h1 := rle_cost (hl'.1 x h')
            have h2 := hm r List.mem_cons_self e
            exact ext _ _ e.symm (by omega)
        subst this
        exact List.mem_cons_self
      · rcases List.mem_cons.1 h with rfl | h'
        · exact absurd rfl e
        · refine List.mem_cons_of_mem _ (uniq_in _ l hl'.2 x h' ?_ (fun y hy => hm y (List.mem_cons_of_mem _ hy)))
          intro hx
          rcases List.mem_cons.1 hx with h1 | h1
          · exact e h1.symm
          · exact hs h1
include T in
theorem rising_eq : ∀ (a b : List R), a.Pairwise (rlt c v k) → b.Pairwise (rlt c v k) → (∀ x, x ∈ a ↔ x ∈ b) → a = b
  | [], [], _, _, _ => rfl
  | [], y :: b, _, _, h => by have := (h y).2 List.mem_cons_self; simp at this
  | x :: a, [], _, _, h => by have := (h x).1 List.mem_cons_self; simp at this
  | x :: a, y :: b, ha, hb, h => by
    have ha' := List.pairwise_cons.1 ha
    have hb' := List.pairwise_cons.1 hb
    have e : x = y := by
      rcases List.mem_cons.1 ((h x).1 List.mem_cons_self) with e | h1
      · exact e
      · rcases List.mem_cons.1 ((h y).2 List.mem_cons_self) with e | h2
        · exact e.symm
        · exact absurd (rlt_trans T (ha'.1 y h2) (hb'.1 x h1)) (rlt_irrefl T x)
    subst e
    refine congrArg (x :: ·) (rising_eq a b ha'.2 hb'.2 fun z => ⟨fun hz => ?_, fun hz => ?_⟩)
    · rcases List.mem_cons.1 ((h z).1 (List.mem_cons_of_mem _ hz)) with e | h1
      · subst e; exact absurd (ha'.1 z hz) (rlt_irrefl T z)
      · exact h1
    · rcases List.mem_cons.1 ((h z).2 (List.mem_cons_of_mem _ hz)) with e | h1
      · subst e; exact absurd (hb'.1 z hz) (rlt_irrefl T z)
      · exact h1
variable (c v k)
def best [DecidableEq V] (l : List R) : List R := uniq v [] (l.mergeSort fun a b => decide (rle c v k a b))
variable {c v k}
include T in
theorem sorted_all (l : List R) : (l.mergeSort fun a b => decide (rle c v k a b)).Pairwise (rle c v k) := by
  have h := List.pairwise_mergeSort (le := fun a b => decide (rle c v k a b)) (fun a b d h1 h2 => decide_eq_true (rle_trans T (of_decide_eq_true h1) (of_decide_eq_true h2))) (fun a b => by
    rcases rle_total (v := v) (k := k) T a b with h | h <;> simp [h]) l
  exact h.imp fun h => of_decide_eq_true h
include T in
theorem uniq_rising [DecidableEq V] (l : List R) (h : l.Pairwise (rle c v k)) : (uniq v [] l).Pairwise (rlt c v k) :=
  ((h.sublist (uniq_sublist [] l)).and (uniq_apart [] l)).imp fun ⟨h1, h2⟩ => rle_lt T h1 h2
include ext in
theorem uniq_mem [DecidableEq V] (l : List R) (h : l.Pairwise (rle c v k)) (x : R) : x ∈ uniq v [] l ↔ isMin v k l x :=
  ⟨fun hx => ⟨(uniq_sublist [] l).subset hx, fun y hy e => uniq_min [] l h x hx y hy e⟩, fun ⟨h1, h2⟩ => uniq_in ext [] l h x h1 (by simp) h2⟩
include T in
theorem best_rising [DecidableEq V] (l : List R) : (best c v k l).Pairwise (rlt c v k) := uniq_rising T _ (sorted_all T l)
include T ext in
theorem best_mem [DecidableEq V] (l : List R) (x : R) : x ∈ best c v k l ↔ isMin v k l x := by
  unfold best
  rw [uniq_mem ext _ (sorted_all T l)]
  unfold isMin
  simp only [List.mem_mergeSort]
include T ext in
theorem best_of [DecidableEq V] (l a : List R) (h1 : a.Pairwise (rlt c v k)) (h2 : ∀ x, x ∈ a ↔ isMin v k l x) : a = best c v k l :=
  rising_eq T _ _ h1 (best_rising T l) fun x => (h2 x).trans (best_mem T ext l x).symm
include T ext in
theorem best_sorted [DecidableEq V] (l d : List R) (hp : d.Perm l) (hd : d.Pairwise (rle c v k)) : uniq v [] d = best c v k l :=
  best_of T ext l _ (uniq_rising T d hd) fun x => by
    rw [uniq_mem ext d hd]
    unfold isMin
    simp only [hp.mem_iff]
theorem best_length [DecidableEq V] (l : List R) : (best c v k l).length ≤ l.length := by
  have := (uniq_sublist (v := v) [] (l.mergeSort fun a b => decide (rle c v k a b))).length_le
  rw [List.length_mergeSort] at this
  exact this
theorem min_there (l : List R) : ∀ x ∈ l, ∃ y, isMin v k l y ∧ v y = v x := by
  induction l with
  | nil => intro x hx; simp at hx
  | cons z l ih =>
    intro x hx
    by_cases hz : ∃ y, y ∈ l ∧ v y = v x
    · obtain ⟨y0, hy0, e0⟩ := hz
      obtain ⟨y, ⟨hy, hm⟩, e⟩ := ih y0 hy0
      rw [e0] at e
      by_cases hzz : v z = v x ∧ k z < k y
      · refine ⟨z, ⟨List.mem_cons_self, fun w hw ew => ?_⟩, hzz.1⟩
        rcases List.mem_cons.1 hw with rfl | hw'
        · exact Int.le_refl _
        · have := hm w hw' (by rw [ew, hzz.1, e])
          omega
      · refine ⟨y, ⟨List.mem_cons_of_mem _ hy, fun w hw ew => ?_⟩, e⟩
        rcases List.mem_cons.1 hw with rfl | hw'
        · have : v w = v x := by rw [ew, e]
          have : ¬ k w < k y := fun h => hzz ⟨this, h⟩
          omega
        · exact hm w hw' ew
    · have : x = z := by
        rcases List.mem_cons.1 hx with h | h
        · exact h
        · exact absurd ⟨x, h, rfl⟩ hz
      subst this
      refine ⟨x, ⟨List.mem_cons_self, fun w hw ew => ?_⟩, rfl⟩
      rcases List.mem_cons.1 hw with rfl | hw'
      · exact Int.le_refl _
      · exact absurd ⟨w, hw', ew⟩ hz
end
section
variable {V R : Type} {c : V → V → Int} (T : Tot c) {v : R → V} {k : R → Int} (ext : ∀ a b : R, v a = v b → k a = k b → a = b)
variable (c v k)
def add : List R → R → List R
  | [], r => [r]
  | x :: l, r => if c (v x) (v r) < 0 then x :: add l r else if c (v x) (v r) = 0 then (if k r < k x then r :: l else x :: l) else r :: x :: l
def ins : List R → R → List R
  | [], r => [r]
  | x :: l, r => if (∃ y ∈ x :: l, k y ≤ k r) then x :: ins l r else r :: x :: l
variable {c v k}
include T in
theorem add_mem (l : List R) (r : R) (hl : l.Pairwise fun a b => c (v a) (v b) < 0) (x : R) : x ∈ add c v k l r ↔ (x = r ∧ ∀ y ∈ l, v y = v r → k r < k y) ∨ (x ∈ l ∧ (v x = v r → k x ≤ k r)) := by
  induction l with
  | nil => simp [add]
  | cons z l ih =>
    have hl' := List.pairwise_cons.1 hl
    have ih := ih hl'.2
    unfold add
    by_cases h1 : c (v z) (v r) < 0
    · rw [if_pos h1]
      have hz : v z ≠ v r := fun e => by rw [e, T.refl] at h1; omega
      simp only [List.mem_cons, ih, forall_eq_or_imp]
      constructor
      · rintro (rfl | ⟨rfl, h⟩ | ⟨h, h'⟩)
        · exact Or.inr ⟨Or.inl rfl, fun e => absurd e hz⟩
        · exact Or.inl ⟨rfl, fun e => absurd e hz, h⟩
        · exact Or.inr ⟨Or.inr h, h'⟩
      · rintro (⟨rfl, _, h⟩ | ⟨rfl | h, h'⟩)
        · exact Or.inr (Or.inl ⟨rfl, h⟩)
        · exact Or.inl rfl
        · exact Or.inr (Or.inr ⟨h, h'⟩)
    · rw [if_neg h1]
      have hlt : ∀ y ∈ l, c (v r) (v y) < 0 := fun y hy => by
        have h2 := hl'.1 y hy
        have h3 : c (v r) (v z) ≤ 0 := by have := T.neg (v z) (v r); omega
        exact T.tr_lt h3 h2
      have hne : ∀ y ∈ l, v y ≠ v r := fun y hy e => by have := hlt y hy; rw [e, T.refl] at this; omega
      by_cases h2 : c (v z) (v r) = 0
      · rw [if_pos h2]
        have hz := (T.eq0 _ _).1 h2
        by_cases h3 : k r < k z
        · rw [if_pos h3]
          simp only [List.mem_cons, forall_eq_or_imp]
          constructor
          · rintro (rfl | h)
            · exact Or.inl ⟨rfl, fun _ => h3, fun y hy e => absurd e (hne y hy)⟩
            · exact Or.inr ⟨Or.inr h, fun e => absurd e (hne x h)⟩
          · rintro (⟨rfl, _⟩ | ⟨rfl | h, h'⟩)
            · exact Or.inl rfl
            · have := h' hz; omega
            · exact Or.inr h
        · rw [if_neg h3]
          simp only [List.mem_cons, forall_eq_or_imp]
          constructor
          · rintro (rfl | h)
            · exact Or.inr ⟨Or.inl rfl, fun _ => by omega⟩
            · exact Or.inr ⟨Or.inr h, fun e => absurd e (hne x h)⟩
          · rintro (⟨rfl, h, _⟩ | ⟨h, _⟩)
            · have := h hz; omega
            · exact h
      · rw [if_neg h2]
        have hz : v z ≠ v r := fun e => h2 ((T.eq0 _ _).2 e)
        simp only [List.mem_cons, forall_eq_or_imp]
        constructor
        · rintro (rfl | rfl | h)
          · exact Or.inl ⟨rfl, fun e => absurd e hz, fun y hy e => absurd e (hne y hy)⟩
          · exact Or.inr ⟨Or.inl rfl, fun e => absurd e hz⟩
          · exact Or.inr ⟨Or.inr h, fun e => absurd e (hne x h)⟩
        · rintro (⟨rfl, _⟩ | ⟨h, _⟩)
          · exact Or.inl rfl
          · exact Or.inr h
include T in
theorem add_rising (l : List R) (r : R) (hl : l.Pairwise fun a b => c (v a) (v b) < 0) : (add c v k l r).Pairwise fun a b => c (v a) (v b) < 0 := by
  induction l with
  | nil => simp [add]
  | cons z l ih =>
    have hl' := List.pairwise_cons.1 hl
    have ih := ih hl'.2
    unfold add
    by_cases h1 : c (v z) (v r) < 0
    · rw [if_pos h1]
      refine List.Pairwise.cons (fun y hy => ?_) ih
      rcases (add_mem T l r hl'.2 y).1 hy with ⟨rfl, _⟩ | ⟨h, _⟩
      · exact h1
      · exact hl'.1 y h
    · rw [if_neg h1]
      have h3 : c (v r) (v z) ≤ 0 := by have := T.neg (v z) (v r); omega
      have hlt : ∀ y ∈ l, c (v r) (v y) < 0 := fun y hy => T.tr_lt h3 (hl'.1 y hy)
      by_cases h2 : c (v z) (v r) = 0
      · rw [if_pos h2]
        split
        · exact List.Pairwise.cons hlt hl'.2
        · exact hl
      · rw [if_neg h2]
        refine List.Pairwise.cons (fun y hy => ?_) hl
        rcases List.mem_cons.1 hy with rfl | hy
        · have := T.neg (v y) (v r); omega
        · exact hlt y hy
include T in
theorem adds_rising (l : List R) : ∀ a : List R, (a.Pairwise fun a b => c (v a) (v b) < 0) → (l.foldl (add c v k) a).Pairwise fun a b => c (v a) (v b) < 0 := by
  induction l with
  | nil => intro a h; exact h
  | cons r l ih => intro a h; exact ih _ (add_rising T a r h)
include T ext in
theorem adds_mem (l : List R) : ∀ (a : List R) (m : List R), (a.Pairwise fun a b => c (v a) (v b) < 0) → (∀ x, x ∈ a ↔ isMin v k m x) → ∀ x, x ∈ l.foldl (add c v k) a ↔ isMin v k (m ++ l) x := by
  induction l with
  | nil => intro a m _ h x; simpa using h x
  | cons r l ih =>
    intro a m h hm x
    rw [List.foldl_cons, show m ++ r :: l = (m ++ [r]) ++ l by simp]
    refine ih _ (m ++ [r]) (add_rising T a r h) (fun y => ?_) x
    rw [add_mem T a r h]
    simp only [hm]
    unfold isMin
    simp only [List.mem_append, List.mem_singleton]
    constructor
    · rintro (⟨rfl, h1⟩ | ⟨⟨h1, h2⟩, h3⟩)
      · refine ⟨Or.inr rfl, fun z hz e => ?_⟩
        rcases hz with hz | rfl
        · obtain ⟨z', hz', ez'⟩ := min_there m z hz
          have h4 := h1 z' hz' (by rw [ez', e])
          have h5 := hz'.2 z hz ez'.symm
          omega
        · exact Int.le_refl _
      · refine ⟨Or.inl h1, fun z hz e => ?_⟩
        rcases hz with hz | rfl
        · exact h2 z hz e
        · exact h3 e.symm
    · rintro ⟨h1 | rfl, h2⟩
      · refine Or.inr ⟨⟨h1, fun z hz => h2 z (Or.inl hz)⟩, fun e => h2 r (Or.inr rfl) e.symm⟩
      · by_cases hc : ∃ z, isMin v k m z ∧ v z = v y ∧ k z ≤ k y
        · obtain ⟨z, hz, ez, hkz⟩ := hc
          have := h2 z (Or.inl hz.1) ez
          have : z = y := ext _ _ ez (by omega)
          subst this
          exact Or.inr ⟨hz, fun _ => Int.le_refl _⟩
        · refine Or.inl ⟨rfl, fun z hz e => ?_⟩
          have : ¬ k z ≤ k y := fun h => hc ⟨z, hz, e, h⟩
          omega
theorem ins_mem (l : List R) (r x : R) : x ∈ ins k l r ↔ x = r ∨ x ∈ l := by
  induction l with
  | nil => simp [ins]
  | cons z l ih =>
    unfold ins
    split
    · simp only [List.mem_cons, ih]
      constructor
      · rintro (h | h | h) <;> simp [h]
      · rintro (h | h | h) <;> simp [h]
    · simp
theorem ins_rising (l : List R) (r : R) (hl : l.Pairwise (rlt c v k)) (hr : ∀ x ∈ l, c (v x) (v r) < 0) : (ins k l r).Pairwise (rlt c v k) := by
  induction l with
  | nil => simp [ins]
  | cons z l ih =>
    have hl' := List.pairwise_cons.1 hl
    have ih := ih hl'.2 (fun x hx => hr x (List.mem_cons_of_mem _ hx))
    unfold ins
    split
    · next h =>
      refine List.Pairwise.cons (fun y hy => ?_) ih
      rcases (ins_mem l r y).1 hy with rfl | hy
      · obtain ⟨w, hw, hk⟩ := h
        have hzw : k z ≤ k w := by
          rcases List.mem_cons.1 hw with rfl | hw
          · exact Int.le_refl _
          · exact rle_cost (rlt_le (hl'.1 w hw))
        have hzr := hr z List.mem_cons_self
        unfold rlt
        omega
      · exact hl'.1 y hy
    · next h =>
      refine List.Pairwise.cons (fun y hy => ?_) hl
      have : ¬ k y ≤ k r := fun hk => h ⟨y, hy, hk⟩
      exact Or.inl (by omega)
theorem inss_mem (l : List R) : ∀ (a : List R) (x : R), x ∈ l.foldl (ins k) a ↔ x ∈ a ∨ x ∈ l := by
  induction l with
  | nil => intro a x; simp
  | cons r l ih =>
    intro a x
    rw [List.foldl_cons, ih, ins_mem]
    simp only [List.mem_cons]
    constructor
    · rintro ((h | h) | h) <;> simp [h]
    · rintro (h | h | h) <;> simp [h]
theorem inss_rising (l : List R) : ∀ a : List R, a.Pairwise (rlt c v k) → (l.Pairwise fun a b => c (v a) (v b) < 0) → (∀ x ∈ a, ∀ y ∈ l, c (v x) (v y) < 0) → (l.foldl (ins k) a).Pairwise (rlt c v k) := by
  induction l with
  | nil => intro a h _ _; exact h
  | cons r l ih =>
    intro a h hl hal
    have hl' := List.pairwise_cons.1 hl
    refine ih _ (ins_rising a r h fun x hx => hal x hx r List.mem_cons_self) hl'.2 fun x hx y hy => ?_
    rcases (ins_mem a r x).1 hx with rfl | hx
    · exact hl'.1 y hy
    · exact hal x hx y (List.mem_cons_of_mem _ hy)
include T ext in
theorem ref_best [DecidableEq V] (l : List R) : (l.foldl (add c v k) []).foldl (ins k) [] = best c v k l := by
  have h0 := adds_rising (v := v) (k := k) T l [] List.Pairwise.nil
  refine best_of T ext l _ (inss_rising _ [] List.Pairwise.nil h0 (fun x hx => by simp at hx)) fun x => ?_
  rw [inss_mem]
  have := adds_mem T ext l [] [] List.Pairwise.nil (fun x => by simp [isMin]) x
  simpa using this
end
end Go.Proofs.YtlgndfplikhflaaDoorW.Rk
