import Derived.Test.YtgbnfjhmobeloaaGx0
import Derived.Test.YtgbnfjhmobeloaaGx6
import Derived.Test.YtgbnfjhmobeloaaGx8
import Derived.Test.YtgbnfjhmobeloaaGx9
import Derived.Test.YtgbnfjhmobeloaaGx10
namespace Go.Proofs.Ytgbnfjhmobeloaa.G
open Go.RowKit Go.Proofs.YtgbnfjhmobeloaaW.PrintWords Go.Proofs.YtgbnfjhmobeloaaW.PrintLast Go.Proofs.YtgbnfjhmobeloaaW.PrintMore Go.Proofs.YtgbnfjhmobeloaaW.VWords
attribute [local go_sem] max2_int min2_int max_two min_two max_three min_three max_four min_four
set_option linter.unusedVariables false
set_option linter.unusedSimpArgs false
def cmpI (a b : Int) : Int := if a < b then -1 else if a > b then 1 else 0
def or2 (a b : Int) : Int := if a = 0 then b else a
structure Pre {α : Type} (c : α → α → Int) : Prop where
 neg : ∀ a b, c b a = - c a b
 tr : ∀ a b d, c a b ≤ 0 → c b d ≤ 0 → c a d ≤ 0
theorem Pre.or2 {α : Type} {c1 c2 : α → α → Int} (p1 : Pre c1) (p2 : Pre c2) : Pre (fun a b => or2 (c1 a b) (c2 a b)) := by
 constructor
 ·intro a b
  have h1 := p1.neg a b
  have h2 := p2.neg a b
  simp only [G.or2]
  split <;> split <;> omega
 ·intro a b d h1 h2
  have n1 := p1.neg a b
  have n2 := p1.neg b d
  have n3 := p1.neg a d
  have t1 := p1.tr a b d
  have t2 := p1.tr d a b
  have t3 := p1.tr b d a
  have t4 := p1.tr d b a
  have s := p2.tr a b d
  simp only [G.or2] at h1 h2 ⊢
  split at h1 <;> split at h2 <;> split <;> omega
theorem cmpI_pre : Pre cmpI := by
 constructor
 ·intro a b
  simp only [cmpI]
  split <;> split <;> first | omega | (split <;> omega)
 ·intro a b d
  simp only [cmpI]
  repeat' split
  all_goals omega
theorem Pre.on {α β : Type} {c : α → α → Int} (p : Pre c) (f : β → α) : Pre (fun a b => c (f a) (f b)) := ⟨fun a b => p.neg _ _, fun a b d => p.tr _ _ _⟩
theorem cmpI_zero (a b : Int) : cmpI a b = 0 ↔ a = b := by unfold cmpI; repeat' split <;> omega
def cmpT (x y : S47) : Int := or2 (cmpI x.f0 y.f0) (or2 (cmpI x.f1 y.f1) (or2 (cmpI x.f2 y.f2) (or2 (cmpI x.f3 y.f3) (cmpI x.f4 y.f4))))
theorem cmpT_pre : Pre cmpT := (cmpI_pre.on S47.f0).or2 ((cmpI_pre.on S47.f1).or2 ((cmpI_pre.on S47.f2).or2 ((cmpI_pre.on S47.f3).or2 (cmpI_pre.on S47.f4))))
theorem or2_zero (a b : Int) : or2 a b = 0 ↔ a = 0 ∧ b = 0 := by
 unfold or2
 split <;> omega
theorem cmpT_zero (x y : S47) : cmpT x y = 0 ↔ x = y := by
 unfold cmpT
 rw [or2_zero, or2_zero, or2_zero, or2_zero, cmpI_zero, cmpI_zero, cmpI_zero, cmpI_zero, cmpI_zero]
 cases x
 cases y
 simp
theorem or5_eq (k : Nat) (a b c d e : Int) : cmp_Or_int.f (k + 6) [a, b, c, d, e] = some (or2 a (or2 b (or2 c (or2 d e)))) := by
 have w1 : wrap64 ((0 : Int) + 1) = 1 := by unfold wrap64; omega
 have w2 : wrap64 ((1 : Int) + 1) = 2 := by unfold wrap64; omega
 have w3 : wrap64 ((2 : Int) + 1) = 3 := by unfold wrap64; omega
 have w4 : wrap64 ((3 : Int) + 1) = 4 := by unfold wrap64; omega
 have w5 : wrap64 ((4 : Int) + 1) = 5 := by unfold wrap64; omega
 have r0 : rd [a, b, c, d, e] 0 = a := rfl
 have r1 : rd [a, b, c, d, e] 1 = b := rfl
 have r2 : rd [a, b, c, d, e] 2 = c := rfl
 have r3 : rd [a, b, c, d, e] 3 = d := rfl
 have r4 : rd [a, b, c, d, e] 4 = e := rfl
 unfold cmp_Or_int.f or2
 simp only [cmp_Or_int.l0, w1, w2, w3, w4, w5, r0, r1, r2, r3, r4, List.length_cons, List.length_nil]
 by_cases h0 : a = 0
 ·by_cases h1 : b = 0
  ·by_cases h2 : c = 0
   ·by_cases h3 : d = 0
    ·by_cases h4 : e = 0
     ·simp [h0, h1, h2, h3, h4]
     ·simp [h0, h1, h2, h3, h4]
    ·simp [h0, h1, h2, h3]
   ·simp [h0, h1, h2]
  ·simp [h0, h1]
 ·simp [h0]
theorem compare_eq (a b : Int) : cmp_Compare_int.f a b = some (cmpI a b) := by
 unfold cmp_Compare_int.f cmp_isNaN_int.f cmpI
 simp only [bne_self_eq_false, Option.bind_some, Bool.false_eq_true, if_false]
 split
 ·rfl
 ·split <;> rfl
theorem order_eq (x y : S47) : lex_order.f 6 x.f0 x.f1 x.f2 x.f3 x.f4 y.f0 y.f1 y.f2 y.f3 y.f4 = some (cmpT x y) := by
 unfold lex_order.f
 simp only [compare_eq, Option.bind_some, or5_eq 0]
 rfl
theorem cmpT_swo : Go.Sort.SWO (Go.Proofs.ltOf cmpT) where
 irrefl := fun x => by
  unfold Go.Proofs.ltOf
  rw [(cmpT_zero x x).2 rfl]
  decide
 trans := fun x y z h1 h2 => by
  unfold Go.Proofs.ltOf at *
  rw [decide_eq_true_eq] at *
  have n1 := cmpT_pre.neg x y
  have n2 := cmpT_pre.neg y z
  have n3 := cmpT_pre.neg x z
  have t := cmpT_pre.tr x y z (by omega) (by omega)
  rcases Int.lt_or_eq_of_le t with h | h
  ·exact h
  ·have e := (cmpT_zero x z).1 h
   subst e
   omega
 ntrans := fun x y z h1 h2 => by
  unfold Go.Proofs.ltOf at *
  rw [decide_eq_false_iff_not] at *
  have n1 := cmpT_pre.neg x y
  have n2 := cmpT_pre.neg y z
  have n3 := cmpT_pre.neg x z
  have t := cmpT_pre.tr z y x (by omega) (by omega)
  omega
def leT (x y : S47) : Bool := !(Go.Proofs.ltOf cmpT) y x
def sortT (l : List S47) : List S47 := l.mergeSort leT
def encT (x : S47) : List Value := [.int .i64 x.f0, .int .i64 x.f1, .int .i64 x.f2, .int .i64 x.f3, .int .i64 x.f4]
instance : Inhabited S47 := ⟨z47⟩
theorem order_lays (g size : Nat) (w : World) : Go.Proofs.CmpLays Try.prog 41 #[] encT 5 cmpT g 0 size w := fun m os dk _ x y =>
 (lex_order.grows 6 x.f0 x.f1 x.f2 x.f3 x.f4 y.f0 y.f1 y.f2 y.f3 y.f4 (cmpT x y) _ (order_eq x y)).mono fun e w' h => h
theorem holds_of_R {W : World} {base g cap : Nat} {ok : Nat → Prop} {xs : List S47} (hR : Kd.R k47 47 W base ok (.slice (some ⟨g, 0, none⟩) xs.length cap) xs) : Go.Sort.HoldsK encT 5 W g 0 xs.toArray := by
 intro t ht
 rw [Go.Sort.size_flatK, List.size_toArray] at ht
 rw [Go.Sort.get_flatK _ _ _ _ (by rw [List.size_toArray]; exact ht)]
 have hq : t / 5 < xs.length := by omega
 obtain ⟨⟨h0, h1, h2, h3, h4⟩, hf⟩ := tok_cells hR (t / 5) hq
 have hx : xs.toArray[t / 5]! = xs[t / 5] := by rw [getElem!_pos _ _ (by rw [List.size_toArray]; exact hq)]; rfl
 rw [hx, Nat.zero_add]
 have e : t = t / 5 * 5 + t % 5 := by omega
 have h5 : t % 5 < 5 := Nat.mod_lt _ (by decide)
 refine ⟨?_, by rw [e]; exact hf _⟩
 show W.cell? ⟨g, t, none⟩ = some (encT xs[t / 5])[t % 5]!
 conv => lhs; rw [e]
 generalize t % 5 = q at h5
 match q, h5 with
 | 0, _ => exact h0
 | 1, _ => exact h1
 | 2, _ => exact h2
 | 3, _ => exact h3
 | 4, _ => exact h4
theorem heap_sortWorldK (W : World) (g n cap : Nat) (d : Array S47) (os : Array Obj) (cur : Array Value) (hh : W.heap[g]? = some (.cells cur 47 (0, 0))) :
  (Go.Proofs.sortWorldK encT 5 W g 0 n d os).heap[g]? = some (.cells (Go.Sort.putCells id 0 (Go.Sort.flatK encT 5 d) cur) 47 (0, 0)) := by
 have hlt : g < W.heap.size := (Array.getElem?_eq_some_iff.1 hh).1
 unfold Go.Proofs.sortWorldK
 rw [Go.Sort.heap_grow_old _ _ (by show g < (W.heap.modify g _).size; rw [Array.size_modify]; exact hlt)]
 show (W.heap.modify g (Go.Sort.onCells (Go.Sort.putCells id 0 (Go.Sort.flatK encT 5 d))))[g]? = _
 rw [Array.getElem?_modify, if_pos rfl, hh]
 rfl
theorem reps_tok {W : World} {base : Nat} {ok : Nat → Prop} : ∀ ys : List S47, Reps (k47.M W base ok) 5 ys (ys.flatMap encT)
 | [] => Reps.none _ _
 | y :: ys => by
  have h := Kd.reps_append (Reps.snoc (Reps.none (k47.M W base ok) 5) (k47_mkM W base ok y) rfl) (reps_tok ys)
  exact h
theorem flat_at (ys : List S47) (t : Nat) (h : t < ys.length * 5) : (ys.flatMap encT)[t]? = some (encT (ys[t / 5]'(by omega)))[t % 5]! := by
 have hr : Reps (fun (x : S47) cs => cs = encT x) 5 ys (ys.flatMap encT) := by
  clear h
  induction ys with
  | nil => exact Reps.none _ _
  | cons y ys ih => exact Kd.reps_append (Reps.snoc (Reps.none (fun (x : S47) cs => cs = encT x) 5) (c := encT y) rfl rfl) ih
 have hq : t / 5 < ys.length := by omega
 have h1 := hr.2 (t / 5) _ (List.getElem?_eq_getElem hq)
 have h5 : t % 5 < 5 := Nat.mod_lt _ (by decide)
 have h2 : (encT ys[t / 5])[t % 5]? = some (encT ys[t / 5])[t % 5]! := by
  rw [getElem!_pos (encT ys[t / 5]) (t % 5) h5]
  exact List.getElem?_eq_getElem _
 rw [← h2, ← h1, List.getElem?_take, if_pos h5, List.getElem?_drop]
 congr 1
 omega
theorem R_resort {W : World} {base g cap n : Nat} {ok : Nat → Prop} {xs : List S47} (hR : Kd.R k47 47 W base ok (.slice (some ⟨g, 0, none⟩) xs.length cap) xs) (ys : List S47) (hy : ys.length = xs.length) (os : Array Obj) :
  Kd.R k47 47 (Go.Proofs.sortWorldK encT 5 W g 0 n ys.toArray os) base ok (.slice (some ⟨g, 0, none⟩) ys.length cap) ys ∧ W.grownBy (Go.Proofs.sortWorldK encT 5 W g 0 n ys.toArray os) (some g) := by
 obtain ⟨hok, inner, ⟨hl, hown⟩, hr⟩ := hR
 rcases hown with ⟨hv, _⟩ | ⟨g', cap', cur, hv, hb, hh, hnc, hcm, hcs, ht⟩
 ·cases hv
 injection hv with ha _ hc
 injection ha with ha
 injection ha with hg'
 subst hg'
 subst hc
 have hlt : g < W.heap.size := (Array.getElem?_eq_some_iff.1 hh).1
 have hfl : (ys.flatMap encT).length = ys.length * 5 := by
  clear hy
  induction ys with
  | nil => rfl
  | cons y ys ih => rw [List.flatMap_cons, List.length_append, ih, List.length_cons]; show 5 + ys.length * 5 = _; omega
 refine ⟨⟨hok, ys.flatMap encT, ⟨hfl, .inr ⟨g, cap, _, rfl, hb, heap_sortWorldK W g n cap _ os cur hh, by omega, hcm, ?_, ?_⟩⟩, reps_tok ys⟩, ?_⟩
 ·rw [← hcs]
  simp [Go.Sort.putCells]
 ·have hsz : k47.sz = 5 := rfl
  rw [hsz]
  apply List.ext_getElem?
  intro t
  have hcl : cur.size = cap * 5 := hcs
  rcases Nat.lt_or_ge t (ys.length * 5) with h | h
  ·have hq : t / 5 < ys.length := by omega
   have h5 : t % 5 < 5 := Nat.mod_lt _ (by decide)
   rw [List.getElem?_take, if_pos h, Array.getElem?_toList]
   simp only [Go.Sort.putCells, Array.getElem?_mapIdx, Array.getElem?_eq_getElem (show t < cur.size by omega), Option.map_some, Nat.zero_add, Nat.sub_zero, Go.Sort.size_flatK, List.size_toArray, Nat.zero_le, true_and, if_pos h]
   rw [flat_at ys t h]
   show some (Go.Sort.flatK encT 5 ys.toArray)[t]! = _
   rw [Go.Sort.get_flatK _ _ _ _ (by rw [List.size_toArray]; exact h)]
   congr 2
   rw [getElem!_pos _ _ (by rw [List.size_toArray]; exact hq)]
   rfl
  ·rw [List.getElem?_eq_none (by rw [List.length_take]; omega), List.getElem?_eq_none (by omega)]
 ·refine ⟨rfl, rfl, rfl, Go.Proofs.size_sortWorldK_c encT 5 W g 0 n _ os, fun k hk hne => ?_⟩
  unfold Go.Proofs.sortWorldK Go.Sort.putRowK Go.Sort.putRow Go.Sort.mapBlock Go.Sort.grow Go.Sort.ahead
  simp only
  rw [Array.getElem?_append_left (by rw [Array.size_modify]; exact hk), Array.getElem?_modify, if_neg (fun e => hne (by rw [e]))]
set_option maxHeartbeats 1000000 in
theorem sort_walk (A : Option Addr) (cap : Nat) (xs : List S47) (w : World) (base : Nat) (ok : Nat → Prop) (hR : Kd.R k47 47 w base ok (.slice A xs.length cap) xs) (hl : xs.length ≤ 1000000000000) :
  Calls Try.prog 40 #[.slice A xs.length cap, .func (.func 41) #[] #[]] w fun e w' => e = .returned (.tuple #[]) ∧ Kd.R k47 47 w' base ok (.slice A (sortT xs).length cap) (sortT xs) ∧ w.grownBy w' (Value.slice A xs.length cap).ownBlock := by
 rcases Nat.eq_zero_or_pos xs.length with h0 | h0
 ·obtain rfl := List.eq_nil_of_length_eq_zero h0
  refine (Go.Proofs.AnyF.slices_SortFunc_none Try.sort_lays A cap (.func (.func 41) #[] #[]) w).mono fun e w' h => ?_
  obtain ⟨he, hw⟩ := h
  subst hw
  exact ⟨he, by rw [show sortT [] = [] by unfold sortT; exact List.mergeSort_nil]; exact hR, World.grownBy.refl _ _⟩
 ·obtain ⟨g, cap', e, hbg, hlt, _⟩ := Kd.R_form hR h0
  injection e with e1 e2 e3
  subst e1
  subst e3
  have hlen : (sortT xs).length = xs.length := by unfold sortT; exact List.length_mergeSort _
  have h := Go.Proofs.AnyQ.slices_SortFunc_total Try.sort_lays 5 (fun w => by kernel_rfl) (fun w => by kernel_rfl) encT (fun _ => rfl) (fun x v hv => by simp [encT] at hv; rcases hv with h_ | h_ | h_ | h_ | h_ <;> subst h_ <;> rfl) cmpT cmpT_swo 41 #[] g 0 cap xs.toArray w
   (enters_of Try.func41 (by kernel_rfl) rfl) (order_lays g _ w) (holds_of_R hR) hlt (by rw [List.size_toArray]; omega)
   (fun x y h1 h2 => by
    unfold Go.Proofs.ltOf at h1 h2
    rw [decide_eq_false_iff_not] at h1 h2
    have n1 := cmpT_pre.neg x y
    exact (cmpT_zero x y).1 (by omega))
  rw [List.size_toArray] at h
  refine h.mono fun e w' h2 => ?_
  obtain ⟨he, n, os, hw⟩ := h2
  have hw2 : w' = Go.Proofs.sortWorldK encT 5 w g 0 n (sortT xs).toArray os := hw
  subst hw2
  obtain ⟨r1, r2⟩ := R_resort (n := n) hR (sortT xs) hlen os
  exact ⟨he, r1, r2⟩
def api_Tok_42.f (l0 : List S47) : Option (List S47) := if l0.length ≤ 1000000000000 then some l0 else none
theorem clone_tok_ok (l : List S47) (h : l.length ≤ 1000000000000) : api_Tok_42.f l = some l := by unfold api_Tok_42.f; rw [if_pos h]
set_option maxHeartbeats 1000000 in
theorem api_Tok_42.calls (A0 : Option Addr) (c0 : Nat) (l0 : List S47) (r : List S47) (w : World) (hr0 : Kd.C k47 w A0 l0.length l0) (hc0 : l0.length ≤ c0) (h : api_Tok_42.f l0 = some r) :
  Calls Try.prog 42 #[.slice A0 l0.length c0] w fun e w' => ∃ v0_ : Value, e = .returned (v0_) ∧ Kd.R k47 47 w' w.heap.size (fun _ => True) v0_ r ∧ Below w.heap.size w w' := by
 unfold api_Tok_42.f at h
 by_cases hlim : ¬ l0.length ≤ 1000000000000
 ·rw [if_neg hlim] at h
  exact absurd h (by simp)
 replace hlim := Decidable.not_not.1 hlim
 rw [if_pos hlim] at h
 obtain rfl := Option.some.inj h
 clear h
 have HB := Aside0.mk (Below.refl w.heap.size w)
 have LM := Aside0.mk hlim
 have HR := Aside0.mk hr0
 clear hlim hr0 hc0
 have hq := fun W => Lib.run_eql_slice_nil (P := Try.prog) W 39 47 A0 l0.length c0 0 0 Try.underlying39
 cases A0 with
 | none =>
  obtain rfl : l0 = [] := by
   rcases Nat.eq_zero_or_pos l0.length with h0 | h0
   ·exact List.eq_nil_of_length_eq_zero h0
   ·obtain ⟨ad, he, _⟩ := HR.out.2.2 h0
    cases he
  simp only [List.length_nil] at hq ⊢
  go_enter Try.func42, Try.ntmps42
  go_wp2
  go_ret
  exact ⟨_, rfl, Kd.R_nil _ _ _ _ _, HB.out⟩
 | some ad =>
  go_enter Try.func42, Try.ntmps42
  go_wp2_with (first
   | ((with_reducible refine gate_dst (N := 5) rfl ?_); refine Kd.R_lit k47 (w0 := w) w.heap.size 47 ?hg (N := 5) ?hd (xs := ([] : List S47)) (inner := []) (ok := fun _ => True) (okp := fun _ => True) ?hr ?hp (fun _ hk => hk) trivial (Below.refl _ _) (Nat.le_refl _) (by simp) ?_; (case hd => rfl); (case hg => rfl); (case hr => first | (go_simp; done) | (go_simp; rfl)); (case hp => exact Reps.none _ _); intro v5 w5 ho5 hb5 hg5 hn5; have HO5 := Aside0.mk ho5; clear HB; have HB := Aside0.mk hb5; clear ho5 hb5 hg5 hn5)
   | ((with_reducible refine gate_builtin (b := .append) (xs := #[.tmp 5, .tmp 6]) rfl ?_); at_builtin; refine Kd.R_append_rows k47 (Rr := k47.K w5) (w0 := w) w.heap.size rfl (.tmp 5) (.tmp 6) 39 47 (.agg #[(.int .i64 0), (.int .i64 0), (.int .i64 0), (.int .i64 0), (.int .i64 0)]) 40 rfl Try.underlying39 info47 rfl (by decide) (by decide) v5 ([] : List S47) l0 (some ad) l0.length c0 (fun _ => True) (fun _ => False) rfl rfl HO5.out ?aR ?aK (fun _ hk => hk.elim) (fun _ _ => trivial) HB.out (below_size HB.out) ?aL ?_; (case aR => exact Kd.C_below HR.out HB.out); (case aK => exact fun x cs h_ => by rw [k47_open h_]; exact k47_mkM _ _ _ x); (case aL => have := LM.out; simp only [List.length_nil]; omega); intro v7 w7 ho hb hg hat; have HO7 := Aside0.mk ho; clear HB; have HB := Aside0.mk hb; clear ho hb hg hat))
  go_ret
  exact ⟨_, rfl, by rw [List.nil_append] at HO7; exact HO7.out, HB.out⟩
def encA (x : S47) : Value := .agg #[.int .i64 x.f0, .int .i64 x.f1, .int .i64 x.f2, .int .i64 x.f3, .int .i64 x.f4]
def numStep (n r : Int) : Int := wrap64 (wrap64 (wrap64 (10 * n) + r) - 48)
def numVal (ds : List Int) : Int := ds.foldl numStep 0
def numTok (l : List Int) (i : Nat) : Option S47 :=
 if pastF isDigit l i = i ∨ 18 < pastF isDigit l i - i then none
 else some ⟨0, (pastF isDigit l i : Nat), 0, numVal ((l.take (pastF isDigit l i)).drop i), ((pastF isDigit l i - i : Nat) : Int)⟩
set_option maxHeartbeats 2000000 in
set_option maxRecDepth 100000 in
theorem number_walk (A : Option Addr) (c i : Nat) (l : List Int) (w : World) (hC : Kd.C (Kd.int .i64) w A l.length l) (hc : l.length ≤ c) (hi : i < l.length) (hm : l.length ≤ 1000000000000) :
  Calls Try.prog 58 #[.slice A l.length c, .int .i64 i] w fun e w' => e = .returned (.tuple #[encA ((numTok l i).getD z47), .bool (numTok l i).isSome]) ∧ Below w.heap.size w w' := by
 have hu47 := Try.underlying47
 have HC := Aside0.mk hC
 have HCC := Aside0.mk hc
 have HI := Aside0.mk hi
 have HM := Aside0.mk hm
 have HML := Aside0.mk (show l.length ≤ maxLen by unfold maxLen; omega)
 have HIL := Aside0.mk (show i ≤ l.length by omega)
 have HB := Aside0.mk (Below.refl w.heap.size w)
 obtain ⟨te, hto⟩ : ∃ te, te = pastF isDigit l i := ⟨_, rfl⟩
 have HGE := Aside0.mk (show i ≤ te by rw [hto]; exact pastF_ge _ _ _)
 have HLE := Aside0.mk (show te ≤ l.length by rw [hto]; exact pastF_le _ _ _ (by omega))
 have HTO := Aside0.mk hto
 clear hC hc hi hm hto
 by_cases h1 : te = i
 ·have HN := Aside0.mk (show numTok l i = none by unfold numTok; rw [← HTO.out, if_pos (Or.inl h1)])
  have h2 : (te : Int) = (i : Int) := by omega
  clear h1
  go_enter Try.func58, Try.ntmps58
  go_wp2_with (first
   | (go_at_call 38; (refine (past_digit A c i l _ (Kd.C_below HC.out (below_alloc HB.out _)) HIL.out HML.out).mono ?_); rw [← HTO.out]; rintro e w1 ⟨rfl, rfl⟩))
  (try simp only [Exit.inBlock, Exit.then]); refine bodyPost_ret (results_ct rfl _ _ w.heap.size 47 _ (0, 0) _ rfl (blk_new w _) hu47 rfl (by kernel_rfl)) rfl ?_
  refine ⟨?_, below_alloc HB.out _⟩
  rw [HN.out]
  rfl
 ·have h2 : ¬ (te : Int) = (i : Int) := by omega
  have h3 : IntKind.i64.wrap ((te : Int) - (i : Int)) = ((te - i : Nat) : Int) := by have := HGE.out; have := HLE.out; have := HM.out; rw [IntKind.wrap_i64]; omega
  have h3' : wrap64 ((te : Int) - (i : Int)) = ((te - i : Nat) : Int) := (i64_w _).symm.trans h3
  have HI1 := Aside0.mk h1
  clear h1
  by_cases h4 : 18 < te - i
  ·have HN := Aside0.mk (show numTok l i = none by unfold numTok; rw [← HTO.out, if_pos (Or.inr h4)])
   have h5 : ((te - i : Nat) : Int) > 18 := by omega
   go_enter Try.func58, Try.ntmps58
   go_wp2_with (first
    | (go_at_call 38; (refine (past_digit A c i l _ (Kd.C_below HC.out (below_alloc HB.out _)) HIL.out HML.out).mono ?_); rw [← HTO.out]; rintro e w1 ⟨rfl, rfl⟩))
   (try simp only [Exit.inBlock, Exit.then]); refine bodyPost_ret (results_ct rfl _ _ w.heap.size 47 _ (0, 0) _ rfl (blk_new w _) hu47 rfl (by kernel_rfl)) rfl ?_
   refine ⟨?_, below_alloc HB.out _⟩
   rw [HN.out]
   rfl
  ·have h5 : ¬ 18 < ((te - i : Nat) : Int) := by omega
   have h2b : ((te : Int) == (i : Int)) = false := beq_eq_false_iff_ne.2 h2
   have h5b : decide (18 < ((te - i : Nat) : Int)) = false := decide_eq_false h5
   have h5c : ((te : Int) == (i : Int) || decide (18 < ((te - i : Nat) : Int))) = false := by rw [h2b, h5b]; rfl
   have HN := Aside0.mk (show numTok l i = some ⟨0, (te : Nat), 0, numVal ((l.take te).drop i), ((te - i : Nat) : Int)⟩ by unfold numTok; rw [← HTO.out, if_neg (by have := HI1.out; omega)])
   have h6 : ¬ c = i := by have := HI.out; have := HCC.out; omega
   have h7 : (i : Int) ≤ (te : Int) := by have := HGE.out; omega
   have h8 : (te : Int) ≤ (c : Int) := by have := HLE.out; have := HCC.out; omega
   obtain ⟨i01, hi01, _, hsz1, _⟩ := info_parts info3
   obtain ⟨A1, hcut, hA1, hC1⟩ := print_mid_of (P := Try.prog) (Value.int .i64) 0 72 3 .i64 .i64 Try.underlying72 hi01 hsz1 A c l (i : Int) (te : Int) (by omega) h7 (by have := HLE.out; omega) HCC.out
   simp only [Int.toNat_natCast] at hcut hA1 hC1
   obtain ⟨ds, hds⟩ : ∃ ds, ds = (l.take te).drop i := ⟨_, rfl⟩
   rw [← hds] at hcut hA1
   have HDS := Aside0.mk hds
   have HDL := Aside0.mk (show ds.length = te - i by rw [hds, List.length_drop, List.length_take]; have := HLE.out; omega)
   have HR1 := Aside0.mk (hA1 w (Kd.reads_of_C (enc := Value.int .i64) (d := (0 : Int)) (h1 := fun _ => rfl) HC.out))
   clear hA1 hC1 hi01 hsz1 hds
   go_enter Try.func58, Try.ntmps58
   go_wp2_with (first
    | (go_at_call 38; (refine (past_digit A c i l _ (Kd.C_below HC.out (below_alloc HB.out _)) HIL.out HML.out).mono ?_); rw [← HTO.out]; rintro e w1 ⟨rfl, rfl⟩))
   go_loopg [7, 28] ds.length (fun kq v7 v28 wr => ∃ q : Nat, v28 = .int .i64 q ∧ v7 = .int .i64 (numVal (ds.take q)) ∧ Aside0 (q + kq = ds.length) ∧ wr = w.alloc (.cells #[.int .i64 0, .int .i64 0, .int .i64 0, .int .i64 0, .int .i64 0] 47))
   case atStart => exact ⟨0, rfl, rfl, ⟨by simp⟩, rfl⟩
   case round =>
    obtain ⟨q, rfl, rfl, HQ, rfl⟩ := hrel
    by_cases hq : q < ds.length
    ·cases gk with
     | zero => exact absurd HQ.out (by omega)
     | succ k1 =>
      have hq0 : (q : Int) < (ds.length : Int) := by omega
      obtain ⟨ad, e0, hcell⟩ := ReadsOf.at_ (HR1.out.below (below_alloc HB.out (.cells #[.int .i64 0, .int .i64 0, .int .i64 0, .int .i64 0, .int .i64 0] 47))) (q : Int) (by omega) hq0
      subst e0
      rw [Int.toNat_natCast] at hcell
      have hx : rdOf (0 : Int) ds (q : Int) = ds[q] := by
       unfold rdOf
       rw [Int.toNat_natCast, List.getD_eq_getElem?_getD, List.getElem?_eq_getElem hq]
       rfl
      rw [hx] at hcell
      clear hx
      have HW := Aside0.mk (show wrap64 ((q : Int) + 1) = ((q + 1 : Nat) : Int) by have := HDL.out; have := HLE.out; have := HM.out; unfold wrap64; omega)
      go_wp2
      go_roundg k1
      case measure => omega
      case rel =>
       refine ⟨q + 1, by rw [HW.out], ?_, ⟨by have := HQ.out; omega⟩, rfl⟩
       rw [List.take_add_one, List.getElem?_eq_getElem hq]
       unfold numVal
       rw [Option.toList_some, List.foldl_append]
       rfl
    ·have hq0 : ¬ (q : Int) < (ds.length : Int) := by omega
     have HE := Aside0.mk (show ds.take q = ds from List.take_of_length_le (by omega))
     rw [HE.out]
     go_wp2
     (try simp only [Exit.inBlock, Exit.then]); refine bodyPost_ret (results_ct rfl _ _ w.heap.size 47 _ (0, 0) _ rfl (blk_new w _) hu47 rfl (by kernel_rfl)) rfl ?_
     refine ⟨?_, below_alloc HB.out _⟩
     rw [HN.out, ← HDS.out]
     rfl
end Go.Proofs.Ytgbnfjhmobeloaa.G
