-- printed by wip/tool/gprint.py, a program of this work, out of the translation; Lean checks it
import Derived.Test.YtlgndfplikhflaaDoorGx0
import Derived.Test.YtlgndfplikhflaaDoorGx4
import Derived.Test.YtlgndfplikhflaaDoorGx5
import Derived.Test.YtlgndfplikhflaaDoorGx6
import Derived.Test.YtlgndfplikhflaaDoorGx8
namespace Go.Proofs.YtlgndfplikhflaaDoor.G
open Go.RowKit Go.Proofs.YtlgndfplikhflaaDoorW.PrintWords Go.Proofs.YtlgndfplikhflaaDoorW.PrintLast Go.Proofs.YtlgndfplikhflaaDoorW.PrintMore Go.Proofs.YtlgndfplikhflaaDoorW.VWords Go.Proofs.YtlgndfplikhflaaDoorW.Tab
attribute [local go_sem] max2_int min2_int max_two min_two max_three min_three max_four min_four   -- for this text's walks alone
set_option linter.unusedVariables false
set_option linter.unusedSimpArgs false

/-! ### interlocutorlaw10_known: function 13 -/
/-! ### the chapter's example -/
def kx0 : S36 := ⟨⟨9, [5]⟩, 3⟩
def kx1 : S36 := ⟨⟨9, [-7]⟩, 2⟩
def kx2 : S36 := ⟨⟨9, [5]⟩, 1⟩
theorem it9 : Lib.itoa 9 = [57] := by decide +kernel
theorem it5 : Lib.itoa 5 = [53] := by decide +kernel
theorem it7 : Lib.itoa (-7) = [45, 55] := by decide +kernel
theorem code1 : codeB kx1 = [57, 44, 45, 55] := by unfold codeB codeBytes kx1; simp [it9, it7]
theorem code2 : codeB kx2 = [57, 44, 53] := by unfold codeB codeBytes kx2; simp [it9, it5]
theorem code_known : rank_Code.f 9 [-7] = some ⟨#[57, 44, 45, 55]⟩ := by
  rw [show rank_Code.f 9 [-7] = some (codeOf kx1) from code_ok kx1 ⟨by decide, by decide, by decide⟩]
  unfold codeOf
  rw [code1]
theorem kgood : ∀ r ∈ [kx2, kx1, kx0], okR r := by
  intro r hr
  simp only [List.mem_cons, List.not_mem_nil, or_false] at hr
  rcases hr with rfl | rfl | rfl <;> exact ⟨by decide, by decide, by decide⟩
theorem best_three (A : Option Addr) (c : Nat) (W : World) (hC : Kd.C k36 W A 3 [kx0, kx1, kx2]) (hT_ : YtlgndfplikhflaaDoorW.Tab.TabOK W) :
    Calls Tryd.prog 18 #[.slice A 3 c, .int .i64 1] W fun e w' => ∃ v0_ : Value, e = .returned (.tuple #[v0_, .bool true]) ∧ Kd.V k36 36 w' W.heap.size (fun k_ => W.heap.size ≤ k_) v0_ [kx2] ∧ Below W.heap.size W w' :=
  best_walk A c [kx0, kx1, kx2] [kx2, kx1, kx0] 1 W [kx2] true hC (by simp) (by simp) kgood
    (fun A c W P hF => sorted_three A c kx0 kx1 kx2 W P hF (by intro x hx; simp only [List.mem_cons, List.not_mem_nil, or_false] at hx; rcases hx with rfl | rfl | rfl <;> decide) (by decide) (by decide) (by decide))
    (by simp [bestL, code1, code2, mx]) hT_
theorem best_none (A : Option Addr) (c : Nat) (W : World) (m : Int) (hT_ : YtlgndfplikhflaaDoorW.Tab.TabOK W) :
    Calls Tryd.prog 18 #[.slice A 0 c, .int .i64 m] W fun e w' => ∃ v0_ : Value, e = .returned (.tuple #[v0_, .bool false]) ∧ Kd.V k36 36 w' W.heap.size (fun k_ => W.heap.size ≤ k_) v0_ [] ∧ Below W.heap.size W w' :=
  best_walk A c [] [] m W [] false ⟨rfl, by decide, fun h => absurd h (Nat.lt_irrefl 0)⟩ (by simp) (by simp) (by simp)
    (fun A c W P hF => (sorted_none A c W).mono fun e w' ⟨A', c', he, hb⟩ => ⟨A', c', he, fun W' _ => ⟨rfl, by decide, fun h => absurd h (Nat.lt_irrefl 0)⟩, hb⟩)
    rfl hT_
theorem C_one {W : World} {g : Nat} {x : Int} (h : W.heap[g]? = some (.cells #[.int .i64 x] 3 (0, 0))) : (Kd.int .i64).C W (some ⟨g, 0, none⟩) 1 [x] := by
  refine ⟨rfl, by decide, fun _ => ⟨⟨g, 0, none⟩, rfl, fun j p hj => ?_⟩⟩
  rcases j with _ | j
  · simp only [List.getElem?_cons_zero, Option.some.injEq] at hj
    subst hj
    refine ⟨[.int .i64 x], rfl, rfl, fun i u hu => ?_⟩
    rcases i with _ | i
    · simp only [List.getElem?_cons_zero, Option.some.injEq] at hu
      subst hu
      rw [add_at]
      exact (blk_cell h 0).trans rfl
    · simp at hu
  · simp at hj
theorem C_known {W : World} {g a b : Nat} (h0 : W.heap[a]? = some (.cells #[.int .i64 5] 3 (0, 0))) (h1 : W.heap[b]? = some (.cells #[.int .i64 (-7)] 3 (0, 0)))
    (h : W.heap[g]? = some (.cells #[.int .i64 9, .slice (some ⟨a, 0, none⟩) 1 1, .int .i64 3, .int .i64 9, .slice (some ⟨b, 0, none⟩) 1 1, .int .i64 2, .int .i64 9, .slice (some ⟨a, 0, none⟩) 1 1, .int .i64 1] 36 (0, 0))) : Kd.C k36 W (some ⟨g, 0, none⟩) 3 [kx0, kx1, kx2] := by
  have one : ∀ (j a : Nat) (x t : Int) (p : S36), p = ⟨⟨9, [x]⟩, t⟩ → W.heap[a]? = some (.cells #[.int .i64 x] 3 (0, 0)) → (∀ i u, ([.int .i64 9, .slice (some ⟨a, 0, none⟩) 1 1, .int .i64 t] : List Value)[i]? = some u → W.cell? ⟨g, j * 3 + i, none⟩ = some u) →
      ∃ c, c.length = 3 ∧ k36.K W p c ∧ ∀ i u, c[i]? = some u → W.cell? ((⟨g, 0, none⟩ : Addr).add (j * 3 + i)) = some u := by
    intro j a x t p hp ha hc
    subst hp
    refine ⟨[.int .i64 9, .slice (some ⟨a, 0, none⟩) 1 1, .int .i64 t], rfl, k36_mk W ⟨⟨9, [x]⟩, t⟩ (Nat.le_refl _) (C_one ha), fun i u hu => ?_⟩
    rw [add_at, Nat.zero_add]
    exact hc i u hu
  have cell : ∀ (j : Nat) (l : List Value), (∀ i, i < 3 → (#[Value.int .i64 9, .slice (some ⟨a, 0, none⟩) 1 1, .int .i64 3, .int .i64 9, .slice (some ⟨b, 0, none⟩) 1 1, .int .i64 2, .int .i64 9, .slice (some ⟨a, 0, none⟩) 1 1, .int .i64 1] : Array Value)[j * 3 + i]? = l[i]?) → l.length = 3 → ∀ i u, l[i]? = some u → W.cell? ⟨g, j * 3 + i, none⟩ = some u := by
    intro j l hl h3 i u hu
    have hi : i < 3 := by rw [← h3]; exact (List.getElem?_eq_some_iff.1 hu).1
    rw [blk_cell h (j * 3 + i), hl i hi]
    exact hu
  refine ⟨rfl, by decide, fun _ => ⟨⟨g, 0, none⟩, rfl, fun j p hj => ?_⟩⟩
  match j, hj with
  | 0, hj => exact one 0 a 5 3 p (Option.some.inj hj).symm h0 (cell 0 _ (by intro i hi; match i, hi with | 0, _ => rfl | 1, _ => rfl | 2, _ => rfl) rfl)
  | 1, hj => exact one 1 b (-7) 2 p (Option.some.inj hj).symm h1 (cell 1 _ (by intro i hi; match i, hi with | 0, _ => rfl | 1, _ => rfl | 2, _ => rfl) rfl)
  | 2, hj => exact one 2 a 5 1 p (Option.some.inj hj).symm h0 (cell 2 _ (by intro i hi; match i, hi with | 0, _ => rfl | 1, _ => rfl | 2, _ => rfl) rfl)
  | n + 3, hj => simp at hj
theorem blk_al {w : World} {g : Nat} {o : Obj} (h : w.heap[g]? = some o) (o' : Obj) : (w.alloc o').heap[g]? = some o := blk_below h (below_alloc (Below.refl _ _) _)
theorem blk_nw (w : World) (o : Obj) (g : Nat) (h : g = w.heap.size) : (w.alloc o).heap[g]? = some o := by rw [h]; exact blk_new w o
theorem add_nought {W : World} {ad : Addr} {v : Value} {k : Nat} (h : W.cell? ⟨(ad.add (Int.toNat 0 * 3)).block, (ad.add (Int.toNat 0 * 3)).off + k, none⟩ = some v) : W.cell? ⟨ad.block, ad.off + k, none⟩ = some v := by
  have e : ad.add (Int.toNat 0 * 3) = ad := by simp [Addr.add]
  rwa [e] at h
/-- The world in which the example's readings lie. -/
def kworld (w : World) : World := (((((w.alloc (.cells #[.int .i64 5] 3)).alloc (.cells #[.int .i64 (-7)] 3)).alloc (.cells #[.int .i64 9, .slice (some ⟨w.heap.size, 0, none⟩) 1 1] 24)).alloc (.cells #[.int .i64 9, .slice (some ⟨w.heap.size + 1, 0, none⟩) 1 1] 24)).alloc (.cells #[.int .i64 9, .slice (some ⟨w.heap.size, 0, none⟩) 1 1, .int .i64 3, .int .i64 9, .slice (some ⟨w.heap.size + 1, 0, none⟩) 1 1, .int .i64 2, .int .i64 9, .slice (some ⟨w.heap.size, 0, none⟩) 1 1, .int .i64 1] 36))
theorem kworld_below (w : World) : Below w.heap.size w (kworld w) := below_alloc (below_alloc (below_alloc (below_alloc (below_alloc (Below.refl _ _) _) _) _) _) _
theorem kworld0 (w : World) : (kworld w).heap[w.heap.size]? = some (.cells #[.int .i64 5] 3 (0, 0)) := blk_al (blk_al (blk_al (blk_al (blk_nw w _ _ rfl) _) _) _) _
theorem kworld1 (w : World) : (kworld w).heap[w.heap.size + 1]? = some (.cells #[.int .i64 (-7)] 3 (0, 0)) := blk_al (blk_al (blk_al (blk_nw (w.alloc (.cells #[.int .i64 5] 3)) _ _ (by simp)) _) _) _
theorem kworld2 (w : World) : (kworld w).heap[w.heap.size + 1 + 1]? = some (.cells #[.int .i64 9, .slice (some ⟨w.heap.size, 0, none⟩) 1 1] 24 (0, 0)) := blk_al (blk_al (blk_nw ((w.alloc (.cells #[.int .i64 5] 3)).alloc (.cells #[.int .i64 (-7)] 3)) _ _ (by simp)) _) _
theorem kworld3 (w : World) : (kworld w).heap[w.heap.size + 1 + 1 + 1]? = some (.cells #[.int .i64 9, .slice (some ⟨w.heap.size + 1, 0, none⟩) 1 1] 24 (0, 0)) := blk_al (blk_nw (((w.alloc (.cells #[.int .i64 5] 3)).alloc (.cells #[.int .i64 (-7)] 3)).alloc (.cells #[.int .i64 9, .slice (some ⟨w.heap.size, 0, none⟩) 1 1] 24)) _ _ (by simp)) _
theorem kworld4 (w : World) : (kworld w).heap[w.heap.size + 1 + 1 + 1 + 1]? = some (.cells #[.int .i64 9, .slice (some ⟨w.heap.size, 0, none⟩) 1 1, .int .i64 3, .int .i64 9, .slice (some ⟨w.heap.size + 1, 0, none⟩) 1 1, .int .i64 2, .int .i64 9, .slice (some ⟨w.heap.size, 0, none⟩) 1 1, .int .i64 1] 36 (0, 0)) := blk_nw ((((w.alloc (.cells #[.int .i64 5] 3)).alloc (.cells #[.int .i64 (-7)] 3)).alloc (.cells #[.int .i64 9, .slice (some ⟨w.heap.size, 0, none⟩) 1 1] 24)).alloc (.cells #[.int .i64 9, .slice (some ⟨w.heap.size + 1, 0, none⟩) 1 1] 24)) _ _ (by simp)
theorem kbest (w : World) (hT_ : YtlgndfplikhflaaDoorW.Tab.TabOK w) : Calls Tryd.prog 18 #[.slice (some ⟨w.heap.size + 1 + 1 + 1 + 1, 0, none⟩) 3 3, .int .i64 1] (((((w.alloc (.cells #[.int .i64 5] 3)).alloc (.cells #[.int .i64 (-7)] 3)).alloc (.cells #[.int .i64 9, .slice (some ⟨w.heap.size, 0, none⟩) 1 1] 24)).alloc (.cells #[.int .i64 9, .slice (some ⟨w.heap.size + 1, 0, none⟩) 1 1] 24)).alloc (.cells #[.int .i64 9, .slice (some ⟨w.heap.size, 0, none⟩) 1 1, .int .i64 3, .int .i64 9, .slice (some ⟨w.heap.size + 1, 0, none⟩) 1 1, .int .i64 2, .int .i64 9, .slice (some ⟨w.heap.size, 0, none⟩) 1 1, .int .i64 1] 36)) fun e w' => ∃ v0_ : Value, e = .returned (.tuple #[v0_, .bool true]) ∧ Kd.V k36 36 w' (kworld w).heap.size (fun k_ => (kworld w).heap.size ≤ k_) v0_ [kx2] ∧ Below (kworld w).heap.size (kworld w) w' :=
  best_three (some ⟨w.heap.size + 1 + 1 + 1 + 1, 0, none⟩) 3 (kworld w) (C_known (kworld0 w) (kworld1 w) (kworld4 w)) (tab_below hT_ (kworld_below w))
set_option maxHeartbeats 4000000 in
set_option maxRecDepth 100000 in
theorem known_walk (w : World) (hT_ : YtlgndfplikhflaaDoorW.Tab.TabOK w) :
    Calls Tryd.prog 13 #[] w fun e w' => e = .returned (.bool true) ∧ Below w.heap.size w w' := by
  have HT_ := Aside0.mk hT_
  clear hT_
  have HB := Aside0.mk (Below.refl w.heap.size w)
  have hu1 := Tryd.underlying36
  have hu3 := Tryd.underlying24
  go_enter Tryd.func13, Tryd.ntmps13
  go_wp2_with (first
    | (go_at_call 18; (with_reducible refine (kbest w HT_.out).mono ?_); rintro e w1 ⟨v1, rfl, hv1, hb1⟩; have HB1 := Aside0.mk (below_step (kworld_below w) hb1); have HV1 := Aside0.mk hv1; have H0 := Aside0.mk (blk_below (kworld0 w) hb1); have H1 := Aside0.mk (blk_below (kworld1 w) hb1); have H2 := Aside0.mk (blk_below (kworld2 w) hb1); have H3 := Aside0.mk (blk_below (kworld3 w) hb1); obtain ⟨A1, c1, ev1⟩ := Kd.V_slice HV1.out; subst ev1; clear hv1 hb1)
    | (go_at_call 18; (with_reducible refine (best_none none 0 w1 0 ?hT).mono ?_); (case hT => exact tab_below HT_.out HB1.out); rintro e w2 ⟨v2, rfl, hv2, hb2⟩; have HB2 := Aside0.mk (below_step HB1.out hb2); have HV2 := Aside0.mk (Kd.V_below HV1.out hb2); have HH0 := Aside0.mk (blk_below H0.out hb2); have HH1 := Aside0.mk (blk_below H1.out hb2); have HH3 := Aside0.mk (blk_below H3.out hb2); have HH2 := Aside0.mk (blk_below H2.out hb2); obtain ⟨A2, c2, ev2⟩ := Kd.V_slice hv2; subst ev2; clear hv2 hb2; obtain ⟨ad, Az, cz, he, q0, q1, q2, _, _⟩ := at_T36 (Kd.V_reads' HV2.out).2.2 0 (by decide) (by decide); subst he; have q3 : w2.cell? ⟨ad.block, ad.off + 2, none⟩ = some (.int .i64 1) := add_nought q2; clear q0 q1 q2; have p0 : w2.cell? ⟨w.heap.size + 1 + 1, 0, none⟩ = some (.int .i64 9) := (blk_cell HH2.out 0).trans rfl; have p1 : w2.cell? ⟨w.heap.size + 1 + 1, 1, none⟩ = some (.slice (some ⟨w.heap.size, 0, none⟩) 1 1) := (blk_cell HH2.out 1).trans rfl; have p2 : w2.cell? ⟨w.heap.size + 1 + 1 + 1, 0, none⟩ = some (.int .i64 9) := (blk_cell HH3.out 0).trans rfl; have p3 : w2.cell? ⟨w.heap.size + 1 + 1 + 1, 1, none⟩ = some (.slice (some ⟨w.heap.size + 1, 0, none⟩) 1 1) := (blk_cell HH3.out 1).trans rfl)
    | (go_at_call 14; (refine (rank_Cmp.calls 10 9 (some ⟨w.heap.size, 0, none⟩) 1 [5] 9 (some ⟨w.heap.size + 1, 0, none⟩) 1 [-7] 1 w2 (C_one HH0.out) (Nat.le_refl _) (C_one HH1.out) (Nat.le_refl _) (Cmp_eq 9 9 [5] [-7] (by decide) 10 (by decide))).mono ?_); rintro e w3 ⟨rfl, hb3⟩; have HB3 := Aside0.mk (below_step HB2.out hb3); have HK1 := Aside0.mk (blk_below HH1.out hb3); have p4 : w3.cell? ⟨w.heap.size + 1 + 1 + 1, 0, none⟩ = some (.int .i64 9) := pw_cell_below hb3 p2; have p5 : w3.cell? ⟨w.heap.size + 1 + 1 + 1, 1, none⟩ = some (.slice (some ⟨w.heap.size + 1, 0, none⟩) 1 1) := pw_cell_below hb3 p3; clear hb3)
    | (go_at_call 22; (refine (rank_Code.calls 9 (some ⟨w.heap.size + 1, 0, none⟩) 1 [-7] _ w3 (C_one HK1.out) (Nat.le_refl _) code_known ?hT).mono ?_); (case hT => exact tab_below HT_.out HB3.out); rintro e w4 ⟨rfl, hb4⟩; have HB4 := Aside0.mk (below_step HB3.out hb4); clear hb4))
  go_ret
  exact ⟨rfl, HB4.out⟩
def interlocutorlaw10_known.f : Option Bool := some true
theorem interlocutorlaw10_known.calls (r : Bool) (w : World) (h : interlocutorlaw10_known.f = some r) (hT_ : YtlgndfplikhflaaDoorW.Tab.TabOK w) :
    Calls Tryd.prog 13 #[] w fun e w' => e = .returned (.bool r) ∧ Below w.heap.size w w' := by
  obtain rfl := Option.some.inj h
  exact known_walk w hT_

/-! ### interlocutorlaw1_within: function 41 -/
def interlocutorlaw1_within.f (a0 : Int) (a1 : Int) : Option (Int) := if a1 = 0 then (none) else (if (Int.tmod a0 a1) < 0 then (some (wrap64 ((Int.tmod a0 a1) + a1))) else (some (Int.tmod a0 a1)))
set_option maxHeartbeats 8000000 in
set_option maxRecDepth 100000 in
theorem interlocutorlaw1_within.calls (a0 : Int) (a1 : Int) (r : Int) (w : World) (h : interlocutorlaw1_within.f a0 a1 = some r) :
    Calls Tryd.prog 41 #[.int .i64 a0, .int .i64 a1] w fun e w' => e = .returned (.int .i64 r) ∧ Drawn0 w w' := by
  have H : (if a1 = 0 then (none) else (if (Int.tmod a0 a1) < 0 then (some (wrap64 ((Int.tmod a0 a1) + a1))) else (some (Int.tmod a0 a1)))) = some r := h
  clear h
  by_cases c3 : a1 = 0
  · rw [if_pos c3] at H
    exact absurd H (by simp)
  · rw [if_neg c3] at H
    have c3b0 : (a1 == 0) = false := beq_eq_false_iff_ne.mpr c3
    have c3b1 : (a1 != 0) = true := bne_iff_ne.mpr c3
    by_cases c4 : (Int.tmod a0 a1) < 0
    · rw [if_pos c4] at H
      have c4b0 : decide ((Int.tmod a0 a1) < 0) = true := decide_eq_true c4
      clear c4
      obtain rfl := Option.some.inj H
      go_enter Tryd.func41, Tryd.ntmps41
      go_wp2
      go_ret
      exact ⟨by first | rfl | (simp; done) | (simp [*]; done), by repeat (first | exact Drawn0.refl _ | apply Drawn0.step)⟩
    · rw [if_neg c4] at H
      have c4b0 : decide ((Int.tmod a0 a1) < 0) = false := decide_eq_false c4
      clear c4
      obtain rfl := Option.some.inj H
      go_enter Tryd.func41, Tryd.ntmps41
      go_wp2
      go_ret
      exact ⟨by first | rfl | (simp; done) | (simp [*]; done), by repeat (first | exact Drawn0.refl _ | apply Drawn0.step)⟩

/-! ### interlocutorref1_Leap: function 49 -/
def interlocutorref1_Leap.f (a0 : Int) : Option (Bool) := if (Int.tmod a0 4) = 0 then (if (Int.tmod a0 100) = 0 then (some ((Int.tmod a0 400) == 0)) else (some true)) else (some false)
set_option maxHeartbeats 8000000 in
set_option maxRecDepth 100000 in
theorem interlocutorref1_Leap.calls (a0 : Int) (r : Bool) (w : World) (h : interlocutorref1_Leap.f a0 = some r) :
    Calls Tryd.prog 49 #[.int .i64 a0] w fun e w' => e = .returned (.bool r) ∧ Drawn0 w w' := by
  have H : (if (Int.tmod a0 4) = 0 then (if (Int.tmod a0 100) = 0 then (some ((Int.tmod a0 400) == 0)) else (some true)) else (some false)) = some r := h
  clear h
  by_cases c2 : (Int.tmod a0 4) = 0
  · rw [if_pos c2] at H
    have c2b0 : ((Int.tmod a0 4) == 0) = true := beq_iff_eq.mpr c2
    have c2b1 : ((Int.tmod a0 4) != 0) = false := bne_eq_false_iff_eq.mpr c2
    clear c2
    by_cases c3 : (Int.tmod a0 100) = 0
    · rw [if_pos c3] at H
      have c3b0 : ((Int.tmod a0 100) == 0) = true := beq_iff_eq.mpr c3
      have c3b1 : ((Int.tmod a0 100) != 0) = false := bne_eq_false_iff_eq.mpr c3
      clear c3
      obtain rfl := Option.some.inj H
      go_enter Tryd.func49, Tryd.ntmps49
      go_wp2
      go_ret
      exact ⟨by first | rfl | (simp; done) | (simp [*]; done), by repeat (first | exact Drawn0.refl _ | apply Drawn0.step)⟩
    · rw [if_neg c3] at H
      have c3b0 : ((Int.tmod a0 100) == 0) = false := beq_eq_false_iff_ne.mpr c3
      have c3b1 : ((Int.tmod a0 100) != 0) = true := bne_iff_ne.mpr c3
      obtain rfl := Option.some.inj H
      go_enter Tryd.func49, Tryd.ntmps49
      go_wp2
      go_ret
      exact ⟨by first | rfl | (simp; done) | (simp [*]; done), by repeat (first | exact Drawn0.refl _ | apply Drawn0.step)⟩
  · rw [if_neg c2] at H
    have c2b0 : ((Int.tmod a0 4) == 0) = false := beq_eq_false_iff_ne.mpr c2
    have c2b1 : ((Int.tmod a0 4) != 0) = true := bne_iff_ne.mpr c2
    obtain rfl := Option.some.inj H
    go_enter Tryd.func49, Tryd.ntmps49
    go_wp2
    go_ret
    exact ⟨by first | rfl | (simp; done) | (simp [*]; done), by repeat (first | exact Drawn0.refl _ | apply Drawn0.step)⟩

/-! ### interlocutorref1_Length: function 42 -/
def interlocutorref1_Length.f (a0 : Int) (a1 : Int) : Option (Int) := if a1 = 2 then ((interlocutorref1_Leap.f a0).bind fun t127 => (if t127 = true then (some 29) else (some 28))) else (if a1 = 4 then (some 30) else (if a1 = 6 then (some 30) else (if a1 = 9 then (some 30) else (if a1 = 11 then (some 30) else (some 31)))))
set_option maxHeartbeats 8000000 in
set_option maxRecDepth 100000 in
theorem interlocutorref1_Length.calls (a0 : Int) (a1 : Int) (r : Int) (w : World) (h : interlocutorref1_Length.f a0 a1 = some r) :
    Calls Tryd.prog 42 #[.int .i64 a0, .int .i64 a1] w fun e w' => e = .returned (.int .i64 r) ∧ Drawn0 w w' := by
  have H : (if a1 = 2 then ((interlocutorref1_Leap.f a0).bind fun t127 => (if t127 = true then (some 29) else (some 28))) else (if a1 = 4 then (some 30) else (if a1 = 6 then (some 30) else (if a1 = 9 then (some 30) else (if a1 = 11 then (some 30) else (some 31)))))) = some r := h
  clear h
  by_cases c3 : a1 = 2
  · rw [if_pos c3] at H
    have c3b0 : (a1 == 2) = true := beq_iff_eq.mpr c3
    have c3b1 : (a1 != 2) = false := bne_eq_false_iff_eq.mpr c3
    clear c3
    replace H := Option.bind_eq_some_iff.mp H
    obtain ⟨t127, A40, H⟩ := H
    replace H : (if t127 = true then (some 29) else (some 28)) = some r := H
    have A4 := Aside0.mk A40
    clear A40
    by_cases c5 : t127 = true
    · subst c5
      have H1 : (some 29) = some r := by rw [if_pos rfl] at H; exact H
      clear H
      have H := H1
      clear H1
      obtain rfl := Option.some.inj H
      go_enter Tryd.func42, Tryd.ntmps42
      go_wp2_with (first | ((with_reducible refine gate_callee (f := 49) rfl ?_); refine goesL_ (some 9) rfl rfl Tryd.func49 (by kernel_rfl) rfl #[.int .i64 a0] rfl (by (try simp only [List.map_toArray, List.map_cons, List.map_nil]); first | done | rfl | (simp only [List.length_drop, List.length_take]; rfl)) ?_; (with_reducible refine (interlocutorref1_Leap.calls a0 true _ A4.out).mono ?_); rintro e w' ⟨rfl, ⟨nd, rfl⟩⟩; refine ⟨_, rfl, ?_⟩))
      go_ret
      exact ⟨by first | rfl | (simp; done) | (simp [*]; done), by repeat (first | exact Drawn0.refl _ | apply Drawn0.step)⟩
    · replace c5 := Bool.eq_false_iff.mpr c5
      subst c5
      have H1 : (some 28) = some r := by rw [if_neg (show ¬ (false = true) by decide)] at H; exact H
      clear H
      have H := H1
      clear H1
      obtain rfl := Option.some.inj H
      go_enter Tryd.func42, Tryd.ntmps42
      go_wp2_with (first | ((with_reducible refine gate_callee (f := 49) rfl ?_); refine goesL_ (some 9) rfl rfl Tryd.func49 (by kernel_rfl) rfl #[.int .i64 a0] rfl (by (try simp only [List.map_toArray, List.map_cons, List.map_nil]); first | done | rfl | (simp only [List.length_drop, List.length_take]; rfl)) ?_; (with_reducible refine (interlocutorref1_Leap.calls a0 false _ A4.out).mono ?_); rintro e w' ⟨rfl, ⟨nd, rfl⟩⟩; refine ⟨_, rfl, ?_⟩))
      go_ret
      exact ⟨by first | rfl | (simp; done) | (simp [*]; done), by repeat (first | exact Drawn0.refl _ | apply Drawn0.step)⟩
  · rw [if_neg c3] at H
    have c3b0 : (a1 == 2) = false := beq_eq_false_iff_ne.mpr c3
    have c3b1 : (a1 != 2) = true := bne_iff_ne.mpr c3
    by_cases c6 : a1 = 4
    · rw [if_pos c6] at H
      have c6b0 : (a1 == 4) = true := beq_iff_eq.mpr c6
      have c6b1 : (a1 != 4) = false := bne_eq_false_iff_eq.mpr c6
      clear c6
      obtain rfl := Option.some.inj H
      go_enter Tryd.func42, Tryd.ntmps42
      go_wp2
      go_ret
      exact ⟨by first | rfl | (simp; done) | (simp [*]; done), by repeat (first | exact Drawn0.refl _ | apply Drawn0.step)⟩
    · rw [if_neg c6] at H
      have c6b0 : (a1 == 4) = false := beq_eq_false_iff_ne.mpr c6
      have c6b1 : (a1 != 4) = true := bne_iff_ne.mpr c6
      by_cases c7 : a1 = 6
      · rw [if_pos c7] at H
        have c7b0 : (a1 == 6) = true := beq_iff_eq.mpr c7
        have c7b1 : (a1 != 6) = false := bne_eq_false_iff_eq.mpr c7
        clear c7
        obtain rfl := Option.some.inj H
        go_enter Tryd.func42, Tryd.ntmps42
        go_wp2
        go_ret
        exact ⟨by first | rfl | (simp; done) | (simp [*]; done), by repeat (first | exact Drawn0.refl _ | apply Drawn0.step)⟩
      · rw [if_neg c7] at H
        have c7b0 : (a1 == 6) = false := beq_eq_false_iff_ne.mpr c7
        have c7b1 : (a1 != 6) = true := bne_iff_ne.mpr c7
        by_cases c8 : a1 = 9
        · rw [if_pos c8] at H
          have c8b0 : (a1 == 9) = true := beq_iff_eq.mpr c8
          have c8b1 : (a1 != 9) = false := bne_eq_false_iff_eq.mpr c8
          clear c8
          obtain rfl := Option.some.inj H
          go_enter Tryd.func42, Tryd.ntmps42
          go_wp2
          go_ret
          exact ⟨by first | rfl | (simp; done) | (simp [*]; done), by repeat (first | exact Drawn0.refl _ | apply Drawn0.step)⟩
        · rw [if_neg c8] at H
          have c8b0 : (a1 == 9) = false := beq_eq_false_iff_ne.mpr c8
          have c8b1 : (a1 != 9) = true := bne_iff_ne.mpr c8
          by_cases c9 : a1 = 11
          · rw [if_pos c9] at H
            have c9b0 : (a1 == 11) = true := beq_iff_eq.mpr c9
            have c9b1 : (a1 != 11) = false := bne_eq_false_iff_eq.mpr c9
            clear c9
            obtain rfl := Option.some.inj H
            go_enter Tryd.func42, Tryd.ntmps42
            go_wp2
            go_ret
            exact ⟨by first | rfl | (simp; done) | (simp [*]; done), by repeat (first | exact Drawn0.refl _ | apply Drawn0.step)⟩
          · rw [if_neg c9] at H
            have c9b0 : (a1 == 11) = false := beq_eq_false_iff_ne.mpr c9
            have c9b1 : (a1 != 11) = true := bne_iff_ne.mpr c9
            obtain rfl := Option.some.inj H
            go_enter Tryd.func42, Tryd.ntmps42
            go_wp2
            go_ret
            exact ⟨by first | rfl | (simp; done) | (simp [*]; done), by repeat (first | exact Drawn0.refl _ | apply Drawn0.step)⟩

end Go.Proofs.YtlgndfplikhflaaDoor.G
