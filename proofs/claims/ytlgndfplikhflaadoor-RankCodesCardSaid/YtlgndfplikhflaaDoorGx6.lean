-- printed by wip/tool/gprint.py, a program of this work, out of the translation; Lean checks it
import Derived.Test.YtlgndfplikhflaaDoorGx0
import Derived.Test.YtlgndfplikhflaaDoorGx5
namespace Go.Proofs.YtlgndfplikhflaaDoor.G
open Go.RowKit Go.Proofs.YtlgndfplikhflaaDoorW.PrintWords Go.Proofs.YtlgndfplikhflaaDoorW.PrintLast Go.Proofs.YtlgndfplikhflaaDoorW.PrintMore Go.Proofs.YtlgndfplikhflaaDoorW.VWords Go.Proofs.YtlgndfplikhflaaDoorW.Tab
attribute [local go_sem] max2_int min2_int max_two min_two max_three min_three max_four min_four   -- for this text's walks alone
set_option linter.unusedVariables false
set_option linter.unusedSimpArgs false

/-! ### rank_reading: function 26 -/
/-! ### slices.SortFunc at readings -/
/-- A reading and its cells, as they lie in W, beside the row in block g. -/
def El (W : World) (g : Nat) (ok : Nat → Prop) : Type := {p : S36 × List Value // Kd.FK k36 W (fun k => ok k ∧ k ≠ g) p.1 p.2 ∧ p.1.f0.f1.length ≤ 1000000}
instance (W : World) (g : Nat) (ok : Nat → Prop) : Inhabited (El W g ok) := ⟨⟨(z36, [.int .i64 0, .slice none 0 0, .int .i64 0]), k36_mkF W _ z36 (Nat.le_refl _) (Kd.F_nil _ _ _), Nat.zero_le _⟩⟩
def El.enc {W : World} {g : Nat} {ok : Nat → Prop} (p : El W g ok) : List Value := p.1.2
def El.cf {W : World} {g : Nat} {ok : Nat → Prop} (p q : El W g ok) : Int := cmpR p.1.1 q.1.1
theorem El.len {W : World} {g : Nat} {ok : Nat → Prop} (p : El W g ok) : p.enc.length = 3 := k36.K_len (Kd.FK_now p.2.1)
theorem El.one {W : World} {g : Nat} {ok : Nat → Prop} (p : El W g ok) : ∀ v ∈ p.enc, v.oneCell' = true := k36.K_one (Kd.FK_now p.2.1)
theorem El.lt {W : World} {g : Nat} {ok : Nat → Prop} (x y : El W g ok) : Go.Proofs.ltOf El.cf x y = decide (cmpR x.1.1 y.1.1 < 0) := rfl
theorem El.swo {W : World} {g : Nat} {ok : Nat → Prop} : Go.Sort.SWO (Go.Proofs.ltOf (El.cf (W := W) (g := g) (ok := ok))) where
  irrefl x := by
    have := cmpR_pre.neg x.1.1 x.1.1
    rw [El.lt]
    exact decide_eq_false (by omega)
  trans x y z h1 h2 := by
    rw [El.lt] at h1 h2 ⊢
    have h1 := of_decide_eq_true h1
    have h2 := of_decide_eq_true h2
    have n := cmpR_pre.neg x.1.1 z.1.1
    have t := cmpR_pre.tr x.1.1 y.1.1 z.1.1 (by omega) (by omega)
    have t2 := cmpR_pre.tr y.1.1 z.1.1 x.1.1
    have n2 := cmpR_pre.neg x.1.1 y.1.1
    exact decide_eq_true (by omega)
  ntrans x y z h1 h2 := by
    rw [El.lt] at h1 h2 ⊢
    have h1 := of_decide_eq_false h1
    have h2 := of_decide_eq_false h2
    have n1 := cmpR_pre.neg x.1.1 y.1.1
    have n2 := cmpR_pre.neg y.1.1 z.1.1
    have n3 := cmpR_pre.neg x.1.1 z.1.1
    have t := cmpR_pre.tr z.1.1 y.1.1 x.1.1 (by omega) (by omega)
    exact decide_eq_false (by omega)
theorem srt_heap {W : World} {g : Nat} {ok : Nat → Prop} (m : Nat) (dk : Array (El W g ok)) (os : Array Obj) (k : Nat) (hk : k ≠ g) (hl : k < W.heap.size) : (Go.Proofs.sortWorldK El.enc 3 W g 0 m dk os).heap[k]? = W.heap[k]? := by
  unfold Go.Proofs.sortWorldK Go.Sort.putRowK Go.Sort.putRow Go.Sort.mapBlock Go.Sort.grow Go.Sort.ahead
  simp only
  rw [Array.getElem?_append_left (by simpa using hl), Array.getElem?_modify, if_neg (fun e => hk e.symm)]
theorem srt_lays (W : World) (g : Nat) (ok : Nat → Prop) (n : Nat) : Go.Proofs.CmpLays Tryd.prog 92 #[] (El.enc (W := W) (g := g) (ok := ok)) 3 El.cf g 0 n W := by
  intro m os dk hs x y
  have hx := x.2.1 (Go.Proofs.sortWorldK El.enc 3 W g 0 m dk os) (fun k hk hl => srt_heap m dk os k hk.2 hl)
  have hy := y.2.1 (Go.Proofs.sortWorldK El.enc 3 W g 0 m dk os) (fun k hk hl => srt_heap m dk os k hk.2 hl)
  obtain ⟨A1, c1, e1, l1, g1⟩ := k36_open hx
  obtain ⟨A2, c2, e2, l2, g2⟩ := k36_open hy
  have ex : x.enc = [.int .i64 x.1.1.f0.f0, .slice A1 x.1.1.f0.f1.length c1, .int .i64 x.1.1.f1] := e1
  have ey : y.enc = [.int .i64 y.1.1.f0.f0, .slice A2 y.1.1.f0.f1.length c2, .int .i64 y.1.1.f1] := e2
  rw [ex, ey]
  exact (rank_reading_against.grows (x.1.1.f0.f1.length + 4) x.1.1.f0.f0 A1 c1 x.1.1.f0.f1 x.1.1.f1 y.1.1.f0.f0 A2 c2 y.1.1.f0.f1 y.1.1.f1 (cmpR x.1.1 y.1.1) _ g1 l1 g2 l2 (reading_eq x.1.1 y.1.1 x.2.2 _ (Nat.le_refl _))).mono fun e w' ⟨he, hg⟩ => ⟨he, hg⟩
/-- A row of one's own, as the sort's words tell it. -/
theorem srt_hold (W : World) (base : Nat) (ok : Nat → Prop) (g cap : Nat) (xs : List S36) (hN : Kd.N k36 47 W base ok (.slice (some ⟨g, 0, none⟩) xs.length cap) xs) (hF : ∀ x ∈ xs, x.f0.f1.length ≤ 1000000) :
    ∃ d : Array (El W g ok), d.toList.map (fun p => p.1.1) = xs ∧ Go.Sort.HoldsK El.enc 3 W g 0 d := by
  have hex : ∀ j : Fin xs.length, ∃ p : El W g ok, p.1.1 = xs[j] ∧ (∀ i u, p.1.2[i]? = some u → W.cell? ⟨g, j.1 * 3 + i, none⟩ = some u) ∧ ∀ i, W.frozen? ⟨g, j.1 * 3 + i, none⟩ = false := by
    intro j
    obtain ⟨c, hcl, hK, hcc, hfr⟩ := Kd.N_elem hN z36 (j.1 : Int) (by omega) (by have := j.2; omega)
    have hj : xs.getD (j.1 : Int).toNat z36 = xs[j] := by
      rw [Int.toNat_natCast, List.getD_eq_getElem?_getD, List.getElem?_eq_getElem j.2]
      rfl
    rw [hj] at hK
    simp only [Int.toNat_natCast] at hcc hfr
    exact ⟨⟨(xs[j], c), hK, hF _ (List.getElem_mem j.2)⟩, rfl, hcc, hfr⟩
  obtain ⟨f, hf⟩ := Classical.axiomOfChoice hex
  have hds : (Array.ofFn f).size = xs.length := Array.size_ofFn
  have hget : ∀ j (h : j < xs.length), (Array.ofFn f)[j]! = f ⟨j, h⟩ := fun j h => by
    rw [getElem!_pos _ j (by rw [hds]; exact h)]
    simp
  have hH : Go.Sort.HoldsK El.enc 3 W g 0 (Array.ofFn f) := by
    intro t ht
    rw [Go.Sort.size_flatK, hds] at ht
    rw [Go.Sort.get_flatK _ _ _ _ (by rw [hds]; exact ht)]
    have hq : t / 3 < xs.length := by omega
    rw [hget _ hq]
    have e : 0 + t = t / 3 * 3 + t % 3 := by omega
    obtain ⟨_, h2, h3⟩ := hf ⟨t / 3, hq⟩
    have hlen : t % 3 < (f ⟨t / 3, hq⟩).enc.length := by rw [El.len]; omega
    rw [e]
    refine ⟨?_, h3 _⟩
    rw [getElem!_pos (f ⟨t / 3, hq⟩).enc (t % 3) hlen]
    exact h2 _ _ (List.getElem?_eq_getElem hlen)
  have hmap : (Array.ofFn f).toList.map (fun p => p.1.1) = xs := by
    apply List.ext_getElem
    · simp
    · intro i h1 h2
      simp
      exact (hf ⟨i, h2⟩).1
  exact ⟨Array.ofFn f, hmap, hH⟩
/-- .. and back: the row as it is only read. -/
theorem srt_after (W : World) (base : Nat) (ok : Nat → Prop) (g : Nat) (hok : ok g) (hg : g < W.heap.size) (hb : base ≤ g) (d0 d' : Array (El W g ok)) (hH : Go.Sort.HoldsK El.enc 3 W g 0 d0) (hsz : d'.size = d0.size) (hl : d0.size ≤ 1000000) (w' : World) (hs : SWK El.enc 3 W g 0 d' w') :
    Kd.F k36 w' ok (some ⟨g, 0, none⟩) (d'.toList.map (fun p => p.1.1)).length (d'.toList.map (fun p => p.1.1)) ∧ Below base W w' := by
  obtain ⟨n, os, rfl⟩ := hs
  have hH' := Go.Proofs.holdsK_sortWorldK_c El.enc 3 W g 0 d0 d' n os hH hg hsz
  refine ⟨?_, ?_⟩
  · intro W' hW'
    refine ⟨rfl, by simp; omega, fun _ => ⟨⟨g, 0, none⟩, rfl, fun j p hj => ?_⟩⟩
    obtain ⟨hj1, hj2⟩ := List.getElem?_eq_some_iff.1 hj
    have hj3 : j < d'.size := by simpa using hj1
    have hpe : p = d'[j].1.1 := by rw [← hj2]; simp
    refine ⟨d'[j].enc, El.len _, ?_, fun i u hu => ?_⟩
    · rw [hpe]
      refine d'[j].2.1 W' fun k hk hlk => ?_
      rw [hW' k hk.1 (Nat.lt_of_lt_of_le hlk (Go.Proofs.size_sortWorldK_c El.enc 3 W g 0 n d' os))]
      exact srt_heap n d' os k hk.2 hlk
    · have hi : i < 3 := by
        obtain ⟨h, _⟩ := List.getElem?_eq_some_iff.1 hu
        rw [El.len] at h
        exact h
      have hc := (hH'.cell hj3 hi).1
      have hu2 : (d'[j]!.enc)[i]! = u := by
        rw [getElem!_pos d' j hj3]
        obtain ⟨h, h2⟩ := List.getElem?_eq_some_iff.1 hu
        rw [getElem!_pos (d'[j].enc) i h]
        exact h2
      rw [hu2] at hc
      have hgl : g < (Go.Proofs.sortWorldK El.enc 3 W g 0 n d' os).heap.size := Nat.lt_of_lt_of_le hg (Go.Proofs.size_sortWorldK_c El.enc 3 W g 0 n d' os)
      have ha : (⟨g, 0, none⟩ : Addr).add (j * k36.sz + i) = ⟨g, 0 + j * 3 + i, none⟩ := by rw [add_at]; show (⟨g, 0 + (j * 3 + i), none⟩ : Addr) = _; rw [Nat.add_assoc]
      rw [ha, World.cell?_of_block (w := Go.Proofs.sortWorldK El.enc 3 W g 0 n d' os) (hW' g hok hgl)]
      exact hc
  · refine ⟨rfl, rfl, rfl, Go.Proofs.size_sortWorldK_c El.enc 3 W g 0 n d' os, fun k hk => ?_⟩
    rcases Nat.lt_or_ge k W.heap.size with h | h
    · exact srt_heap n d' os k (by omega) h
    · omega
/-- A method expression's call comes to the method. -/
theorem meth_at (x : Array Value) (w : World) : (method 217 47 (.agg x) "interlocutor/rank.against").run Tryd.prog w = .ok (92, .agg x) w := by kernel_rfl
theorem meth_call (args : Array Value) (w : World) : (callFunc 92 args).run Tryd.prog w = .ok (.enter 92 args) w := enters_of Tryd.func92 (by kernel_rfl) rfl args w
section
variable {W0 : World} {g : Nat} {ok : Nat → Prop}
/-- The comparison of two of them, wherever the sort stands. -/
theorem ins_cmp {dk : Array (El W0 g ok)} {W : World} (h : SWK El.enc 3 W0 g 0 dk W) (x y : El W0 g ok) (cx cy : List Value) (hx : x.enc = cx) (hy : y.enc = cy) (n : Nat) (os : Array Obj) :
    Calls Tryd.prog 92 #[.agg cx.toArray, .agg cy.toArray] (Go.Sort.grow (W.drewN n) os) fun e w' => e = .returned (.int .i64 (El.cf x y)) ∧ ∃ q os', w' = Go.Sort.grow ((Go.Sort.grow (W.drewN n) os).drewN q) os' := by
  subst hx; subst hy
  have h2 := h.cmp (srt_lays W0 g ok dk.size) rfl x y n os
  simpa using h2
theorem ins_cell {dk d0 : Array (El W0 g ok)} {W : World} (h : SWK El.enc 3 W0 g 0 dk W) (hH : Go.Sort.HoldsK El.enc 3 W0 g 0 d0) (hg : g < W0.heap.size) (hs : dk.size = d0.size) (i c : Nat) (hi : i < dk.size) (hc : c < 3) (cx : List Value) (hx : dk[i]!.enc = cx) (n : Nat) (os : Array Obj) :
    (Go.Sort.grow (W.drewN n) os).cell? ⟨g, i * 3 + c, none⟩ = some cx[c]! ∧ (Go.Sort.grow (W.drewN n) os).frozen? ⟨g, i * 3 + c, none⟩ = false := by
  subst hx
  have h2 := ((h.grown n os).holds hg hH hs).cell hi hc
  rwa [Nat.zero_add] at h2
theorem swp3_10 {α : Type} [Inhabited α] (a b c : α) : Go.Sort.swp #[a, b, c] 1 0 = #[b, a, c] := by simp [Go.Sort.swp]
theorem swp3_21 {α : Type} [Inhabited α] (a b c : α) : Go.Sort.swp #[a, b, c] 2 1 = #[a, c, b] := by simp [Go.Sort.swp]
theorem ins_swap {dk d0 dk2 : Array (El W0 g ok)} {W : World} (h : SWK El.enc 3 W0 g 0 dk W) (hH : Go.Sort.HoldsK El.enc 3 W0 g 0 d0) (hg : g < W0.heap.size) (hs : dk.size = d0.size) (i j o1 o2 : Nat) (hi : i < dk.size) (hj : j < dk.size) (hd : Go.Sort.swp dk i j = dk2) (a b c a' b' c' : Value) (hx : dk[j]!.enc = [a, b, c]) (hy : dk[i]!.enc = [a', b', c']) (h1 : o1 = i * 3) (h2 : o2 = j * 3) :
    SWK El.enc 3 W0 g 0 dk2 (World.drew ((((((W.setCell ⟨g, o1, none⟩ a).setCell ⟨g, o1 + 1, none⟩ b).setCell ⟨g, o1 + 1 + 1, none⟩ c).setCell ⟨g, o2, none⟩ a').setCell ⟨g, o2 + 1, none⟩ b').setCell ⟨g, o2 + 1 + 1, none⟩ c')) := by
  subst h1; subst h2
  have h3 := h.swapped ⟨El.len, El.one, hH, hg⟩ i j hi hj
  rw [hx, hy, hd, Nat.zero_add, Nat.zero_add] at h3
  have e : ∀ (w : World) x v, w.drew.setCell x v = (w.setCell x v).drew := fun _ _ _ => rfl
  simp only [World.setCells, e] at h3
  exact h3
end
set_option maxHeartbeats 8000000 in
set_option maxRecDepth 100000 in
theorem ins3 (W0 : World) (g cap : Nat) (ok : Nat → Prop) (e0 e1 e2 : El W0 g ok) (hH : Go.Sort.HoldsK El.enc 3 W0 g 0 #[e0, e1, e2]) (hg : g < W0.heap.size)
    (h1 : El.cf e1 e0 < 0) (h2 : El.cf e2 e0 < 0) (h3 : El.cf e2 e1 < 0) (p0 p1 p2 t0 t1 t2 : Int) (A0 A1 A2 : Option Addr) (n0 n1 n2 m0 m1 m2 : Nat) (x0 : e0.enc = [.int .i64 p0, .slice A0 n0 m0, .int .i64 t0]) (x1 : e1.enc = [.int .i64 p1, .slice A1 n1 m1, .int .i64 t1]) (x2 : e2.enc = [.int .i64 p2, .slice A2 n2 m2, .int .i64 t2]) :
    Calls Tryd.prog 51 #[.slice (some ⟨g, 0, none⟩) 3 cap, .int .i64 0, .int .i64 3, .func (.methodOf 47 "interlocutor/rank.against") #[] #[]] W0 fun e w' => e = .returned (.tuple #[]) ∧ SWK El.enc 3 W0 g 0 #[e2, e1, e0] w' := by
  have HH := Aside0.mk hH
  have mixed : Tryd.prog.follows .mixedOrders = true := by kernel_rfl
  have hm := meth_at
  have hmc := meth_call
  have hw0 : IntKind.i64.wrap 0 = 0 := by decide +kernel
  have hw1 : IntKind.i64.wrap 1 = 1 := by decide +kernel
  have hw2 : IntKind.i64.wrap 2 = 2 := by decide +kernel
  have hw3 : IntKind.i64.wrap 3 = 3 := by decide +kernel
  have H0 := Aside0.mk (SWK.start hH)
  have X0 := Aside0.mk x0
  have X1 := Aside0.mk x1
  have X2 := Aside0.mk x2
  clear hH x0 x1 x2
  go_enter Tryd.func51, Tryd.ntmps51
  go_wp2
  refine wp_loop_rounds 3 ?_
  rw [rounds_succ]
  go_wp2
  refine wp_loop_rounds 2 ?_
  rw [rounds_succ]
  have q0 : ∀ n os, (Go.Sort.grow (World.drewN W0 n) os).cell? ⟨g, 0, none⟩ = some (.int .i64 p0) := fun n os => (ins_cell H0.out HH.out hg rfl 0 0 (by simp) (by decide) _ X0.out n os).1
  have q1 : ∀ n os, (Go.Sort.grow (World.drewN W0 n) os).cell? ⟨g, 1, none⟩ = some (.slice A0 n0 m0) := fun n os => (ins_cell H0.out HH.out hg rfl 0 1 (by simp) (by decide) _ X0.out n os).1
  have q2 : ∀ n os, (Go.Sort.grow (World.drewN W0 n) os).cell? ⟨g, 2, none⟩ = some (.int .i64 t0) := fun n os => (ins_cell H0.out HH.out hg rfl 0 2 (by simp) (by decide) _ X0.out n os).1
  have q3 : ∀ n os, (Go.Sort.grow (World.drewN W0 n) os).cell? ⟨g, 3, none⟩ = some (.int .i64 p1) := fun n os => (ins_cell H0.out HH.out hg rfl 1 0 (by simp) (by decide) _ X1.out n os).1
  have q4 : ∀ n os, (Go.Sort.grow (World.drewN W0 n) os).cell? ⟨g, 4, none⟩ = some (.slice A1 n1 m1) := fun n os => (ins_cell H0.out HH.out hg rfl 1 1 (by simp) (by decide) _ X1.out n os).1
  have q5 : ∀ n os, (Go.Sort.grow (World.drewN W0 n) os).cell? ⟨g, 5, none⟩ = some (.int .i64 t1) := fun n os => (ins_cell H0.out HH.out hg rfl 1 2 (by simp) (by decide) _ X1.out n os).1
  have cc := fun n os => ins_cmp H0.out e1 e0 _ _ X1.out X0.out n os
  go_wp2_with fail
  go_quiet_grown (first | (go_at_call 92; refine Calls.grown_of (cc _ _)))
  have H1a := Aside0.mk (H0.out.grown nq osq)
  clear cc q0 q1 q2 q3 q4 q5 H0
  generalize Go.Sort.grow (World.drewN W0 nq) osq = W1a at H1a ⊢
  go_wp2_with fail
  have q0 : World.cell? W1a ⟨g, 0, none⟩ = some (.int .i64 p0) := by have h := (ins_cell H1a.out HH.out hg rfl 0 0 (by simp) (by decide) _ X0.out 0 #[]).1; rw [Go.Sort.grow_empty, World.drewN_zero] at h; exact h
  have r0 : World.frozen? W1a ⟨g, 0, none⟩ = false := by have h := (ins_cell H1a.out HH.out hg rfl 0 0 (by simp) (by decide) _ X0.out 0 #[]).2; rw [Go.Sort.grow_empty, World.drewN_zero] at h; exact h
  have q1 : World.cell? W1a ⟨g, 1, none⟩ = some (.slice A0 n0 m0) := by have h := (ins_cell H1a.out HH.out hg rfl 0 1 (by simp) (by decide) _ X0.out 0 #[]).1; rw [Go.Sort.grow_empty, World.drewN_zero] at h; exact h
  have r1 : World.frozen? W1a ⟨g, 1, none⟩ = false := by have h := (ins_cell H1a.out HH.out hg rfl 0 1 (by simp) (by decide) _ X0.out 0 #[]).2; rw [Go.Sort.grow_empty, World.drewN_zero] at h; exact h
  have q2 : World.cell? W1a ⟨g, 2, none⟩ = some (.int .i64 t0) := by have h := (ins_cell H1a.out HH.out hg rfl 0 2 (by simp) (by decide) _ X0.out 0 #[]).1; rw [Go.Sort.grow_empty, World.drewN_zero] at h; exact h
  have r2 : World.frozen? W1a ⟨g, 2, none⟩ = false := by have h := (ins_cell H1a.out HH.out hg rfl 0 2 (by simp) (by decide) _ X0.out 0 #[]).2; rw [Go.Sort.grow_empty, World.drewN_zero] at h; exact h
  have q3 : World.cell? W1a ⟨g, 3, none⟩ = some (.int .i64 p1) := by have h := (ins_cell H1a.out HH.out hg rfl 1 0 (by simp) (by decide) _ X1.out 0 #[]).1; rw [Go.Sort.grow_empty, World.drewN_zero] at h; exact h
  have r3 : World.frozen? W1a ⟨g, 3, none⟩ = false := by have h := (ins_cell H1a.out HH.out hg rfl 1 0 (by simp) (by decide) _ X1.out 0 #[]).2; rw [Go.Sort.grow_empty, World.drewN_zero] at h; exact h
  have q4 : World.cell? W1a ⟨g, 4, none⟩ = some (.slice A1 n1 m1) := by have h := (ins_cell H1a.out HH.out hg rfl 1 1 (by simp) (by decide) _ X1.out 0 #[]).1; rw [Go.Sort.grow_empty, World.drewN_zero] at h; exact h
  have r4 : World.frozen? W1a ⟨g, 4, none⟩ = false := by have h := (ins_cell H1a.out HH.out hg rfl 1 1 (by simp) (by decide) _ X1.out 0 #[]).2; rw [Go.Sort.grow_empty, World.drewN_zero] at h; exact h
  have q5 : World.cell? W1a ⟨g, 5, none⟩ = some (.int .i64 t1) := by have h := (ins_cell H1a.out HH.out hg rfl 1 2 (by simp) (by decide) _ X1.out 0 #[]).1; rw [Go.Sort.grow_empty, World.drewN_zero] at h; exact h
  have r5 : World.frozen? W1a ⟨g, 5, none⟩ = false := by have h := (ins_cell H1a.out HH.out hg rfl 1 2 (by simp) (by decide) _ X1.out 0 #[]).2; rw [Go.Sort.grow_empty, World.drewN_zero] at h; exact h
  go_big_region_o
  have H1b := Aside0.mk (show SWK El.enc 3 W0 g 0 #[e1, e0, e2] (World.drew ((((((World.setCell W1a ⟨g, 3, none⟩ (.int .i64 p0)).setCell ⟨g, 4, none⟩ (.slice A0 n0 m0)).setCell ⟨g, 5, none⟩ (.int .i64 t0)).setCell ⟨g, 0, none⟩ (.int .i64 p1)).setCell ⟨g, 1, none⟩ (.slice A1 n1 m1)).setCell ⟨g, 2, none⟩ (.int .i64 t1))) from ins_swap H1a.out HH.out hg rfl 1 0 3 0 (by simp) (by simp) (swp3_10 _ _ _) _ _ _ _ _ _ X0.out X1.out rfl rfl)
  clear H1a q0 r0 q1 r1 q2 r2 q3 r3 q4 r4 q5 r5
  generalize (World.drew ((((((World.setCell W1a ⟨g, 3, none⟩ (.int .i64 p0)).setCell ⟨g, 4, none⟩ (.slice A0 n0 m0)).setCell ⟨g, 5, none⟩ (.int .i64 t0)).setCell ⟨g, 0, none⟩ (.int .i64 p1)).setCell ⟨g, 1, none⟩ (.slice A1 n1 m1)).setCell ⟨g, 2, none⟩ (.int .i64 t1))) = W1b at H1b ⊢
  go_wp2_with fail
  rw [rounds_succ]
  go_wp2_with fail
  go_big_region_o
  have HZ := Aside0.mk (H1b.out.drew)
  clear H1b
  generalize World.drew W1b = WZ at HZ ⊢
  go_wp2_with fail
  rw [rounds_succ]
  go_wp2
  refine wp_loop_rounds 3 ?_
  rw [rounds_succ]
  have q0 : ∀ n os, (Go.Sort.grow (World.drewN WZ n) os).cell? ⟨g, 3, none⟩ = some (.int .i64 p0) := fun n os => (ins_cell HZ.out HH.out hg rfl 1 0 (by simp) (by decide) _ X0.out n os).1
  have q1 : ∀ n os, (Go.Sort.grow (World.drewN WZ n) os).cell? ⟨g, 4, none⟩ = some (.slice A0 n0 m0) := fun n os => (ins_cell HZ.out HH.out hg rfl 1 1 (by simp) (by decide) _ X0.out n os).1
  have q2 : ∀ n os, (Go.Sort.grow (World.drewN WZ n) os).cell? ⟨g, 5, none⟩ = some (.int .i64 t0) := fun n os => (ins_cell HZ.out HH.out hg rfl 1 2 (by simp) (by decide) _ X0.out n os).1
  have q3 : ∀ n os, (Go.Sort.grow (World.drewN WZ n) os).cell? ⟨g, 6, none⟩ = some (.int .i64 p2) := fun n os => (ins_cell HZ.out HH.out hg rfl 2 0 (by simp) (by decide) _ X2.out n os).1
  have q4 : ∀ n os, (Go.Sort.grow (World.drewN WZ n) os).cell? ⟨g, 7, none⟩ = some (.slice A2 n2 m2) := fun n os => (ins_cell HZ.out HH.out hg rfl 2 1 (by simp) (by decide) _ X2.out n os).1
  have q5 : ∀ n os, (Go.Sort.grow (World.drewN WZ n) os).cell? ⟨g, 8, none⟩ = some (.int .i64 t2) := fun n os => (ins_cell HZ.out HH.out hg rfl 2 2 (by simp) (by decide) _ X2.out n os).1
  have cc := fun n os => ins_cmp HZ.out e2 e0 _ _ X2.out X0.out n os
  go_wp2_with fail
  go_quiet_grown (first | (go_at_call 92; refine Calls.grown_of (cc _ _)))
  have H2a := Aside0.mk (HZ.out.grown nq osq)
  clear cc q0 q1 q2 q3 q4 q5 HZ
  generalize Go.Sort.grow (World.drewN WZ nq) osq = W2a at H2a ⊢
  go_wp2_with fail
  have q0 : World.cell? W2a ⟨g, 3, none⟩ = some (.int .i64 p0) := by have h := (ins_cell H2a.out HH.out hg rfl 1 0 (by simp) (by decide) _ X0.out 0 #[]).1; rw [Go.Sort.grow_empty, World.drewN_zero] at h; exact h
  have r0 : World.frozen? W2a ⟨g, 3, none⟩ = false := by have h := (ins_cell H2a.out HH.out hg rfl 1 0 (by simp) (by decide) _ X0.out 0 #[]).2; rw [Go.Sort.grow_empty, World.drewN_zero] at h; exact h
  have q1 : World.cell? W2a ⟨g, 4, none⟩ = some (.slice A0 n0 m0) := by have h := (ins_cell H2a.out HH.out hg rfl 1 1 (by simp) (by decide) _ X0.out 0 #[]).1; rw [Go.Sort.grow_empty, World.drewN_zero] at h; exact h
  have r1 : World.frozen? W2a ⟨g, 4, none⟩ = false := by have h := (ins_cell H2a.out HH.out hg rfl 1 1 (by simp) (by decide) _ X0.out 0 #[]).2; rw [Go.Sort.grow_empty, World.drewN_zero] at h; exact h
  have q2 : World.cell? W2a ⟨g, 5, none⟩ = some (.int .i64 t0) := by have h := (ins_cell H2a.out HH.out hg rfl 1 2 (by simp) (by decide) _ X0.out 0 #[]).1; rw [Go.Sort.grow_empty, World.drewN_zero] at h; exact h
  have r2 : World.frozen? W2a ⟨g, 5, none⟩ = false := by have h := (ins_cell H2a.out HH.out hg rfl 1 2 (by simp) (by decide) _ X0.out 0 #[]).2; rw [Go.Sort.grow_empty, World.drewN_zero] at h; exact h
  have q3 : World.cell? W2a ⟨g, 6, none⟩ = some (.int .i64 p2) := by have h := (ins_cell H2a.out HH.out hg rfl 2 0 (by simp) (by decide) _ X2.out 0 #[]).1; rw [Go.Sort.grow_empty, World.drewN_zero] at h; exact h
  have r3 : World.frozen? W2a ⟨g, 6, none⟩ = false := by have h := (ins_cell H2a.out HH.out hg rfl 2 0 (by simp) (by decide) _ X2.out 0 #[]).2; rw [Go.Sort.grow_empty, World.drewN_zero] at h; exact h
  have q4 : World.cell? W2a ⟨g, 7, none⟩ = some (.slice A2 n2 m2) := by have h := (ins_cell H2a.out HH.out hg rfl 2 1 (by simp) (by decide) _ X2.out 0 #[]).1; rw [Go.Sort.grow_empty, World.drewN_zero] at h; exact h
  have r4 : World.frozen? W2a ⟨g, 7, none⟩ = false := by have h := (ins_cell H2a.out HH.out hg rfl 2 1 (by simp) (by decide) _ X2.out 0 #[]).2; rw [Go.Sort.grow_empty, World.drewN_zero] at h; exact h
  have q5 : World.cell? W2a ⟨g, 8, none⟩ = some (.int .i64 t2) := by have h := (ins_cell H2a.out HH.out hg rfl 2 2 (by simp) (by decide) _ X2.out 0 #[]).1; rw [Go.Sort.grow_empty, World.drewN_zero] at h; exact h
  have r5 : World.frozen? W2a ⟨g, 8, none⟩ = false := by have h := (ins_cell H2a.out HH.out hg rfl 2 2 (by simp) (by decide) _ X2.out 0 #[]).2; rw [Go.Sort.grow_empty, World.drewN_zero] at h; exact h
  go_big_region_o
  have H2b := Aside0.mk (show SWK El.enc 3 W0 g 0 #[e1, e2, e0] (World.drew ((((((World.setCell W2a ⟨g, 6, none⟩ (.int .i64 p0)).setCell ⟨g, 7, none⟩ (.slice A0 n0 m0)).setCell ⟨g, 8, none⟩ (.int .i64 t0)).setCell ⟨g, 3, none⟩ (.int .i64 p2)).setCell ⟨g, 4, none⟩ (.slice A2 n2 m2)).setCell ⟨g, 5, none⟩ (.int .i64 t2))) from ins_swap H2a.out HH.out hg rfl 2 1 6 3 (by simp) (by simp) (swp3_21 _ _ _) _ _ _ _ _ _ X0.out X2.out rfl rfl)
  clear H2a q0 r0 q1 r1 q2 r2 q3 r3 q4 r4 q5 r5
  generalize (World.drew ((((((World.setCell W2a ⟨g, 6, none⟩ (.int .i64 p0)).setCell ⟨g, 7, none⟩ (.slice A0 n0 m0)).setCell ⟨g, 8, none⟩ (.int .i64 t0)).setCell ⟨g, 3, none⟩ (.int .i64 p2)).setCell ⟨g, 4, none⟩ (.slice A2 n2 m2)).setCell ⟨g, 5, none⟩ (.int .i64 t2))) = W2b at H2b ⊢
  go_wp2_with fail
  rw [rounds_succ]
  have q0 : ∀ n os, (Go.Sort.grow (World.drewN W2b n) os).cell? ⟨g, 0, none⟩ = some (.int .i64 p1) := fun n os => (ins_cell H2b.out HH.out hg rfl 0 0 (by simp) (by decide) _ X1.out n os).1
  have q1 : ∀ n os, (Go.Sort.grow (World.drewN W2b n) os).cell? ⟨g, 1, none⟩ = some (.slice A1 n1 m1) := fun n os => (ins_cell H2b.out HH.out hg rfl 0 1 (by simp) (by decide) _ X1.out n os).1
  have q2 : ∀ n os, (Go.Sort.grow (World.drewN W2b n) os).cell? ⟨g, 2, none⟩ = some (.int .i64 t1) := fun n os => (ins_cell H2b.out HH.out hg rfl 0 2 (by simp) (by decide) _ X1.out n os).1
  have q3 : ∀ n os, (Go.Sort.grow (World.drewN W2b n) os).cell? ⟨g, 3, none⟩ = some (.int .i64 p2) := fun n os => (ins_cell H2b.out HH.out hg rfl 1 0 (by simp) (by decide) _ X2.out n os).1
  have q4 : ∀ n os, (Go.Sort.grow (World.drewN W2b n) os).cell? ⟨g, 4, none⟩ = some (.slice A2 n2 m2) := fun n os => (ins_cell H2b.out HH.out hg rfl 1 1 (by simp) (by decide) _ X2.out n os).1
  have q5 : ∀ n os, (Go.Sort.grow (World.drewN W2b n) os).cell? ⟨g, 5, none⟩ = some (.int .i64 t2) := fun n os => (ins_cell H2b.out HH.out hg rfl 1 2 (by simp) (by decide) _ X2.out n os).1
  have cc := fun n os => ins_cmp H2b.out e2 e1 _ _ X2.out X1.out n os
  go_wp2_with fail
  go_quiet_grown (first | (go_at_call 92; refine Calls.grown_of (cc _ _)))
  have H3a := Aside0.mk (H2b.out.grown nq osq)
  clear cc q0 q1 q2 q3 q4 q5 H2b
  generalize Go.Sort.grow (World.drewN W2b nq) osq = W3a at H3a ⊢
  go_wp2_with fail
  have q0 : World.cell? W3a ⟨g, 0, none⟩ = some (.int .i64 p1) := by have h := (ins_cell H3a.out HH.out hg rfl 0 0 (by simp) (by decide) _ X1.out 0 #[]).1; rw [Go.Sort.grow_empty, World.drewN_zero] at h; exact h
  have r0 : World.frozen? W3a ⟨g, 0, none⟩ = false := by have h := (ins_cell H3a.out HH.out hg rfl 0 0 (by simp) (by decide) _ X1.out 0 #[]).2; rw [Go.Sort.grow_empty, World.drewN_zero] at h; exact h
  have q1 : World.cell? W3a ⟨g, 1, none⟩ = some (.slice A1 n1 m1) := by have h := (ins_cell H3a.out HH.out hg rfl 0 1 (by simp) (by decide) _ X1.out 0 #[]).1; rw [Go.Sort.grow_empty, World.drewN_zero] at h; exact h
  have r1 : World.frozen? W3a ⟨g, 1, none⟩ = false := by have h := (ins_cell H3a.out HH.out hg rfl 0 1 (by simp) (by decide) _ X1.out 0 #[]).2; rw [Go.Sort.grow_empty, World.drewN_zero] at h; exact h
  have q2 : World.cell? W3a ⟨g, 2, none⟩ = some (.int .i64 t1) := by have h := (ins_cell H3a.out HH.out hg rfl 0 2 (by simp) (by decide) _ X1.out 0 #[]).1; rw [Go.Sort.grow_empty, World.drewN_zero] at h; exact h
  have r2 : World.frozen? W3a ⟨g, 2, none⟩ = false := by have h := (ins_cell H3a.out HH.out hg rfl 0 2 (by simp) (by decide) _ X1.out 0 #[]).2; rw [Go.Sort.grow_empty, World.drewN_zero] at h; exact h
  have q3 : World.cell? W3a ⟨g, 3, none⟩ = some (.int .i64 p2) := by have h := (ins_cell H3a.out HH.out hg rfl 1 0 (by simp) (by decide) _ X2.out 0 #[]).1; rw [Go.Sort.grow_empty, World.drewN_zero] at h; exact h
  have r3 : World.frozen? W3a ⟨g, 3, none⟩ = false := by have h := (ins_cell H3a.out HH.out hg rfl 1 0 (by simp) (by decide) _ X2.out 0 #[]).2; rw [Go.Sort.grow_empty, World.drewN_zero] at h; exact h
  have q4 : World.cell? W3a ⟨g, 4, none⟩ = some (.slice A2 n2 m2) := by have h := (ins_cell H3a.out HH.out hg rfl 1 1 (by simp) (by decide) _ X2.out 0 #[]).1; rw [Go.Sort.grow_empty, World.drewN_zero] at h; exact h
  have r4 : World.frozen? W3a ⟨g, 4, none⟩ = false := by have h := (ins_cell H3a.out HH.out hg rfl 1 1 (by simp) (by decide) _ X2.out 0 #[]).2; rw [Go.Sort.grow_empty, World.drewN_zero] at h; exact h
  have q5 : World.cell? W3a ⟨g, 5, none⟩ = some (.int .i64 t2) := by have h := (ins_cell H3a.out HH.out hg rfl 1 2 (by simp) (by decide) _ X2.out 0 #[]).1; rw [Go.Sort.grow_empty, World.drewN_zero] at h; exact h
  have r5 : World.frozen? W3a ⟨g, 5, none⟩ = false := by have h := (ins_cell H3a.out HH.out hg rfl 1 2 (by simp) (by decide) _ X2.out 0 #[]).2; rw [Go.Sort.grow_empty, World.drewN_zero] at h; exact h
  go_big_region_o
  have H3b := Aside0.mk (show SWK El.enc 3 W0 g 0 #[e2, e1, e0] (World.drew ((((((World.setCell W3a ⟨g, 3, none⟩ (.int .i64 p1)).setCell ⟨g, 4, none⟩ (.slice A1 n1 m1)).setCell ⟨g, 5, none⟩ (.int .i64 t1)).setCell ⟨g, 0, none⟩ (.int .i64 p2)).setCell ⟨g, 1, none⟩ (.slice A2 n2 m2)).setCell ⟨g, 2, none⟩ (.int .i64 t2))) from ins_swap H3a.out HH.out hg rfl 1 0 3 0 (by simp) (by simp) (swp3_10 _ _ _) _ _ _ _ _ _ X1.out X2.out rfl rfl)
  clear H3a q0 r0 q1 r1 q2 r2 q3 r3 q4 r4 q5 r5
  generalize (World.drew ((((((World.setCell W3a ⟨g, 3, none⟩ (.int .i64 p1)).setCell ⟨g, 4, none⟩ (.slice A1 n1 m1)).setCell ⟨g, 5, none⟩ (.int .i64 t1)).setCell ⟨g, 0, none⟩ (.int .i64 p2)).setCell ⟨g, 1, none⟩ (.slice A2 n2 m2)).setCell ⟨g, 2, none⟩ (.int .i64 t2))) = W3b at H3b ⊢
  go_wp2_with fail
  rw [rounds_succ]
  go_wp2_with fail
  go_big_region_o
  have HZ := Aside0.mk (H3b.out.drew)
  clear H3b
  generalize World.drew W3b = WY at HZ ⊢
  go_wp2_with fail
  rw [rounds_succ]
  go_wp2
  go_end0
  exact ⟨rfl, HZ.out⟩
set_option maxHeartbeats 4000000 in
set_option maxRecDepth 100000 in
theorem pdq3 (W0 : World) (g cap : Nat) (lim : Int) (fv : Value) (R : World → Prop)
    (hi : Calls Tryd.prog 51 #[.slice (some ⟨g, 0, none⟩) 3 cap, .int .i64 0, .int .i64 3, fv] W0 fun e w' => e = .returned (.tuple #[]) ∧ R w') :
    Calls Tryd.prog 47 #[.slice (some ⟨g, 0, none⟩) 3 cap, .int .i64 0, .int .i64 3, .int .i64 lim, fv] W0 fun e w' => e = .returned (.tuple #[]) ∧ R w' := by
  have HI := Aside0.mk hi
  clear hi
  go_enter Tryd.func47, Tryd.ntmps47
  go_wp2
  refine wp_loop_rounds 1 ?_
  rw [rounds_succ]
  go_wp2_with (go_at_call 51; refine (HI.out).mono ?_; rintro e w' ⟨rfl, hR⟩; have HR_ := Aside0.mk hR; clear hR)
  (try simp only [Exit.inBlock, Exit.then]); refine bodyPost_ret (results_none rfl _ _ _) rfl ?_
  exact ⟨rfl, HR_.out⟩
set_option maxHeartbeats 4000000 in
set_option maxRecDepth 100000 in
theorem sort3 (W0 : World) (g cap : Nat) (fv : Value) (R : World → Prop)
    (hi : Calls Tryd.prog 51 #[.slice (some ⟨g, 0, none⟩) 3 cap, .int .i64 0, .int .i64 3, fv] W0 fun e w' => e = .returned (.tuple #[]) ∧ R w') :
    Calls Tryd.prog 40 #[.slice (some ⟨g, 0, none⟩) 3 cap, fv] W0 fun e w' => e = .returned (.tuple #[]) ∧ R w' := by
  have hp := fun lim => pdq3 W0 g cap lim fv R hi
  have HP := Aside0.mk hp
  have hl := fun W => Any.bits_Len (SlLaysF0.n15.bits (P := Tryd.prog) (ρ := Tryd.sortReading_ren) { Tryd.sort_lays with }) 3 W (by omega) (by omega)
  have HL := Aside0.mk hl
  clear hi hp hl
  go_enter Tryd.func40, Tryd.ntmps40
  go_wp2_with (first | (go_at_call 48; refine (HL.out _).mono ?_; rintro e w' ⟨rfl, rfl⟩) | (go_at_call 47; refine (HP.out _).mono ?_; rintro e w' ⟨rfl, hR⟩; have HR_ := Aside0.mk hR; clear hR))
  go_end0
  exact ⟨rfl, HR_.out⟩
/-- Three readings that stand the wrong way about, sorted. -/
theorem sort_three (W : World) (base : Nat) (ok : Nat → Prop) (g cap : Nat) (x0 x1 x2 : S36) (hN : Kd.N k36 47 W base ok (.slice (some ⟨g, 0, none⟩) 3 cap) [x0, x1, x2]) (hg : g < W.heap.size) (hb : base ≤ g) (hF : ∀ x ∈ [x0, x1, x2], x.f0.f1.length ≤ 1000000)
    (h1 : cmpR x1 x0 < 0) (h2 : cmpR x2 x0 < 0) (h3 : cmpR x2 x1 < 0) :
    Calls Tryd.prog 40 #[.slice (some ⟨g, 0, none⟩) 3 cap, .func (.methodOf 47 "interlocutor/rank.against") #[] #[]] W fun e w' => e = .returned (.tuple #[]) ∧ Kd.F k36 w' ok (some ⟨g, 0, none⟩) 3 [x2, x1, x0] ∧ Below base W w' := by
  have hok : ok g := hN.1 g (by simp [Value.ownBlock])
  obtain ⟨d, hd, hH⟩ := srt_hold W base ok g cap [x0, x1, x2] hN hF
  obtain ⟨l⟩ := d
  match l, hd with
  | [e0, e1, e2], hd =>
    simp only [List.map_cons, List.map_nil, List.cons.injEq, and_true] at hd
    obtain ⟨rfl, rfl, rfl⟩ := hd
    obtain ⟨A0, c0, x0, _, _⟩ := k36_open (Kd.FK_now e0.2.1)
    obtain ⟨A1, c1, x1, _, _⟩ := k36_open (Kd.FK_now e1.2.1)
    obtain ⟨A2, c2, x2, _, _⟩ := k36_open (Kd.FK_now e2.2.1)
    refine (sort3 W g cap _ (fun w' => Kd.F k36 w' ok (some ⟨g, 0, none⟩) 3 [e2.1.1, e1.1.1, e0.1.1] ∧ Below base W w') ?_).mono (fun e w' h => h)
    refine (ins3 W g cap ok e0 e1 e2 hH hg h1 h2 h3 _ _ _ _ _ _ _ _ _ _ _ _ _ _ _ x0 x1 x2).mono ?_
    rintro e w' ⟨rfl, hs⟩
    exact ⟨rfl, srt_after W base ok g hok hg hb #[e0, e1, e2] #[e2, e1, e0] hH rfl (by simp) w' hs⟩
set_option maxHeartbeats 1000000 in
/-- slices.Clone at readings: a new row, of what is only read. -/
theorem clone_reading (A0 : Option Addr) (c0 : Nat) (l0 : List S36) (w : World) (P : Nat → Prop) (hr0 : Kd.F k36 w P A0 l0.length l0) (hlim : l0.length ≤ 1000000) :
    Calls Tryd.prog 39 #[.slice A0 l0.length c0] w fun e w' => ∃ v0_ : Value, e = .returned (v0_) ∧ Kd.N k36 47 w' w.heap.size (fun k_ => P k_ ∨ w.heap.size ≤ k_) v0_ l0 ∧ Below w.heap.size w w' := by
  have HB := Aside0.mk (Below.refl w.heap.size w)
  have LM := Aside0.mk hlim
  have HR := Aside0.mk hr0
  clear hlim hr0
  have hq := fun W => Lib.run_eql_slice_nil (P := Tryd.prog) W 46 47 A0 l0.length c0 0 0 Tryd.underlying46
  cases A0 with
  | none =>
    obtain rfl : l0 = [] := by
      rcases Nat.eq_zero_or_pos l0.length with h0 | h0
      · exact List.eq_nil_of_length_eq_zero h0
      · obtain ⟨ad, he, _⟩ := (Kd.F_now HR.out).2.2 h0
        cases he
    simp only [List.length_nil] at hq ⊢
    go_enter Tryd.func39, Tryd.ntmps39
    go_wp2
    go_ret
    exact ⟨_, rfl, Kd.N_nil _ _ _ _ _, HB.out⟩
  | some ad =>
    go_enter Tryd.func39, Tryd.ntmps39
    go_wp2_with (first
      | ((with_reducible refine gate_dst (N := 5) rfl ?_); refine Kd.N_lit k36 (w0 := w) w.heap.size 47 ?hg (N' := 5) ?hd (xs := ([] : List S36)) (inner := []) (ok := fun k_ => P k_ ∨ w.heap.size ≤ k_) (okp := fun _ => False) ?hr ?hp (fun _ hk => hk.elim) (Or.inr (Nat.le_refl _)) (Below.refl _ _) (Nat.le_refl _) (by simp) ?_; (case hd => rfl); (case hg => rfl); (case hr => first | (go_simp; done) | (go_simp; rfl)); (case hp => exact Reps.none _ _); intro v5 w5 ho5 hb5 hg5 hn5; have HN5 := Aside0.mk hn5; have HO5 := Aside0.mk ho5; clear HB; have HB := Aside0.mk hb5; clear ho5 hb5 hg5 hn5)
      | ((with_reducible refine gate_builtin (b := .append) (xs := #[.tmp 5, .tmp 6]) rfl ?_); at_builtin; refine Kd.N_append_rows k36 (w0 := w) w.heap.size rfl (.tmp 5) (.tmp 6) 46 47 (.agg #[(.int .i64 0), (.slice none 0 0), (.int .i64 0)]) 40 rfl Tryd.underlying46 info47 rfl (by decide) (by decide) v5 ([] : List S36) l0 (some ad) l0.length c0 (fun k_ => P k_ ∨ w.heap.size ≤ k_) (fun k_ => P k_ ∧ k_ < w.heap.size) rfl rfl HO5.out ?aR ?aP (fun k_ hk => Or.inr (Nat.le_trans HB.out.size hk)) HB.out (below_size HB.out) ?aL ?_; (case aR => exact Kd.F_below (Kd.F_bound HR.out) HB.out); (case aP => intro k_ hk; refine ⟨Or.inl hk.1, fun he => ?_⟩; obtain ⟨b, hb1, hb2⟩ := HN5.out; rw [hb1] at he; injection he with he; have := hk.2; omega); (case aL => have := LM.out; simp only [List.length_nil]; omega); intro v7 w7 ho hb hg hat; have HO7 := Aside0.mk ho; clear HB; have HB := Aside0.mk hb; clear ho hb hg hat))
    go_ret
    exact ⟨_, rfl, by rw [List.nil_append] at HO7; exact HO7.out, HB.out⟩
set_option maxHeartbeats 1000000 in
/-- Three readings that stand the wrong way about: a new row, in order. -/
theorem sorted_three (A0 : Option Addr) (c0 : Nat) (x0 x1 x2 : S36) (w : World) (P : Nat → Prop) (hr0 : Kd.F k36 w P A0 3 [x0, x1, x2]) (hF : ∀ x ∈ [x0, x1, x2], x.f0.f1.length ≤ 1000000) (h1 : cmpR x1 x0 < 0) (h2 : cmpR x2 x0 < 0) (h3 : cmpR x2 x1 < 0) :
    Calls Tryd.prog 26 #[.slice A0 3 c0] w fun e w' => ∃ (A : Option Addr) (c : Nat), e = .returned (.slice A 3 c) ∧ Kd.F k36 w' (fun k_ => P k_ ∨ w.heap.size ≤ k_) A 3 [x2, x1, x0] ∧ Below w.heap.size w w' := by
  have HF := Aside0.mk hF
  have HR := Aside0.mk hr0
  have H1 := Aside0.mk h1
  have H2 := Aside0.mk h2
  have H3 := Aside0.mk h3
  clear hr0 hF h1 h2 h3
  go_enter Tryd.func26, Tryd.ntmps26
  go_wp2_with (first
    | (go_at_call 39; (refine (clone_reading A0 c0 [x0, x1, x2] w P HR.out (by simp)).mono ?_); rintro e w5 ⟨v5, rfl, ho, hb⟩; obtain ⟨g, cap, hv, hbg, hgl, _⟩ := Kd.N_form ho (by simp); subst hv; have HO5 := Aside0.mk ho; have HB5 := Aside0.mk hb; have HG5 := Aside0.mk (And.intro hbg hgl); clear ho hb hbg hgl)
    | (go_at_call 40; (refine (sort_three _ w.heap.size _ g cap x0 x1 x2 HO5.out HG5.out.2 HG5.out.1 HF.out H1.out H2.out H3.out).mono ?_); rintro e w6 ⟨rfl, hf, hb⟩; have HO6 := Aside0.mk hf; have HB6 := Aside0.mk (Below.trans HB5.out hb); clear hf hb))
  go_ret
  exact ⟨_, _, rfl, HO6.out, HB6.out⟩
set_option maxHeartbeats 1000000 in
/-- No reading: none. -/
theorem sorted_none (A0 : Option Addr) (c0 : Nat) (w : World) :
    Calls Tryd.prog 26 #[.slice A0 0 c0] w fun e w' => ∃ (A : Option Addr) (c : Nat), e = .returned (.slice A 0 c) ∧ Below w.heap.size w w' := by
  have hf : Kd.F k36 w (fun _ => True) A0 ([] : List S36).length [] := fun W' _ => ⟨rfl, by decide, fun h => absurd h (Nat.lt_irrefl 0)⟩
  have HR := Aside0.mk hf
  clear hf
  have hn := fun p cap fv W => AnyF.slices_SortFunc_none (P := Tryd.prog) (ρ := Tryd.sortReading_ren) { Tryd.sort_lays with } p cap fv W
  have HN := Aside0.mk hn
  clear hn
  go_enter Tryd.func26, Tryd.ntmps26
  go_wp2_with (first
    | (go_at_call 39; (refine (clone_reading A0 c0 [] w (fun _ => True) HR.out (by simp)).mono ?_); rintro e w5 ⟨v5, rfl, ho, hb⟩; obtain ⟨A5, c5, hv⟩ := Kd.N_slice ho; subst hv; have HB5 := Aside0.mk hb; clear ho hb)
    | (go_at_call 40; (refine (HN.out A5 c5 _ _).mono ?_); rintro e w6 ⟨rfl, rfl⟩))
  go_ret
  exact ⟨_, _, rfl, HB5.out⟩

end Go.Proofs.YtlgndfplikhflaaDoor.G
