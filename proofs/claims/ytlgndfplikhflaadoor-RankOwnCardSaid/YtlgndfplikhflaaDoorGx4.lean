-- printed by wip/tool/gprint.py, a program of this work, out of the translation; Lean checks it
import Derived.Test.YtlgndfplikhflaaDoorGx0
import Derived.Test.YtlgndfplikhflaaDoorGx3
namespace Go.Proofs.YtlgndfplikhflaaDoor.G
open Go.RowKit Go.Proofs.YtlgndfplikhflaaDoorW.PrintWords Go.Proofs.YtlgndfplikhflaaDoorW.PrintLast Go.Proofs.YtlgndfplikhflaaDoorW.PrintMore Go.Proofs.YtlgndfplikhflaaDoorW.VWords Go.Proofs.YtlgndfplikhflaaDoorW.Tab
attribute [local go_sem] max2_int min2_int max_two min_two max_three min_three max_four min_four   -- for this text's walks alone
set_option linter.unusedVariables false
set_option linter.unusedSimpArgs false

/-! ### rank_reading_51: function 51 -/
/-! ### slices.insertionSort at readings -/
/-! ### slices.SortFunc at readings -/
/-- A reading and its cells, as they lie in W, beside the row in block g. -/
def El (W : World) (g : Nat) (ok : Nat → Prop) : Type := {p : S36 × List Value // Kd.FK k36 W (fun k => ok k ∧ k ≠ g) p.1 p.2 ∧ p.1.f0.f1.length ≤ 1000000}
instance (W : World) (g : Nat) (ok : Nat → Prop) : Inhabited (El W g ok) := ⟨⟨(z36, [.int .i64 0, .slice none 0 0, .int .i64 0]), k36_mkF W _ z36 (Nat.le_refl _) (Kd.F_nil _ _ _), Nat.zero_le _⟩⟩
def El.enc {W : World} {g : Nat} {ok : Nat → Prop} (p : El W g ok) : List Value := p.1.2
def El.cf {W : World} {g : Nat} {ok : Nat → Prop} (p q : El W g ok) : Int := cmpR p.1.1 q.1.1
theorem El.len {W : World} {g : Nat} {ok : Nat → Prop} (p : El W g ok) : p.enc.length = 3 := k36.K_len (Kd.FK_now p.2.1)
theorem El.one {W : World} {g : Nat} {ok : Nat → Prop} (p : El W g ok) : ∀ v ∈ p.enc, v.oneCell' = true := k36.K_one (Kd.FK_now p.2.1)
theorem El.lt {W : World} {g : Nat} {ok : Nat → Prop} (x y : El W g ok) : Go.Proofs.ltOf El.cf x y = decide (cmpR x.1.1 y.1.1 < 0) := rfl
theorem El.swo {W : World} {g : Nat} {ok : Nat → Prop} : Go.Sort.SWO (Go.Proofs.ltOf (El.cf (W := W) (g := g) (ok := ok))) where
  irrefl x := by
    have := cmpR_pre.neg x.1.1 x.1.1
    rw [El.lt]
    exact decide_eq_false (by omega)
  trans x y z h1 h2 := by
    rw [El.lt] at h1 h2 ⊢
    have h1 := of_decide_eq_true h1
    have h2 := of_decide_eq_true h2
    have n := cmpR_pre.neg x.1.1 z.1.1
    have t := cmpR_pre.tr x.1.1 y.1.1 z.1.1 (by omega) (by omega)
    have t2 := cmpR_pre.tr y.1.1 z.1.1 x.1.1
    have n2 := cmpR_pre.neg x.1.1 y.1.1
    exact decide_eq_true (by omega)
  ntrans x y z h1 h2 := by
    rw [El.lt] at h1 h2 ⊢
    have h1 := of_decide_eq_false h1
    have h2 := of_decide_eq_false h2
    have n1 := cmpR_pre.neg x.1.1 y.1.1
    have n2 := cmpR_pre.neg y.1.1 z.1.1
    have n3 := cmpR_pre.neg x.1.1 z.1.1
    have t := cmpR_pre.tr z.1.1 y.1.1 x.1.1 (by omega) (by omega)
    exact decide_eq_false (by omega)
theorem srt_heap {W : World} {g : Nat} {ok : Nat → Prop} (m : Nat) (dk : Array (El W g ok)) (os : Array Obj) (k : Nat) (hk : k ≠ g) (hl : k < W.heap.size) : (Go.Proofs.sortWorldK El.enc 3 W g 0 m dk os).heap[k]? = W.heap[k]? := by
  unfold Go.Proofs.sortWorldK Go.Sort.putRowK Go.Sort.putRow Go.Sort.mapBlock Go.Sort.grow Go.Sort.ahead
  simp only
  rw [Array.getElem?_append_left (by simpa using hl), Array.getElem?_modify, if_neg (fun e => hk e.symm)]
theorem srt_lays (W : World) (g : Nat) (ok : Nat → Prop) (n : Nat) : Go.Proofs.CmpLays Tryd.prog 92 #[] (El.enc (W := W) (g := g) (ok := ok)) 3 El.cf g 0 n W := by
  intro m os dk hs x y
  have hx := x.2.1 (Go.Proofs.sortWorldK El.enc 3 W g 0 m dk os) (fun k hk hl => srt_heap m dk os k hk.2 hl)
  have hy := y.2.1 (Go.Proofs.sortWorldK El.enc 3 W g 0 m dk os) (fun k hk hl => srt_heap m dk os k hk.2 hl)
  obtain ⟨A1, c1, e1, l1, g1⟩ := k36_open hx
  obtain ⟨A2, c2, e2, l2, g2⟩ := k36_open hy
  have ex : x.enc = [.int .i64 x.1.1.f0.f0, .slice A1 x.1.1.f0.f1.length c1, .int .i64 x.1.1.f1] := e1
  have ey : y.enc = [.int .i64 y.1.1.f0.f0, .slice A2 y.1.1.f0.f1.length c2, .int .i64 y.1.1.f1] := e2
  rw [ex, ey]
  exact (rank_reading_against.grows (x.1.1.f0.f1.length + 4) x.1.1.f0.f0 A1 c1 x.1.1.f0.f1 x.1.1.f1 y.1.1.f0.f0 A2 c2 y.1.1.f0.f1 y.1.1.f1 (cmpR x.1.1 y.1.1) _ g1 l1 g2 l2 (reading_eq x.1.1 y.1.1 x.2.2 _ (Nat.le_refl _))).mono fun e w' ⟨he, hg⟩ => ⟨he, hg⟩
/-- A row of one's own, as the sort's words tell it. -/
theorem srt_hold (W : World) (base : Nat) (ok : Nat → Prop) (g cap : Nat) (xs : List S36) (hN : Kd.N k36 47 W base ok (.slice (some ⟨g, 0, none⟩) xs.length cap) xs) (hF : ∀ x ∈ xs, x.f0.f1.length ≤ 1000000) :
    ∃ d : Array (El W g ok), d.toList.map (fun p => p.1.1) = xs ∧ Go.Sort.HoldsK El.enc 3 W g 0 d := by
  have hex : ∀ j : Fin xs.length, ∃ p : El W g ok, p.1.1 = xs[j] ∧ (∀ i u, p.1.2[i]? = some u → W.cell? ⟨g, j.1 * 3 + i, none⟩ = some u) ∧ ∀ i, W.frozen? ⟨g, j.1 * 3 + i, none⟩ = false := by
    intro j
    obtain ⟨c, hcl, hK, hcc, hfr⟩ := Kd.N_elem hN z36 (j.1 : Int) (by omega) (by have := j.2; omega)
    have hj : xs.getD (j.1 : Int).toNat z36 = xs[j] := by
      rw [Int.toNat_natCast, List.getD_eq_getElem?_getD, List.getElem?_eq_getElem j.2]
      rfl
    rw [hj] at hK
    simp only [Int.toNat_natCast] at hcc hfr
    exact ⟨⟨(xs[j], c), hK, hF _ (List.getElem_mem j.2)⟩, rfl, hcc, hfr⟩
  obtain ⟨f, hf⟩ := Classical.axiomOfChoice hex
  have hds : (Array.ofFn f).size = xs.length := Array.size_ofFn
  have hget : ∀ j (h : j < xs.length), (Array.ofFn f)[j]! = f ⟨j, h⟩ := fun j h => by
    rw [getElem!_pos _ j (by rw [hds]; exact h)]
    simp
  have hH : Go.Sort.HoldsK El.enc 3 W g 0 (Array.ofFn f) := by
    intro t ht
    rw [Go.Sort.size_flatK, hds] at ht
    rw [Go.Sort.get_flatK _ _ _ _ (by rw [hds]; exact ht)]
    have hq : t / 3 < xs.length := by omega
    rw [hget _ hq]
    have e : 0 + t = t / 3 * 3 + t % 3 := by omega
    obtain ⟨_, h2, h3⟩ := hf ⟨t / 3, hq⟩
    have hlen : t % 3 < (f ⟨t / 3, hq⟩).enc.length := by rw [El.len]; omega
    rw [e]
    refine ⟨?_, h3 _⟩
    rw [getElem!_pos (f ⟨t / 3, hq⟩).enc (t % 3) hlen]
    exact h2 _ _ (List.getElem?_eq_getElem hlen)
  have hmap : (Array.ofFn f).toList.map (fun p => p.1.1) = xs := by
    apply List.ext_getElem
    · simp
    · intro i h1 h2
      simp
      exact (hf ⟨i, h2⟩).1
  exact ⟨Array.ofFn f, hmap, hH⟩
/-- .. and back: the row as it is only read. -/
theorem srt_after (W : World) (base : Nat) (ok : Nat → Prop) (g : Nat) (hok : ok g) (hg : g < W.heap.size) (hb : base ≤ g) (d0 d' : Array (El W g ok)) (hH : Go.Sort.HoldsK El.enc 3 W g 0 d0) (hsz : d'.size = d0.size) (hl : d0.size ≤ 1000000) (w' : World) (hs : SWK El.enc 3 W g 0 d' w') :
    Kd.F k36 w' ok (some ⟨g, 0, none⟩) (d'.toList.map (fun p => p.1.1)).length (d'.toList.map (fun p => p.1.1)) ∧ Below base W w' := by
  obtain ⟨n, os, rfl⟩ := hs
  have hH' := Go.Proofs.holdsK_sortWorldK_c El.enc 3 W g 0 d0 d' n os hH hg hsz
  refine ⟨?_, ?_⟩
  · intro W' hW'
    refine ⟨rfl, by simp; omega, fun _ => ⟨⟨g, 0, none⟩, rfl, fun j p hj => ?_⟩⟩
    obtain ⟨hj1, hj2⟩ := List.getElem?_eq_some_iff.1 hj
    have hj3 : j < d'.size := by simpa using hj1
    have hpe : p = d'[j].1.1 := by rw [← hj2]; simp
    refine ⟨d'[j].enc, El.len _, ?_, fun i u hu => ?_⟩
    · rw [hpe]
      refine d'[j].2.1 W' fun k hk hlk => ?_
      rw [hW' k hk.1 (Nat.lt_of_lt_of_le hlk (Go.Proofs.size_sortWorldK_c El.enc 3 W g 0 n d' os))]
      exact srt_heap n d' os k hk.2 hlk
    · have hi : i < 3 := by
        obtain ⟨h, _⟩ := List.getElem?_eq_some_iff.1 hu
        rw [El.len] at h
        exact h
      have hc := (hH'.cell hj3 hi).1
      have hu2 : (d'[j]!.enc)[i]! = u := by
        rw [getElem!_pos d' j hj3]
        obtain ⟨h, h2⟩ := List.getElem?_eq_some_iff.1 hu
        rw [getElem!_pos (d'[j].enc) i h]
        exact h2
      rw [hu2] at hc
      have hgl : g < (Go.Proofs.sortWorldK El.enc 3 W g 0 n d' os).heap.size := Nat.lt_of_lt_of_le hg (Go.Proofs.size_sortWorldK_c El.enc 3 W g 0 n d' os)
      have ha : (⟨g, 0, none⟩ : Addr).add (j * k36.sz + i) = ⟨g, 0 + j * 3 + i, none⟩ := by rw [add_at]; show (⟨g, 0 + (j * 3 + i), none⟩ : Addr) = _; rw [Nat.add_assoc]
      rw [ha, World.cell?_of_block (w := Go.Proofs.sortWorldK El.enc 3 W g 0 n d' os) (hW' g hok hgl)]
      exact hc
  · refine ⟨rfl, rfl, rfl, Go.Proofs.size_sortWorldK_c El.enc 3 W g 0 n d' os, fun k hk => ?_⟩
    rcases Nat.lt_or_ge k W.heap.size with h | h
    · exact srt_heap n d' os k (by omega) h
    · omega
/-- A method expression's call comes to the method. -/
theorem meth_at (x : Array Value) (w : World) : (method 217 47 (.agg x) "interlocutor/rank.against").run Tryd.prog w = .ok (92, .agg x) w := by kernel_rfl
theorem meth_call (args : Array Value) (w : World) : (callFunc 92 args).run Tryd.prog w = .ok (.enter 92 args) w := enters_of Tryd.func92 (by kernel_rfl) rfl args w
section
variable {W0 : World} {g : Nat} {ok : Nat → Prop}
/-- The comparison of two of them, wherever the sort stands. -/
theorem ins_cmp {dk : Array (El W0 g ok)} {W : World} (h : SWK El.enc 3 W0 g 0 dk W) (x y : El W0 g ok) (cx cy : List Value) (hx : x.enc = cx) (hy : y.enc = cy) (n : Nat) (os : Array Obj) :
    Calls Tryd.prog 92 #[.agg cx.toArray, .agg cy.toArray] (Go.Sort.grow (W.drewN n) os) fun e w' => e = .returned (.int .i64 (El.cf x y)) ∧ ∃ q os', w' = Go.Sort.grow ((Go.Sort.grow (W.drewN n) os).drewN q) os' := by
  subst hx; subst hy
  have h2 := h.cmp (srt_lays W0 g ok dk.size) rfl x y n os
  simpa using h2
theorem ins_cell {dk d0 : Array (El W0 g ok)} {W : World} (h : SWK El.enc 3 W0 g 0 dk W) (hH : Go.Sort.HoldsK El.enc 3 W0 g 0 d0) (hg : g < W0.heap.size) (hs : dk.size = d0.size) (i c : Nat) (hi : i < dk.size) (hc : c < 3) (cx : List Value) (hx : dk[i]!.enc = cx) (n : Nat) (os : Array Obj) :
    (Go.Sort.grow (W.drewN n) os).cell? ⟨g, i * 3 + c, none⟩ = some cx[c]! ∧ (Go.Sort.grow (W.drewN n) os).frozen? ⟨g, i * 3 + c, none⟩ = false := by
  subst hx
  have h2 := ((h.grown n os).holds hg hH hs).cell hi hc
  rwa [Nat.zero_add] at h2
theorem swp3_10 {α : Type} [Inhabited α] (a b c : α) : Go.Sort.swp #[a, b, c] 1 0 = #[b, a, c] := by simp [Go.Sort.swp]
theorem swp3_21 {α : Type} [Inhabited α] (a b c : α) : Go.Sort.swp #[a, b, c] 2 1 = #[a, c, b] := by simp [Go.Sort.swp]
theorem ins_swap {dk d0 dk2 : Array (El W0 g ok)} {W : World} (h : SWK El.enc 3 W0 g 0 dk W) (hH : Go.Sort.HoldsK El.enc 3 W0 g 0 d0) (hg : g < W0.heap.size) (hs : dk.size = d0.size) (i j o1 o2 : Nat) (hi : i < dk.size) (hj : j < dk.size) (hd : Go.Sort.swp dk i j = dk2) (a b c a' b' c' : Value) (hx : dk[j]!.enc = [a, b, c]) (hy : dk[i]!.enc = [a', b', c']) (h1 : o1 = i * 3) (h2 : o2 = j * 3) :
    SWK El.enc 3 W0 g 0 dk2 (World.drew ((((((W.setCell ⟨g, o1, none⟩ a).setCell ⟨g, o1 + 1, none⟩ b).setCell ⟨g, o1 + 1 + 1, none⟩ c).setCell ⟨g, o2, none⟩ a').setCell ⟨g, o2 + 1, none⟩ b').setCell ⟨g, o2 + 1 + 1, none⟩ c')) := by
  subst h1; subst h2
  have h3 := h.swapped ⟨El.len, El.one, hH, hg⟩ i j hi hj
  rw [hx, hy, hd, Nat.zero_add, Nat.zero_add] at h3
  have e : ∀ (w : World) x v, w.drew.setCell x v = (w.setCell x v).drew := fun _ _ _ => rfl
  simp only [World.setCells, e] at h3
  exact h3
end
/-! ### slices.SortFunc's family at readings, the comparison a method expression: the words of every step -/
section
variable {W0 : World} {g : Nat} {ok : Nat → Prop}
theorem El.cells (x : El W0 g ok) : ∃ (p : Int) (A : Option Addr) (n m : Nat) (t : Int), x.enc = [.int .i64 p, .slice A n m, .int .i64 t] := by
  obtain ⟨A, c, e, _, _⟩ := k36_open (Kd.FK_now x.2.1)
  exact ⟨_, A, _, c, _, e⟩
/-- An element's three cells, in every world of the class. -/
theorem el_cells {dk d0 : Array (El W0 g ok)} {W : World} (h : SWK El.enc 3 W0 g 0 dk W) (hH : Go.Sort.HoldsK El.enc 3 W0 g 0 d0) (hg : g < W0.heap.size) (hs : dk.size = d0.size) (i : Nat) (hi : i < dk.size) (a b c : Value) (hx : dk[i]!.enc = [a, b, c]) (n : Nat) (os : Array Obj) :
    ((Go.Sort.grow (W.drewN n) os).cell? ⟨g, i * 3, none⟩ = some a ∧ (Go.Sort.grow (W.drewN n) os).cell? ⟨g, i * 3 + 1, none⟩ = some b ∧ (Go.Sort.grow (W.drewN n) os).cell? ⟨g, i * 3 + 2, none⟩ = some c) ∧
    ((Go.Sort.grow (W.drewN n) os).frozen? ⟨g, i * 3, none⟩ = false ∧ (Go.Sort.grow (W.drewN n) os).frozen? ⟨g, i * 3 + 1, none⟩ = false ∧ (Go.Sort.grow (W.drewN n) os).frozen? ⟨g, i * 3 + 2, none⟩ = false) := by
  have h0 := ins_cell h hH hg hs i 0 hi (by decide) _ hx n os
  have h1 := ins_cell h hH hg hs i 1 hi (by decide) _ hx n os
  have h2 := ins_cell h hH hg hs i 2 hi (by decide) _ hx n os
  rw [Nat.add_zero] at h0
  exact ⟨⟨h0.1, h1.1, h2.1⟩, h0.2, h1.2, h2.2⟩
theorem el_swap {dk d0 : Array (El W0 g ok)} {W : World} (h : SWK El.enc 3 W0 g 0 dk W) (hH : Go.Sort.HoldsK El.enc 3 W0 g 0 d0) (hg : g < W0.heap.size) (hs : dk.size = d0.size) (i j : Nat) (hi : i < dk.size) (hj : j < dk.size) (a b c a' b' c' : Value) (hx : dk[j]!.enc = [a, b, c]) (hy : dk[i]!.enc = [a', b', c']) :
    SWK El.enc 3 W0 g 0 (Go.Sort.swp dk i j) (World.drew ((((((W.setCell ⟨g, i * 3, none⟩ a).setCell ⟨g, i * 3 + 1, none⟩ b).setCell ⟨g, i * 3 + 2, none⟩ c).setCell ⟨g, j * 3, none⟩ a').setCell ⟨g, j * 3 + 1, none⟩ b').setCell ⟨g, j * 3 + 2, none⟩ c')) :=
  ins_swap h hH hg hs i j (i * 3) (j * 3) hi hj rfl a b c a' b' c' hx hy rfl rfl
theorem ltOf_yes {x y : El W0 g ok} (h : x.cf y < 0) : Go.Proofs.ltOf El.cf x y = true := decide_eq_true h
theorem ltOf_yes3 {x y : El W0 g ok} (h : x.cf y < 0) : decide (x.cf y < 0) = true := decide_eq_true h
theorem ltOf_no3 {x y : El W0 g ok} (h : ¬ x.cf y < 0) : decide (x.cf y < 0) = false := decide_eq_false h
theorem ltOf_no {x y : El W0 g ok} (h : ¬ x.cf y < 0) : Go.Proofs.ltOf El.cf x y = false := decide_eq_false h
end
theorem wrap_i64n (i : Nat) (h : i < 4611686018427387905) (z : Int) (hz : z = (i : Int)) : wrap64 z = (i : Int) := by subst hz; unfold wrap64; omega
theorem insInner_stop {α : Type} [Inhabited α] (lt : α → α → Bool) (a : Nat) : ∀ (j : Nat) (_ : ¬ a < j) (d : Array α), Go.Sort.insInner lt a j d = d
  | 0, _, _ => rfl
  | j + 1, h, d => by rw [Go.Sort.insInner]; simp; intro h2; omega
set_option maxHeartbeats 8000000 in
set_option maxRecDepth 100000 in
/-- The insertion sort, of any stretch of the row. -/
theorem insAll (W0 : World) (g cap : Nat) (ok : Nat → Prop) (d0 d : Array (El W0 g ok)) (hH : Go.Sort.HoldsK El.enc 3 W0 g 0 d0) (hg : g < W0.heap.size) (hs : d.size = d0.size) (hsz : d0.size < 4611686018427387904) (a b : Nat) (hab : a ≤ b) (hb : b ≤ d.size) (W : World) (hW : SWK El.enc 3 W0 g 0 d W) :
    Calls Tryd.prog 51 #[.slice (some ⟨g, 0, none⟩) d.size cap, .int .i64 a, .int .i64 b, .func (.methodOf 47 "interlocutor/rank.against") #[] #[]] W fun e w' => e = .returned (.tuple #[]) ∧ SWK El.enc 3 W0 g 0 (Go.Sort.insertionSort (Go.Proofs.ltOf El.cf) d a b) w' := by
  have HH := Aside0.mk hH
  have mixed : Tryd.prog.follows .mixedOrders = true := by kernel_rfl
  have hm := meth_at
  have hmc := meth_call
  have H0 := Aside0.mk hW
  have HS := Aside0.mk (And.intro hs hsz)
  have HAB := Aside0.mk (And.intro hab hb)
  clear hab hb
  clear hH hW hs hsz
  go_enter Tryd.func51, Tryd.ntmps51
  go_wp2
  go_loopg [8] (b - a) (fun g1 vi wr => ∃ (i : Nat) (dk : Array (El W0 g ok)), vi = .int .i64 i ∧ Aside0 (a < i ∧ i ≤ b + 1 ∧ b + 1 - i ≤ g1 + 1 ∧ dk.size = d.size) ∧ Aside0 (SWK El.enc 3 W0 g 0 dk wr) ∧ Aside0 (Go.Sort.insOuter (Go.Proofs.ltOf El.cf) a b i dk = Go.Sort.insOuter (Go.Proofs.ltOf El.cf) a b (a + 1) d))
  case atStart => exact ⟨a + 1, d, by rw [wrap_i64n (a + 1) (by have := HAB.out; have := HS.out; omega) _ (by omega)], ⟨by have := HAB.out; have := HS.out; omega⟩, H0, ⟨rfl⟩⟩
  case round =>
    clear H0
    obtain ⟨i, dk, rfl, HI, HK, HO⟩ := hrel
    by_cases hlt : i < b
    · have hltz : (i : Int) < (b : Int) := by omega
      go_wp2
      go_loopg [9] i (fun g2 vj wr2 => ∃ (j : Nat) (dj : Array (El W0 g ok)), vj = .int .i64 j ∧ Aside0 (a ≤ j ∧ j ≤ i ∧ j ≤ g2 ∧ dj.size = d.size) ∧ Aside0 (SWK El.enc 3 W0 g 0 dj wr2) ∧ Aside0 (Go.Sort.insInner (Go.Proofs.ltOf El.cf) a j dj = Go.Sort.insInner (Go.Proofs.ltOf El.cf) a i dk))
      case atStart => exact ⟨i, dk, rfl, ⟨by have := HI.out; omega⟩, HK, ⟨rfl⟩⟩
      case round =>
        clear HK
        obtain ⟨j, dj, rfl, HJ, HJW, HJE⟩ := hrel
        by_cases hja : a < j
        · obtain ⟨jp, rfl⟩ : ∃ jp, j = jp + 1 := ⟨j - 1, by omega⟩
          have ia1 : (0 : Int) ≤ (jp : Int) + 1 := by have := HAB.out; have := HS.out; have := HJ.out; have := HI.out; omega
          have ib1 : (jp : Int) + 1 < (d.size : Int) := by have := HAB.out; have := HS.out; have := HJ.out; have := HI.out; omega
          have ic1 : ((jp : Int) + 1).toNat = jp + 1 := by have := HAB.out; have := HS.out; have := HJ.out; have := HI.out; omega
          have id1 : IntKind.i64.wrap ((jp : Int) + 1) = (jp : Int) + 1 := by have := HAB.out; have := HS.out; have := HJ.out; have := HI.out; rw [IntKind.wrap_i64]; omega
          have ia2 : (0 : Int) ≤ (jp : Int) := by have := HAB.out; have := HS.out; have := HJ.out; have := HI.out; omega
          have ib2 : (jp : Int) < (d.size : Int) := by have := HAB.out; have := HS.out; have := HJ.out; have := HI.out; omega
          have ic2 : ((jp : Int)).toNat = jp := by have := HAB.out; have := HS.out; have := HJ.out; have := HI.out; omega
          have id2 : IntKind.i64.wrap ((jp : Int)) = (jp : Int) := by have := HAB.out; have := HS.out; have := HJ.out; have := HI.out; rw [IntKind.wrap_i64]; omega
          have z3 : (a : Int) < (jp : Int) + 1 := by omega
          obtain ⟨px, Ax, nx, mx, tx, ex⟩ := El.cells dj[jp + 1]!
          have ELx := Aside0.mk ex
          clear ex
          obtain ⟨py, Ay, ny, my, ty, ey⟩ := El.cells dj[jp]!
          have ELy := Aside0.mk ey
          clear ey
          have qx := fun n os => el_cells HJW.out HH.out hg (by have := HAB.out; have := HS.out; have := HJ.out; have := HI.out; omega) (jp + 1) (by have := HAB.out; have := HS.out; have := HJ.out; have := HI.out; omega) _ _ _ ELx.out n os
          have qy := fun n os => el_cells HJW.out HH.out hg (by have := HAB.out; have := HS.out; have := HJ.out; have := HI.out; omega) (jp) (by have := HAB.out; have := HS.out; have := HJ.out; have := HI.out; omega) _ _ _ ELy.out n os
          have q0 := fun n os => (qx n os).1.1
          have q1 := fun n os => (qx n os).1.2.1
          have q2 := fun n os => (qx n os).1.2.2
          have q3 := fun n os => (qy n os).1.1
          have q4 := fun n os => (qy n os).1.2.1
          have q5 := fun n os => (qy n os).1.2.2
          have cc := fun n os => ins_cmp HJW.out dj[jp + 1]! dj[jp]! _ _ ELx.out ELy.out n os
          clear qx qy
          go_wp2_with fail
          go_quiet_grown (first | (go_at_call 92; refine Calls.grown_of (cc _ _)))
          have H2 := Aside0.mk (HJW.out.grown nq osq)
          clear cc q0 q1 q2 q3 q4 q5 HJW
          generalize Go.Sort.grow (World.drewN wr nq) osq = W2 at H2 ⊢
          clear nq osq
          by_cases hc : (dj[jp + 1]!).cf (dj[jp]!) < 0
          · have hlt2 := ltOf_yes hc
            go_wp2_with fail
            have q := el_cells H2.out HH.out hg (by have := HAB.out; have := HS.out; have := HJ.out; have := HI.out; omega) (jp + 1) (by have := HAB.out; have := HS.out; have := HJ.out; have := HI.out; omega) _ _ _ ELx.out 0 #[]
            have r := el_cells H2.out HH.out hg (by have := HAB.out; have := HS.out; have := HJ.out; have := HI.out; omega) (jp) (by have := HAB.out; have := HS.out; have := HJ.out; have := HI.out; omega) _ _ _ ELy.out 0 #[]
            rw [Go.Sort.grow_empty, World.drewN_zero] at q r
            obtain ⟨⟨q0, q1, q2⟩, q3, q4, q5⟩ := q
            obtain ⟨⟨r0, r1, r2⟩, r3, r4, r5⟩ := r
            
            go_wp2_with fail
            go_big_region_o
            
            have H3 := Aside0.mk (el_swap H2.out HH.out hg (by have := HAB.out; have := HS.out; have := HJ.out; have := HI.out; omega) (jp + 1) (jp) (by have := HAB.out; have := HS.out; have := HJ.out; have := HI.out; omega) (by have := HAB.out; have := HS.out; have := HJ.out; have := HI.out; omega) _ _ _ _ _ _ ELy.out ELx.out)
            
            clear H2 q0 q1 q2 q3 q4 q5 r0 r1 r2 r3 r4 r5
            generalize World.drew ((((((World.setCell W2 ⟨g, (jp + 1) * 3, none⟩ _).setCell ⟨g, (jp + 1) * 3 + 1, none⟩ _).setCell ⟨g, (jp + 1) * 3 + 2, none⟩ _).setCell ⟨g, (jp) * 3, none⟩ _).setCell ⟨g, (jp) * 3 + 1, none⟩ _).setCell ⟨g, (jp) * 3 + 2, none⟩ _) = W3 at H3  ⊢
            go_wp2
            go_roundg jp
            case measure => have := HJ.out; omega
            case rel => exact ⟨jp, Go.Sort.swp dj (jp + 1) jp, by go_num, ⟨by rw [Go.Sort.size_swp]; have := HJ.out; omega⟩, H3, ⟨by rw [← HJE.out]; simp [Go.Sort.insInner, hlt2, hja]⟩⟩
          · have hlt2 := ltOf_no hc
            go_wp2
            go_wp2
            go_roundg (b - (i + 1))
            case measure => have := HI.out; omega
            case rel => exact ⟨i + 1, dj, by rw [wrap_i64n (i + 1) (by have := HAB.out; have := HS.out; have := HJ.out; have := HI.out; omega) _ (by omega)], ⟨by have := HI.out; have := HJ.out; omega⟩, H2, ⟨by rw [← HO.out, Go.Sort.insOuter.eq_1 _ a b i dk, if_pos hlt, ← HJE.out]; simp [Go.Sort.insInner, hlt2]⟩⟩
        · have hjz : ¬ ((a : Int) < (j : Int)) := by omega
          go_wp2_with fail
          go_big_region_o
          have H2 := Aside0.mk (HJW.out.drew)
          clear HJW
          generalize World.drew wr = W2 at H2 ⊢
          go_wp2
          go_roundg (b - (i + 1))
          case measure => have := HI.out; omega
          case rel => exact ⟨i + 1, dj, by rw [wrap_i64n (i + 1) (by have := HAB.out; have := HS.out; have := HJ.out; have := HI.out; omega) _ (by omega)], ⟨by have := HI.out; have := HJ.out; omega⟩, H2, ⟨by rw [← HO.out, Go.Sort.insOuter.eq_1 _ a b i dk, if_pos hlt, ← HJE.out]; rw [insInner_stop _ _ _ hja]⟩⟩
    · have hltz : ¬ ((i : Int) < (b : Int)) := by omega
      go_wp2
      go_end0
      refine ⟨rfl, ?_⟩
      have h := HO.out
      rw [Go.Sort.insOuter.eq_1 _ a b i dk, if_neg hlt] at h
      rw [Go.Sort.insertionSort, ← h]
      exact HK.out

end Go.Proofs.YtlgndfplikhflaaDoor.G
