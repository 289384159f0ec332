import Derived.Test.YtjijikgandkphaaDoorGx0
import Derived.Test.YtjijikgandkphaaDoorGx11
import Derived.Test.YtjijikgandkphaaDoorGx13
namespace Go.Proofs.YtjijikgandkphaaDoor.G
open Go.RowKit Go.Proofs.YtjijikgandkphaaDoorW.PrintWords Go.Proofs.YtjijikgandkphaaDoorW.PrintLast Go.Proofs.YtjijikgandkphaaDoorW.PrintMore Go.Proofs.YtjijikgandkphaaDoorW.VWords Go.Proofs.YtjijikgandkphaaDoorW.Tab
attribute [local go_sem] max2_int min2_int max_two min_two max_three min_three max_four min_four
set_option linter.unusedVariables false
set_option linter.unusedSimpArgs false
def mkTab : List Int := [1, 3, 2, 2, 2, 2, 3, 1, 1, 2, 1, 1, 2, 2, 2, 2]
def mkSym : List Int := [0, 0, 0, 1, 2, 3, 50, 51, 52, 53, 54]
def mkS (s k : Int) : Int := if wrap64 (k.tdiv 20) % 2 = 0 then wrap64 (-1 - rd mkSym (wrap64 (k.tdiv 40) % 11)) else k % s
def mkK (l : List Int) (i : Nat) : Int := if i < l.length then rd l (i : Int) else (i : Int)
def mkN (b : Int) : Int := rd mkTab (b % 16)
def mkM (b : Int) (L : Nat) : Nat := if wrap64 (b.tdiv 16) % 2 = 0 then max (1 + L % 3) (mkN b).toNat else 1 + L % 3
def mkR (s b : Int) (l : List Int) (m : Nat) : List Int := (List.range m).map (fun i => mkS s (mkK l i))
def mkP (m : Nat) (l : List Int) (n : Nat) : List Int := (List.range n).map (fun i => mkK l i % (m : Int))
def makeF (s a b c : Int) (l3 l4 : List Int) : S96 := ⟨a % s, mkR s b l3 (mkM b l3.length), ⟨b % 16, mkP (mkM b l3.length) l4 (mkN b).toNat⟩, c % 101⟩
theorem mkN_le (b : Int) : 1 ≤ mkN b ∧ mkN b ≤ 3 := by
 have h1 : 0 ≤ b % 16 := Int.emod_nonneg b (by decide)
 have h2 : b % 16 < 16 := Int.emod_lt_of_pos b (by decide)
 unfold mkN
 generalize b % 16 = j at h1 h2
 obtain ⟨m, rfl⟩ := Int.eq_ofNat_of_zero_le h1
 have : ∀ m : Nat, m < 16 → 1 ≤ rd mkTab (m : Int) ∧ rd mkTab (m : Int) ≤ 3 := by decide
 exact this m (by omega)
theorem mkM_le (b : Int) (L : Nat) : 1 ≤ mkM b L ∧ mkM b L ≤ 3 := by
 have := mkN_le b
 unfold mkM
 split <;> omega
theorem mk_snoc (f : Nat → Int) (n : Nat) : (List.range n).map f ++ [f n] = (List.range (n + 1)).map f := by rw [List.range_succ, List.map_append]; rfl
theorem wi_any (a n : Int) (h : 0 < n ∧ n ≤ 1000000000000) (w : World) : Calls Tryd.prog 67 #[.int .i64 a, .int .i64 n] w fun e w' => e = .returned (.int .i64 (a % n)) ∧ Below w.heap.size w w' := by
 refine (interlocutorlaw4_within.calls a n (a % n) w ?_).mono (fun e w' h => ⟨h.1, h.2.below⟩)
 unfold interlocutorlaw4_within.f
 rw [if_neg (by omega)]
 have h1 := Int.emod_nonneg a (show n ≠ 0 by omega)
 have h2 := Int.emod_lt_of_pos a h.1
 rw [Int.tmod_eq_emod]
 have hn3 : (n.natAbs : Int) = n := by omega
 split
 ·rw [if_neg (by omega)]
  simp
 ·rw [hn3, if_pos (by omega), show wrap64 (a % n - n + n) = a % n by unfold wrap64; omega]
theorem mk_body (b : Int) (L : Nat) (q3 q2 i : Int) (n m : Nat) (h3 : q3 = (L : Int) % 3) (h2 : q2 = wrap64 (b.tdiv 16) % 2) (hm : m = mkM b L) (hi : i = (n : Int)) (h : n < m) : decide (i < wrap64 (1 + q3)) = true ∨ (decide (i < wrap64 (1 + q3)) = false ∧ decide (i < mkN b) = true ∧ (q2 == 0) = true) := by
 have := mkN_le b
 have e : wrap64 (1 + q3) = 1 + q3 := by unfold wrap64; omega
 rw [e]
 by_cases c1 : i < 1 + q3
 ·exact .inl (decide_eq_true c1)
 ·refine .inr ⟨decide_eq_false c1, ?_⟩
  rw [mkM, ← h2] at hm
  split at hm
  ·exact ⟨decide_eq_true (by omega), beq_iff_eq.mpr ‹_›⟩
  ·omega
theorem mk_exit (b : Int) (L : Nat) (q3 q2 i : Int) (n m : Nat) (h3 : q3 = (L : Int) % 3) (h2 : q2 = wrap64 (b.tdiv 16) % 2) (hm : m = mkM b L) (hi : i = (n : Int)) (h : ¬ n < m) : (decide (i < wrap64 (1 + q3)) = false ∧ decide (i < mkN b) = false) ∨ (decide (i < wrap64 (1 + q3)) = false ∧ decide (i < mkN b) = true ∧ (q2 == 0) = false) := by
 have := mkN_le b
 have e : wrap64 (1 + q3) = 1 + q3 := by unfold wrap64; omega
 rw [e]
 rw [mkM, ← h2] at hm
 by_cases c2 : i < mkN b
 ·refine .inr ⟨decide_eq_false ?_, decide_eq_true c2, ?_⟩
  ·split at hm <;> omega
  ·split at hm
   ·omega
   ·exact beq_eq_false_iff_ne.mpr ‹_›
 ·refine .inl ⟨decide_eq_false ?_, decide_eq_false c2⟩
  split at hm <;> omega
theorem mkK_in {l : List Int} {n : Nat} {i : Int} (hi : i = (n : Int)) (h : i < (l.length : Int)) : rd l i = mkK l n := by subst hi; rw [mkK, if_pos (by omega)]
theorem mkK_out {l : List Int} {n : Nat} {i : Int} (hi : i = (n : Int)) (h : ¬ i < (l.length : Int)) : i = mkK l n := by subst hi; rw [mkK, if_neg (by omega)]
theorem mkR_step (s b : Int) (l : List Int) (n : Nat) (x : Int) (h : mkS s (mkK l n) = x) : mkR s b l n ++ [x] = mkR s b l (n + 1) := by subst h; exact mk_snoc (fun i => mkS s (mkK l i)) n
theorem mkP_step (m : Nat) (l : List Int) (n : Nat) (x : Int) (h : mkK l n % (m : Int) = x) : mkP m l n ++ [x] = mkP m l (n + 1) := by subst h; exact mk_snoc (fun i => mkK l i % (m : Int)) n
theorem at_all {w : World} {A : Option Addr} {n : Nat} {l : List Int} (h : Kd.C (Kd.int .i64) w A n l) (i k : Int) (hk : k = rd l i) (h0 : 0 ≤ i) (h1 : i < n) : ∃ ad, A = some ad ∧ ∀ W, Below w.heap.size w W → W.cell? (ad.add i.toNat) = some (.int .i64 k) := by
 subst hk
 obtain ⟨ad, e, hx⟩ := Kd.at_int h i h0 h1
 subst e
 refine ⟨ad, rfl, fun W hb => ?_⟩
 obtain ⟨ad', e, hx'⟩ := Kd.at_int (Kd.C_below h hb) i h0 h1
 injection e with e
 subst e
 exact hx'
structure MkA (w W : World) (g2 g4 : Nat) (a b c : Int) (A3 : Option Addr) (c3 : Nat) (l3 : List Int) (A4 : Option Addr) (c4 : Nat) (l4 : List Int) : Prop where
 hb : Below w.heap.size w W
 k2 : W.heap[g2]? = some (.cells #[.int .i64 a, .int .i64 b, .int .i64 c, .slice A3 l3.length c3, .slice A4 l4.length c4] 98 (0, 0))
 k4 : W.heap[g4]? = some (.cells #[.int .i64 0, .slice none 0 0, .int .i64 0, .slice none 0 0, .int .i64 0] 96 (0, 0))
 n4 : w.heap.size ≤ g4
structure MkB (w W : World) (g2 g4 g5 : Nat) (a b c : Int) (A3 : Option Addr) (c3 : Nat) (l3 : List Int) (A4 : Option Addr) (c4 : Nat) (l4 : List Int) (f0 f2 f4 : Int) (v1 v3 : Value) (xs ps : List Int) : Prop extends MkA w W g2 g4 a b c A3 c3 l3 A4 c4 l4 where
 k5 : W.heap[g5]? = some (.cells #[.int .i64 f0, v1, .int .i64 f2, v3, .int .i64 f4] 96 (0, 0))
 n5 : w.heap.size ≤ g5
 e45 : g4 ≠ g5
 r1 : Kd.R (Kd.int .i64) 3 W w.heap.size (fun k => some k ≠ v3.ownBlock) v1 xs
 r3 : Kd.R (Kd.int .i64) 3 W w.heap.size (fun k => some k ≠ v1.ownBlock) v3 ps
section
variable {w W W1 : World} {g2 g4 g5 : Nat} {a b c : Int} {A3 : Option Addr} {c3 : Nat} {l3 : List Int} {A4 : Option Addr} {c4 : Nat} {l4 : List Int} {f0 f2 f4 : Int} {v1 v3 : Value} {xs ps : List Int}
theorem MkA.on (h : MkA w W g2 g4 a b c A3 c3 l3 A4 c4 l4) (hb : Below W.heap.size W W1) : MkA w W1 g2 g4 a b c A3 c3 l3 A4 c4 l4 := ⟨below_step h.hb hb, blk_below h.k2 hb, blk_below h.k4 hb, h.n4⟩
theorem MkB.on (h : MkB w W g2 g4 g5 a b c A3 c3 l3 A4 c4 l4 f0 f2 f4 v1 v3 xs ps) (hb : Below W.heap.size W W1) : MkB w W1 g2 g4 g5 a b c A3 c3 l3 A4 c4 l4 f0 f2 f4 v1 v3 xs ps := ⟨h.toMkA.on hb, blk_below h.k5 hb, h.n5, h.e45, Kd.R_below h.r1 hb, Kd.R_below h.r3 hb⟩
theorem MkB.e25 (h : MkB w W g2 g4 g5 a b c A3 c3 l3 A4 c4 l4 f0 f2 f4 v1 v3 xs ps) : g2 ≠ g5 := blk_ne h.k2 h.k5 (by decide)
theorem mkT : ∀ q, q ∈ 3 :: (Kd.int .i64).E → q ≠ 96 := fun q hq => by
 have hq : q ∈ [3] := hq
 rw [List.mem_singleton] at hq
 subst hq
 decide
theorem MkA.alloc (h : MkA w W g2 g4 a b c A3 c3 l3 A4 c4 l4) (hb : Below W.heap.size W W1) (e : g5 = W.heap.size) (k5 : W1.heap[g5]? = some (.cells #[.int .i64 0, .slice none 0 0, .int .i64 0, .slice none 0 0, .int .i64 0] 96 (0, 0))) : MkB w W1 g2 g4 g5 a b c A3 c3 l3 A4 c4 l4 0 0 0 (.slice none 0 0) (.slice none 0 0) [] [] := by
 have := blk_lt h.k4
 have := below_size h.hb
 exact ⟨h.on hb, k5, by omega, by omega, Kd.R_nil _ _ _ _ _, Kd.R_nil _ _ _ _ _⟩
theorem MkB.init (h : MkB w W g2 g4 g5 a b c A3 c3 l3 A4 c4 l4 0 0 0 (.slice none 0 0) (.slice none 0 0) [] []) (f0 f4 : Int) : MkB w (set5 W g5 (.int .i64 f0) (.slice none 0 0) (.int .i64 0) (.slice none 0 0) (.int .i64 f4)) g2 g4 g5 a b c A3 c3 l3 A4 c4 l4 f0 0 f4 (.slice none 0 0) (.slice none 0 0) [] [] :=
 ⟨⟨below_set (below_set (below_set (below_set (below_set h.hb h.n5) h.n5) h.n5) h.n5) h.n5, (set5_far _ _ _ _ _ _ _ _ h.e25).trans h.k2, (set5_far _ _ _ _ _ _ _ _ h.e45).trans h.k4, h.n4⟩, set5_blk h.k5 _ _ _ _ _, h.n5, h.e45, Kd.R_nil _ _ _ _ _, Kd.R_nil _ _ _ _ _⟩
theorem MkB.put2 (h : MkB w W g2 g4 g5 a b c A3 c3 l3 A4 c4 l4 f0 f2 f4 v1 v3 xs ps) (f : Int) : MkB w (W.setCell ⟨g5, 2, none⟩ (.int .i64 f)) g2 g4 g5 a b c A3 c3 l3 A4 c4 l4 f0 f f4 v1 v3 xs ps :=
 ⟨⟨below_set h.hb h.n5, blk_far h.k2 h.e25 _, blk_far h.k4 h.e45 _, h.n4⟩, blk_put h.k5 2 _ rfl, h.n5, h.e45, Kd.R_set h.r1 h.k5 mkT 2 _, Kd.R_set h.r3 h.k5 mkT 2 _⟩
theorem MkB.put1 (h : MkB w W g2 g4 g5 a b c A3 c3 l3 A4 c4 l4 f0 f2 f4 v1 v3 xs ps) {v : Value} {ys : List Int} (ho : Kd.R (Kd.int .i64) 3 W1 w.heap.size (fun k => some k ≠ v3.ownBlock) v ys) (hb : Below w.heap.size w W1) (hg : W.grownBy W1 v1.ownBlock) (hat : v.ownBlock = v1.ownBlock ∨ ∃ b, v.ownBlock = some b ∧ W.heap.size ≤ b) :
  MkB w (W1.setCell ⟨g5, 1, none⟩ v) g2 g4 g5 a b c A3 c3 l3 A4 c4 l4 f0 f2 f4 v v3 ys ps ∧ W1.heap[g5]? = some (.cells #[.int .i64 f0, v1, .int .i64 f2, v3, .int .i64 f4] 96 (0, 0)) := by
 have k5 := blk_grown h.k5 hg (Kd.R_ne h.r1 h.k5 (by decide))
 have r3 := Kd.R_mono (Kd.R_after (ok := fun _ => True) (Kd.R_mono h.r3 (fun _ hk => ⟨trivial, hk⟩)) hg hat) (fun _ hk => hk.2)
 exact ⟨⟨⟨below_set hb h.n5, blk_far (blk_grown h.k2 hg (Kd.R_ne h.r1 h.k2 (by decide))) h.e25 _, blk_far (blk_grown h.k4 hg (Kd.R_ne h.r1 h.k4 (by decide))) h.e45 _, h.n4⟩, blk_put k5 1 _ rfl, h.n5, h.e45, Kd.R_set ho k5 mkT 1 _, Kd.R_set r3 k5 mkT 1 _⟩, k5⟩
theorem MkB.put3 (h : MkB w W g2 g4 g5 a b c A3 c3 l3 A4 c4 l4 f0 f2 f4 v1 v3 xs ps) {v : Value} {ys : List Int} (ho : Kd.R (Kd.int .i64) 3 W1 w.heap.size (fun k => some k ≠ v1.ownBlock) v ys) (hb : Below w.heap.size w W1) (hg : W.grownBy W1 v3.ownBlock) (hat : v.ownBlock = v3.ownBlock ∨ ∃ b, v.ownBlock = some b ∧ W.heap.size ≤ b) :
  MkB w (W1.setCell ⟨g5, 3, none⟩ v) g2 g4 g5 a b c A3 c3 l3 A4 c4 l4 f0 f2 f4 v1 v xs ys ∧ W1.heap[g5]? = some (.cells #[.int .i64 f0, v1, .int .i64 f2, v3, .int .i64 f4] 96 (0, 0)) := by
 have k5 := blk_grown h.k5 hg (Kd.R_ne h.r3 h.k5 (by decide))
 have r1 := Kd.R_mono (Kd.R_after (ok := fun _ => True) (Kd.R_mono h.r1 (fun _ hk => ⟨trivial, hk⟩)) hg hat) (fun _ hk => hk.2)
 exact ⟨⟨⟨below_set hb h.n5, blk_far (blk_grown h.k2 hg (Kd.R_ne h.r3 h.k2 (by decide))) h.e25 _, blk_far (blk_grown h.k4 hg (Kd.R_ne h.r3 h.k4 (by decide))) h.e45 _, h.n4⟩, blk_put k5 3 _ rfl, h.n5, h.e45, Kd.R_set r1 k5 mkT 3 _, Kd.R_set ho k5 mkT 3 _⟩, k5⟩
theorem MkB.fin (h : MkB w W g2 g4 g5 a b c A3 c3 l3 A4 c4 l4 f0 f2 f4 v1 v3 xs ps) : (set5 W g4 (.int .i64 f0) v1 (.int .i64 f2) v3 (.int .i64 f4)).heap[g4]? = some (.cells #[.int .i64 f0, v1, .int .i64 f2, v3, .int .i64 f4] 96 (0, 0)) ∧ Kd.R (Kd.int .i64) 3 (set5 W g4 (.int .i64 f0) v1 (.int .i64 f2) v3 (.int .i64 f4)) w.heap.size (fun k => some k ≠ v3.ownBlock) v1 xs ∧ Kd.R (Kd.int .i64) 3 (set5 W g4 (.int .i64 f0) v1 (.int .i64 f2) v3 (.int .i64 f4)) w.heap.size (fun k => some k ≠ v1.ownBlock) v3 ps ∧ Below w.heap.size w (set5 W g4 (.int .i64 f0) v1 (.int .i64 f2) v3 (.int .i64 f4)) :=
 ⟨set5_blk h.k4 _ _ _ _ _, Kd.R_mono (Kd.R_step (Kd.R_types h.r1 h.k4 mkT) (fun k hk _ => set5_far _ _ _ _ _ _ _ _ hk.2)) (fun _ hk => hk.1), Kd.R_mono (Kd.R_step (Kd.R_types h.r3 h.k4 mkT) (fun k hk _ => set5_far _ _ _ _ _ _ _ _ hk.2)) (fun _ hk => hk.1), below_set (below_set (below_set (below_set (below_set h.hb h.n4) h.n4) h.n4) h.n4) h.n4⟩
end
def mk_T1 : Bool × List (List Nat × List Nat) := (true, [([], []), ([0], [0]), ([], []), ([1, 2], [1, 2]), ([], []), ([4], [4]), ([5, 3], [5]), ([3, 6], [3, 6]), ([], []), ([8, 7, 6, 0, 1, 2, 3, 4, 5, 6, 7, 8], [7, 8])])
theorem mk_tab1 : rtab .any (opsOf Tryd.f49 1) = mk_T1 := by kernel_rfl
theorem mk_bits1 : waitsOk mk_T1.2 [0, 1, 0, 7, 0, 16, 63, 127, 0, 511] = true := by kernel_rfl
def mk_T20 : Bool × List (List Nat × List Nat) := (true, [([], []), ([0], [0]), ([1], [1]), ([], []), ([], []), ([4], [4]), ([5], [5]), ([3, 6], [3, 6]), ([7], [7]), ([2, 8, 7], [2, 8]), ([0, 1, 2, 3, 4, 5, 6, 7, 8, 9], []), ([10, 0, 1, 2, 3, 4, 5, 6, 7, 8, 9], [10]), ([11, 9, 9, 0, 1, 2, 3, 4, 5, 6, 7, 8, 9], [9, 11])])
theorem mk_tab20 : rtab .any (opsOf Tryd.f49 20) = mk_T20 := by kernel_rfl
theorem mk_bits20 : waitsOk mk_T20.2 [0, 1, 3, 0, 0, 16, 48, 120, 248, 511, 1023, 2047, 4095] = true := by kernel_rfl
theorem wi_is (a n r : Int) (e : r = a % n) (h : 0 < n ∧ n ≤ 1000000000000) (w : World) : Calls Tryd.prog 67 #[.int .i64 a, .int .i64 n] w fun e w' => e = .returned (.int .i64 r) ∧ Below w.heap.size w w' := by subst e; exact wi_any a n h w
set_option maxHeartbeats 8000000 in
set_option maxRecDepth 100000 in
theorem make_walk (s a b c : Int) (A3 : Option Addr) (c3 : Nat) (l3 : List Int) (A4 : Option Addr) (c4 : Nat) (l4 : List Int) (w : World) (hs : 0 < s ∧ s ≤ 1000000000000) (h3 : Kd.C (Kd.int .i64) w A3 l3.length l3) (h4 : Kd.C (Kd.int .i64) w A4 l4.length l4) :
  Calls Tryd.prog 49 #[.agg #[.int .i64 a, .int .i64 b, .int .i64 c, .slice A3 l3.length c3, .slice A4 l4.length c4], .int .i64 s] w fun e w' => ∃ v1 v3, e = .returned (.agg #[.int .i64 (makeF s a b c l3 l4).f0, v1, .int .i64 (makeF s a b c l3 l4).f2.f0, v3, .int .i64 (makeF s a b c l3 l4).f3]) ∧ Kd.R (Kd.int .i64) 3 w' w.heap.size (fun k => some k ≠ v3.ownBlock) v1 (makeF s a b c l3 l4).f1 ∧ Kd.R (Kd.int .i64) 3 w' w.heap.size (fun k => some k ≠ v1.ownBlock) v3 (makeF s a b c l3 l4).f2.f1 ∧ Below w.heap.size w w' := by
 have hu98 := Tryd.underlying98
 have hu96 := Tryd.underlying96
 have hu94 := Tryd.underlying94
 have hu36 := Tryd.underlying36
 have HS := Aside0.mk hs
 have H3 := Aside0.mk h3
 have H4 := Aside0.mk h4
 have HB := Aside0.mk (Below.refl w.heap.size w)
 clear hs h3 h4
 go_enter Tryd.func49, Tryd.ntmps49
 go_wp2_with (first
  | ((with_reducible refine gate_dst (N := 2) rfl ?_); refine box_event ?hg (N := 2) ?hd (cs := #[.int .i64 a, .int .i64 b, .int .i64 c, .slice A3 l3.length c3, .slice A4 l4.length c4]) (t := 98) ?hr ?_; (case hd => rfl); (case hg => rfl); (case hr => first | (go_simp; done) | (go_simp; rfl)); intro g2 hg2 wg2 hbox hb; have K2 := Aside0.mk hbox; have B2 := Aside0.mk hb; clear hbox hb hg2)
  | ((with_reducible refine gate_dst (N := 4) rfl ?_); refine box_event ?hg (N := 4) ?hd (cs := #[.int .i64 0, .slice none 0 0, .int .i64 0, .slice none 0 0, .int .i64 0]) (t := 96) ?hr ?_; (case hd => rfl); (case hg => rfl); (case hr => first | (go_simp; done) | (go_simp; rfl)); intro g4 hg4 wg4 hbox hb; have HA := Aside0.mk (show MkA w wg4 g2 g4 a b c A3 c3 l3 A4 c4 l4 from ⟨below_step B2.out hb, blk_below K2.out hb, hbox, by rw [hg4]; exact below_size B2.out⟩); clear hbox hb hg4 K2 B2))
 replace HA := Aside0.mk (HA.out.on (below_drew1 (Below.refl _ _)))
 refine start_ (n := 10) (S := fun w' => w'.cell? ⟨g2, 0, none⟩ = some (.int .i64 a) ∧ w'.cell? ⟨g2, 2, none⟩ = some (.int .i64 c)) (ds := []) #[false, false, false, false, false, false, false, false, false, false] (by kernel_rfl) rfl rfl ⟨(blk_cell HA.out.k2 0).trans rfl, (blk_cell HA.out.k2 2).trans rfl⟩ (fun hHeld => ?_)
 refine with_tabW mk_tab1 mk_bits1 (fun HT_ HW_ => ?_)
 generalize World.drew _ = wd at HA hHeld ⊢
 refine pU HT_ 0 (some 12) (oB 10 1) ?_
 refine pU HT_ 2 (some 14) (oB 10 5) ?_
 refine pU HT_ 4 (some 16) (oB 10 21) ?_
 refine take_ (i := 1) (N := some 13) (v := ?_) (a' := ?_) (oB 10 23) rfl rfl (take_ofW HT_.out HW_.out (by kernel_rfl)) (fun _ _ _ h => h) (Or.inl ⟨by rfl, ?_⟩) hHeld ?_ ?_
 rotate_left
 ·rintro w' ⟨s0, s1⟩
  go_simp
  with_reducible rfl
 rotate_left
 ·simp only [Act.put, List.setIfInBounds_toArray, List.set_cons_zero, List.set_cons_succ, i64_w, i32_w]
  rfl
 refine take_ (i := 5) (N := some 17) (v := ?_) (a' := ?_) (oB 10 55) rfl rfl (take_ofW HT_.out HW_.out (by kernel_rfl)) (fun _ _ _ h => h) (Or.inl ⟨by rfl, ?_⟩) hHeld ?_ ?_
 rotate_left
 ·rintro w' ⟨s0, s1⟩
  go_simp
  with_reducible rfl
 rotate_left
 ·simp only [Act.put, List.setIfInBounds_toArray, List.set_cons_zero, List.set_cons_succ, i64_w, i32_w]
  rfl
 refine join_ (σ := Nat) 1 (oB 10 511) (fun g => [(15, .int .i64 (a % s)), (18, .int .i64 (c % 101)), (5, .pointer (some ⟨g, 0, none⟩)), (19, .agg #[.int .i64 (a % s), .slice none 0 0, .int .i64 0, .slice none 0 0, .int .i64 (c % 101)])]) (fun g5 w' => (w'.cell? ⟨g2, 0, none⟩ = some (.int .i64 a) ∧ w'.cell? ⟨g2, 2, none⟩ = some (.int .i64 c)) ∧ MkB w w' g2 g4 g5 a b c A3 c3 l3 A4 c4 l4 0 0 0 (.slice none 0 0) (.slice none 0 0) [] []) ?_ ?_
 rotate_left
 ·intro hCont
  refine two_ (i := 3) (j := 8) (Ni := some 15) (Nj := some 5) (oB 10 63) (oB 10 311) rfl rfl rfl rfl (two_of HT_.out (by kernel_rfl)) (by decide) (by decide) (fun K hK => ?_) (fun K hK => ?_)
  ·skip
   refine goes_ Tryd.func67 (by kernel_rfl) rfl #[.int .i64 a, .int .i64 s] (by rfl) rfl rfl (by (try simp only [List.map_toArray, List.map_cons, List.map_nil]); first | done | rfl) ?_
   refine (wi_any a s HS.out _).mono ?_
   rintro e w' ⟨rfl, hb⟩
   refine ⟨_, rfl, ?_⟩
   replace HA := Aside0.mk (HA.out.on hb)
   clear hb
   refine hK.out _ _ ⟨(blk_cell HA.out.k2 0).trans rfl, (blk_cell HA.out.k2 2).trans rfl⟩ (fun hHeld => ?_)
   clear hK K
   refine nM ?_
   refine two_ (i := 6) (j := 8) (Ni := some 18) (Nj := some 5) (oB 10 127) (oB 10 319) rfl rfl rfl rfl (two_of HT_.out (by kernel_rfl)) (by decide) (by decide) (fun K hK => ?_) (fun K hK => ?_)
   ·skip
    refine goes_ Tryd.func67 (by kernel_rfl) rfl #[.int .i64 c, .int .i64 101] (by rfl) rfl rfl (by (try simp only [List.map_toArray, List.map_cons, List.map_nil]); first | done | rfl) ?_
    refine (wi_any c 101 (by decide) _).mono ?_
    rintro e w' ⟨rfl, hb⟩
    refine ⟨_, rfl, ?_⟩
    replace HA := Aside0.mk (HA.out.on hb)
    clear hb
    refine hK.out _ _ ⟨(blk_cell HA.out.k2 0).trans rfl, (blk_cell HA.out.k2 2).trans rfl⟩ (fun hHeld => ?_)
    clear hK K
    refine nM ?_
    refine pU HT_ 7 (some 19) (oB 10 255) ?_
    refine one_ (i := 8) (N := some 5) (oB 10 511) rfl rfl (one_of HT_.out (by kernel_rfl)) (by decide) (fun K hK => ?_)
    refine box_step ?hg (N := 5) ?hd (cs := #[.int .i64 0, .slice none 0 0, .int .i64 0, .slice none 0 0, .int .i64 0]) (t := 96) ?hr ?_; (case hd => rfl); (case hg => rfl); (case hr => first | (go_simp; done) | (go_simp; rfl))
    intro g5 hg w' hbox hb
    replace HA := Aside0.mk (HA.out.alloc hb hg hbox)
    clear hg hbox hb
    refine hK.out _ _ ⟨(blk_cell HA.out.toMkA.k2 0).trans rfl, (blk_cell HA.out.toMkA.k2 2).trans rfl⟩ (fun hHeld => ?_)
    clear hK K
    refine nM ?_
    exact nJ (hCont g5 _ ⟨hHeld, HA.out⟩)
   ·skip
    refine box_step ?hg (N := 5) ?hd (cs := #[.int .i64 0, .slice none 0 0, .int .i64 0, .slice none 0 0, .int .i64 0]) (t := 96) ?hr ?_; (case hd => rfl); (case hg => rfl); (case hr => first | (go_simp; done) | (go_simp; rfl))
    intro g5 hg w' hbox hb
    replace HA := Aside0.mk (HA.out.alloc hb hg hbox)
    clear hg hbox hb
    refine hK.out _ _ ⟨(blk_cell HA.out.toMkA.k2 0).trans rfl, (blk_cell HA.out.toMkA.k2 2).trans rfl⟩ (fun hHeld => ?_)
    clear hK K
    refine nM ?_
    refine one_ (i := 6) (N := some 18) (oB 10 383) rfl rfl (one_of HT_.out (by kernel_rfl)) (by decide) (fun K hK => ?_)
    refine goes_ Tryd.func67 (by kernel_rfl) rfl #[.int .i64 c, .int .i64 101] (by rfl) rfl rfl (by (try simp only [List.map_toArray, List.map_cons, List.map_nil]); first | done | rfl) ?_
    refine (wi_any c 101 (by decide) _).mono ?_
    rintro e w' ⟨rfl, hb⟩
    refine ⟨_, rfl, ?_⟩
    replace HA := Aside0.mk (HA.out.on hb)
    clear hb
    refine hK.out _ _ ⟨(blk_cell HA.out.toMkA.k2 0).trans rfl, (blk_cell HA.out.toMkA.k2 2).trans rfl⟩ (fun hHeld => ?_)
    clear hK K
    refine nM ?_
    refine pU HT_ 7 (some 19) (oB 10 511) ?_
    exact nJ (hCont g5 _ ⟨hHeld, HA.out⟩)
  ·skip
   refine box_step ?hg (N := 5) ?hd (cs := #[.int .i64 0, .slice none 0 0, .int .i64 0, .slice none 0 0, .int .i64 0]) (t := 96) ?hr ?_; (case hd => rfl); (case hg => rfl); (case hr => first | (go_simp; done) | (go_simp; rfl))
   intro g5 hg w' hbox hb
   replace HA := Aside0.mk (HA.out.alloc hb hg hbox)
   clear hg hbox hb
   refine hK.out _ _ ⟨(blk_cell HA.out.toMkA.k2 0).trans rfl, (blk_cell HA.out.toMkA.k2 2).trans rfl⟩ (fun hHeld => ?_)
   clear hK K
   refine nM ?_
   refine one_ (i := 3) (N := some 15) (oB 10 319) rfl rfl (one_of HT_.out (by kernel_rfl)) (by decide) (fun K hK => ?_)
   refine goes_ Tryd.func67 (by kernel_rfl) rfl #[.int .i64 a, .int .i64 s] (by rfl) rfl rfl (by (try simp only [List.map_toArray, List.map_cons, List.map_nil]); first | done | rfl) ?_
   refine (wi_any a s HS.out _).mono ?_
   rintro e w' ⟨rfl, hb⟩
   refine ⟨_, rfl, ?_⟩
   replace HA := Aside0.mk (HA.out.on hb)
   clear hb
   refine hK.out _ _ ⟨(blk_cell HA.out.toMkA.k2 0).trans rfl, (blk_cell HA.out.toMkA.k2 2).trans rfl⟩ (fun hHeld => ?_)
   clear hK K
   refine nM ?_
   refine one_ (i := 6) (N := some 18) (oB 10 383) rfl rfl (one_of HT_.out (by kernel_rfl)) (by decide) (fun K hK => ?_)
   refine goes_ Tryd.func67 (by kernel_rfl) rfl #[.int .i64 c, .int .i64 101] (by rfl) rfl rfl (by (try simp only [List.map_toArray, List.map_cons, List.map_nil]); first | done | rfl) ?_
   refine (wi_any c 101 (by decide) _).mono ?_
   rintro e w' ⟨rfl, hb⟩
   refine ⟨_, rfl, ?_⟩
   replace HA := Aside0.mk (HA.out.on hb)
   clear hb
   refine hK.out _ _ ⟨(blk_cell HA.out.toMkA.k2 0).trans rfl, (blk_cell HA.out.toMkA.k2 2).trans rfl⟩ (fun hHeld => ?_)
   clear hK K
   refine nM ?_
   refine pU HT_ 7 (some 19) (oB 10 511) ?_
   exact nJ (hCont g5 _ ⟨hHeld, HA.out⟩)
 rintro g5 w2 ⟨hHeld, hA⟩
 replace HA := Aside0.mk hA
 clear hA
 refine norm_ (a' := ?_) ?_ ?_
 rotate_left
 ·simp only [putAll, Act.put, List.setIfInBounds_toArray, List.set_cons_zero, List.set_cons_succ]
  rfl
 refine one_ (i := 9) (N := none) (oB 10 1023) rfl rfl (one_of HT_.out (by kernel_rfl)) (by decide) (fun K hK => ?_)
 have hn25 := HA.out.e25
 have hn45 := HA.out.e45
 have y0 : w2.cell? ⟨g5, 0, none⟩ = some (.int .i64 0) := (blk_cell HA.out.k5 0).trans rfl
 have f0 := blk_frozen HA.out.k5 0
 have y1 : w2.cell? ⟨g5, 1, none⟩ = some (.slice none 0 0) := (blk_cell HA.out.k5 1).trans rfl
 have f1 := blk_frozen HA.out.k5 1
 have y2 : w2.cell? ⟨g5, 2, none⟩ = some (.int .i64 0) := (blk_cell HA.out.k5 2).trans rfl
 have f2 := blk_frozen HA.out.k5 2
 have y3 : w2.cell? ⟨g5, 3, none⟩ = some (.slice none 0 0) := (blk_cell HA.out.k5 3).trans rfl
 have f3 := blk_frozen HA.out.k5 3
 have y4 : w2.cell? ⟨g5, 4, none⟩ = some (.int .i64 0) := (blk_cell HA.out.k5 4).trans rfl
 have f4 := blk_frozen HA.out.k5 4
 refine skip_ (w1 := ?_) (by rfl) rfl ?_ ?_
 rotate_left
 ·go_simp
  rfl
 clear y0 f0 y1 f1 y2 f2 y3 f3 y4 f4
 have HA2 := Aside0.mk (HA.out.init (a % s) (c % 101))
 refine hK.out _ (set5 w2 g5 (.int .i64 (a % s)) (.slice none 0 0) (.int .i64 0) (.slice none 0 0) (.int .i64 (c % 101))) ⟨(blk_cell HA2.out.toMkA.k2 0).trans rfl, (blk_cell HA2.out.toMkA.k2 2).trans rfl⟩ (fun hHeld => ?_)
 clear hK K HA
 have HA := HA2
 clear HA2
 refine done_ (done_of HT_.out (by kernel_rfl)) ?_
 clear hHeld HT_ HW_
 generalize set5 _ _ _ _ _ _ _ = W at HA ⊢
 have hb0 := Int.emod_nonneg b (show (16 : Int) ≠ 0 by decide)
 have hb1 := Int.emod_lt_of_pos b (show (0 : Int) < 16 by decide)
 obtain ⟨q3, hq3⟩ : ∃ q, q = (l3.length : Int) % 3 := ⟨_, rfl⟩
 obtain ⟨q2, hq2⟩ : ∃ q, q = wrap64 (Int.tdiv b 16) % 2 := ⟨_, rfl⟩
 have HQ3 := Aside0.mk hq3
 have HQ2 := Aside0.mk hq2
 clear hq3 hq2
 have z21 : World.cell? _ ⟨g2, 1, none⟩ = some (.int .i64 b) := (blk_cell HA.out.k2 1).trans rfl
 go_wp2_with (first
  | (go_at_call 67; (with_reducible refine (wi_is (b) 16 (b % 16) rfl (by decide) _).mono ?_); rintro e w' ⟨rfl, hb⟩; replace HA := Aside0.mk (HA.out.on hb); have z52 : World.cell? _ ⟨g5, 2, none⟩ = some (.int .i64 0) := (blk_cell HA.out.k5 2).trans rfl; have f52 := blk_frozen HA.out.k5 2; clear z21)
  | ((with_reducible refine gate_dst (N := 25) rfl ?_); refine Kd.R_lit (Kd.int .i64) _ 3 ?hg (N := 25) ?hd (xs := ([1, 3, 2, 2, 2, 2, 3, 1, 1, 2, 1, 1, 2, 2, 2, 2] : List Int)) (inner := [.int .i64 1, .int .i64 3, .int .i64 2, .int .i64 2, .int .i64 2, .int .i64 2, .int .i64 3, .int .i64 1, .int .i64 1, .int .i64 2, .int .i64 1, .int .i64 1, .int .i64 2, .int .i64 2, .int .i64 2, .int .i64 2]) (ok := fun _ => True) (okp := fun _ => True) ?hr ?hp (fun _ hk => hk) trivial (Below.refl _ _) (Nat.le_refl _) (by simp) ?_; (case hd => rfl); (case hg => rfl); (case hr => first | (go_simp; done) | (go_simp; rfl)); (case hp => exact Kd.reps_scalar (enc := Value.int .i64) _); intro v w' ho hb hg_ hn_; clear hg_ hn_; replace HA := Aside0.mk ((HA.out.put2 (b % 16)).on hb); obtain ⟨A25, c25, e⟩ := Kd.R_slice ho; subst e; obtain ⟨ad, e, hx⟩ := Kd.at_int (Kd.R_reads' ho).2.2 (b % 16) hb0 hb1; subst e; have hN := (show World.cell? _ _ = some (.int .i64 (mkN b)) from hx); clear hx ho hb z52 f52; have z52 : World.cell? _ ⟨g5, 2, none⟩ = some (.int .i64 (b % 16)) := (blk_cell HA.out.k5 2).trans rfl))
 clear hN z52 hb0 hb1 hHeld
 obtain ⟨m, hm⟩ : ∃ m, m = mkM b l3.length := ⟨_, rfl⟩
 have HM := Aside0.mk hm
 have HMB := Aside0.mk (hm ▸ mkM_le b l3.length : 1 ≤ m ∧ m ≤ 3)
 have HNB := Aside0.mk (mkN_le b)
 clear hm
 go_loopg [7] (m + 1) (fun kq v7 w' => ∃ (n : Nat) (i : Int) (v1 : Value), v7 = .int .i64 i ∧ Aside0 (i = (n : Int)) ∧ Aside0 (n ≤ m ∧ kq + n = m + 1) ∧ Aside0 (MkB w w' g2 g4 g5 a b c A3 c3 l3 A4 c4 l4 (a % s) (b % 16) (c % 101) v1 (.slice none 0 0) (mkR s b l3 n) []))
 case atStart => exact ⟨0, 0, _, rfl, ⟨rfl⟩, ⟨by omega, rfl⟩, HA⟩
 case round =>
  clear HA
  obtain ⟨n, i, v1, rfl, HI, HJ, HA⟩ := hrel
  have z21 : World.cell? _ ⟨g2, 1, none⟩ = some (.int .i64 b) := (blk_cell HA.out.k2 1).trans rfl
  have z23 : World.cell? _ ⟨g2, 3, none⟩ = some (.slice _ l3.length c3) := (blk_cell HA.out.k2 3).trans rfl
  cases gk with
  | zero => exact absurd HJ.out (by omega)
  | succ k1 =>
   by_cases hn : n < m
   ·have hcase := mk_body b l3.length q3 q2 i n m HQ3.out HQ2.out HM.out HI.out hn
    have p0 : 0 ≤ i := by have := HI.out; omega
    by_cases hl : i < (l3.length : Int)
    case' pos =>
     have cb := decide_eq_true hl
     have q0 := hl
     obtain ⟨k, hk⟩ : ∃ k, k = rd l3 i := ⟨_, rfl⟩
     obtain ⟨ad, e, hx⟩ := at_all H3.out i k hk p0 hl
     subst e
     have HX := Aside0.mk hx
     have HK := Aside0.mk (hk.trans (mkK_in HI.out hl))
     clear hk hx
    case' neg =>
     have cb := decide_eq_false hl
     have HK := Aside0.mk (mkK_out HI.out hl)
     obtain ⟨k, hk⟩ : ∃ k, k = i := ⟨_, rfl⟩
     subst hk
    all_goals
     obtain ⟨qa, hqa⟩ : ∃ q, q = wrap64 (k.tdiv 20) % 2 := ⟨_, rfl⟩
     obtain ⟨qb, hqb⟩ : ∃ q, q = wrap64 (k.tdiv 40) % 11 := ⟨_, rfl⟩
     obtain ⟨r, hr⟩ : ∃ r, r = k % s := ⟨_, rfl⟩
     have qb0 : 0 ≤ qb := by rw [hqb]; exact Int.emod_nonneg _ (by decide)
     have qb1 : qb < 11 := by rw [hqb]; exact Int.emod_lt_of_pos _ (by decide)
     have HQA := Aside0.mk hqa
     have HQB := Aside0.mk hqb
     have HR := Aside0.mk hr
     clear hqa hqb hr hl
     cases cd : (qa == 0)
     case' true => have HV := Aside0.mk (mkR_step s b l3 n (wrap64 (-1 - rd mkSym qb)) (by rw [← HK.out, mkS, if_pos (by rw [← HQA.out]; exact beq_iff_eq.mp cd), ← HQB.out]))
     case' false => have HV := Aside0.mk (mkR_step s b l3 n r (by rw [← HK.out, mkS, if_neg (by rw [← HQA.out]; exact beq_eq_false_iff_ne.mp cd), ← HR.out]))
     all_goals
      rcases hcase with d1 | ⟨d1, d2, d3⟩
      all_goals
       go_wp2_with (first
        | (go_at_call 67; (with_reducible refine (wi_is (l3.length : Int) 3 q3 HQ3.out (by decide) _).mono ?_); rintro e w' ⟨rfl, hb⟩; replace HA := Aside0.mk (HA.out.on hb); clear hb z21 z23; have z21 : World.cell? _ ⟨g2, 1, none⟩ = some (.int .i64 b) := (blk_cell HA.out.k2 1).trans rfl; have z23 : World.cell? _ ⟨g2, 3, none⟩ = some (.slice _ l3.length c3) := (blk_cell HA.out.k2 3).trans rfl; try have hx := HX.out _ HA.out.hb)
        | (go_at_call 67; (with_reducible refine (wi_is (wrap64 (Int.tdiv b 16)) 2 q2 HQ2.out (by decide) _).mono ?_); rintro e w' ⟨rfl, hb⟩; replace HA := Aside0.mk (HA.out.on hb); clear hb z21 z23; have z21 : World.cell? _ ⟨g2, 1, none⟩ = some (.int .i64 b) := (blk_cell HA.out.k2 1).trans rfl; have z23 : World.cell? _ ⟨g2, 3, none⟩ = some (.slice _ l3.length c3) := (blk_cell HA.out.k2 3).trans rfl; try have hx := HX.out _ HA.out.hb)
        | (go_at_call 67; (with_reducible refine (wi_is (k) s r HR.out HS.out _).mono ?_); rintro e w' ⟨rfl, hb⟩; replace HA := Aside0.mk (HA.out.on hb); clear hb)
        | (go_at_call 67; (with_reducible refine (wi_is (wrap64 (Int.tdiv k 20)) 2 qa HQA.out (by decide) _).mono ?_); rintro e w' ⟨rfl, hb⟩; replace HA := Aside0.mk (HA.out.on hb); clear hb; have z51 : World.cell? _ ⟨g5, 1, none⟩ = some (v1) := (blk_cell HA.out.k5 1).trans rfl)
        | ((with_reducible refine gate_dst (N := 70) rfl ?_); refine Kd.R_lit (Kd.int .i64) _ 3 ?hg (N := 70) ?hd (xs := ([0, 0, 0, 1, 2, 3, 50, 51, 52, 53, 54] : List Int)) (inner := [.int .i64 0, .int .i64 0, .int .i64 0, .int .i64 1, .int .i64 2, .int .i64 3, .int .i64 50, .int .i64 51, .int .i64 52, .int .i64 53, .int .i64 54]) (ok := fun _ => True) (okp := fun _ => True) ?hr ?hp (fun _ hk => hk) trivial (Below.refl _ _) (Nat.le_refl _) (by simp) ?_; (case hd => rfl); (case hg => rfl); (case hr => first | (go_simp; done) | (go_simp; rfl)); (case hp => exact Kd.reps_scalar (enc := Value.int .i64) _); intro v w' ho hb hg_ hn_; clear hg_ hn_; replace HA := Aside0.mk (HA.out.on hb); obtain ⟨A70, c70, e⟩ := Kd.R_slice ho; subst e; have HO := Aside0.mk ho; clear ho hb)
        | (go_at_call 67; (with_reducible refine (wi_is (wrap64 (Int.tdiv k 40)) 11 qb HQB.out (by decide) _).mono ?_); rintro e w' ⟨rfl, hb⟩; replace HA := Aside0.mk (HA.out.on hb); have ho := Kd.R_below HO.out hb; obtain ⟨ad7, e, hx⟩ := Kd.at_int (Kd.R_reads' ho).2.2 qb qb0 qb1; subst e; have hx7 := (show World.cell? _ _ = some (.int .i64 (rd mkSym qb)) from hx); clear ho hb hx z51; have z51 : World.cell? _ ⟨g5, 1, none⟩ = some (v1) := (blk_cell HA.out.k5 1).trans rfl)
        | ((with_reducible refine gate_builtin (b := .append) (xs := #[.tmp 78, .tmp 80]) rfl ?_); at_builtin; refine Kd.R_append (Kd.int .i64) (w0 := w) w.heap.size rfl (.tmp 78) (.tmp 80) 36 3 (.int .i64 0) 8 rfl Tryd.underlying36 info3 rfl (by decide) (by omega) v1 (mkR s b l3 n) (wrap64 (-1 - rd mkSym qb)) [.int .i64 (wrap64 (-1 - rd mkSym qb))] (fun k => some k ≠ (Value.slice none 0 0).ownBlock) (fun _ => False) rfl rfl ?aP (fun _ hk => hk.elim) ?aF ?aO ?aB ?aS ?aL ?_; (case aP => exact rfl); (case aF => exact (fun k _ h => by simp [Value.ownBlock] at h)); (case aO => exact HA.out.r1); (case aB => exact HA.out.hb); (case aS => exact below_size HA.out.hb); (case aL => have := HJ.out; have := HMB.out; simp only [mkR, List.length_map, List.length_range]; omega); intro v' w' ho hb hg hat; rw [HV.out] at ho; obtain ⟨Ao, co, e⟩ := Kd.R_slice ho; subst e; have hP := HA.out.put1 ho hb hg hat; clear ho hb hg hat z51; have HP := Aside0.mk hP; clear hP HA; have HA := Aside0.mk HP.out.1; have z51 : w'.cell? ⟨g5, 1, none⟩ = some v1 := (blk_cell HP.out.2 1).trans rfl; have f51 := blk_frozen HP.out.2 1)
        | ((with_reducible refine gate_builtin (b := .append) (xs := #[.tmp 78, .tmp 80]) rfl ?_); at_builtin; refine Kd.R_append (Kd.int .i64) (w0 := w) w.heap.size rfl (.tmp 78) (.tmp 80) 36 3 (.int .i64 0) 8 rfl Tryd.underlying36 info3 rfl (by decide) (by omega) v1 (mkR s b l3 n) (r) [.int .i64 (r)] (fun k => some k ≠ (Value.slice none 0 0).ownBlock) (fun _ => False) rfl rfl ?aP (fun _ hk => hk.elim) ?aF ?aO ?aB ?aS ?aL ?_; (case aP => exact rfl); (case aF => exact (fun k _ h => by simp [Value.ownBlock] at h)); (case aO => exact HA.out.r1); (case aB => exact HA.out.hb); (case aS => exact below_size HA.out.hb); (case aL => have := HJ.out; have := HMB.out; simp only [mkR, List.length_map, List.length_range]; omega); intro v' w' ho hb hg hat; rw [HV.out] at ho; obtain ⟨Ao, co, e⟩ := Kd.R_slice ho; subst e; have hP := HA.out.put1 ho hb hg hat; clear ho hb hg hat z51; have HP := Aside0.mk hP; clear hP HA; have HA := Aside0.mk HP.out.1; have z51 : w'.cell? ⟨g5, 1, none⟩ = some v1 := (blk_cell HP.out.2 1).trans rfl; have f51 := blk_frozen HP.out.2 1))
       go_roundg k1
       case measure => have := HJ.out; omega
       case rel => exact ⟨n + 1, _, _, rfl, ⟨by have := HI.out; have := HMB.out; have := HJ.out; unfold wrap64; omega⟩, ⟨by have := HJ.out; omega⟩, HA⟩
   ·have hcase := mk_exit b l3.length q3 q2 i n m HQ3.out HQ2.out HM.out HI.out hn
    obtain ⟨xs, hxs⟩ : ∃ xs, xs = mkR s b l3 n := ⟨_, rfl⟩
    rw [← hxs] at HA
    rw [show n = m by have := HJ.out; omega] at hxs
    have HXL := Aside0.mk (show xs.length = m by rw [hxs, mkR, List.length_map, List.length_range])
    have HXS := Aside0.mk hxs
    clear HI HJ hn hxs
    obtain ⟨A1, c1, e⟩ := Kd.R_slice HA.out.r1
    subst e
    rcases hcase with ⟨d1, d2⟩ | ⟨d1, d2, d3⟩
    all_goals
     go_wp2_with (first
      | (go_at_call 67; (with_reducible refine (wi_is (l3.length : Int) 3 q3 HQ3.out (by decide) _).mono ?_); rintro e w' ⟨rfl, hb⟩; replace HA := Aside0.mk (HA.out.on hb); clear hb z21 z23; have z21 : World.cell? _ ⟨g2, 1, none⟩ = some (.int .i64 b) := (blk_cell HA.out.k2 1).trans rfl; have z23 : World.cell? _ ⟨g2, 3, none⟩ = some (.slice _ l3.length c3) := (blk_cell HA.out.k2 3).trans rfl; try have hx := HX.out _ HA.out.hb)
      | (go_at_call 67; (with_reducible refine (wi_is (wrap64 (Int.tdiv b 16)) 2 q2 HQ2.out (by decide) _).mono ?_); rintro e w' ⟨rfl, hb⟩; replace HA := Aside0.mk (HA.out.on hb); clear hb z21 z23; have z21 : World.cell? _ ⟨g2, 1, none⟩ = some (.int .i64 b) := (blk_cell HA.out.k2 1).trans rfl; have z23 : World.cell? _ ⟨g2, 3, none⟩ = some (.slice _ l3.length c3) := (blk_cell HA.out.k2 3).trans rfl; try have hx := HX.out _ HA.out.hb))
     clear d1 d2 z21 z23
     go_loopg [10] ((mkN b).toNat + 1) (fun kq v10 w' => ∃ (n : Nat) (j : Int) (v3 : Value), v10 = .int .i64 j ∧ Aside0 (j = (n : Int)) ∧ Aside0 (n ≤ (mkN b).toNat ∧ kq + n = (mkN b).toNat + 1) ∧ Aside0 (MkB w w' g2 g4 g5 a b c A3 c3 l3 A4 c4 l4 (a % s) (b % 16) (c % 101) (.slice A1 xs.length c1) v3 xs (mkP xs.length l4 n)))
     case atStart => exact ⟨0, 0, _, rfl, ⟨rfl⟩, ⟨by omega, rfl⟩, HA⟩
     case round =>
      clear HA
      obtain ⟨n2, j, v3, rfl, HI, HJ, HA⟩ := hrel
      have z24 : World.cell? _ ⟨g2, 4, none⟩ = some (.slice _ l4.length c4) := (blk_cell HA.out.k2 4).trans rfl
      cases gk with
      | zero => exact absurd HJ.out (by omega)
      | succ k2 =>
       by_cases hn : n2 < (mkN b).toNat
       ·have d1 : decide (j < mkN b) = true := decide_eq_true (by have := HI.out; have := HNB.out; omega)
        have p0 : 0 ≤ j := by have := HI.out; omega
        by_cases hl : j < (l4.length : Int)
        case' pos =>
         have cb := decide_eq_true hl
         have q0 := hl
         obtain ⟨k, hk⟩ : ∃ k, k = rd l4 j := ⟨_, rfl⟩
         obtain ⟨ad, e, hx⟩ := at_all H4.out j k hk p0 hl
         subst e
         have HX := hx _ HA.out.hb
         have HK := Aside0.mk (hk.trans (mkK_in HI.out hl))
         clear hk hx
        case' neg =>
         have cb := decide_eq_false hl
         have HK := Aside0.mk (mkK_out HI.out hl)
         obtain ⟨k, hk⟩ : ∃ k, k = j := ⟨_, rfl⟩
         subst hk
        all_goals
         go_wp2
         obtain ⟨r, hr⟩ : ∃ r, r = k % (xs.length : Int) := ⟨_, rfl⟩
         have HR := Aside0.mk hr
         have HV := Aside0.mk (mkP_step xs.length l4 n2 r (by rw [← HK.out, hr]))
         clear hr
         replace HA := Aside0.mk (HA.out.on (below_drew1 (Below.refl _ _)))
         refine start_ (n := 13) (S := fun w' => w'.cell? ⟨g5, 3, none⟩ = some v3 ∧ w'.cell? ⟨g5, 1, none⟩ = some (.slice A1 xs.length c1)) (ds := [12]) #[false, false, false, false, false, false, false, false, false, false, false, false, false] (by kernel_rfl) rfl rfl ⟨(blk_cell HA.out.k5 3).trans rfl, (blk_cell HA.out.k5 1).trans rfl⟩ (fun hHeld => ?_)
         refine with_tabW mk_tab20 mk_bits20 (fun HT_ HW_ => ?_)
         generalize World.drew _ = wd at HA hHeld ⊢
         refine pU HT_ 0 (some 99) (oB 13 1) ?_
         refine pU HT_ 1 (some 100) (oB 13 3) ?_
         refine pU HT_ 3 (some 102) (oB 13 11) ?_
         refine pU HT_ 4 (some 103) (oB 13 27) ?_
         refine take_ (i := 2) (N := some 101) (v := ?_) (a' := ?_) (oB 13 31) rfl rfl (take_ofW HT_.out HW_.out (by kernel_rfl)) (fun _ _ _ h => h) (Or.inl ⟨by rfl, ?_⟩) hHeld ?_ ?_
         rotate_left
         ·rintro w' ⟨s0, s1⟩
          go_simp
          with_reducible rfl
         rotate_left
         ·simp only [Act.put, List.setIfInBounds_toArray, List.set_cons_zero, List.set_cons_succ, i64_w, i32_w]
          rfl
         refine take_ (i := 5) (N := some 104) (v := ?_) (a' := ?_) (oB 13 63) rfl rfl (take_ofW HT_.out HW_.out (by kernel_rfl)) (fun _ _ _ h => h) (Or.inl ⟨by rfl, ?_⟩) hHeld ?_ ?_
         rotate_left
         ·rintro w' ⟨s0, s1⟩
          go_simp
          with_reducible rfl
         rotate_left
         ·simp only [Act.put, List.setIfInBounds_toArray, List.set_cons_zero, List.set_cons_succ, i64_w, i32_w]
          rfl
         refine pU HT_ 6 (some 105) (oB 13 127) ?_
         refine one_ (i := 7) (N := some 106) (oB 13 255) rfl rfl (one_of HT_.out (by kernel_rfl)) (by decide) (fun K hK => ?_)
         refine goes_ Tryd.func67 (by kernel_rfl) rfl #[.int .i64 k, .int .i64 (xs.length : Int)] (by rfl) rfl rfl (by (try simp only [List.map_toArray, List.map_cons, List.map_nil]); first | done | rfl) ?_
         refine (wi_is k (xs.length : Int) r HR.out (by have := HXL.out; have := HMB.out; omega) _).mono ?_
         rintro e w' ⟨rfl, hb⟩
         refine ⟨_, rfl, ?_⟩
         replace HA := Aside0.mk (HA.out.on hb)
         clear hb
         refine hK.out _ _ ⟨(blk_cell HA.out.k5 3).trans rfl, (blk_cell HA.out.k5 1).trans rfl⟩ (fun hHeld => ?_)
         clear hK K
         refine nM ?_
         refine one_ (i := 8) (N := some 107) (oB 13 511) rfl rfl (one_of HT_.out (by kernel_rfl)) (by decide) (fun K hK => ?_)
         refine value_ (w1 := ?_) (v := ?_) (by rfl) rfl ?_ ?_
         rotate_left 2
         ·go_simp
          constructor
          ·rfl
          ·rfl
         refine hK.out _ _ ⟨(blk_cell (blk_alloc HA.out.k5 _) 3).trans rfl, (blk_cell (blk_alloc HA.out.k5 _) 1).trans rfl⟩ (fun hHeld => ?_)
         clear hK K
         refine nM ?_
         refine one_ (i := 9) (N := some 108) (oB 13 1023) rfl rfl (one_of HT_.out (by kernel_rfl)) (by decide) (fun K hK => ?_)
         refine Kd.R_append_step (Kd.int .i64) (w0 := w) w.heap.size (by rfl) (.tmp 101) (.tmp 107) 36 3 (.int .i64 0) 8 rfl Tryd.underlying36 info3 rfl (by decide) (by omega) v3 (mkP xs.length l4 n2) r [.int .i64 r] (fun k_ => some k_ ≠ (Value.slice A1 xs.length c1).ownBlock) (fun _ => False) rfl rfl ?aP (fun _ hk => hk.elim) ?aF ?aO ?aB ?aS ?aL ?_
         (case aP => exact rfl)
         (case aF => exact (fun k_ hk => Kd.fresh' (Kd.R_lt HA.out.r1) k_ hk))
         (case aO => exact HA.out.r3)
         (case aB => exact HA.out.hb)
         (case aS => exact below_size HA.out.hb)
         (case aL => have := HJ.out; have := HNB.out; simp only [mkP, List.length_map, List.length_range]; omega)
         intro v' w' ho hb hg hat
         rw [HV.out] at ho
         obtain ⟨Ao, co, e⟩ := Kd.R_slice ho
         subst e
         have HP := Aside0.mk (HA.out.put3 ho hb hg hat)
         clear ho hb hg hat
         refine hK.out _ _ ⟨(blk_cell HP.out.2 3).trans rfl, (blk_cell HP.out.2 1).trans rfl⟩ (fun hHeld => ?_)
         clear hK K
         refine nM ?_
         refine pU HT_ 10 (some 109) (oB 13 2047) ?_
         refine pU HT_ 11 (some 110) (oB 13 4095) ?_
         refine last_ (i := 12) (N := none) (oB 13 8191) rfl rfl (one_of HT_.out (by kernel_rfl)) (by decide) (fun K hK => ?_)
         have z53 : w'.cell? ⟨g5, 3, none⟩ = some v3 := (blk_cell HP.out.2 3).trans rfl
         have f53 := blk_frozen HP.out.2 3
         refine skip_ (w1 := ?_) (by rfl) rfl ?_ ?_
         rotate_left
         ·go_simp
          rfl
         refine hK.out _ _ ?_
         clear hK K HA
         have HA := Aside0.mk HP.out.1
         refine done_ (done_of HT_.out (by kernel_rfl)) ?_
         go_wp2
         go_roundg k2
         case measure => have := HJ.out; omega
         case rel => exact ⟨n2 + 1, _, _, rfl, ⟨by have := HI.out; have := HNB.out; have := HJ.out; unfold wrap64; omega⟩, ⟨by have := HJ.out; omega⟩, HA⟩
       ·have d1 : decide (j < mkN b) = false := decide_eq_false (by have := HI.out; have := HNB.out; omega)
        obtain ⟨ps, hps⟩ : ∃ ps, ps = mkP xs.length l4 n2 := ⟨_, rfl⟩
        rw [← hps] at HA
        rw [show n2 = (mkN b).toNat by have := HJ.out; omega] at hps
        have HPS := Aside0.mk hps
        clear hps z24
        obtain ⟨A5, c5, e⟩ := Kd.R_slice HA.out.r3
        subst e
        have z40 : World.cell? _ ⟨g4, 0, none⟩ = some (.int .i64 0) := (blk_cell HA.out.k4 0).trans rfl
        have f40 := blk_frozen HA.out.k4 0
        have z41 : World.cell? _ ⟨g4, 1, none⟩ = some (.slice none 0 0) := (blk_cell HA.out.k4 1).trans rfl
        have f41 := blk_frozen HA.out.k4 1
        have z42 : World.cell? _ ⟨g4, 2, none⟩ = some (.int .i64 0) := (blk_cell HA.out.k4 2).trans rfl
        have f42 := blk_frozen HA.out.k4 2
        have z43 : World.cell? _ ⟨g4, 3, none⟩ = some (.slice none 0 0) := (blk_cell HA.out.k4 3).trans rfl
        have f43 := blk_frozen HA.out.k4 3
        have z44 : World.cell? _ ⟨g4, 4, none⟩ = some (.int .i64 0) := (blk_cell HA.out.k4 4).trans rfl
        have f44 := blk_frozen HA.out.k4 4
        have z50 : World.cell? _ ⟨g5, 0, none⟩ = some (.int .i64 (a % s)) := (blk_cell HA.out.k5 0).trans rfl
        have z51 : World.cell? _ ⟨g5, 1, none⟩ = some (.slice A1 xs.length c1) := (blk_cell HA.out.k5 1).trans rfl
        have z52 : World.cell? _ ⟨g5, 2, none⟩ = some (.int .i64 (b % 16)) := (blk_cell HA.out.k5 2).trans rfl
        have z53 : World.cell? _ ⟨g5, 3, none⟩ = some (.slice A5 ps.length c5) := (blk_cell HA.out.k5 3).trans rfl
        have z54 : World.cell? _ ⟨g5, 4, none⟩ = some (.int .i64 (c % 101)) := (blk_cell HA.out.k5 4).trans rfl
        have hn54 := Ne.symm hn45
        go_wp2
        have hE := HA.out.fin
        have hXS := HXS.out
        rw [HM.out] at hXS
        have hPS := HPS.out
        rw [HXL.out, HM.out] at hPS
        subst hXS hPS
        refine bodyPost_ret (results_cell_row rfl _ _ g4 96 #[.int .i64 (a % s), .slice A1 _ c1, .int .i64 (b % 16), .slice A5 _ c5, .int .i64 (c % 101)] (0, 0) _ rfl hE.1 Tryd.underlying96 rfl (by kernel_rfl)) rfl ?_
        exact ⟨_, _, by first | rfl | simp, hE.2⟩
end Go.Proofs.YtjijikgandkphaaDoor.G
