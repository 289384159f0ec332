import Derived.Test.YtjijikgandkphaaDoorGx0
import Derived.Test.YtjijikgandkphaaDoorGx10
import Derived.Test.YtjijikgandkphaaDoorGx11
import Derived.Test.YtjijikgandkphaaDoorGx17
namespace Go.Proofs.YtjijikgandkphaaDoor.G
open Go.RowKit Go.Proofs.YtjijikgandkphaaDoorW.PrintWords Go.Proofs.YtjijikgandkphaaDoorW.PrintLast Go.Proofs.YtjijikgandkphaaDoorW.PrintMore Go.Proofs.YtjijikgandkphaaDoorW.VWords Go.Proofs.YtjijikgandkphaaDoorW.Tab
attribute [local go_sem] max2_int min2_int max_two min_two max_three min_three max_four min_four
set_option linter.unusedVariables false
set_option linter.unusedSimpArgs false
def shW (i : Int) : ByteArray := ([(⟨#[111, 110, 101]⟩ : ByteArray), (⟨#[120, 32, 121]⟩ : ByteArray), (⟨#[195, 164]⟩ : ByteArray), (⟨#[55, 117, 112]⟩ : ByteArray), (⟨#[45]⟩ : ByteArray)] : List ByteArray).getD i.toNat ByteArray.empty
def shapeX (dg q5 q3 qh : Int) (rs : List S96) : S35 := ⟨(⟨#[120]⟩ : ByteArray), -1, dg, [⟨shW q5, wrap64 (1 + q3), wrap64 (qh - 5)⟩, ⟨(⟨#[116, 119, 111]⟩ : ByteArray), 2, 2⟩], rs, []⟩
def interlocutorlaw5_Shape_Make.f (a0 a1 a2 a3 : Int) (l : List S98) (b : Bool) : Option (List S35) :=
 (interlocutorlaw5_Sample.f a0 a1).bind fun smp => if b = true then (rulesL 6 (l.take 20) []).bind fun rs => if smp.length < 1000000 then some (smp ++ [shapeX (a1 % 4) (a2 % 5) (a3 % 3) (a3 % 100) rs]) else none else some smp
theorem wi5_any (a n : Int) (h : 0 < n ∧ n ≤ 1000000000000) (w : World) : Calls Tryd.prog 33 #[.int .i64 a, .int .i64 n] w fun e w' => e = .returned (.int .i64 (a % n)) ∧ Below w.heap.size w w' := by
 refine (interlocutorlaw5_within.calls a n (a % n) w ?_).mono (fun e w' h => ⟨h.1, h.2.below⟩)
 unfold interlocutorlaw5_within.f
 rw [if_neg (by omega)]
 have h1 := Int.emod_nonneg a (show n ≠ 0 by omega)
 have h2 := Int.emod_lt_of_pos a h.1
 rw [Int.tmod_eq_emod]
 have hn3 : (n.natAbs : Int) = n := by omega
 split
 ·rw [if_neg (by omega)]
  simp
 ·rw [hn3, if_pos (by omega), show wrap64 (a % n - n + n) = a % n by unfold wrap64; omega]
theorem wi5_ {ops : Array Oper} {oi : Oper} {N : Option Tmp} {a : Act} {w : World} {Q : Exit → Act → World → Prop} {K : Act → World → Prop} {os : Array Operand} {ts : Array TypeId} (x n r : Int) (e : r = x % n) (hn : 0 < n ∧ n ≤ 1000000000000)
  (hw : Region.wanted oi (yielded ops a.tmps) = true) (hN : oi.dst = N) (hop : oi.op = .call { callee := .value (.func 33), args := os, argTypes := ts }) (hargs : os.map a.eval = #[.int .i64 x, .int .i64 n])
  (h : ∀ w', Below w.heap.size w w' → K (a.put N (.int .i64 r)) w') : if Region.wanted oi (yielded ops a.tmps) = true then Oper.wp Tryd.prog oi a w K Q else K (a.put N undef) w := by
 subst e
 refine goes_ Tryd.func33 (by kernel_rfl) rfl _ hw hN hop hargs ((wi5_any x n hn w).mono ?_)
 rintro e w' ⟨rfl, hb⟩
 exact ⟨_, rfl, h w' hb⟩
def ShL (W : World) (ad : Addr) : Prop := ∀ i : Int, 0 ≤ i → i < 5 → W.cell? (ad.add i.toNat) = some (.string (shW i))
theorem ShL.on {W W1 : World} {ad : Addr} (h : ShL W ad) (hb : Below W.heap.size W W1) : ShL W1 ad := fun i h0 h1 => (hb.cell (World.block_lt_of_cell? _ _ (h i h0 h1))).trans (h i h0 h1)
theorem ShL.new {W : World} {g : Nat} (k : W.heap[g]? = some (.cells #[.string (⟨#[111, 110, 101]⟩ : ByteArray), .string (⟨#[120, 32, 121]⟩ : ByteArray), .string (⟨#[195, 164]⟩ : ByteArray), .string (⟨#[55, 117, 112]⟩ : ByteArray), .string (⟨#[45]⟩ : ByteArray)] 9 (0, 0))) : ShL W ⟨g, 0, none⟩ := fun i h0 h1 => by
 obtain ⟨n, rfl⟩ := Int.eq_ofNat_of_zero_le h0
 have hn : n < 5 := by omega
 rw [Int.toNat_natCast, show (⟨g, 0, none⟩ : Addr).add n = ⟨g, n, none⟩ by cases n <;> simp [Addr.add], blk_cell k n]
 rcases n with _ | _ | _ | _ | _ | n
 all_goals first | rfl | omega
theorem slice_step {P : Program} {ops : Array Oper} {oi : Oper} {N : Option Tmp} {a : Act} {w : World} {Q : Exit → Act → World → Prop} {K : Act → World → Prop} {cs : Array Value} {t m : Nat} (hw : Region.wanted oi (yielded ops a.tmps) = true) (hN : oi.dst = N)
  (hrun : (execOp a.eval oi).run P w = .ok (.value (.slice (some ⟨w.heap.size, 0, none⟩) m m)) (w.alloc (.cells cs t))) (h : ∀ g w1, w1.heap[g]? = some (.cells cs t (0, 0)) → Below w.heap.size w w1 → K (a.put N (.slice (some ⟨g, 0, none⟩) m m)) w1) :
  if Region.wanted oi (yielded ops a.tmps) = true then Oper.wp P oi a w K Q else K (a.put N undef) w := value_ hw hN hrun (h _ _ (blk_new _ _) (below_alloc (Below.refl _ _) _))
def ShR (wd W : World) (A : Option Addr) (c : Nat) (rs : List S96) : Prop := rs.length ≤ c ∧ Kd.F k96 W (fun b => wd.heap.size ≤ b) A rs.length rs
theorem ShR.on {wd W W1 : World} {A : Option Addr} {c : Nat} {rs : List S96} (h : ShR wd W A c rs) (hb : Below W.heap.size W W1) : ShR wd W1 A c rs := ⟨h.1, Kd.F_below h.2 hb⟩
def sh_T3 : Bool × List (List Nat × List Nat) := (true, [([], []), ([], []), ([1], [1]), ([2], [2]), ([], []), ([4], [4]), ([5, 3], [5]), ([], []), ([], []), ([8], [8]), ([9, 6], [9]), ([7, 10], [7, 10]), ([11], [11]), ([], []), ([13], [13]), ([14, 10], [14]), ([15], [15]), ([], []), ([17], [17]), ([18, 15], [18]), ([19], [19]), ([12, 16, 20], [12, 16, 20]), ([], []), ([21, 22], [21, 22]), ([3, 6, 23], [3, 6, 23]), ([24], [24]), ([0, 25, 19], [0, 25]), ([26, 26, 0, 1, 2, 3, 4, 5, 6, 7, 8, 9, 10, 11, 12, 13, 14, 15, 16, 17, 18, 19, 20, 21, 22, 23, 24, 25, 26], [0, 26])])
theorem sh_tab3 : rtab .any (opsOf Tryd.f16 3) = sh_T3 := by kernel_rfl
theorem sh_bits3 : waitsOk sh_T3.2 [0, 0, 2, 6, 0, 16, 62, 0, 0, 256, 894, 2046, 4094, 0, 8192, 26494, 59262, 0, 131072, 452478, 976766, 2097150, 0, 8388606, 16777214, 33554430, 67108863, 134217727] = true := by kernel_rfl
theorem shape_elem {wd W W1 : World} {w : World} {v : Value} {smp : List S35} {dg : Int} {ents : List S24} {rs : List S96} {A3 A6 : Option Addr} {c3 c6 : Nat} (HN : Kd.N k35 35 wd w.heap.size (fun b => w.heap.size ≤ b) v smp) (hw : w.heap.size ≤ wd.heap.size) (hr : ShR wd W1 A6 c6 rs) (he : Kd.R k24 24 W1 W.heap.size (fun _ => True) (.slice A3 ents.length c3) ents) (hW : wd.heap.size ≤ W.heap.size) :
  Kd.FK k35 W1 (fun b => w.heap.size ≤ b ∧ some b ≠ v.ownBlock) (⟨(⟨#[120]⟩ : ByteArray), -1, dg, ents, rs, []⟩ : S35) [.string (⟨#[120]⟩ : ByteArray), .int .i64 (-1), .int .i64 dg, .slice A3 ents.length c3, .slice A6 rs.length c6, .slice none 0 0] := by
 have g : ∀ b, wd.heap.size ≤ b → w.heap.size ≤ b ∧ some b ≠ v.ownBlock := fun b h => ⟨Nat.le_trans hw h, fun he => by have := Kd.N_lt HN b he.symm; omega⟩
 exact k35_mkF W1 _ (⟨(⟨#[120]⟩ : ByteArray), -1, dg, ents, rs, []⟩ : S35) (Kd.R_reads' he).2.1 (Kd.F_mono (Kd.R_F (Kd.R_mono (Kd.R_bound he) (fun k hk => hk.2.1))) (fun b hb => g b (Nat.le_trans hW hb))) hr.1 (Kd.F_mono hr.2 g) (Nat.le_refl _) (Kd.F_nil _ _ _)
set_option maxHeartbeats 8000000 in
set_option maxRecDepth 100000 in
theorem interlocutorlaw5_Shape_Make.calls (a0 a1 a2 a3 : Int) (A4 : Option Addr) (c4 : Nat) (l : List S98) (b : Bool) (r : List S35) (w : World) (hr4 : Kd.C k98 w A4 l.length l) (hc4 : l.length ≤ c4) (h : interlocutorlaw5_Shape_Make.f a0 a1 a2 a3 l b = some r) :
  Calls Tryd.prog 16 #[.agg #[.int .i64 a0, .int .i64 a1, .int .i64 a2, .int .i64 a3, .slice A4 l.length c4, .bool b]] w fun e w' => ∃ v, e = .returned v ∧ Kd.N k35 35 w' w.heap.size (fun b => w.heap.size ≤ b) v r ∧ Below w.heap.size w w' := by
 have hu24 := Tryd.underlying51
 have hu32 := Tryd.underlying35
 have hu53 := Tryd.underlying24
 obtain ⟨smp, hs, h⟩ := Option.bind_eq_some_iff.mp h
 have HC := Aside0.mk hr4
 have HS := Aside0.mk hs
 have HH := Aside0.mk h
 have HB := Aside0.mk (Below.refl w.heap.size w)
 clear hr4 hc4 hs h
 cases b with
 | false =>
  go_enter Tryd.func16, Tryd.ntmps16
  go_wp2_with (first
   | ((with_reducible refine gate_dst (N := 1) rfl ?_); refine box_event ?hg (N := 1) ?hd (cs := #[.int .i64 a0, .int .i64 a1, .int .i64 a2, .int .i64 a3, .slice A4 l.length c4, .bool false]) (t := 51) ?hr ?_; (case hd => rfl); (case hg => rfl); (case hr => first | (go_simp; done) | (go_simp; rfl)); intro g1 hg1 w1 hbox hb; have K1 := Aside0.mk hbox; replace HB := Aside0.mk hb; clear hbox hb hg1; have z0 : World.cell? _ ⟨g1, 0, none⟩ = some (.int .i64 a0) := (blk_cell K1.out 0).trans rfl; have z1 : World.cell? _ ⟨g1, 1, none⟩ = some (.int .i64 a1) := (blk_cell K1.out 1).trans rfl)
   | (go_at_call 32; (with_reducible refine (interlocutorlaw5_Sample.calls a0 a1 smp _ HS.out).mono ?_); rintro e ws ⟨v, rfl, ho, hb⟩; have HN := Aside0.mk (Kd.N_mono (ok' := fun b => w.heap.size ≤ b) (Kd.N_lower ho (below_size HB.out)) (fun b hk => Nat.le_trans (below_size HB.out) hk)); replace K1 := Aside0.mk (blk_below K1.out hb); replace HB := Aside0.mk (below_step HB.out hb); clear ho hb z0 z1; obtain ⟨A3, c3, e⟩ := Kd.N_slice HN.out; subst e; have z5 : World.cell? _ ⟨g1, 5, none⟩ = some (.bool false) := (blk_cell K1.out 5).trans rfl))
  have e := HH.out
  rw [if_neg (by first | decide | simp)] at e
  obtain rfl := Option.some.inj e
  go_ret
  exact ⟨_, rfl, HN.out, HB.out⟩
 | true =>
  go_enter Tryd.func16, Tryd.ntmps16
  go_wp2_with (first
   | ((with_reducible refine gate_dst (N := 1) rfl ?_); refine box_event ?hg (N := 1) ?hd (cs := #[.int .i64 a0, .int .i64 a1, .int .i64 a2, .int .i64 a3, .slice A4 l.length c4, .bool true]) (t := 51) ?hr ?_; (case hd => rfl); (case hg => rfl); (case hr => first | (go_simp; done) | (go_simp; rfl)); intro g1 hg1 w1 hbox hb; have K1 := Aside0.mk hbox; replace HB := Aside0.mk hb; clear hbox hb hg1; have z0 : World.cell? _ ⟨g1, 0, none⟩ = some (.int .i64 a0) := (blk_cell K1.out 0).trans rfl; have z1 : World.cell? _ ⟨g1, 1, none⟩ = some (.int .i64 a1) := (blk_cell K1.out 1).trans rfl)
   | (go_at_call 32; (with_reducible refine (interlocutorlaw5_Sample.calls a0 a1 smp _ HS.out).mono ?_); rintro e ws ⟨v, rfl, ho, hb⟩; have HN := Aside0.mk (Kd.N_mono (ok' := fun b => w.heap.size ≤ b) (Kd.N_lower ho (below_size HB.out)) (fun b hk => Nat.le_trans (below_size HB.out) hk)); replace K1 := Aside0.mk (blk_below K1.out hb); replace HB := Aside0.mk (below_step HB.out hb); clear ho hb z0 z1; obtain ⟨A3, c3, e⟩ := Kd.N_slice HN.out; subst e; have z5 : World.cell? _ ⟨g1, 5, none⟩ = some (.bool true) := (blk_cell K1.out 5).trans rfl))
  have e := HH.out
  rw [if_pos (by first | rfl | trivial)] at e
  obtain ⟨rs, hrs, e⟩ := Option.bind_eq_some_iff.mp e
  have HRS := Aside0.mk hrs
  by_cases hlen : smp.length < 1000000
  case neg =>
   rw [if_neg hlen] at e
   cases e
  rw [if_pos hlen] at e
  have HLEN := Aside0.mk hlen
  have HE := Aside0.mk (Option.some.inj e)
  clear HH hrs e hlen z5
  replace K1 := Aside0.mk (blk_drew K1.out)
  replace HN := Aside0.mk (Kd.N_drew HN.out)
  replace HB := Aside0.mk (below_drew1 HB.out)
  refine start_ (n := 28) (S := fun w' => (w'.cell? ⟨g1, 1, none⟩ = some (.int .i64 a1) ∧ w'.cell? ⟨g1, 2, none⟩ = some (.int .i64 a2) ∧ w'.cell? ⟨g1, 3, none⟩ = some (.int .i64 a3) ∧ w'.cell? ⟨g1, 4, none⟩ = some (.slice A4 l.length c4))) (ds := []) #[false, false, false, false, false, false, false, false, false, false, false, false, false, false, false, false, false, false, false, false, false, false, false, false, false, false, false, false] (by kernel_rfl) rfl rfl ⟨(blk_cell K1.out 1).trans rfl, (blk_cell K1.out 2).trans rfl, (blk_cell K1.out 3).trans rfl, (blk_cell K1.out 4).trans rfl⟩ (fun hHeld => ?_)
  refine with_tabW sh_tab3 sh_bits3 (fun HT_ HW_ => ?_)
  generalize World.drew _ = wd at K1 HN HB hHeld ⊢
  have HD := Aside0.mk (Below.refl wd.heap.size wd)
  have hS : ∀ w', Below wd.heap.size wd w' → (w'.cell? ⟨g1, 1, none⟩ = some (.int .i64 a1) ∧ w'.cell? ⟨g1, 2, none⟩ = some (.int .i64 a2) ∧ w'.cell? ⟨g1, 3, none⟩ = some (.int .i64 a3) ∧ w'.cell? ⟨g1, 4, none⟩ = some (.slice A4 l.length c4)) := fun w' hb => ⟨(blk_cell (blk_below K1.out hb) 1).trans rfl, (blk_cell (blk_below K1.out hb) 2).trans rfl, (blk_cell (blk_below K1.out hb) 3).trans rfl, (blk_cell (blk_below K1.out hb) 4).trans rfl⟩
  obtain ⟨dg, hdg⟩ : ∃ q, q = a1 % 4 := ⟨_, rfl⟩
  obtain ⟨q5, hq5⟩ : ∃ q, q = a2 % 5 := ⟨_, rfl⟩
  obtain ⟨q3, hq3⟩ : ∃ q, q = a3 % 3 := ⟨_, rfl⟩
  obtain ⟨qh, hqh⟩ : ∃ q, q = a3 % 100 := ⟨_, rfl⟩
  have m0 : 0 ≤ q5 := by rw [hq5]; exact Int.emod_nonneg _ (by decide)
  have m1 : q5 < 5 := by rw [hq5]; exact Int.emod_lt_of_pos _ (by decide)
  have hm0 := eq_true m0
  have hm1 := eq_true m1
  rw [← hdg, ← hq5, ← hq3, ← hqh] at HE
  have HDG := Aside0.mk hdg
  have HQ5 := Aside0.mk hq5
  have HQ3 := Aside0.mk hq3
  have HQH := Aside0.mk hqh
  clear hdg hq5 hq3 hqh
  refine pU HT_ 0 (some 11) (oB 28 1) ?_
  refine pU HT_ 1 (some 12) (oB 28 3) ?_
  refine pU HT_ 4 (some 15) (oB 28 19) ?_
  refine pU HT_ 8 (some 19) (oB 28 275) ?_
  refine pU HT_ 13 (some 24) (oB 28 8467) ?_
  refine pU HT_ 17 (some 28) (oB 28 139539) ?_
  refine pU HT_ 22 (some 33) (oB 28 4333843) ?_
  refine take_ (i := 2) (N := some 13) (v := ?_) (a' := ?_) (oB 28 4333847) rfl rfl (take_ofW HT_.out HW_.out (by kernel_rfl)) (fun _ _ _ h => h) (Or.inl ⟨by rfl, ?_⟩) hHeld ?_ ?_
  rotate_left
  ·rintro w' ⟨s0, s1, s2, s3⟩
   go_simp
   with_reducible rfl
  rotate_left
  ·simp only [Act.put, List.setIfInBounds_toArray, List.set_cons_zero, List.set_cons_succ, i64_w, i32_w]
   rfl
  refine take_ (i := 5) (N := some 16) (v := ?_) (a' := ?_) (oB 28 4333879) rfl rfl (take_ofW HT_.out HW_.out (by kernel_rfl)) (fun _ _ _ h => h) (Or.inl ⟨by rfl, ?_⟩) hHeld ?_ ?_
  rotate_left
  ·rintro w' ⟨s0, s1, s2, s3⟩
   go_simp
   with_reducible rfl
  rotate_left
  ·simp only [Act.put, List.setIfInBounds_toArray, List.set_cons_zero, List.set_cons_succ, i64_w, i32_w]
   rfl
  refine take_ (i := 9) (N := some 20) (v := ?_) (a' := ?_) (oB 28 4334391) rfl rfl (take_ofW HT_.out HW_.out (by kernel_rfl)) (fun _ _ _ h => h) (Or.inl ⟨by rfl, ?_⟩) hHeld ?_ ?_
  rotate_left
  ·rintro w' ⟨s0, s1, s2, s3⟩
   go_simp
   with_reducible rfl
  rotate_left
  ·simp only [Act.put, List.setIfInBounds_toArray, List.set_cons_zero, List.set_cons_succ, i64_w, i32_w]
   rfl
  refine take_ (i := 14) (N := some 25) (v := ?_) (a' := ?_) (oB 28 4350775) rfl rfl (take_ofW HT_.out HW_.out (by kernel_rfl)) (fun _ _ _ h => h) (Or.inl ⟨by rfl, ?_⟩) hHeld ?_ ?_
  rotate_left
  ·rintro w' ⟨s0, s1, s2, s3⟩
   go_simp
   with_reducible rfl
  rotate_left
  ·simp only [Act.put, List.setIfInBounds_toArray, List.set_cons_zero, List.set_cons_succ, i64_w, i32_w]
   rfl
  refine take_ (i := 18) (N := some 29) (v := ?_) (a' := ?_) (oB 28 4612919) rfl rfl (take_ofW HT_.out HW_.out (by kernel_rfl)) (fun _ _ _ h => h) (Or.inl ⟨by rfl, ?_⟩) hHeld ?_ ?_
  rotate_left
  ·rintro w' ⟨s0, s1, s2, s3⟩
   go_simp
   with_reducible rfl
  rotate_left
  ·simp only [Act.put, List.setIfInBounds_toArray, List.set_cons_zero, List.set_cons_succ, i64_w, i32_w]
   rfl
  refine join_ (σ := Option Addr × Nat × Addr) 6 (oB 28 6291455) (fun s => [(14, .int .i64 dg), (17, .slice s.1 rs.length s.2.1), (21, .int .i64 q5), (26, .int .i64 q3), (27, .int .i64 (wrap64 (1 + q3))), (30, .int .i64 qh), (31, .int .i64 (wrap64 (qh - 5))), (18, .slice (some s.2.2) 5 5), (22, .pointer (some (s.2.2.add q5.toNat))), (23, .string (shW q5))]) (fun s w' => (w'.cell? ⟨g1, 1, none⟩ = some (.int .i64 a1) ∧ w'.cell? ⟨g1, 2, none⟩ = some (.int .i64 a2) ∧ w'.cell? ⟨g1, 3, none⟩ = some (.int .i64 a3) ∧ w'.cell? ⟨g1, 4, none⟩ = some (.slice A4 l.length c4)) ∧ Below wd.heap.size wd w' ∧ ShR wd w' s.1 s.2.1 rs ∧ ShL w' s.2.2) ?_ ?_
  rotate_left
  ·intro hJ52
   refine join_ (σ := Option Addr × Nat × Addr) 8 (oB 28 4718591) (fun s => [(14, .int .i64 dg), (17, .slice s.1 rs.length s.2.1), (21, .int .i64 q5), (26, .int .i64 q3), (27, .int .i64 (wrap64 (1 + q3))), (18, .slice (some s.2.2) 5 5), (22, .pointer (some (s.2.2.add q5.toNat))), (23, .string (shW q5))]) (fun s w' => (w'.cell? ⟨g1, 1, none⟩ = some (.int .i64 a1) ∧ w'.cell? ⟨g1, 2, none⟩ = some (.int .i64 a2) ∧ w'.cell? ⟨g1, 3, none⟩ = some (.int .i64 a3) ∧ w'.cell? ⟨g1, 4, none⟩ = some (.slice A4 l.length c4)) ∧ Below wd.heap.size wd w' ∧ ShR wd w' s.1 s.2.1 rs ∧ ShL w' s.2.2) ?_ ?_
   rotate_left
   ·intro hJ42
    refine join_ (σ := Option Addr × Nat × Addr) 7 (oB 28 6287359) (fun s => [(14, .int .i64 dg), (17, .slice s.1 rs.length s.2.1), (21, .int .i64 q5), (26, .int .i64 q3), (27, .int .i64 (wrap64 (1 + q3))), (30, .int .i64 qh), (31, .int .i64 (wrap64 (qh - 5))), (18, .slice (some s.2.2) 5 5), (22, .pointer (some (s.2.2.add q5.toNat)))]) (fun s w' => (w'.cell? ⟨g1, 1, none⟩ = some (.int .i64 a1) ∧ w'.cell? ⟨g1, 2, none⟩ = some (.int .i64 a2) ∧ w'.cell? ⟨g1, 3, none⟩ = some (.int .i64 a3) ∧ w'.cell? ⟨g1, 4, none⟩ = some (.slice A4 l.length c4)) ∧ Below wd.heap.size wd w' ∧ ShR wd w' s.1 s.2.1 rs ∧ ShL w' s.2.2) ?_ ?_
    rotate_left
    ·intro hJ51
     refine join_ (σ := Option Addr × Nat × Addr) 9 (oB 28 4714495) (fun s => [(14, .int .i64 dg), (17, .slice s.1 rs.length s.2.1), (21, .int .i64 q5), (26, .int .i64 q3), (27, .int .i64 (wrap64 (1 + q3))), (18, .slice (some s.2.2) 5 5), (22, .pointer (some (s.2.2.add q5.toNat)))]) (fun s w' => (w'.cell? ⟨g1, 1, none⟩ = some (.int .i64 a1) ∧ w'.cell? ⟨g1, 2, none⟩ = some (.int .i64 a2) ∧ w'.cell? ⟨g1, 3, none⟩ = some (.int .i64 a3) ∧ w'.cell? ⟨g1, 4, none⟩ = some (.slice A4 l.length c4)) ∧ Below wd.heap.size wd w' ∧ ShR wd w' s.1 s.2.1 rs ∧ ShL w' s.2.2) ?_ ?_
     rotate_left
     ·intro hJ41
      refine join_ (σ := Option Addr × Nat × Addr) 11 (oB 28 4616191) (fun s => [(14, .int .i64 dg), (17, .slice s.1 rs.length s.2.1), (21, .int .i64 q5), (18, .slice (some s.2.2) 5 5), (22, .pointer (some (s.2.2.add q5.toNat)))]) (fun s w' => (w'.cell? ⟨g1, 1, none⟩ = some (.int .i64 a1) ∧ w'.cell? ⟨g1, 2, none⟩ = some (.int .i64 a2) ∧ w'.cell? ⟨g1, 3, none⟩ = some (.int .i64 a3) ∧ w'.cell? ⟨g1, 4, none⟩ = some (.slice A4 l.length c4)) ∧ Below wd.heap.size wd w' ∧ ShR wd w' s.1 s.2.1 rs ∧ ShL w' s.2.2) ?_ ?_
      rotate_left
      ·intro hJ31
       refine join_ (σ := Option Addr × Nat × Addr) 13 (oB 28 4613119) (fun s => [(14, .int .i64 dg), (17, .slice s.1 rs.length s.2.1), (18, .slice (some s.2.2) 5 5)]) (fun s w' => (w'.cell? ⟨g1, 1, none⟩ = some (.int .i64 a1) ∧ w'.cell? ⟨g1, 2, none⟩ = some (.int .i64 a2) ∧ w'.cell? ⟨g1, 3, none⟩ = some (.int .i64 a3) ∧ w'.cell? ⟨g1, 4, none⟩ = some (.slice A4 l.length c4)) ∧ Below wd.heap.size wd w' ∧ ShR wd w' s.1 s.2.1 rs ∧ ShL w' s.2.2) ?_ ?_
       rotate_left
       ·intro hJ21
        refine join_ (σ := Addr) 14 (oB 28 4613055) (fun s => [(14, .int .i64 dg), (18, .slice (some s) 5 5)]) (fun s w' => (w'.cell? ⟨g1, 1, none⟩ = some (.int .i64 a1) ∧ w'.cell? ⟨g1, 2, none⟩ = some (.int .i64 a2) ∧ w'.cell? ⟨g1, 3, none⟩ = some (.int .i64 a3) ∧ w'.cell? ⟨g1, 4, none⟩ = some (.slice A4 l.length c4)) ∧ Below wd.heap.size wd w' ∧ ShL w' s) ?_ ?_
        rotate_left
        ·intro hJ11
         refine two_ (i := 3) (j := 7) (Ni := some 14) (Nj := some 18) (oB 28 4612927) (oB 28 4613047) rfl rfl rfl rfl (two_of HT_.out (by kernel_rfl)) (by decide) (by decide) (fun K hK => ?_) (fun K hK => ?_)
         ·skip
          refine wi5_ a1 4 dg HDG.out (by decide) (by rfl) rfl rfl (by (try simp only [List.map_toArray, List.map_cons, List.map_nil]); first | done | rfl) (fun w' hb => hK.out _ _ (hS _ (below_step HD.out hb)) (fun hHeld => ?_))
          replace HD := Aside0.mk (below_step HD.out hb)
          clear hb hK K
          refine nM ?_
          refine two_ (i := 6) (j := 7) (Ni := some 17) (Nj := some 18) (oB 28 4612991) (oB 28 4613055) rfl rfl rfl rfl (two_of HT_.out (by kernel_rfl)) (by decide) (by decide) (fun K hK => ?_) (fun K hK => ?_)
          ·skip
           refine goes_ Tryd.func34 (by kernel_rfl) rfl #[.slice A4 l.length c4, .int .i64 6] (by rfl) rfl rfl (by (try simp only [List.map_toArray, List.map_cons, List.map_nil]); first | done | rfl) ?_
           refine (rules_walk 6 A4 c4 l rs _ (by decide) (Kd.C_below HC.out (below_step HB.out HD.out)) HRS.out).mono ?_
           rintro e w' ⟨A6, c6, rfl, hl6, hf6, hb⟩
           refine ⟨_, rfl, hK.out _ _ (hS _ (below_step HD.out hb)) (fun hHeld => ?_)⟩
           have HR := Aside0.mk (show ShR wd w' A6 c6 rs from ⟨hl6, Kd.F_mono hf6 (fun b hk => Nat.le_trans (below_size HD.out) hk)⟩)
           replace HD := Aside0.mk (below_step HD.out hb)
           clear hl6 hf6 hb hK K
           refine nM ?_
           refine two_ (i := 7) (j := 10) (Ni := some 18) (Nj := some 21) (oB 28 4613119) (oB 28 4614015) rfl rfl rfl rfl (two_of HT_.out (by kernel_rfl)) (by decide) (by decide) (fun K hK => ?_) (fun K hK => ?_)
           ·skip
            refine slice_step (cs := #[.string (⟨#[111, 110, 101]⟩ : ByteArray), .string (⟨#[120, 32, 121]⟩ : ByteArray), .string (⟨#[195, 164]⟩ : ByteArray), .string (⟨#[55, 117, 112]⟩ : ByteArray), .string (⟨#[45]⟩ : ByteArray)]) (t := 9) (m := 5) (by rfl) rfl ?hr (fun g w' hk hb => hK.out _ _ (hS _ (below_step HD.out hb)) (fun hHeld => ?_))
            (case hr => first | (go_simp; done) | (go_simp; rfl))
            have HL := Aside0.mk (ShL.new hk)
            generalize (⟨g, 0, none⟩ : Addr) = ad at HL ⊢
            replace HD := Aside0.mk (below_step HD.out hb)
            replace HR := Aside0.mk (HR.out.on hb)
            clear hk hb hK K
            refine nM ?_
            exact nJ (hJ21 (A6, c6, ad) _ ⟨hHeld, HD.out, HR.out, HL.out⟩)
           ·skip
            refine wi5_ a2 5 q5 HQ5.out (by decide) (by rfl) rfl rfl (by (try simp only [List.map_toArray, List.map_cons, List.map_nil]); first | done | rfl) (fun w' hb => hK.out _ _ (hS _ (below_step HD.out hb)) (fun hHeld => ?_))
            replace HD := Aside0.mk (below_step HD.out hb)
            replace HR := Aside0.mk (HR.out.on hb)
            clear hb hK K
            refine nM ?_
            refine two_ (i := 7) (j := 15) (Ni := some 18) (Nj := some 26) (oB 28 4614143) (oB 28 4646783) rfl rfl rfl rfl (two_of HT_.out (by kernel_rfl)) (by decide) (by decide) (fun K hK => ?_) (fun K hK => ?_)
            ·skip
             refine slice_step (cs := #[.string (⟨#[111, 110, 101]⟩ : ByteArray), .string (⟨#[120, 32, 121]⟩ : ByteArray), .string (⟨#[195, 164]⟩ : ByteArray), .string (⟨#[55, 117, 112]⟩ : ByteArray), .string (⟨#[45]⟩ : ByteArray)]) (t := 9) (m := 5) (by rfl) rfl ?hr (fun g w' hk hb => hK.out _ _ (hS _ (below_step HD.out hb)) (fun hHeld => ?_))
             (case hr => first | (go_simp; done) | (go_simp; rfl))
             have HL := Aside0.mk (ShL.new hk)
             generalize (⟨g, 0, none⟩ : Addr) = ad at HL ⊢
             replace HD := Aside0.mk (below_step HD.out hb)
             replace HR := Aside0.mk (HR.out.on hb)
             clear hk hb hK K
             refine nM ?_
             refine pU HT_ 11 (some 22) (oB 28 4616191) ?_
             exact nJ (hJ31 (A6, c6, ad) _ ⟨hHeld, HD.out, HR.out, HL.out⟩)
            ·skip
             refine wi5_ a3 3 q3 HQ3.out (by decide) (by rfl) rfl rfl (by (try simp only [List.map_toArray, List.map_cons, List.map_nil]); first | done | rfl) (fun w' hb => hK.out _ _ (hS _ (below_step HD.out hb)) (fun hHeld => ?_))
             replace HD := Aside0.mk (below_step HD.out hb)
             replace HR := Aside0.mk (HR.out.on hb)
             clear hb hK K
             refine nM ?_
             refine pU HT_ 16 (some 27) (oB 28 4712319) ?_
             refine two_ (i := 7) (j := 19) (Ni := some 18) (Nj := some 30) (oB 28 4712447) (oB 28 5236607) rfl rfl rfl rfl (two_of HT_.out (by kernel_rfl)) (by decide) (by decide) (fun K hK => ?_) (fun K hK => ?_)
             ·skip
              refine slice_step (cs := #[.string (⟨#[111, 110, 101]⟩ : ByteArray), .string (⟨#[120, 32, 121]⟩ : ByteArray), .string (⟨#[195, 164]⟩ : ByteArray), .string (⟨#[55, 117, 112]⟩ : ByteArray), .string (⟨#[45]⟩ : ByteArray)]) (t := 9) (m := 5) (by rfl) rfl ?hr (fun g w' hk hb => hK.out _ _ (hS _ (below_step HD.out hb)) (fun hHeld => ?_))
              (case hr => first | (go_simp; done) | (go_simp; rfl))
              have HL := Aside0.mk (ShL.new hk)
              generalize (⟨g, 0, none⟩ : Addr) = ad at HL ⊢
              replace HD := Aside0.mk (below_step HD.out hb)
              replace HR := Aside0.mk (HR.out.on hb)
              clear hk hb hK K
              refine nM ?_
              refine pU HT_ 11 (some 22) (oB 28 4714495) ?_
              exact nJ (hJ41 (A6, c6, ad) _ ⟨hHeld, HD.out, HR.out, HL.out⟩)
             ·skip
              refine wi5_ a3 100 qh HQH.out (by decide) (by rfl) rfl rfl (by (try simp only [List.map_toArray, List.map_cons, List.map_nil]); first | done | rfl) (fun w' hb => hK.out _ _ (hS _ (below_step HD.out hb)) (fun hHeld => ?_))
              replace HD := Aside0.mk (below_step HD.out hb)
              replace HR := Aside0.mk (HR.out.on hb)
              clear hb hK K
              refine nM ?_
              refine pU HT_ 20 (some 31) (oB 28 6285183) ?_
              refine one_ (i := 7) (N := some 18) (oB 28 6285311) rfl rfl (one_of HT_.out (by kernel_rfl)) (by decide) (fun K hK => ?_)
              refine slice_step (cs := #[.string (⟨#[111, 110, 101]⟩ : ByteArray), .string (⟨#[120, 32, 121]⟩ : ByteArray), .string (⟨#[195, 164]⟩ : ByteArray), .string (⟨#[55, 117, 112]⟩ : ByteArray), .string (⟨#[45]⟩ : ByteArray)]) (t := 9) (m := 5) (by rfl) rfl ?hr (fun g w' hk hb => hK.out _ _ (hS _ (below_step HD.out hb)) (fun hHeld => ?_))
              (case hr => first | (go_simp; done) | (go_simp; rfl))
              have HL := Aside0.mk (ShL.new hk)
              generalize (⟨g, 0, none⟩ : Addr) = ad at HL ⊢
              replace HD := Aside0.mk (below_step HD.out hb)
              replace HR := Aside0.mk (HR.out.on hb)
              clear hk hb hK K
              refine nM ?_
              refine pU HT_ 11 (some 22) (oB 28 6287359) ?_
              exact nJ (hJ51 (A6, c6, ad) _ ⟨hHeld, HD.out, HR.out, HL.out⟩)
          ·skip
           refine slice_step (cs := #[.string (⟨#[111, 110, 101]⟩ : ByteArray), .string (⟨#[120, 32, 121]⟩ : ByteArray), .string (⟨#[195, 164]⟩ : ByteArray), .string (⟨#[55, 117, 112]⟩ : ByteArray), .string (⟨#[45]⟩ : ByteArray)]) (t := 9) (m := 5) (by rfl) rfl ?hr (fun g w' hk hb => hK.out _ _ (hS _ (below_step HD.out hb)) (fun hHeld => ?_))
           (case hr => first | (go_simp; done) | (go_simp; rfl))
           have HL := Aside0.mk (ShL.new hk)
           generalize (⟨g, 0, none⟩ : Addr) = ad at HL ⊢
           replace HD := Aside0.mk (below_step HD.out hb)
           clear hk hb hK K
           refine nM ?_
           exact nJ (hJ11 ad _ ⟨hHeld, HD.out, HL.out⟩)
         ·skip
          refine slice_step (cs := #[.string (⟨#[111, 110, 101]⟩ : ByteArray), .string (⟨#[120, 32, 121]⟩ : ByteArray), .string (⟨#[195, 164]⟩ : ByteArray), .string (⟨#[55, 117, 112]⟩ : ByteArray), .string (⟨#[45]⟩ : ByteArray)]) (t := 9) (m := 5) (by rfl) rfl ?hr (fun g w' hk hb => hK.out _ _ (hS _ (below_step HD.out hb)) (fun hHeld => ?_))
          (case hr => first | (go_simp; done) | (go_simp; rfl))
          have HL := Aside0.mk (ShL.new hk)
          generalize (⟨g, 0, none⟩ : Addr) = ad at HL ⊢
          replace HD := Aside0.mk (below_step HD.out hb)
          clear hk hb hK K
          refine nM ?_
          refine one_ (i := 3) (N := some 14) (oB 28 4613055) rfl rfl (one_of HT_.out (by kernel_rfl)) (by decide) (fun K hK => ?_)
          refine wi5_ a1 4 dg HDG.out (by decide) (by rfl) rfl rfl (by (try simp only [List.map_toArray, List.map_cons, List.map_nil]); first | done | rfl) (fun w' hb => hK.out _ _ (hS _ (below_step HD.out hb)) (fun hHeld => ?_))
          replace HD := Aside0.mk (below_step HD.out hb)
          replace HL := Aside0.mk (HL.out.on hb)
          clear hb hK K
          refine nM ?_
          exact nJ (hJ11 ad _ ⟨hHeld, HD.out, HL.out⟩)
        rintro ad w' ⟨hHeld, hD, hL⟩
        replace HD := Aside0.mk hD
        have HL := Aside0.mk hL
        clear hD hL
        refine norm_ (a' := ?_) ?_ ?_
        rotate_left
        ·simp only [putAll, Act.put, List.setIfInBounds_toArray, List.set_cons_zero, List.set_cons_succ]
         rfl
        refine one_ (i := 6) (N := some 17) (oB 28 4613119) rfl rfl (one_of HT_.out (by kernel_rfl)) (by decide) (fun K hK => ?_)
        refine goes_ Tryd.func34 (by kernel_rfl) rfl #[.slice A4 l.length c4, .int .i64 6] (by rfl) rfl rfl (by (try simp only [List.map_toArray, List.map_cons, List.map_nil]); first | done | rfl) ?_
        refine (rules_walk 6 A4 c4 l rs _ (by decide) (Kd.C_below HC.out (below_step HB.out HD.out)) HRS.out).mono ?_
        rintro e w' ⟨A6, c6, rfl, hl6, hf6, hb⟩
        refine ⟨_, rfl, hK.out _ _ (hS _ (below_step HD.out hb)) (fun hHeld => ?_)⟩
        have HR := Aside0.mk (show ShR wd w' A6 c6 rs from ⟨hl6, Kd.F_mono hf6 (fun b hk => Nat.le_trans (below_size HD.out) hk)⟩)
        replace HD := Aside0.mk (below_step HD.out hb)
        replace HL := Aside0.mk (HL.out.on hb)
        clear hl6 hf6 hb hK K
        refine nM ?_
        exact nJ (hJ21 (A6, c6, ad) _ ⟨hHeld, HD.out, HR.out, HL.out⟩)
       rintro ⟨A6, c6, ad⟩ w' ⟨hHeld, hD, hR, hL⟩
       replace HD := Aside0.mk hD
       have HL := Aside0.mk hL
       have HR := Aside0.mk hR
       clear hR hD hL
       refine norm_ (a' := ?_) ?_ ?_
       rotate_left
       ·simp only [putAll, Act.put, List.setIfInBounds_toArray, List.set_cons_zero, List.set_cons_succ]
        rfl
       refine one_ (i := 10) (N := some 21) (oB 28 4614143) rfl rfl (one_of HT_.out (by kernel_rfl)) (by decide) (fun K hK => ?_)
       refine wi5_ a2 5 q5 HQ5.out (by decide) (by rfl) rfl rfl (by (try simp only [List.map_toArray, List.map_cons, List.map_nil]); first | done | rfl) (fun w' hb => hK.out _ _ (hS _ (below_step HD.out hb)) (fun hHeld => ?_))
       replace HD := Aside0.mk (below_step HD.out hb)
       replace HR := Aside0.mk (HR.out.on hb)
       replace HL := Aside0.mk (HL.out.on hb)
       clear hb hK K
       refine nM ?_
       refine pU HT_ 11 (some 22) (oB 28 4616191) ?_
       exact nJ (hJ31 (A6, c6, ad) _ ⟨hHeld, HD.out, HR.out, HL.out⟩)
      rintro ⟨A6, c6, ad⟩ w' ⟨hHeld, hD, hR, hL⟩
      replace HD := Aside0.mk hD
      have HL := Aside0.mk hL
      have HR := Aside0.mk hR
      clear hR hD hL
      refine norm_ (a' := ?_) ?_ ?_
      rotate_left
      ·simp only [putAll, Act.put, List.setIfInBounds_toArray, List.set_cons_zero, List.set_cons_succ]
       rfl
      refine two_ (i := 12) (j := 15) (Ni := some 23) (Nj := some 26) (oB 28 4620287) (oB 28 4648959) rfl rfl rfl rfl (two_of HT_.out (by kernel_rfl)) (by decide) (by decide) (fun K hK => ?_) (fun K hK => ?_)
      ·skip
       have hx := HL.out q5 m0 m1
       refine value_ (w1 := ?_) (v := ?_) (by rfl) rfl ?_ ?_
       rotate_left 2
       ·go_simp
        constructor
        ·rfl
        ·rfl
       clear hx
       refine hK.out _ _ (hS _ HD.out) (fun hHeld => ?_)
       clear hK K
       refine nM ?_
       refine one_ (i := 15) (N := some 26) (oB 28 4653055) rfl rfl (one_of HT_.out (by kernel_rfl)) (by decide) (fun K hK => ?_)
       refine wi5_ a3 3 q3 HQ3.out (by decide) (by rfl) rfl rfl (by (try simp only [List.map_toArray, List.map_cons, List.map_nil]); first | done | rfl) (fun w' hb => hK.out _ _ (hS _ (below_step HD.out hb)) (fun hHeld => ?_))
       replace HD := Aside0.mk (below_step HD.out hb)
       replace HR := Aside0.mk (HR.out.on hb)
       replace HL := Aside0.mk (HL.out.on hb)
       clear hb hK K
       refine nM ?_
       refine pU HT_ 16 (some 27) (oB 28 4718591) ?_
       exact nJ (hJ42 (A6, c6, ad) _ ⟨hHeld, HD.out, HR.out, HL.out⟩)
      ·skip
       refine wi5_ a3 3 q3 HQ3.out (by decide) (by rfl) rfl rfl (by (try simp only [List.map_toArray, List.map_cons, List.map_nil]); first | done | rfl) (fun w' hb => hK.out _ _ (hS _ (below_step HD.out hb)) (fun hHeld => ?_))
       replace HD := Aside0.mk (below_step HD.out hb)
       replace HR := Aside0.mk (HR.out.on hb)
       replace HL := Aside0.mk (HL.out.on hb)
       clear hb hK K
       refine nM ?_
       refine pU HT_ 16 (some 27) (oB 28 4714495) ?_
       exact nJ (hJ41 (A6, c6, ad) _ ⟨hHeld, HD.out, HR.out, HL.out⟩)
     rintro ⟨A6, c6, ad⟩ w' ⟨hHeld, hD, hR, hL⟩
     replace HD := Aside0.mk hD
     have HL := Aside0.mk hL
     have HR := Aside0.mk hR
     clear hR hD hL
     refine norm_ (a' := ?_) ?_ ?_
     rotate_left
     ·simp only [putAll, Act.put, List.setIfInBounds_toArray, List.set_cons_zero, List.set_cons_succ]
      rfl
     refine two_ (i := 12) (j := 19) (Ni := some 23) (Nj := some 30) (oB 28 4718591) (oB 28 5238783) rfl rfl rfl rfl (two_of HT_.out (by kernel_rfl)) (by decide) (by decide) (fun K hK => ?_) (fun K hK => ?_)
     ·skip
      have hx := HL.out q5 m0 m1
      refine value_ (w1 := ?_) (v := ?_) (by rfl) rfl ?_ ?_
      rotate_left 2
      ·go_simp
       constructor
       ·rfl
       ·rfl
      clear hx
      refine hK.out _ _ (hS _ HD.out) (fun hHeld => ?_)
      clear hK K
      refine nM ?_
      exact nJ (hJ42 (A6, c6, ad) _ ⟨hHeld, HD.out, HR.out, HL.out⟩)
     ·skip
      refine wi5_ a3 100 qh HQH.out (by decide) (by rfl) rfl rfl (by (try simp only [List.map_toArray, List.map_cons, List.map_nil]); first | done | rfl) (fun w' hb => hK.out _ _ (hS _ (below_step HD.out hb)) (fun hHeld => ?_))
      replace HD := Aside0.mk (below_step HD.out hb)
      replace HR := Aside0.mk (HR.out.on hb)
      replace HL := Aside0.mk (HL.out.on hb)
      clear hb hK K
      refine nM ?_
      refine pU HT_ 20 (some 31) (oB 28 6287359) ?_
      exact nJ (hJ51 (A6, c6, ad) _ ⟨hHeld, HD.out, HR.out, HL.out⟩)
    rintro ⟨A6, c6, ad⟩ w' ⟨hHeld, hD, hR, hL⟩
    replace HD := Aside0.mk hD
    have HL := Aside0.mk hL
    have HR := Aside0.mk hR
    clear hR hD hL
    refine norm_ (a' := ?_) ?_ ?_
    rotate_left
    ·simp only [putAll, Act.put, List.setIfInBounds_toArray, List.set_cons_zero, List.set_cons_succ]
     rfl
    refine one_ (i := 12) (N := some 23) (oB 28 6291455) rfl rfl (one_of HT_.out (by kernel_rfl)) (by decide) (fun K hK => ?_)
    have hx := HL.out q5 m0 m1
    refine value_ (w1 := ?_) (v := ?_) (by rfl) rfl ?_ ?_
    rotate_left 2
    ·go_simp
     constructor
     ·rfl
     ·rfl
    clear hx
    refine hK.out _ _ (hS _ HD.out) (fun hHeld => ?_)
    clear hK K
    refine nM ?_
    exact nJ (hJ52 (A6, c6, ad) _ ⟨hHeld, HD.out, HR.out, HL.out⟩)
   rintro ⟨A6, c6, ad⟩ w' ⟨hHeld, hD, hR, hL⟩
   replace HD := Aside0.mk hD
   have HL := Aside0.mk hL
   have HR := Aside0.mk hR
   clear hR hD hL
   refine norm_ (a' := ?_) ?_ ?_
   rotate_left
   ·simp only [putAll, Act.put, List.setIfInBounds_toArray, List.set_cons_zero, List.set_cons_succ]
    rfl
   refine one_ (i := 19) (N := some 30) (oB 28 5242879) rfl rfl (one_of HT_.out (by kernel_rfl)) (by decide) (fun K hK => ?_)
   refine wi5_ a3 100 qh HQH.out (by decide) (by rfl) rfl rfl (by (try simp only [List.map_toArray, List.map_cons, List.map_nil]); first | done | rfl) (fun w' hb => hK.out _ _ (hS _ (below_step HD.out hb)) (fun hHeld => ?_))
   replace HD := Aside0.mk (below_step HD.out hb)
   replace HR := Aside0.mk (HR.out.on hb)
   replace HL := Aside0.mk (HL.out.on hb)
   clear hb hK K
   refine nM ?_
   refine pU HT_ 20 (some 31) (oB 28 6291455) ?_
   exact nJ (hJ52 (A6, c6, ad) _ ⟨hHeld, HD.out, HR.out, HL.out⟩)
  rintro ⟨A6, c6, ad⟩ w' ⟨hHeld, hD, hR, hL⟩
  replace HD := Aside0.mk hD
  have HL := Aside0.mk hL
  have HR := Aside0.mk hR
  clear hR hD hL
  refine norm_ (a' := ?_) ?_ ?_
  rotate_left
  ·simp only [putAll, Act.put, List.setIfInBounds_toArray, List.set_cons_zero, List.set_cons_succ]
   rfl
  refine pU HT_ 21 (some 32) (oB 28 8388607) ?_
  refine one_ (i := 23) (N := some 34) (oB 28 16777215) rfl rfl (one_of HT_.out (by kernel_rfl)) (by decide) (fun K hK => ?_)
  refine Kd.R_lit_step k24 _ 24 ?hg (N := 34) ?hd (xs := ([⟨shW q5, wrap64 (1 + q3), wrap64 (qh - 5)⟩, ⟨(⟨#[116, 119, 111]⟩ : ByteArray), 2, 2⟩] : List S24)) (inner := [.string (shW q5), .int .i64 (wrap64 (1 + q3)), .int .i64 (wrap64 (qh - 5)), .string (⟨#[116, 119, 111]⟩ : ByteArray), .int .i64 2, .int .i64 2]) (ok := fun _ => True) (okp := fun _ => True) ?hr ?hp (fun _ hk => hk) trivial (Below.refl _ _) (Nat.le_refl _) (by simp) ?_; (case hd => rfl); (case hg => rfl); (case hr => first | (go_simp; done) | (go_simp; rfl)); (case hp => exact (Reps.c3 (k24_mkM _ _ _ (⟨shW q5, wrap64 (1 + q3), wrap64 (qh - 5)⟩ : S24)) (Reps.c3 (k24_mkM _ _ _ (⟨(⟨#[116, 119, 111]⟩ : ByteArray), 2, 2⟩ : S24)) (Reps.none _ _))))
  intro v34 w34 ho hb hg_ hn_
  clear hg_ hn_
  obtain ⟨ents, he⟩ : ∃ y, y = ([⟨shW q5, wrap64 (1 + q3), wrap64 (qh - 5)⟩, ⟨(⟨#[116, 119, 111]⟩ : ByteArray), 2, 2⟩] : List S24) := ⟨_, rfl⟩
  rw [← he] at ho
  obtain ⟨A34, c34, e⟩ := Kd.R_slice ho
  subst e
  have HEN := Aside0.mk he
  have HP := Aside0.mk (shape_elem (dg := dg) HN.out (below_size HB.out) (HR.out.on hb) ho (below_size HD.out))
  replace HD := Aside0.mk (below_step HD.out hb)
  clear ho hb he HR HL
  refine hK.out _ _ (hS _ HD.out) (fun hHeld => ?_)
  clear hK K
  refine nM ?_
  refine pU HT_ 24 (some 35) (oB 28 33554431) ?_
  refine one_ (i := 25) (N := some 36) (oB 28 67108863) rfl rfl (one_of HT_.out (by kernel_rfl)) (by decide) (fun K hK => ?_)
  refine value_ (w1 := ?_) (v := ?_) (by rfl) rfl ?_ ?_
  rotate_left 2
  ·go_simp
   constructor
   ·rfl
   ·rfl
  refine hK.out _ _ (hS _ (below_alloc HD.out _)) (fun hHeld => ?_)
  clear hK K
  refine nM ?_
  refine one_ (i := 26) (N := some 37) (oB 28 134217727) rfl rfl (one_of HT_.out (by kernel_rfl)) (by decide) (fun K hK => ?_)
  refine Kd.N_append_step k35 (w0 := w) w.heap.size (by rfl) (.tmp 11) (.tmp 36) 61 35 (.agg #[(.string ⟨#[]⟩), (.int .i64 0), (.int .i64 0), (.slice none 0 0), (.slice none 0 0), (.slice none 0 0)]) 104 rfl Tryd.underlying61 info35 rfl (by decide) (by omega) (.slice A3 smp.length c3) smp (⟨(⟨#[120]⟩ : ByteArray), -1, dg, ents, rs, []⟩ : S35) [.string (⟨#[120]⟩ : ByteArray), .int .i64 (-1), .int .i64 dg, .slice A34 ents.length c34, .slice A6 rs.length c6, .slice none 0 0] (fun b => w.heap.size ≤ b) (fun b => w.heap.size ≤ b ∧ some b ≠ (Value.slice A3 smp.length c3).ownBlock) rfl rfl HP.out (fun _ hk => hk) ?aF (Kd.N_below HN.out HD.out) (below_step HB.out HD.out) (below_size (below_step HB.out HD.out)) ?aL ?_
  (case aF => exact fun b hk => Nat.le_trans (below_size (below_step HB.out HD.out)) hk)
  (case aL => have := HLEN.out; omega)
  intro v37 w37 ho hb hg hat
  rw [show smp ++ [(⟨(⟨#[120]⟩ : ByteArray), -1, dg, ents, rs, []⟩ : S35)] = r by rw [← HE.out, shapeX, ← HEN.out]] at ho
  have HO := Aside0.mk ho
  replace HB := Aside0.mk hb
  obtain ⟨A37, c37, e⟩ := Kd.N_slice ho
  subst e
  refine hK.out _ _ ⟨(blk_cell (blk_grown (blk_below K1.out HD.out) hg (Kd.N_ne (Kd.N_below HN.out HD.out) (blk_below K1.out HD.out) (by decide))) 1).trans rfl, (blk_cell (blk_grown (blk_below K1.out HD.out) hg (Kd.N_ne (Kd.N_below HN.out HD.out) (blk_below K1.out HD.out) (by decide))) 2).trans rfl, (blk_cell (blk_grown (blk_below K1.out HD.out) hg (Kd.N_ne (Kd.N_below HN.out HD.out) (blk_below K1.out HD.out) (by decide))) 3).trans rfl, (blk_cell (blk_grown (blk_below K1.out HD.out) hg (Kd.N_ne (Kd.N_below HN.out HD.out) (blk_below K1.out HD.out) (by decide))) 4).trans rfl⟩ (fun hHeld => ?_)
  clear ho hb hg hat hK K
  refine nM ?_
  refine pU HT_ 27 (some 3) (oB 28 268435455) ?_
  refine done_ (done_of HT_.out (by kernel_rfl)) ?_
  clear hHeld HT_ HW_ HD HN K1
  go_wp2
  go_ret
  exact ⟨_, rfl, HO.out, HB.out⟩
end Go.Proofs.YtjijikgandkphaaDoor.G
