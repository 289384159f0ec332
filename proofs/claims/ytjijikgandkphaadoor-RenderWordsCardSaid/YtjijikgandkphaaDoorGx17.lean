import Derived.Test.YtjijikgandkphaaDoorGx0
import Derived.Test.YtjijikgandkphaaDoorGx14
import Derived.Test.YtjijikgandkphaaDoorGx16
namespace Go.Proofs.YtjijikgandkphaaDoor.G
open Go.RowKit Go.Proofs.YtjijikgandkphaaDoorW.PrintWords Go.Proofs.YtjijikgandkphaaDoorW.PrintLast Go.Proofs.YtjijikgandkphaaDoorW.PrintMore Go.Proofs.YtjijikgandkphaaDoorW.VWords Go.Proofs.YtjijikgandkphaaDoorW.Tab
attribute [local go_sem] max2_int min2_int max_two min_two max_three min_three max_four min_four
set_option linter.unusedVariables false
set_option linter.unusedSimpArgs false
def makeX (s : Int) (x : S98) : S96 := makeF s x.f0 x.f1 x.f2 x.f3 x.f4
def rulesL (s : Int) : List S98 → List S96 → Option (List S96)
 | [], out => some out
 | x :: xs, out => (interlocutorref4_Check.f (out ++ [makeX s x])).bind fun b => rulesL s xs (if b = true then out ++ [makeX s x] else out)
def rules_T5 : Bool × List (List Nat × List Nat) := (true, [([], []), ([], []), ([0, 1], [0, 1]), ([], []), ([], []), ([3, 4], [3, 4]), ([5], [5]), ([], []), ([6, 7, 2], [6, 7]), ([8], [8]), ([2, 9, 8], [2, 9]), ([10, 10, 0, 1, 2, 3, 4, 5, 6, 7, 8, 9, 10], [10])])
theorem rules_tab5 : rtab .any (opsOf Tryd.f34 5) = rules_T5 := by kernel_rfl
theorem rules_bits5 : waitsOk rules_T5.2 [0, 0, 3, 0, 0, 24, 56, 0, 255, 511, 1023, 2047] = true := by kernel_rfl
theorem drop_raw (l : List S98) (n : Nat) (i : Int) (hi : i = (n : Int)) (hn : n < (l.take 20).length) : (l.take 20).drop n = rd_T98 l i :: (l.take 20).drop (n + 1) := by
 subst hi
 have h1 : n < l.length := by rw [List.length_take] at hn; omega
 rw [List.drop_eq_getElem_cons hn, List.getElem_take, rd_T98, Int.toNat_natCast, List.getD_eq_getElem?_getD, List.getElem?_eq_getElem h1]
 rfl
theorem raw_all {w : World} {A : Option Addr} {n : Nat} {l : List S98} (h : Kd.C k98 w A n l) (i : Int) (x : S98) (hx : x = rd_T98 l i) (h0 : 0 ≤ i) (h1 : i < n) : ∃ ad A3 c3 A4 c4, A = some ad ∧ (∀ W, Below w.heap.size w W → W.cell? (ad.add (i.toNat * 5)) = some (.int .i64 x.f0) ∧ W.cell? ⟨(ad.add (i.toNat * 5)).block, (ad.add (i.toNat * 5)).off + 1, none⟩ = some (.int .i64 x.f1) ∧ W.cell? ⟨(ad.add (i.toNat * 5)).block, (ad.add (i.toNat * 5)).off + 2, none⟩ = some (.int .i64 x.f2) ∧ W.cell? ⟨(ad.add (i.toNat * 5)).block, (ad.add (i.toNat * 5)).off + 3, none⟩ = some (.slice A3 x.f3.length c3) ∧ W.cell? ⟨(ad.add (i.toNat * 5)).block, (ad.add (i.toNat * 5)).off + 4, none⟩ = some (.slice A4 x.f4.length c4)) ∧ Kd.C (Kd.int .i64) w A3 x.f3.length x.f3 ∧ Kd.C (Kd.int .i64) w A4 x.f4.length x.f4 := by
 subst hx
 obtain ⟨ad, A3, c3, A4, c4, e, x0, x1, x2, x3, x4, _, g3, _, g4⟩ := at_T98 h i h0 h1
 have k : ∀ {W : World} {p : Addr} {v : Value}, Below w.heap.size w W → w.cell? p = some v → W.cell? p = some v := fun hb hx => (hb.cell (World.block_lt_of_cell? w _ hx)).trans hx
 exact ⟨ad, A3, c3, A4, c4, e, fun W hb => ⟨k hb x0, k hb x1, k hb x2, k hb x3, k hb x4⟩, g3, g4⟩
theorem rules_old {α : Type} {d : Kd α} {w W W1 : World} {v : Value} {e : Nat} {xs ys : List α} {A : Option Addr} {n : Nat} (f : Kd.F d W (fun b => w.heap.size ≤ b ∧ b < W.heap.size) A n ys) (hb : Below W.heap.size W W1) (ho : Kd.N d e W1 W.heap.size (fun b => w.heap.size ≤ b) v xs) : Kd.F d W1 (fun b => w.heap.size ≤ b ∧ b < W.heap.size) A n ys ∧ ∀ b, (w.heap.size ≤ b ∧ b < W.heap.size) → w.heap.size ≤ b ∧ some b ≠ v.ownBlock :=
 ⟨Kd.F_below f hb, fun b hk => ⟨hk.1, fun he => by have := Kd.N_base ho b he.symm; omega⟩⟩
theorem rules_elem {w W W1 : World} {base : Nat} {v : Value} {out : List S96} {x : S96} {A1 A2 : Option Addr} {c1 c2 n1 n2 : Nat} {ok1 ok2 : Nat → Prop} (ho : Kd.N k96 96 W base (fun b => w.heap.size ≤ b) v out) (hb : Below w.heap.size w W) (r1 : Kd.R (Kd.int .i64) 3 W1 W.heap.size ok1 (.slice A1 n1 c1) x.f1) (r3 : Kd.R (Kd.int .i64) 3 W1 W.heap.size ok2 (.slice A2 n2 c2) x.f2.f1) :
  Kd.FK k96 W1 (fun b => w.heap.size ≤ b ∧ some b ≠ v.ownBlock) x [.int .i64 x.f0, .slice A1 x.f1.length c1, .int .i64 x.f2.f0, .slice A2 x.f2.f1.length c2, .int .i64 x.f3] := by
 have g : ∀ b, W.heap.size ≤ b → w.heap.size ≤ b ∧ some b ≠ v.ownBlock := fun b h => ⟨Nat.le_trans (below_size hb) h, fun he => by have := Kd.N_lt ho b he.symm; omega⟩
 have e1 := Kd.R_reads' r1
 have e3 := Kd.R_reads' r3
 have f1 := Kd.F_mono (Kd.R_F (Kd.R_mono (Kd.R_bound r1) (fun k hk => hk.2.1))) g
 have f3 := Kd.F_mono (Kd.R_F (Kd.R_mono (Kd.R_bound r3) (fun k hk => hk.2.1))) g
 rw [e1.1] at f1
 rw [e3.1] at f3
 exact k96_mkF W1 _ x (by omega) f1 (by omega) f3
set_option maxHeartbeats 8000000 in
set_option maxRecDepth 100000 in
theorem rules_walk (s : Int) (A0 : Option Addr) (c0 : Nat) (l : List S98) (r : List S96) (w : World) (hs : 0 < s ∧ s ≤ 1000000000000) (hC : Kd.C k98 w A0 l.length l) (hr : rulesL s (l.take 20) [] = some r) :
  Calls Tryd.prog 34 #[.slice A0 l.length c0, .int .i64 s] w fun e w' => ∃ A c, e = .returned (.slice A r.length c) ∧ r.length ≤ c ∧ Kd.F k96 w' (fun b => w.heap.size ≤ b) A r.length r ∧ Below w.heap.size w w' := by
 have hu85 := Tryd.underlying98
 have HS := Aside0.mk hs
 have HC := Aside0.mk hC
 have HR := Aside0.mk hr
 have HB := Aside0.mk (Below.refl w.heap.size w)
 clear hs hC hr
 go_enter Tryd.func34, Tryd.ntmps34
 go_wp2
 go_loopg [5, 6] 21 (fun kq v5 v6 w' => ∃ (n : Nat) (i : Int) (A : Option Addr) (c : Nat) (out : List S96), v5 = .slice A out.length c ∧ v6 = .int .i64 i ∧ Aside0 (i = (n : Int)) ∧ Aside0 (n ≤ (l.take 20).length ∧ kq + n = 21) ∧ Aside0 (rulesL s ((l.take 20).drop n) out = some r) ∧ Aside0 (out.length ≤ n ∧ out.length ≤ c) ∧ Aside0 (Kd.F k96 w' (fun b => w.heap.size ≤ b) A out.length out) ∧ Aside0 (Below w.heap.size w w'))
 case atStart => exact ⟨0, 0, none, 0, [], rfl, rfl, ⟨rfl⟩, ⟨Nat.zero_le _, rfl⟩, HR, ⟨Nat.le_refl _, Nat.le_refl _⟩, ⟨Kd.N_F (Kd.N_nil k96 96 _ 0 _)⟩, HB⟩
 case round =>
  clear HB HR
  obtain ⟨n, i, A, c, out, rfl, rfl, HI, HJ, HR, HL, HF, HB⟩ := hrel
  have HT := Aside0.mk (show (l.take 20).length ≤ 20 ∧ (l.take 20).length ≤ l.length ∧ (l.length ≤ (l.take 20).length ∨ (l.take 20).length = 20) by rw [List.length_take]; omega)
  cases gk with
  | zero => exact absurd HJ.out (by have := HT.out; omega)
  | succ k1 =>
   by_cases hn : n < (l.take 20).length
   ·have d1 : decide (i < (l.length : Int)) = true := decide_eq_true (by have := HI.out; have := HT.out; omega)
    have d2 : decide (i < 20) = true := decide_eq_true (by have := HI.out; have := HT.out; omega)
    have p0 : 0 ≤ i := by have := HI.out; omega
    have q0 : i < (l.length : Int) := of_decide_eq_true d1
    have H := HR.out
    rw [drop_raw l n i HI.out hn, rulesL] at H
    obtain ⟨b, hb0, H⟩ := Option.bind_eq_some_iff.mp H
    obtain ⟨x, hx⟩ : ∃ x, x = rd_T98 l i := ⟨_, rfl⟩
    rw [← hx] at hb0 H
    obtain ⟨y, hy⟩ : ∃ y, y = out ++ [makeX s x] := ⟨_, rfl⟩
    rw [← hy] at hb0 H
    have HY := Aside0.mk hy
    obtain ⟨ad, A3, c3, A4, c4, e, hcell, g3, g4⟩ := raw_all HC.out i x hx p0 q0
    subst e
    have HX := Aside0.mk hcell
    have HG := Aside0.mk (And.intro g3 g4)
    have HCK := Aside0.mk hb0
    replace HR := Aside0.mk H
    have HN := Aside0.mk hn
    clear hb0 H hx hy hcell g3 g4 hn
    go_wp2
    replace HB := Aside0.mk (below_drew1 HB.out)
    replace HF := Aside0.mk (Kd.F_bound (Kd.F_drew HF.out))
    refine start_ (n := 12) (S := fun w' => w'.cell? (ad.add (i.toNat * 5)) = some (.int .i64 x.f0) ∧ w'.cell? ⟨(ad.add (i.toNat * 5)).block, (ad.add (i.toNat * 5)).off + 1, none⟩ = some (.int .i64 x.f1) ∧ w'.cell? ⟨(ad.add (i.toNat * 5)).block, (ad.add (i.toNat * 5)).off + 2, none⟩ = some (.int .i64 x.f2) ∧ w'.cell? ⟨(ad.add (i.toNat * 5)).block, (ad.add (i.toNat * 5)).off + 3, none⟩ = some (.slice A3 x.f3.length c3) ∧ w'.cell? ⟨(ad.add (i.toNat * 5)).block, (ad.add (i.toNat * 5)).off + 4, none⟩ = some (.slice A4 x.f4.length c4)) (ds := []) #[false, false, false, false, false, false, false, false, false, false, false, false] (by kernel_rfl) rfl rfl (HX.out _ HB.out) (fun hHeld => ?_)
    refine with_tabW rules_tab5 rules_bits5 (fun HT_ HW_ => ?_)
    generalize World.drew _ = wd at HB HF hHeld ⊢
    refine pU HT_ 1 (some 19) (oB 12 2) ?_
    refine pU HT_ 3 (some 21) (oB 12 10) ?_
    refine pU HT_ 4 (some 22) (oB 12 26) ?_
    refine pU HT_ 5 (some 23) (oB 12 58) ?_
    refine pU HT_ 7 (some 25) (oB 12 186) ?_
    refine take_ (i := 6) (N := some 24) (v := ?_) (a' := ?_) (oB 12 250) rfl rfl (take_ofW HT_.out HW_.out (by kernel_rfl)) (fun _ _ _ h => h) (Or.inl ⟨by rfl, ?_⟩) hHeld ?_ ?_
    rotate_left
    ·rintro w' ⟨s0, s1, s2, s3, s4⟩
     go_simp
     with_reducible rfl
    rotate_left
    ·simp only [Act.put, List.setIfInBounds_toArray, List.set_cons_zero, List.set_cons_succ, i64_w, i32_w]
     rfl
    refine one_ (i := 0) (N := some 18) (oB 12 251) rfl rfl (one_of HT_.out (by kernel_rfl)) (by decide) (fun K hK => ?_)
    refine Kd.R_lit_step k96 wd.heap.size 96 ?hg (N := 18) ?hd (xs := ([] : List S96)) (inner := []) (ok := fun b => wd.heap.size ≤ b) (okp := fun b => wd.heap.size ≤ b) ?hr ?hp (fun _ hk => hk) (Nat.le_refl _) (Below.refl _ _) (Nat.le_refl _) (by simp) ?_; (case hd => rfl); (case hg => rfl); (case hr => first | (go_simp; done) | (go_simp; rfl)); (case hp => exact (Reps.none _ _))
    intro v18 w18 ho hb hg_ hn_
    clear hg_ hn_
    have HO := Aside0.mk (Kd.N_mono (ok' := (fun b => w.heap.size ≤ b)) (Kd.R_N ho) (fun b hk => Nat.le_trans (below_size HB.out) hk))
    have HD := Aside0.mk hb
    clear ho hb
    refine hK.out _ _ (HX.out _ (below_step HB.out HD.out)) (fun hHeld => ?_)
    clear hK K
    refine nM ?_
    refine one_ (i := 2) (N := some 20) (oB 12 255) rfl rfl (one_of HT_.out (by kernel_rfl)) (by decide) (fun K hK => ?_)
    have hap := rules_old HF.out HD.out HO.out
    refine Kd.N_append_rows_step k96 (w0 := wd) wd.heap.size (by rfl) (.tmp 18) (.tmp 19) 33 96 (.agg #[(.int .i64 0), (.slice none 0 0), (.int .i64 0), (.slice none 0 0), (.int .i64 0)]) 72 rfl Tryd.underlying33 info96 rfl (by decide) (by omega) v18 [] out _ _ _ (fun b => w.heap.size ≤ b) _ rfl rfl HO.out hap.1 hap.2 ?aF HD.out (below_size HD.out) ?aL ?_
    (case aF => exact fun b hk => Nat.le_trans (below_size (below_step HB.out HD.out)) hk)
    (case aL => have := HL.out; have := HT.out; have := HJ.out; simp only [List.length_nil]; omega)
    intro v20 w20 ho hb hg_ hn_
    clear hg_ hn_ hap HO HD
    rw [List.nil_append] at ho
    have HO := Aside0.mk ho
    have HD := Aside0.mk hb
    clear ho hb
    refine hK.out _ _ (HX.out _ (below_step HB.out HD.out)) (fun hHeld => ?_)
    clear hK K
    refine nM ?_
    refine one_ (i := 8) (N := some 26) (oB 12 511) rfl rfl (one_of HT_.out (by kernel_rfl)) (by decide) (fun K hK => ?_)
    refine goes_ Tryd.func49 (by kernel_rfl) rfl #[.agg #[.int .i64 x.f0, .int .i64 x.f1, .int .i64 x.f2, .slice A3 x.f3.length c3, .slice A4 x.f4.length c4], .int .i64 s] (by rfl) rfl rfl (by (try simp only [List.map_toArray, List.map_cons, List.map_nil]); first | done | rfl) ?_
    refine (make_walk s x.f0 x.f1 x.f2 A3 c3 x.f3 A4 c4 x.f4 _ HS.out (Kd.C_below HG.out.1 (below_step HB.out HD.out)) (Kd.C_below HG.out.2 (below_step HB.out HD.out))).mono ?_
    rintro e w26 ⟨v1, v3, rfl, r1, r3, hb⟩
    refine ⟨_, rfl, ?_⟩
    obtain ⟨A1, c1, e⟩ := Kd.R_slice r1
    subst e
    obtain ⟨A2, c2, e⟩ := Kd.R_slice r3
    subst e
    have HP := Aside0.mk (rules_elem (x := makeX s x) HO.out (below_step HB.out HD.out) r1 r3)
    replace HO := Aside0.mk (Kd.N_below HO.out hb)
    replace HD := Aside0.mk (below_step HD.out hb)
    clear r1 r3 hb
    refine hK.out _ _ (HX.out _ (below_step HB.out HD.out)) (fun hHeld => ?_)
    clear hK K
    refine nM ?_
    refine one_ (i := 9) (N := some 27) (oB 12 1023) rfl rfl (one_of HT_.out (by kernel_rfl)) (by decide) (fun K hK => ?_)
    refine value_ (w1 := ?_) (v := ?_) (by rfl) rfl ?_ ?_
    rotate_left 2
    ·go_simp
     constructor
     ·rfl
     ·rfl
    refine hK.out _ _ (HX.out _ (below_alloc (below_step HB.out HD.out) _)) (fun hHeld => ?_)
    clear hK K
    refine nM ?_
    refine one_ (i := 10) (N := some 28) (oB 12 2047) rfl rfl (one_of HT_.out (by kernel_rfl)) (by decide) (fun K hK => ?_)
    refine Kd.N_append_step k96 (w0 := wd) wd.heap.size (by rfl) (.tmp 20) (.tmp 27) 33 96 (.agg #[(.int .i64 0), (.slice none 0 0), (.int .i64 0), (.slice none 0 0), (.int .i64 0)]) 72 rfl Tryd.underlying33 info96 rfl (by decide) (by omega) v20 out (makeX s x) [.int .i64 (makeX s x).f0, .slice A1 (makeX s x).f1.length c1, .int .i64 (makeX s x).f2.f0, .slice A2 (makeX s x).f2.f1.length c2, .int .i64 (makeX s x).f3] (fun b => w.heap.size ≤ b) (fun b => w.heap.size ≤ b ∧ some b ≠ v20.ownBlock) rfl rfl HP.out (fun _ hk => hk) ?aF HO.out HD.out (below_size HD.out) ?aL ?_
    (case aF => exact fun b hk => Nat.le_trans (below_size (below_step HB.out HD.out)) hk)
    (case aL => have := HL.out; have := HT.out; have := HJ.out; omega)
    intro v28 w28 ho hb hg_ hn_
    clear hg_ hn_ HO HD HP
    rw [← HY.out] at ho
    have HO := Aside0.mk ho
    have HD := Aside0.mk hb
    clear ho hb
    refine hK.out _ _ (HX.out _ (below_step HB.out HD.out)) (fun hHeld => ?_)
    clear hK K
    refine nM ?_
    refine pU HT_ 11 (some 7) (oB 12 4095) ?_
    refine done_ (done_of HT_.out (by kernel_rfl)) ?_
    clear hHeld HT_ HW_
    have e := Kd.N_slice HO.out
    obtain ⟨A9, c9, e⟩ := e
    subst e
    cases b
    all_goals
     go_wp2_with (first
      | (go_at_call 50; (with_reducible refine (interlocutorref4_Check.calls _ _ y _ _ (Kd.N_reads' HO.out).2.2 (Kd.N_reads' HO.out).2.1 HCK.out).mono ?_); rintro e w' ⟨rfl, hb⟩; replace HF := Aside0.mk (Kd.F_below (Kd.F_below HF.out HD.out) hb); replace HO := Aside0.mk (Kd.N_below HO.out hb); replace HB := Aside0.mk (below_step HB.out (below_step HD.out hb)); clear hb HD))
     go_roundg k1
     case measure => have := HJ.out; have := HT.out; omega
     case rel => first | (exact ⟨n + 1, _, A, c, out, rfl, rfl, ⟨by have := HI.out; have := HT.out; have := HJ.out; unfold wrap64; omega⟩, ⟨by have := HJ.out; have := HN.out; omega⟩, ⟨by simpa using HR.out⟩, ⟨by have := HL.out; omega⟩, ⟨Kd.F_mono HF.out (fun b hb => hb.1)⟩, HB⟩) | (exact ⟨n + 1, _, A9, c9, y, rfl, rfl, ⟨by have := HI.out; have := HT.out; have := HJ.out; unfold wrap64; omega⟩, ⟨by have := HJ.out; have := HN.out; omega⟩, ⟨by simpa using HR.out⟩, ⟨by have := HL.out; have := (Kd.N_reads' HO.out).2.1; have := congrArg List.length HY.out; simp only [List.length_append, List.length_singleton] at this; omega⟩, ⟨Kd.N_F HO.out⟩, HB⟩)
   ·have hcase : decide (i < (l.length : Int)) = false ∨ (decide (i < (l.length : Int)) = true ∧ decide (i < 20) = false) := by
     have := HI.out
     have := HT.out
     by_cases h : i < (l.length : Int)
     ·exact .inr ⟨decide_eq_true h, decide_eq_false (by omega)⟩
     ·exact .inl (decide_eq_false h)
    have e := HR.out
    rw [List.drop_eq_nil_of_le (by omega)] at e
    obtain rfl := Option.some.inj e
    rcases hcase with d1 | ⟨d1, d2⟩
    all_goals
     go_wp2
     go_ret
     exact ⟨_, _, rfl, HL.out.2, HF.out, HB.out⟩
end Go.Proofs.YtjijikgandkphaaDoor.G
