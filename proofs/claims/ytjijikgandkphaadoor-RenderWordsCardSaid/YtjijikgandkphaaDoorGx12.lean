import Derived.Test.YtjijikgandkphaaDoorGx0
namespace Go.Proofs.YtjijikgandkphaaDoor.G
open Go.RowKit Go.Proofs.YtjijikgandkphaaDoorW.PrintWords Go.Proofs.YtjijikgandkphaaDoorW.PrintLast Go.Proofs.YtjijikgandkphaaDoorW.PrintMore Go.Proofs.YtjijikgandkphaaDoorW.VWords Go.Proofs.YtjijikgandkphaaDoorW.Tab
attribute [local go_sem] max2_int min2_int max_two min_two max_three min_three max_four min_four
set_option linter.unusedVariables false
set_option linter.unusedSimpArgs false
def putP (n : Int) : List Int → Nat
 | [] => 0
 | x :: xs => if x < n then putP n xs + 1 else 0
def putF (l : List Int) (n : Int) : List Int := if l[putP n l]? = some n then l else (l.take (putP n l) ++ [n]) ++ l.drop (putP n l)
def interlocutorref4_put.f (l : List Int) (n : Int) : Option (List Int) := if l.length < 1000000 then some (putF l n) else none
theorem put4_tab : rtab .any (opsOf Tryd.f81 6) = (true, [([], []), ([], []), ([], []), ([1, 2], [1, 2]), ([0, 3], [0, 3]), ([], []), ([5], [5]), ([4, 6, 4], [4, 6]), ([], []), ([], []), ([8, 9], [8, 9]), ([7, 10, 7], [7, 10]), ([11, 11, 0, 1, 2, 3, 4, 5, 6, 7, 8, 9, 10, 11], [11])]) := by kernel_rfl
theorem put4_bits : waitsOk [(([] : List Nat), ([] : List Nat)), ([], []), ([], []), ([1, 2], [1, 2]), ([0, 3], [0, 3]), ([], []), ([5], [5]), ([4, 6, 4], [4, 6]), ([], []), ([], []), ([8, 9], [8, 9]), ([7, 10, 7], [7, 10]), ([11, 11, 0, 1, 2, 3, 4, 5, 6, 7, 8, 9, 10, 11], [11])] [0, 0, 0, 6, 15, 0, 32, 127, 0, 0, 768, 2047, 4095] = true := by kernel_rfl
theorem putP_at (n : Int) (l : List Int) (m : Nat) (i : Int) (hi : i = (m : Int)) (hm : m < l.length) : putP n (l.drop m) = if rd l i < n then putP n (l.drop (m + 1)) + 1 else 0 := by
 subst hi
 rw [List.drop_eq_getElem_cons hm, putP, rd, Int.toNat_natCast, List.getD_eq_getElem?_getD, List.getElem?_eq_getElem hm]
 rfl
set_option maxHeartbeats 8000000 in
set_option maxRecDepth 100000 in
theorem put4_walk (l : List Int) (n : Int) (A : Option Addr) (c : Nat) (w : World) (hl : l.length < 1000000) (hc : l.length ≤ c) (hC : Kd.C (Kd.int .i64) w A l.length l) :
  Calls Tryd.prog 81 #[.slice A l.length c, .int .i64 n] w fun e w' => ∃ v, e = .returned v ∧ Below w.heap.size w w' ∧ ((v = .slice A l.length c ∧ putF l n = l) ∨ Kd.R (Kd.int .i64) 3 w' w.heap.size (fun k_ => w.heap.size ≤ k_) v (putF l n)) := by
 have hu25 := Tryd.underlying36
 have HC := Aside0.mk hC
 have HL := Aside0.mk hl
 have HCC := Aside0.mk hc
 have HB := Aside0.mk (Below.refl w.heap.size w)
 clear hC hl hc
 go_enter Tryd.func81, Tryd.ntmps81
 go_wp2
 go_loopg [5] (l.length + 1) (fun kq v5 w' => ∃ (m : Nat) (i : Int), v5 = .int .i64 i ∧ Aside0 (i = (m : Int)) ∧ Aside0 (m ≤ l.length ∧ kq + m = l.length + 1) ∧ Aside0 (m + putP n (l.drop m) = putP n l) ∧ Aside0 (Below w.heap.size w w'))
 case atStart => exact ⟨0, 0, rfl, ⟨rfl⟩, ⟨by omega, rfl⟩, ⟨Nat.zero_add _⟩, HB⟩
 case round =>
  clear HB
  obtain ⟨m, i, rfl, HI, HJ, HP, HB⟩ := hrel
  cases gk with
  | zero => exact absurd HJ.out (by omega)
  | succ k1 =>
   have hc := Kd.C_below HC.out HB.out
   by_cases hn : m < l.length ∧ rd l i < n
   ·have cb : decide (i < (l.length : Int)) = true := decide_eq_true (by have := HI.out; omega)
    have cc : decide (rd l i < n) = true := decide_eq_true hn.2
    have p0 : 0 ≤ i := by have := HI.out; omega
    have q0 : i < (l.length : Int) := by have := HI.out; omega
    obtain ⟨ad, e, hx⟩ := Kd.at_int hc i p0 q0
    subst e
    go_wp2
    go_roundg k1
    case measure => have := HJ.out; omega
    case rel => exact ⟨m + 1, _, rfl, ⟨by have := HI.out; have := HL.out; first | omega | (unfold wrap64; omega)⟩, ⟨by have := HJ.out; omega⟩, ⟨by have := HP.out; rw [putP_at n l m i HI.out hn.1, if_pos hn.2] at this; omega⟩, HB⟩
   ·have hz : putP n (l.drop m) = 0 := by
     by_cases h1 : m < l.length
     ·rw [putP_at n l m i HI.out h1, if_neg (fun h => hn ⟨h1, h⟩)]
     ·rw [List.drop_eq_nil_of_le (by omega)]
      rfl
    have HM := Aside0.mk (show putP n l = m by have := HP.out; omega)
    clear HP hz
    have hcase : (m < l.length ∧ rd l i = n) ∨ (m < l.length ∧ ¬ rd l i = n ∧ ¬ rd l i < n) ∨ l.length ≤ m := by
     by_cases h1 : m < l.length
     ·by_cases h2 : rd l i = n
      ·exact .inl ⟨h1, h2⟩
      ·exact .inr (.inl ⟨h1, h2, fun h => hn ⟨h1, h⟩⟩)
     ·exact .inr (.inr (by omega))
    clear hn
    rcases hcase with h | h
    ·have cb : decide (i < (l.length : Int)) = true := decide_eq_true (by have := HI.out; omega)
     have cc : decide (rd l i < n) = false := decide_eq_false (by omega)
     have ce : (rd l i == n) = true := beq_iff_eq.mpr h.2
     have p0 : 0 ≤ i := by have := HI.out; omega
     have q0 : i < (l.length : Int) := by have := HI.out; omega
     have hg : l[m]? = some n := by
      rw [← h.2, rd, List.getD_eq_getElem?_getD, show i.toNat = m by have := HI.out; omega, List.getElem?_eq_getElem h.1]
      rfl
     obtain ⟨ad, e, hx⟩ := Kd.at_int hc i p0 q0
     subst e
     go_wp2
     go_ret
     exact ⟨_, rfl, HB.out, .inl ⟨rfl, by rw [putF, HM.out, if_pos hg]⟩⟩
    have hg : ¬ l[m]? = some n := by
     rcases h with h | h
     ·rw [List.getElem?_eq_getElem h.1]
      intro e
      apply h.2.1
      rw [rd, List.getD_eq_getElem?_getD, show i.toNat = m by have := HI.out; omega, List.getElem?_eq_getElem h.1]
      exact Option.some.inj e
     ·rw [List.getElem?_eq_none h]
      exact fun e => by cases e
    have HF := Aside0.mk (show putF l n = (l.take i.toNat ++ [n]) ++ l.drop i.toNat by rw [putF, HM.out, if_neg hg, show i.toNat = m by have := HI.out; omega])
    have p0 : 0 ≤ i := by have := HI.out; omega
    have q1 : i ≤ (l.length : Int) := by have := HI.out; have := HJ.out; omega
    obtain ⟨i0, hi0, _, hsz, _⟩ := info_parts info3
    obtain ⟨hcut15, hrd15, hln15⟩ := print_take_of (P := Tryd.prog) (Value.int .i64) 0 36 3 .i64 Tryd.underlying36 hi0 hsz A c l i p0 q1 HCC.out
    obtain ⟨A2, hcut16, hrd16, hln16⟩ := print_drop_of (P := Tryd.prog) (Value.int .i64) 0 36 3 .i64 Tryd.underlying36 hi0 hsz A c l i p0 q1 HCC.out
    obtain ⟨tk, htk⟩ : ∃ t, t = l.take i.toNat := ⟨_, rfl⟩
    obtain ⟨dr, hdr⟩ : ∃ t, t = l.drop i.toNat := ⟨_, rfl⟩
    have HTK := Aside0.mk (show tk.length ≤ l.length ∧ dr.length ≤ l.length by rw [htk, hdr, List.length_take, List.length_drop]; omega)
    rw [← htk] at hcut15 hrd15 hln15
    rw [← hdr] at hcut16 hrd16 hln16
    rw [← htk, ← hdr] at HF
    clear htk hdr
    have R15 := Aside0.mk (fun (w' : World) (hb : Below w.heap.size w w') => Kd.C_of_reads (d := (0 : Int)) (h1 := fun _ => rfl) (hrd15 w' (Kd.reads_of_C (enc := Value.int .i64) (d := (0 : Int)) (h1 := fun _ => rfl) (Kd.C_below HC.out hb))))
    have R16 := Aside0.mk (fun (w' : World) (hb : Below w.heap.size w w') => Kd.C_of_reads (d := (0 : Int)) (h1 := fun _ => rfl) (hrd16 w' (Kd.reads_of_C (enc := Value.int .i64) (d := (0 : Int)) (h1 := fun _ => rfl) (Kd.C_below HC.out hb))))
    clear hrd15 hrd16 hg HM hi0 hsz HJ
    rcases h with h | h
    case' inl =>
     have cb : decide (i < (l.length : Int)) = true := decide_eq_true (by have := HI.out; omega)
     have cc : decide (rd l i < n) = false := decide_eq_false h.2.2
     have ce : (rd l i == n) = false := by simpa using h.2.1
     have q0 : i < (l.length : Int) := by have := HI.out; omega
     obtain ⟨ad, e, hx⟩ := Kd.at_int hc i p0 q0
     subst e
     go_wp2
    case' inr =>
     have cb : decide (i < (l.length : Int)) = false := decide_eq_false (by have := HI.out; omega)
     go_wp2
    all_goals
     refine start_ (n := 13) (S := fun _ => True) (ds := []) #[false, false, false, false, false, false, false, false, false, false, false, false, false] (by kernel_rfl) rfl rfl trivial (fun hHeld => ?_)
     refine with_tabW put4_tab put4_bits (fun HT_ HW_ => ?_)
     have HW := Aside0.mk (below_drew1 HB.out)
     generalize World.drew _ = wd at HW ⊢
     refine pU HT_ 1 (some 34) (oB 13 2) ?_
     refine pU HT_ 2 (some 35) (oB 13 6) ?_
     refine pU HT_ 3 (some 36) (oB 13 14) ?_
     refine pU HT_ 5 (some 38) (oB 13 46) ?_
     refine pU HT_ 8 (some 41) (oB 13 302) ?_
     refine pU HT_ 9 (some 42) (oB 13 814) ?_
     refine pU HT_ 10 (some 43) (oB 13 1838) ?_
     refine join_ (σ := Value × Value × Option Addr × Nat) 3 (oB 13 1919) (fun s => [(33, s.1), (37, s.2.1), (39, .slice s.2.2.1 1 s.2.2.2)]) (fun s w' => Below wd.heap.size wd w' ∧ (Kd.int .i64).R 3 w' wd.heap.size (fun _ => True) s.2.1 tk ∧ (Kd.int .i64).C w' s.2.2.1 1 [n]) ?_ ?_
     rotate_left
     ·intro hCont
      refine two_ (i := 0) (j := 6) (Ni := some 33) (Nj := some 39) (oB 13 1839) (oB 13 1902) rfl rfl rfl rfl (two_of HT_.out (by kernel_rfl)) (by decide) (by decide) (fun K hK => ?_) (fun K hK => ?_)
      ·skip
       refine Kd.R_lit_step (Kd.int .i64) _ 3 ?hg (N := 33) ?hd (xs := ([] : List Int)) (inner := []) (ok := fun _ => True) (okp := fun _ => True) ?hr ?hp (fun _ hk => hk) trivial (Below.refl _ _) (Nat.le_refl _) (by simp) ?_; (case hd => rfl); (case hg => rfl); (case hr => first | (go_simp; done) | (go_simp; rfl)); (case hp => exact (Reps.none _ _))
       intro v33 w33 ho hb hg_ hn_
       clear hg_ hn_
       have HO33 := Aside0.mk ho
       have HD33 := Aside0.mk hb
       clear ho hb
       refine hK.out _ _ trivial (fun hHeld => ?_)
       clear hK K
       refine nM ?_
       refine two_ (i := 4) (j := 6) (Ni := some 37) (Nj := some 39) (oB 13 1855) (oB 13 1903) rfl rfl rfl rfl (two_of HT_.out (by kernel_rfl)) (by decide) (by decide) (fun K hK => ?_) (fun K hK => ?_)
       ·skip
        refine Kd.R_append_rows_step (Kd.int .i64) (w0 := wd) wd.heap.size (by rfl) (.tmp 33) (.tmp 36) 36 3 (.int .i64 0) 8 rfl Tryd.underlying36 info3 rfl (by decide) (by omega) v33 [] tk _ _ _ (fun _ => True) (fun k_ => True ∧ some k_ ≠ (v33 : Value).ownBlock) rfl rfl HO33.out (R15.out _ (below_step HW.out HD33.out)) (fun x cs h => h) (fun _ hk => hk) (fun _ _ => trivial) HD33.out (below_size HD33.out) ?aL ?_
        (case aL => have := HL.out; have := HTK.out; (try simp only [List.length_append, List.length_nil, List.length_cons]); omega)
        intro v37 w37 ho hb hg_ hn_
        clear hg_ hn_
        have HO37 := Aside0.mk ho
        have HD37 := Aside0.mk hb
        clear ho hb
        refine hK.out _ _ trivial (fun hHeld => ?_)
        clear hK K
        refine nM ?_
        refine one_ (i := 6) (N := some 39) (oB 13 1919) rfl rfl (one_of HT_.out (by kernel_rfl)) (by decide) (fun K hK => ?_)
        refine Kd.R_lit_step (Kd.int .i64) _ 3 ?hg (N := 39) ?hd (xs := ([n] : List Int)) (inner := [.int .i64 n]) (ok := fun _ => True) (okp := fun _ => True) ?hr ?hp (fun _ hk => hk) trivial (Below.refl _ _) (Nat.le_refl _) (by simp) ?_; (case hd => rfl); (case hg => rfl); (case hr => first | (go_simp; done) | (go_simp; rfl)); (case hp => exact (Reps.one (show Kd.M (Kd.int .i64) _ _ _ n [.int .i64 n] from rfl) (Reps.none _ _)))
        intro v39 w39 ho hb hg_ hn_
        clear hg_ hn_
        have HO39 := Aside0.mk ho
        have HD39 := Aside0.mk hb
        clear ho hb
        obtain ⟨A9, c9, e⟩ := Kd.R_slice HO39.out
        subst e
        refine hK.out _ _ trivial (fun hHeld => ?_)
        clear hK K
        refine nM ?_
        exact nJ (hCont (v33, v37, A9, c9) w39 ⟨below_step HD37.out HD39.out, Kd.R_below HO37.out HD39.out, (Kd.R_reads' HO39.out).2.2⟩)
       ·skip
        refine Kd.R_lit_step (Kd.int .i64) _ 3 ?hg (N := 39) ?hd (xs := ([n] : List Int)) (inner := [.int .i64 n]) (ok := fun _ => True) (okp := fun _ => True) ?hr ?hp (fun _ hk => hk) trivial (Below.refl _ _) (Nat.le_refl _) (by simp) ?_; (case hd => rfl); (case hg => rfl); (case hr => first | (go_simp; done) | (go_simp; rfl)); (case hp => exact (Reps.one (show Kd.M (Kd.int .i64) _ _ _ n [.int .i64 n] from rfl) (Reps.none _ _)))
        intro v39 w39 ho hb hg_ hn_
        clear hg_ hn_
        have HO39 := Aside0.mk ho
        have HD39 := Aside0.mk hb
        clear ho hb
        obtain ⟨A9, c9, e⟩ := Kd.R_slice HO39.out
        subst e
        refine hK.out _ _ trivial (fun hHeld => ?_)
        clear hK K
        refine nM ?_
        refine one_ (i := 4) (N := some 37) (oB 13 1919) rfl rfl (one_of HT_.out (by kernel_rfl)) (by decide) (fun K hK => ?_)
        have HD := Aside0.mk (below_step HD33.out HD39.out)
        refine Kd.R_append_rows_step (Kd.int .i64) (w0 := wd) wd.heap.size (by rfl) (.tmp 33) (.tmp 36) 36 3 (.int .i64 0) 8 rfl Tryd.underlying36 info3 rfl (by decide) (by omega) v33 [] tk _ _ _ (fun _ => True) (fun k_ => True ∧ some k_ ≠ (v33 : Value).ownBlock) rfl rfl (Kd.R_below HO33.out HD39.out) (R15.out _ (below_step HW.out HD.out)) (fun x cs h => h) (fun _ hk => hk) (fun _ _ => trivial) HD.out (below_size HD.out) ?aL ?_
        (case aL => have := HL.out; have := HTK.out; (try simp only [List.length_append, List.length_nil, List.length_cons]); omega)
        intro v37 w37 ho hb hg_ hn_
        have HO37 := Aside0.mk ho
        have HD37 := Aside0.mk hb
        have HC9 := Aside0.mk (Kd.R_grown (Kd.R_mono (ok' := fun k => w33.heap.size ≤ k) (Kd.R_bound HO39.out) (fun k hk => hk.2.1)) hg_ (fun k hk he => by have := Kd.R_lt HO33.out k he.symm; omega))
        clear ho hb hg_ hn_
        refine hK.out _ _ trivial (fun hHeld => ?_)
        clear hK K
        refine nM ?_
        exact nJ (hCont (v33, v37, A9, c9) w37 ⟨HD37.out, HO37.out, (Kd.R_reads' HC9.out).2.2⟩)
      ·skip
       refine Kd.R_lit_step (Kd.int .i64) _ 3 ?hg (N := 39) ?hd (xs := ([n] : List Int)) (inner := [.int .i64 n]) (ok := fun _ => True) (okp := fun _ => True) ?hr ?hp (fun _ hk => hk) trivial (Below.refl _ _) (Nat.le_refl _) (by simp) ?_; (case hd => rfl); (case hg => rfl); (case hr => first | (go_simp; done) | (go_simp; rfl)); (case hp => exact (Reps.one (show Kd.M (Kd.int .i64) _ _ _ n [.int .i64 n] from rfl) (Reps.none _ _)))
       intro v39 w39 ho hb hg_ hn_
       clear hg_ hn_
       have HO39 := Aside0.mk ho
       have HD39 := Aside0.mk hb
       clear ho hb
       obtain ⟨A9, c9, e⟩ := Kd.R_slice HO39.out
       subst e
       refine hK.out _ _ trivial (fun hHeld => ?_)
       clear hK K
       refine nM ?_
       refine one_ (i := 0) (N := some 33) (oB 13 1903) rfl rfl (one_of HT_.out (by kernel_rfl)) (by decide) (fun K hK => ?_)
       refine Kd.R_lit_step (Kd.int .i64) _ 3 ?hg (N := 33) ?hd (xs := ([] : List Int)) (inner := []) (ok := fun _ => True) (okp := fun _ => True) ?hr ?hp (fun _ hk => hk) trivial (Below.refl _ _) (Nat.le_refl _) (by simp) ?_; (case hd => rfl); (case hg => rfl); (case hr => first | (go_simp; done) | (go_simp; rfl)); (case hp => exact (Reps.none _ _))
       intro v33 w33 ho hb hg_ hn_
       clear hg_ hn_
       have HO33 := Aside0.mk ho
       have HD33 := Aside0.mk hb
       clear ho hb
       refine hK.out _ _ trivial (fun hHeld => ?_)
       clear hK K
       refine nM ?_
       refine one_ (i := 4) (N := some 37) (oB 13 1919) rfl rfl (one_of HT_.out (by kernel_rfl)) (by decide) (fun K hK => ?_)
       have HD := Aside0.mk (below_step HD39.out HD33.out)
       refine Kd.R_append_rows_step (Kd.int .i64) (w0 := wd) wd.heap.size (by rfl) (.tmp 33) (.tmp 36) 36 3 (.int .i64 0) 8 rfl Tryd.underlying36 info3 rfl (by decide) (by omega) v33 [] tk _ _ _ (fun _ => True) (fun k_ => True ∧ some k_ ≠ (v33 : Value).ownBlock) rfl rfl (Kd.R_lower HO33.out (below_size HD39.out)) (R15.out _ (below_step HW.out HD.out)) (fun x cs h => h) (fun _ hk => hk) (fun _ _ => trivial) HD.out (below_size HD.out) ?aL ?_
       (case aL => have := HL.out; have := HTK.out; (try simp only [List.length_append, List.length_nil, List.length_cons]); omega)
       intro v37 w37 ho hb hg_ hn_
       have HO37 := Aside0.mk ho
       have HD37 := Aside0.mk hb
       have HC9 := Aside0.mk (Kd.R_grown (Kd.R_mono (ok' := fun k => k < w39.heap.size) (Kd.R_bound (Kd.R_below (Kd.R_mono (ok' := fun k => k < w39.heap.size) (Kd.R_bound HO39.out) (fun k hk => hk.2.2.1)) HD33.out)) (fun k hk => hk.1)) hg_ (fun k hk he => by have := Kd.R_base HO33.out k he.symm; omega))
       clear ho hb hg_ hn_
       refine hK.out _ _ trivial (fun hHeld => ?_)
       clear hK K
       refine nM ?_
       exact nJ (hCont (v33, v37, A9, c9) w37 ⟨HD37.out, HO37.out, (Kd.R_reads' HC9.out).2.2⟩)
     rintro ⟨v33, v37, A9, c9⟩ w37 ⟨hd, ho, hc9⟩
     refine norm_ (a' := ?_) ?_ ?_
     rotate_left
     ·simp only [putAll, Act.put, List.setIfInBounds_toArray, List.set_cons_zero, List.set_cons_succ]
      rfl
     have HO37 := Aside0.mk ho
     have HD37 := Aside0.mk hd
     have HC9 := Aside0.mk hc9
     clear hd ho hc9
     refine one_ (i := 7) (N := some 40) (oB 13 2047) rfl rfl (one_of HT_.out (by kernel_rfl)) (by decide) (fun K hK => ?_)
     refine Kd.R_append_rows_step (Kd.int .i64) (w0 := wd) wd.heap.size (by rfl) (.tmp 37) (.tmp 39) 36 3 (.int .i64 0) 8 rfl Tryd.underlying36 info3 rfl (by decide) (by omega) v37 tk [n] _ _ _ (fun _ => True) (fun k_ => True ∧ some k_ ≠ (v37 : Value).ownBlock) rfl rfl HO37.out HC9.out (fun x cs h => h) (fun _ hk => hk) (fun _ _ => trivial) HD37.out (below_size HD37.out) ?aL ?_
     (case aL => have := HL.out; have := HTK.out; (try simp only [List.length_append, List.length_nil, List.length_cons]); omega)
     intro v40 w40 ho hb hg_ hn_
     clear hg_ hn_
     have HO40 := Aside0.mk ho
     have HD40 := Aside0.mk hb
     clear ho hb
     refine hK.out _ _ trivial (fun hHeld => ?_)
     clear hK K
     refine nM ?_
     refine one_ (i := 11) (N := some 44) (oB 13 4095) rfl rfl (one_of HT_.out (by kernel_rfl)) (by decide) (fun K hK => ?_)
     refine Kd.R_append_rows_step (Kd.int .i64) (w0 := wd) wd.heap.size (by rfl) (.tmp 40) (.tmp 43) 36 3 (.int .i64 0) 8 rfl Tryd.underlying36 info3 rfl (by decide) (by omega) v40 (tk ++ [n]) dr _ _ _ (fun _ => True) (fun k_ => True ∧ some k_ ≠ (v40 : Value).ownBlock) rfl rfl HO40.out (R16.out _ (below_step HW.out HD40.out)) (fun x cs h => h) (fun _ hk => hk) (fun _ _ => trivial) HD40.out (below_size HD40.out) ?aL ?_
     (case aL => have := HL.out; have := HTK.out; (try simp only [List.length_append, List.length_nil, List.length_cons]); omega)
     intro v44 w44 ho hb hg_ hn_
     clear hg_ hn_
     have HO44 := Aside0.mk ho
     have HD44 := Aside0.mk hb
     clear ho hb
     refine hK.out _ _ trivial (fun hHeld => ?_)
     clear hK K
     refine nM ?_
     refine pU HT_ 12 (some 4) (oB 13 8191) ?_
     refine done_ (done_of HT_.out (by kernel_rfl)) ?_
     go_wp2
     go_ret
     exact ⟨_, rfl, below_step HW.out HD44.out, .inr (by rw [HF.out]; exact Kd.R_lower (Kd.R_mono (Kd.R_bound HO44.out) (fun k hk => Nat.le_trans (below_size HW.out) hk.2.1)) (below_size HW.out))⟩
end Go.Proofs.YtjijikgandkphaaDoor.G
