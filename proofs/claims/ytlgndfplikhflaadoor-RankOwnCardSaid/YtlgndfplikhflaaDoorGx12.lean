-- printed by wip/tool/gprint.py, a program of this work, out of the translation; Lean checks it
import Derived.Test.YtlgndfplikhflaaDoorGx0
import Derived.Test.YtlgndfplikhflaaDoorGx2
import Derived.Test.YtlgndfplikhflaaDoorGx3
import Derived.Test.YtlgndfplikhflaaDoorGx11
namespace Go.Proofs.YtlgndfplikhflaaDoor.G
open Go.RowKit Go.Proofs.YtlgndfplikhflaaDoorW.PrintWords Go.Proofs.YtlgndfplikhflaaDoorW.PrintLast Go.Proofs.YtlgndfplikhflaaDoorW.PrintMore Go.Proofs.YtlgndfplikhflaaDoorW.VWords Go.Proofs.YtlgndfplikhflaaDoorW.Tab
attribute [local go_sem] max2_int min2_int max_two min_two max_three min_three max_four min_four   -- for this text's walks alone
set_option linter.unusedVariables false
set_option linter.unusedSimpArgs false

/-! ### rank_Best: function 18 -/
theorem below_low {B : Nat} {w W : World} (h : Below w.heap.size w W) (hB : B ≤ w.heap.size) : Below B w W := ⟨h.os, h.tape, h.output, h.size, fun i hi => h.block i (Nat.lt_of_lt_of_le hi hB)⟩
theorem R_rows {α : Type} {d : Kd α} {e base n c : Nat} {w : World} {ok : Nat → Prop} {A : Option Addr} {xs : List α} (h : Kd.R d e w base ok (.slice A n c) xs) : ReadsRow (d.M w base ok) d.sz w A xs.length xs := by
  obtain ⟨A', c', he, hl, hr⟩ := OwnRow.reads h.2
  injection he with h1 h2 h3
  subst h1
  exact hr.imp_ (Below.refl _ _) (fun _ _ hp => d.M_mono (fun k hk => hk.1) hp)
set_option maxHeartbeats 4000000 in
set_option maxRecDepth 100000 in
/-- slices.Clone at the package's readings, of a row whose inner rows are one's own: so are the copy's, the same ones. -/
theorem clone_own (A0 : Option Addr) (c0 : Nat) (l0 : List S36) (w : World) (B : Nat) (P : Nat → Prop) (hB : B ≤ w.heap.size) (hr0 : Kd.R k36 36 w B P (.slice A0 l0.length c0) l0) (hlim : l0.length ≤ 1000000) :
    Calls Tryd.prog 27 #[.slice A0 l0.length c0] w fun e w' => ∃ v0_ : Value, e = .returned (v0_) ∧ Kd.R k36 36 w' B (fun k_ => P k_ ∨ w.heap.size ≤ k_) v0_ l0 ∧ Below w.heap.size w w' := by
  have HB := Aside0.mk (Below.refl w.heap.size w)
  have HBB := Aside0.mk hB
  have LM := Aside0.mk hlim
  have HR := Aside0.mk hr0
  clear hlim hr0 hB
  have hq := fun W => Lib.run_eql_slice_nil (P := Tryd.prog) W 28 36 A0 l0.length c0 0 0 Tryd.underlying28
  cases A0 with
  | none =>
    obtain rfl : l0 = [] := by
      rcases Nat.eq_zero_or_pos l0.length with h0 | h0
      · exact List.eq_nil_of_length_eq_zero h0
      · obtain ⟨ad, he, _⟩ := (Kd.R_reads' HR.out).2.2.2.2 h0
        cases he
    simp only [List.length_nil] at hq ⊢
    go_enter Tryd.func27, Tryd.ntmps27
    go_wp2
    go_ret
    exact ⟨_, rfl, Kd.R_nil _ _ _ _ _, HB.out⟩
  | some ad =>
    go_enter Tryd.func27, Tryd.ntmps27
    go_wp2_with (first
      | ((with_reducible refine gate_dst (N := 5) rfl ?_); refine Kd.R_lit k36 (w0 := w) w.heap.size 36 ?hg (N := 5) ?hd (xs := ([] : List S36)) (inner := []) (ok := fun k_ => P k_ ∨ w.heap.size ≤ k_) (okp := fun _ => False) ?hr ?hp (fun _ hk => hk.elim) (Or.inr (Nat.le_refl _)) (Below.refl _ _) (Nat.le_refl _) (by simp) ?_; (case hd => rfl); (case hg => rfl); (case hr => first | (go_simp; done) | (go_simp; rfl)); (case hp => exact Reps.none _ _); intro v5 w5 ho5 hb5 hg5 hn5; have HN5 := Aside0.mk hn5; have HO5 := Aside0.mk (Kd.R_lower ho5 HBB.out); clear HB; have HB := Aside0.mk hb5; clear ho5 hb5 hg5 hn5)
      | ((with_reducible refine gate_builtin (b := .append) (xs := #[.tmp 5, .tmp 6]) rfl ?_); at_builtin; refine Kd.R_append_rows k36 (Rr := k36.M w5 B (fun k_ => P k_ ∧ k_ < w.heap.size)) (w0 := w) B rfl (.tmp 5) (.tmp 6) 28 36 (.agg #[(.int .i64 0), (.slice none 0 0), (.int .i64 0)]) 40 rfl Tryd.underlying28 info36 rfl (by decide) (by decide) v5 ([] : List S36) l0 (some ad) l0.length c0 (fun k_ => P k_ ∨ w.heap.size ≤ k_) (fun k_ => P k_ ∧ k_ < w.heap.size) rfl rfl HO5.out ?aR (fun _ _ h => h) ?aP (fun k_ hk => Or.inr (Nat.le_trans HB.out.size hk)) (below_low HB.out HBB.out) (Nat.le_trans HBB.out (below_size HB.out)) ?aL ?_; (case aR => exact R_rows (Kd.R_below (Kd.R_mono (Kd.R_bound HR.out) (fun k_ hk => ⟨hk.1, hk.2.2.1⟩)) HB.out)); (case aP => intro k_ hk; refine ⟨Or.inl hk.1, fun he => ?_⟩; obtain ⟨b, hb1, hb2⟩ := HN5.out; rw [hb1] at he; injection he with he; have := hk.2; omega); (case aL => have := LM.out; simp only [List.length_nil]; omega); intro v7 w7 ho hb hg hat; have HO7 := Aside0.mk ho; have HB7 := Aside0.mk (pw_below_grown HB.out _ (below_size HB.out) hg (fun k hk => by obtain ⟨b, hb1, hb2⟩ := HN5.out; rw [hb1] at hk; injection hk with hk; omega)); clear ho hb hg hat))
    go_ret
    exact ⟨_, rfl, by have h := HO7.out; rw [List.nil_append] at h; exact h, HB7.out⟩
section
variable {P : Program} {ops_ : Array Oper} {rest : List Oper} {o : Oper} {a : Act} {Q : Exit → Act → World → Prop} {α : Type}
/-- make([]T, 0, c). -/
theorem N_make0 (d : Kd α) {w0 W : World} (base e : Nat) (hgd : o.guard = none) {N' : Tmp} (hd : o.dst = some N') (t : TypeId) (x y : Operand) (ho : o.op = .makeSlice t x y) (c : Nat) (hx : a.eval x = .int .i64 0) (hy : a.eval y = .int .i64 (c : Int))
    (ht : P.underlying t = some (.slice e)) (z : Value) (bytes : Nat) (hinfo : (P.info? e).map (fun i => (i.zero, i.size, i.bytes)) = some (some z, d.sz, bytes)) {ok : Nat → Prop} (hfresh : ∀ k, W.heap.size ≤ k → ok k) (hl : bytes * c ≤ 281474976710656) (hc : c ≤ maxLen) (HB : Below base w0 W) (hbase : base ≤ W.heap.size)
    (h : ∀ v1 w1, Kd.N d e w1 base ok v1 [] → Below base w0 w1 → wpList P ops_ Q rest (a.put o.dst v1) w1) :
    wpList P ops_ Q (o :: rest) a W := by
  obtain ⟨i0, hi, hzz⟩ := Option.map_eq_some_iff.1 hinfo
  simp only [Prod.mk.injEq] at hzz
  obtain ⟨hz0, hz1, hz2⟩ := hzz
  obtain ⟨w1, hr, hown, hg⟩ := Go.run_make_own (P := P) (w := W) base t e i0 z d.sz ht hi hz0 hz1 .i64 .i64 c (by rw [hz2]; exact hl) hc hbase
  refine Kd.event_run hgd (v := .slice (some ⟨W.heap.size, 0, none⟩) 0 c) (w1 := w1) ?_ (h _ _ ⟨?_, [], rfl, ⟨fun k hk => hk.symm, [], hown, Reps.none _ _⟩, fun j x c hx => by simp at hx⟩ (HB.grown hg hbase (fun k hk => by cases hk)))
  · simp [execOp, ho, hx, hy, hr]
  · intro k hk
    exact hfresh k (by have : W.heap.size = k := by simpa [Value.ownBlock] using hk
                       omega)
end
theorem size_set1 (w : World) (a : Addr) (v : Value) : (w.setCell a v).heap.size = w.heap.size := by simp
theorem size_alloc1 (w : World) (o : Obj) : (w.alloc o).heap.size = w.heap.size + 1 := by simp
/-- A reading's code. -/
def codeB (r : S36) : List UInt8 := codeBytes r.f0.f0 r.f0.f1
def codeOf (r : S36) : ByteArray := ⟨(codeB r).toArray⟩
/-- What the loop does with a row that is in order. -/
def bestL (m : Int) : List (List UInt8) → List S36 → List S36 → List S36 × Bool
  | _, out, [] => (out, false)
  | seen, out, r :: s => if codeB r ∈ seen then bestL m (codeB r :: seen) out s else if (out.length : Int) ≥ mx m 0 then (out, true) else bestL m (codeB r :: seen) (out ++ [r]) s
/-- The map counts the codes. -/
def Cnt (D : DataW Unit) (l : List S36) : Prop := Go.Maps.IsMap D ∧ ∀ c : List UInt8, D.atKey (.string c) (.lit (.int .i64 0)) = .lit (.int .i64 (((l.map codeB).count c : Nat) : Int))
theorem Cnt_nil : Cnt (.map []) [] := ⟨Go.Maps.isMap_empty, fun c => rfl⟩
theorem Cnt_put {D : DataW Unit} {l : List S36} (h : Cnt D l) (x : S36) (k : Nat) (hk : k = (l.map codeB).count (codeB x)) : Cnt (D.put (.string (codeB x)) (.lit (.int .i64 ((k + 1 : Nat) : Int)))) (l ++ [x]) := by
  refine ⟨h.1.put _ _, fun c => ?_⟩
  rw [List.map_append, List.count_append, List.map_cons, List.map_nil, List.count_singleton]
  by_cases e : c = codeB x
  · subst e
    rw [Go.Maps.atKey_put_same h.1 (by simp [WideAt.IsKeyLit]), hk]
    simp
  · have hne : Lit.string c ≠ Lit.string (codeB x) := fun h => e (by injection h)
    rw [Go.Maps.atKey_put_other hne, h.2 c]
    have : (codeB x == c) = false := by simpa using fun h => e h.symm
    simp [this]
theorem cnt_is {D : DataW Unit} {l : List S36} (h : Cnt D l) {x : S36} {k : Nat} (hk : k = (l.map codeB).count (codeB x)) {c : Int} (hat : D.atKey (.string (codeB x)) (.lit (.int .i64 0)) = .lit (.int .i64 c)) : c = (k : Int) := by
  rw [h.2, ← hk] at hat
  injection hat with hat
  injection hat with _ hat
  exact hat.symm
theorem wf_small (k : Nat) (h : k ≤ 2000000) : (Lit.int .i64 ((k : Nat) : Int)).wf = true := by simp [Lit.wf, IntKind.min, IntKind.max, IntKind.bits, IntKind.signed]; omega
theorem zero_int (w : World) : (zeroValue 3).run Tryd.prog w = .ok (.int .i64 0) w := by kernel_rfl
def okR (r : S36) : Prop := (-9223372036854775808 ≤ r.f0.f0 ∧ r.f0.f0 ≤ 9223372036854775807) ∧ (∀ x ∈ r.f0.f1, -9223372036854775808 ≤ x ∧ x ≤ 9223372036854775807) ∧ r.f0.f1.length ≤ 1000000
theorem code_ok (r : S36) (h : okR r) : rank_Code.f r.f0.f0 r.f0.f1 = some (codeOf r) := by unfold rank_Code.f; unfold okR at h; rw [if_pos h]; rfl
theorem code_key (r : S36) (h : okR r) : keyOf Tryd.prog 9 (.string (codeOf r)) = some (.string (codeB r)) := by
  have hl := codeBytes_len r.f0.f0 r.f0.f1 h.1 h.2.1
  have h3 := h.2.2
  have hs : (codeOf r).size ≤ maxLen := by
    show (codeB r).toArray.size ≤ maxLen
    rw [List.size_toArray]
    unfold codeB maxLen
    omega
  rw [WideMaps.keyOf_string_mk Tryd.underlying9 hs]
  simp [codeOf]
theorem R_grown' {α : Type} {d : Kd α} {e base : Nat} {ok : Nat → Prop} {w w1 : World} {v : Value} {xs : List α} {row : Option Nat} (h : Kd.R d e w base ok v xs) (hg : w.grownBy w1 row) (hok : ∀ k, ok k → some k ≠ row) : Kd.R d e w1 base ok v xs := Kd.R_step h (fun k ho hk => hg.block k hk (hok k ho))
theorem R_bound' {α : Type} {d : Kd α} {e base : Nat} {ok : Nat → Prop} {w : World} {v : Value} {xs : List α} (h : Kd.R d e w base ok v xs) : Kd.R d e w base (fun k => ok k ∧ k < w.heap.size) v xs := Kd.R_mono (Kd.R_bound h) (fun _ hk => ⟨hk.1, hk.2.2.1⟩)
set_option maxHeartbeats 8000000 in
set_option maxRecDepth 100000 in
theorem best_own (A0 : Option Addr) (c0 : Nat) (l0 : List S36) (m : Int) (w : World) (r1 : List S36) (r2 : Bool) (hr0 : Kd.C k36 w A0 l0.length l0) (hl : l0.length ≤ 1000000)
    (hS : ∀ (A : Option Addr) (c : Nat) (W : World) (P : Nat → Prop), Kd.F k36 W P A l0.length l0 → Calls Tryd.prog 26 #[.slice A l0.length c] W fun e w' => ∃ (A' : Option Addr) (c' : Nat) (s : List S36), e = .returned (.slice A' s.length c') ∧ Kd.F k36 w' (fun k_ => P k_ ∨ W.heap.size ≤ k_) A' s.length s ∧ Below W.heap.size W w' ∧ s.length ≤ 1000000 ∧ (∀ r ∈ s, okR r) ∧ bestL m [] [] s = (r1, r2))
    (hT_ : YtlgndfplikhflaaDoorW.Tab.TabOK w) :
    Calls Tryd.prog 18 #[.slice A0 l0.length c0, .int .i64 m] w fun e w' => ∃ v0_ : Value, e = .returned (.tuple #[v0_, .bool r2]) ∧ Kd.R k36 36 w' w.heap.size (fun k_ => w.heap.size ≤ k_) v0_ r1 ∧ Below w.heap.size w w' := by
  have HC := Aside0.mk hr0
  have HL := Aside0.mk hl
  have HS := Aside0.mk hS
  have HT_ := Aside0.mk hT_
  clear hr0 hl hS hT_
  have hmm := @run_makeMap Tryd.prog
  have hu1 := Tryd.underlying36
  have hu2 := Tryd.underlying47
  have hu3 := Tryd.underlying24
  go_enter Tryd.func18, Tryd.ntmps18
  go_wp2_with (first
    | ((with_reducible refine gate_dst (N := 15) rfl ?_); refine N_make0 k36 (w0 := w) w.heap.size 47 ?hg (N' := 15) ?hd 46 (.const (.int .i64 0)) (.tmp 14) ?ho l0.length ?hx ?hy Tryd.underlying46 (.agg #[(.int .i64 0), (.slice none 0 0), (.int .i64 0)]) 40 info47 (ok := fun _ => True) (fun _ _ => trivial) ?hl ?hc (Below.refl _ _) (Nat.le_refl _) ?_; (case hg => rfl); (case hd => rfl); (case ho => rfl); (case hx => rfl); (case hy => rfl); (case hl => have := HL.out; omega); (case hc => have := HL.out; unfold maxLen; omega); intro v15 w15 ho15 hb15; have HO := Aside0.mk ho15; have HB := Aside0.mk hb15; clear ho15 hb15))
  go_loopg [6, 18] l0.length (fun kq v6 v18 wr => ∃ i : Nat, v18 = .int .i64 i ∧ Aside0 (i + kq = l0.length) ∧ Aside0 (Kd.N k36 47 wr w.heap.size (fun _ => True) v6 (l0.take i)) ∧ Aside0 (Below w.heap.size w wr))
  case atStart => exact ⟨0, rfl, ⟨by simp⟩, HO, HB⟩
  case round =>
    clear HO HB
    obtain ⟨i, rfl, HI, HO, HB⟩ := hrel
    by_cases hi : i < l0.length
    · cases gk with
      | zero => exact absurd HI.out (by omega)
      | succ k1 =>
        obtain ⟨ad, A1, c1, he, q0, q1, q2, hlc, hC⟩ := at_T36 HC.out (i : Int) (by omega) (by omega)
        subst he
        replace q0 := pw_cell_below HB.out q0
        replace q1 := pw_cell_below HB.out q1
        replace q2 := pw_cell_below HB.out q2
        rw [Int.toNat_natCast] at q0 q1 q2
        obtain ⟨x, HX⟩ : ∃ x, Aside0 (x = rd_T36 l0 i) := ⟨_, ⟨rfl⟩⟩
        rw [← HX.out] at q0 q1 q2 hlc hC
        have HLC := Aside0.mk hlc
        have HCC := Aside0.mk hC
        clear hlc hC
        have hi0 : (i : Int) < (l0.length : Int) := by omega
        have HW := Aside0.mk (show wrap64 ((i : Int) + 1) = ((i + 1 : Nat) : Int) by have := HL.out; unfold wrap64; omega)
        go_wp2_with (first
          | ((with_reducible refine gate_builtin (b := .append) (xs := #[.tmp 22, .tmp 24]) rfl ?_); at_builtin; refine Kd.N_append k36 (w0 := w) (W := wr.alloc (.cells #[.int .i64 x.f0.f0, .slice A1 x.f0.f1.length c1, .int .i64 x.f1] 36)) w.heap.size rfl (.tmp 22) (.tmp 24) 46 47 (.agg #[(.int .i64 0), (.slice none 0 0), (.int .i64 0)]) 40 rfl Tryd.underlying46 info47 rfl (by decide) (by decide) u6 (l0.take i) x [.int .i64 x.f0.f0, .slice A1 x.f0.f1.length c1, .int .i64 x.f1] (fun _ => True) (fun k_ => k_ < w.heap.size) ?hs ?hx ?hp ?hokp (fun _ _ => trivial) (Kd.N_below HO.out (below_alloc (Below.refl _ _) _)) (below_alloc HB.out _) (below_size (below_alloc HB.out _)) ?hl ?_; (case hs => rfl); (case hx => show Value.slice (some ⟨wr.heap.size + 1, 0, none⟩) 1 1 = _; rw [size_alloc1]); (case hp => exact k36_mkF _ _ x HLC.out (Kd.F_below (Kd.C_F (Kd.heap_int .i64) HCC.out) (below_alloc HB.out _))); (case hokp => exact fun k_ hk => ⟨trivial, fun e_ => by have := Kd.N_base HO.out k_ e_.symm; omega⟩); (case hl => have := HL.out; simp only [List.length_take]; omega); intro v25 w25 ho25 hb25 hg25 hat25; have HO25 := Aside0.mk ho25; have HB25 := Aside0.mk hb25; clear ho25 hb25 hg25 hat25))
        go_roundg k1
        case measure => omega
        case rel =>
          refine ⟨i + 1, by rw [HW.out], ⟨by have := HI.out; omega⟩, ⟨?_⟩, HB25⟩
          have e : l0.take (i + 1) = l0.take i ++ [x] := by
            rw [HX.out]
            unfold rd_T36
            rw [Int.toNat_natCast, List.take_add_one, List.getD_eq_getElem?_getD, List.getElem?_eq_getElem hi]
            rfl
          rw [e]
          exact HO25.out
    · have hi1 : i = l0.length := by have := HI.out; omega
      have hi0 : ¬ (i : Int) < (l0.length : Int) := by omega
      have HO2 := Aside0.mk (show Kd.N k36 47 wr w.heap.size (fun _ => True) u6 l0 by have h := HO.out; rw [hi1, List.take_length] at h; exact h)
      clear HO HI hi1
      obtain ⟨A6, c6, e6⟩ := Kd.N_slice HO2.out
      subst e6
      go_wp2_with (first
        | (go_at_call 26; (refine (HS.out A6 c6 _ (fun k_ => k_ < wr.heap.size) ?hF).mono ?_); (case hF => exact Kd.F_alloc (Kd.F_mono (Kd.F_bound (Kd.N_F HO2.out)) (fun k_ hk => hk.2)) _); rintro e w8 ⟨As, cs, s, rfl, hf8, hb8, hsl8, hg8, hr8⟩; have HF8 := Aside0.mk hf8; have HB8 := Aside0.mk hb8; have HSL := Aside0.mk hsl8; have HG := Aside0.mk hg8; have HRES := Aside0.mk hr8; clear hf8 hb8 hsl8 hg8 hr8))
      have HM8 := Aside0.mk ((World.ownsMap_made wr Tryd.prog 9 (plainElem (H := Unit) Tryd.prog 3)).kept (grown_of_below HB8.out none) (by simp))
      have HW8 := Aside0.mk (below_step (below_alloc HB.out (.map #[] 0)) HB8.out)
      have HZ8 := Aside0.mk (show wr.heap.size < w8.heap.size by have h := HB8.out.size; rw [size_alloc1] at h; omega)
      have HF := Aside0.mk (show Kd.F k36 w8 (fun k_ => k_ < w8.heap.size ∧ k_ ≠ wr.heap.size) As s.length s from Kd.F_mono (Kd.F_bound HF8.out) (fun k_ hk => ⟨hk.2, by rcases hk.1 with h | h <;> (try rw [size_alloc1] at h) <;> omega⟩))
      have HZ9 := Aside0.mk (show w.heap.size ≤ wr.heap.size from HB.out.size)
      clear HF8 HB8 HO2 HB
      generalize hmb : wr.heap.size = mb at HM8 HZ8 HF HZ9 ⊢
      clear hmb
      obtain ⟨S8, hS8⟩ : ∃ S8, w8.heap.size = S8 := ⟨_, rfl⟩
      rw [hS8] at HZ8 HF
      have HS8 := Aside0.mk hS8
      clear hS8
      go_loopg [4, 31] s.length (fun kq v4 v31 wx => ∃ (i : Nat) (out : List S36) (D : DataW Unit), v31 = .int .i64 i ∧ Aside0 (i + kq = s.length) ∧ Aside0 (bestL m ((s.take i).map codeB).reverse out (s.drop i) = (r1, r2)) ∧ Aside0 (out.length ≤ i) ∧ Aside0 (Kd.R k36 36 wx S8 (fun k_ => S8 ≤ k_) v4 out) ∧ Aside0 (wx.ownsMap Tryd.prog 9 (plainElem (H := Unit) Tryd.prog 3) mb i D) ∧ Aside0 (Cnt D (s.take i)) ∧ Aside0 (Kd.F k36 wx (fun k_ => k_ < S8 ∧ k_ ≠ mb) As s.length s) ∧ Aside0 (Below w.heap.size w wx) ∧ Aside0 (S8 ≤ wx.heap.size))
      case atStart => exact ⟨0, [], .map [], rfl, ⟨by simp⟩, ⟨by simpa using HRES.out⟩, ⟨Nat.le_refl _⟩, ⟨Kd.R_nil _ _ _ _ _⟩, HM8, ⟨Cnt_nil⟩, HF, HW8, ⟨Nat.le_of_eq HS8.out.symm⟩⟩
      case round =>
        clear HM8 HW8 HF HS8 HRES
        obtain ⟨i, out, D, rfl, HI, HR, HOL, HO, HM, HD, HF, HB, HZ⟩ := hrel
        by_cases hi : i < s.length
        · cases gk with
          | zero => exact absurd HI.out (by omega)
          | succ k1 =>
            obtain ⟨A4, c4, e4⟩ := Kd.R_slice HO.out
            subst e4
            obtain ⟨ad, cs_, he, _, hFK, hcc, _⟩ := Kd.F_get HF.out z36 (i : Int) (by omega) (by omega)
            subst he
            obtain ⟨x, HX⟩ : ∃ x, Aside0 (x = s.getD (i : Int).toNat z36) := ⟨_, ⟨rfl⟩⟩
            rw [← HX.out] at hFK
            obtain ⟨A1, c1, rfl, hlc, hFi⟩ := k36_openF hFK
            have q0 := hcc 0 _ rfl
            have q1 := hcc 1 _ rfl
            have q2 := hcc 2 _ rfl
            rw [add_field _ _ 1 (by omega)] at q1
            rw [add_field _ _ 2 (by omega)] at q2
            have hsz : k36.sz = 3 := rfl
            rw [hsz, Int.toNat_natCast] at q0 q1 q2
            rw [Nat.add_zero] at q0
            clear hcc hsz hFK
            have HLC := Aside0.mk hlc
            have HFI := Aside0.mk hFi
            have hx2 : s[i]'hi = x := by rw [HX.out, Int.toNat_natCast, List.getD_eq_getElem?_getD, List.getElem?_eq_getElem hi]; rfl
            have HGX := Aside0.mk (HG.out x (by rw [← hx2]; exact List.getElem_mem hi))
            have HX2 := Aside0.mk (show s.drop i = x :: s.drop (i + 1) by rw [List.drop_eq_getElem_cons hi, hx2])
            have HX3 := Aside0.mk (show s.take (i + 1) = s.take i ++ [x] by rw [List.take_add_one, List.getElem?_eq_getElem hi, hx2]; rfl)
            clear hlc hFi hx2 HX
            have hi0 : (i : Int) < (s.length : Int) := by omega
            have HW := Aside0.mk (show wrap64 ((i : Int) + 1) = ((i + 1 : Nat) : Int) by have := HSL.out; unfold wrap64; omega)
            have HKEY := Aside0.mk (code_key x HGX.out)
            obtain ⟨kc, HKC⟩ : ∃ kc : Nat, Aside0 (kc = ((s.take i).map codeB).count (codeB x)) := ⟨_, ⟨rfl⟩⟩
            have HKL := Aside0.mk (show kc ≤ i by rw [HKC.out]; refine Nat.le_trans List.count_le_length ?_; rw [List.length_map, List.length_take]; omega)
            have HWK := Aside0.mk (show wrap64 ((kc : Int) + 1) = ((kc + 1 : Nat) : Int) by have := HSL.out; have := HKL.out; unfold wrap64; omega)
            have HD2 := Aside0.mk (Cnt_put HD.out x kc HKC.out)
            have HKC2 := Aside0.mk (show kc + 1 = ((s.take i ++ [x]).map codeB).count (codeB x) by rw [List.map_append, List.count_append, ← HKC.out]; simp)
            obtain ⟨qk, HQ⟩ : ∃ qk : Int, Aside0 (qk = ((kc + 1 : Nat) : Int)) := ⟨_, ⟨rfl⟩⟩
            have HSEEN := Aside0.mk (show codeB x ∈ ((s.take i).map codeB).reverse ↔ 0 < kc by rw [List.mem_reverse, HKC.out, List.count_pos_iff])
            have HREV := Aside0.mk (show ((s.take (i + 1)).map codeB).reverse = codeB x :: ((s.take i).map codeB).reverse by rw [HX3.out, List.map_append, List.reverse_append]; rfl)
            have HR2 := Aside0.mk (show bestL m ((s.take i).map codeB).reverse out (x :: s.drop (i + 1)) = (r1, r2) by rw [← HX2.out]; exact HR.out)
            have HGB := Aside0.mk (show mb < wr.heap.size by have := HZ.out; have := HZ8.out; omega)
            by_cases hk0 : 0 < kc
            · have hgt : qk > 1 := by rw [HQ.out]; omega
              have HR3 := Aside0.mk (show bestL m ((s.take (i + 1)).map codeB).reverse out (s.drop (i + 1)) = (r1, r2) by have h := HR2.out; unfold bestL at h; rw [if_pos (HSEEN.out.2 hk0)] at h; rw [HREV.out]; exact h)
              clear hk0
              go_wp2_with (first
                | (go_at_call 22; (refine (rank_Code.calls x.f0.f0 A1 c1 x.f0.f1 (codeOf x) _ ?hc HLC.out (code_ok x HGX.out) ?ht).mono ?_); (case hc => exact Kd.F_now (Kd.F_alloc HFI.out _)); (case ht => exact tab_below HT_.out (below_alloc HB.out _)); rintro e w3 ⟨rfl, hb3⟩; have HB3 := Aside0.mk (below_step (below_alloc (Below.refl _ _) _) hb3); have HX4 := Aside0.mk (blk_below (blk_new _ _) hb3); have HM3 := Aside0.mk (HM.out.kept (grown_of_below HB3.out none) (by simp)); clear hb3)
                | ((with_reducible refine gate_dst (N := 40) rfl ?_); at_lookup; refine wpList_lookup_own_int _ rfl _ _ 48 rfl 9 3 .i64 (Go.Maps.string_keyed Tryd.underlying9) Tryd.underlying48 Tryd.underlying3 (zero_int _) mb i D rfl HM3.out _ _ rfl HKEY.out ?_; intro cq hat hwc; obtain rfl := cnt_is HD.out HKC.out hat; clear hat hwc)
                | (at_mapUpdate; refine wpList_mapUpdate_own _ rfl _ _ _ 48 rfl 9 3 (Go.Maps.string_keyed Tryd.underlying9) Tryd.underlying48 (plainElem (H := Unit) Tryd.prog 3) mb i D rfl HM3.out ?hn _ _ _ rfl rfl HKEY.out _ [] (plainElem_int Tryd.underlying3 ?hw) ?_; (case hn => have := HSL.out; have := HI.out; unfold maxLen; omega); (case hw => rw [HWK.out]; exact wf_small _ (by have := HSL.out; have := HI.out; have := HKL.out; omega)); intro w4 hm4 hg4; rw [HWK.out] at hm4; have HM4 := Aside0.mk hm4; have HG4 := Aside0.mk hg4; clear hm4 hg4; have HO4 := Aside0.mk (R_grown' (Kd.R_below (R_bound' HO.out) HB3.out) HG4.out (fun k_ hk he => by injection he with he; have := hk.1; have := HZ8.out; omega)); have HF4 := Aside0.mk (Kd.F_grown (Kd.F_below HF.out HB3.out) HG4.out (fun k_ hk he => hk.2 (by injection he))); have HFI4 := Aside0.mk (Kd.F_grown (Kd.F_below HFI.out HB3.out) HG4.out (fun k_ hk he => hk.2 (by injection he))); have HX5 := Aside0.mk (blk_grown HX4.out HG4.out (fun he => by injection he with he; have := HGB.out; omega)); have HB4 := Aside0.mk (pw_below_grown (below_step HB.out HB3.out) (some mb) (below_step HB.out HB3.out).size HG4.out (fun k_ he => by injection he with he; have := HZ9.out; omega)); have HZ4 := Aside0.mk (show wr.heap.size < w4.heap.size from blk_lt HX5.out))
                | ((with_reducible refine gate_dst (N := 44) rfl ?_); at_lookup; refine wpList_lookup_own_int _ rfl _ _ 48 rfl 9 3 .i64 (Go.Maps.string_keyed Tryd.underlying9) Tryd.underlying48 Tryd.underlying3 (zero_int _) mb (i + 1) (D.put (.string (codeB x)) (.lit (.int .i64 ((kc + 1 : Nat) : Int)))) rfl HM4.out _ _ rfl HKEY.out ?_; intro cq hat hwc; obtain rfl := (cnt_is HD2.out HKC2.out hat).trans HQ.out.symm; clear hat hwc))
              go_roundg k1
              case measure => omega
              case rel =>
                exact ⟨i + 1, out, _, by rw [HW.out], ⟨by have := HI.out; omega⟩, HR3, ⟨by have := HOL.out; omega⟩, ⟨Kd.R_mono HO4.out (fun k_ hk => hk.1)⟩, HM4, ⟨by rw [HX3.out]; exact HD2.out⟩, HF4, HB4, ⟨by have := HZ.out; have := HZ4.out; omega⟩⟩
            · have hgt : ¬ qk > 1 := by rw [HQ.out]; omega
              have hseen : ¬ codeB x ∈ ((s.take i).map codeB).reverse := fun h => hk0 (HSEEN.out.1 h)
              have HR3 := Aside0.mk (show (if (out.length : Int) ≥ mx m 0 then (out, true) else bestL m (codeB x :: ((s.take i).map codeB).reverse) (out ++ [x]) (s.drop (i + 1))) = (r1, r2) by have h := HR2.out; unfold bestL at h; rw [if_neg hseen] at h; exact h)
              clear hk0 hseen
              have HOL2 := Aside0.mk (show out.length ≤ 1000000 by have := HOL.out; have := HSL.out; omega)
              by_cases hm0 : m < 0
              · replace HR3 := Aside0.mk (show (out, true) = (r1, r2) by have h := HR3.out; rw [if_pos (by unfold mx; rw [if_pos hm0]; omega)] at h; exact h)
                have hm1 : (0 : Int) ≤ (out.length : Int) := by omega
                go_wp2_with (first
                  | (go_at_call 22; (refine (rank_Code.calls x.f0.f0 A1 c1 x.f0.f1 (codeOf x) _ ?hc HLC.out (code_ok x HGX.out) ?ht).mono ?_); (case hc => exact Kd.F_now (Kd.F_alloc HFI.out _)); (case ht => exact tab_below HT_.out (below_alloc HB.out _)); rintro e w3 ⟨rfl, hb3⟩; have HB3 := Aside0.mk (below_step (below_alloc (Below.refl _ _) _) hb3); have HX4 := Aside0.mk (blk_below (blk_new _ _) hb3); have HM3 := Aside0.mk (HM.out.kept (grown_of_below HB3.out none) (by simp)); clear hb3)
                  | ((with_reducible refine gate_dst (N := 40) rfl ?_); at_lookup; refine wpList_lookup_own_int _ rfl _ _ 48 rfl 9 3 .i64 (Go.Maps.string_keyed Tryd.underlying9) Tryd.underlying48 Tryd.underlying3 (zero_int _) mb i D rfl HM3.out _ _ rfl HKEY.out ?_; intro cq hat hwc; obtain rfl := cnt_is HD.out HKC.out hat; clear hat hwc)
                  | (at_mapUpdate; refine wpList_mapUpdate_own _ rfl _ _ _ 48 rfl 9 3 (Go.Maps.string_keyed Tryd.underlying9) Tryd.underlying48 (plainElem (H := Unit) Tryd.prog 3) mb i D rfl HM3.out ?hn _ _ _ rfl rfl HKEY.out _ [] (plainElem_int Tryd.underlying3 ?hw) ?_; (case hn => have := HSL.out; have := HI.out; unfold maxLen; omega); (case hw => rw [HWK.out]; exact wf_small _ (by have := HSL.out; have := HI.out; have := HKL.out; omega)); intro w4 hm4 hg4; rw [HWK.out] at hm4; have HM4 := Aside0.mk hm4; have HG4 := Aside0.mk hg4; clear hm4 hg4; have HO4 := Aside0.mk (R_grown' (Kd.R_below (R_bound' HO.out) HB3.out) HG4.out (fun k_ hk he => by injection he with he; have := hk.1; have := HZ8.out; omega)); have HF4 := Aside0.mk (Kd.F_grown (Kd.F_below HF.out HB3.out) HG4.out (fun k_ hk he => hk.2 (by injection he))); have HFI4 := Aside0.mk (Kd.F_grown (Kd.F_below HFI.out HB3.out) HG4.out (fun k_ hk he => hk.2 (by injection he))); have HX5 := Aside0.mk (blk_grown HX4.out HG4.out (fun he => by injection he with he; have := HGB.out; omega)); have HB4 := Aside0.mk (pw_below_grown (below_step HB.out HB3.out) (some mb) (below_step HB.out HB3.out).size HG4.out (fun k_ he => by injection he with he; have := HZ9.out; omega)); have HZ4 := Aside0.mk (show wr.heap.size < w4.heap.size from blk_lt HX5.out))
                  | ((with_reducible refine gate_dst (N := 44) rfl ?_); at_lookup; refine wpList_lookup_own_int _ rfl _ _ 48 rfl 9 3 .i64 (Go.Maps.string_keyed Tryd.underlying9) Tryd.underlying48 Tryd.underlying3 (zero_int _) mb (i + 1) (D.put (.string (codeB x)) (.lit (.int .i64 ((kc + 1 : Nat) : Int)))) rfl HM4.out _ _ rfl HKEY.out ?_; intro cq hat hwc; obtain rfl := (cnt_is HD2.out HKC2.out hat).trans HQ.out.symm; clear hat hwc)
                  | (go_at_call 27; (refine (clone_own A4 c4 out _ S8 (fun k_ => S8 ≤ k_) ?hB ?hF ?hl).mono ?_); (case hB => have := HZ.out; have := HZ4.out; omega); (case hF => exact Kd.R_mono HO4.out (fun k_ hk => hk.1)); (case hl => have := HOL.out; have := HSL.out; omega); rintro e w9 ⟨v9, rfl, ho9, hb9⟩; have HO9 := Aside0.mk ho9; have HB9 := Aside0.mk hb9; clear ho9 hb9))
                go_ret2
                obtain ⟨rfl, rfl⟩ := HR3.out
                exact ⟨_, rfl, Kd.R_lower (Kd.R_mono HO9.out (fun k_ hk => by have := HZ9.out; have := HZ8.out; have := HB4.out.size; rcases hk with h | h <;> omega)) (by have := HZ9.out; have := HZ8.out; omega), below_step HB4.out HB9.out⟩
              · by_cases hm2 : m ≤ (out.length : Int)
                · replace HR3 := Aside0.mk (show (out, true) = (r1, r2) by have h := HR3.out; rw [if_pos (by unfold mx; rw [if_neg hm0]; exact hm2)] at h; exact h)
                  go_wp2_with (first
                    | (go_at_call 22; (refine (rank_Code.calls x.f0.f0 A1 c1 x.f0.f1 (codeOf x) _ ?hc HLC.out (code_ok x HGX.out) ?ht).mono ?_); (case hc => exact Kd.F_now (Kd.F_alloc HFI.out _)); (case ht => exact tab_below HT_.out (below_alloc HB.out _)); rintro e w3 ⟨rfl, hb3⟩; have HB3 := Aside0.mk (below_step (below_alloc (Below.refl _ _) _) hb3); have HX4 := Aside0.mk (blk_below (blk_new _ _) hb3); have HM3 := Aside0.mk (HM.out.kept (grown_of_below HB3.out none) (by simp)); clear hb3)
                    | ((with_reducible refine gate_dst (N := 40) rfl ?_); at_lookup; refine wpList_lookup_own_int _ rfl _ _ 48 rfl 9 3 .i64 (Go.Maps.string_keyed Tryd.underlying9) Tryd.underlying48 Tryd.underlying3 (zero_int _) mb i D rfl HM3.out _ _ rfl HKEY.out ?_; intro cq hat hwc; obtain rfl := cnt_is HD.out HKC.out hat; clear hat hwc)
                    | (at_mapUpdate; refine wpList_mapUpdate_own _ rfl _ _ _ 48 rfl 9 3 (Go.Maps.string_keyed Tryd.underlying9) Tryd.underlying48 (plainElem (H := Unit) Tryd.prog 3) mb i D rfl HM3.out ?hn _ _ _ rfl rfl HKEY.out _ [] (plainElem_int Tryd.underlying3 ?hw) ?_; (case hn => have := HSL.out; have := HI.out; unfold maxLen; omega); (case hw => rw [HWK.out]; exact wf_small _ (by have := HSL.out; have := HI.out; have := HKL.out; omega)); intro w4 hm4 hg4; rw [HWK.out] at hm4; have HM4 := Aside0.mk hm4; have HG4 := Aside0.mk hg4; clear hm4 hg4; have HO4 := Aside0.mk (R_grown' (Kd.R_below (R_bound' HO.out) HB3.out) HG4.out (fun k_ hk he => by injection he with he; have := hk.1; have := HZ8.out; omega)); have HF4 := Aside0.mk (Kd.F_grown (Kd.F_below HF.out HB3.out) HG4.out (fun k_ hk he => hk.2 (by injection he))); have HFI4 := Aside0.mk (Kd.F_grown (Kd.F_below HFI.out HB3.out) HG4.out (fun k_ hk he => hk.2 (by injection he))); have HX5 := Aside0.mk (blk_grown HX4.out HG4.out (fun he => by injection he with he; have := HGB.out; omega)); have HB4 := Aside0.mk (pw_below_grown (below_step HB.out HB3.out) (some mb) (below_step HB.out HB3.out).size HG4.out (fun k_ he => by injection he with he; have := HZ9.out; omega)); have HZ4 := Aside0.mk (show wr.heap.size < w4.heap.size from blk_lt HX5.out))
                    | ((with_reducible refine gate_dst (N := 44) rfl ?_); at_lookup; refine wpList_lookup_own_int _ rfl _ _ 48 rfl 9 3 .i64 (Go.Maps.string_keyed Tryd.underlying9) Tryd.underlying48 Tryd.underlying3 (zero_int _) mb (i + 1) (D.put (.string (codeB x)) (.lit (.int .i64 ((kc + 1 : Nat) : Int)))) rfl HM4.out _ _ rfl HKEY.out ?_; intro cq hat hwc; obtain rfl := (cnt_is HD2.out HKC2.out hat).trans HQ.out.symm; clear hat hwc)
                    | (go_at_call 27; (refine (clone_own A4 c4 out _ S8 (fun k_ => S8 ≤ k_) ?hB ?hF ?hl).mono ?_); (case hB => have := HZ.out; have := HZ4.out; omega); (case hF => exact Kd.R_mono HO4.out (fun k_ hk => hk.1)); (case hl => have := HOL.out; have := HSL.out; omega); rintro e w9 ⟨v9, rfl, ho9, hb9⟩; have HO9 := Aside0.mk ho9; have HB9 := Aside0.mk hb9; clear ho9 hb9))
                  go_ret2
                  obtain ⟨rfl, rfl⟩ := HR3.out
                  exact ⟨_, rfl, Kd.R_lower (Kd.R_mono HO9.out (fun k_ hk => by have := HZ9.out; have := HZ8.out; have := HB4.out.size; rcases hk with h | h <;> omega)) (by have := HZ9.out; have := HZ8.out; omega), below_step HB4.out HB9.out⟩
                · replace HR3 := Aside0.mk (show bestL m (codeB x :: ((s.take i).map codeB).reverse) (out ++ [x]) (s.drop (i + 1)) = (r1, r2) by have h := HR3.out; rw [if_neg (by unfold mx; rw [if_neg hm0]; exact hm2)] at h; exact h)
                  go_wp2_with (first
                    | (go_at_call 22; (refine (rank_Code.calls x.f0.f0 A1 c1 x.f0.f1 (codeOf x) _ ?hc HLC.out (code_ok x HGX.out) ?ht).mono ?_); (case hc => exact Kd.F_now (Kd.F_alloc HFI.out _)); (case ht => exact tab_below HT_.out (below_alloc HB.out _)); rintro e w3 ⟨rfl, hb3⟩; have HB3 := Aside0.mk (below_step (below_alloc (Below.refl _ _) _) hb3); have HX4 := Aside0.mk (blk_below (blk_new _ _) hb3); have HM3 := Aside0.mk (HM.out.kept (grown_of_below HB3.out none) (by simp)); clear hb3)
                    | ((with_reducible refine gate_dst (N := 40) rfl ?_); at_lookup; refine wpList_lookup_own_int _ rfl _ _ 48 rfl 9 3 .i64 (Go.Maps.string_keyed Tryd.underlying9) Tryd.underlying48 Tryd.underlying3 (zero_int _) mb i D rfl HM3.out _ _ rfl HKEY.out ?_; intro cq hat hwc; obtain rfl := cnt_is HD.out HKC.out hat; clear hat hwc)
                    | (at_mapUpdate; refine wpList_mapUpdate_own _ rfl _ _ _ 48 rfl 9 3 (Go.Maps.string_keyed Tryd.underlying9) Tryd.underlying48 (plainElem (H := Unit) Tryd.prog 3) mb i D rfl HM3.out ?hn _ _ _ rfl rfl HKEY.out _ [] (plainElem_int Tryd.underlying3 ?hw) ?_; (case hn => have := HSL.out; have := HI.out; unfold maxLen; omega); (case hw => rw [HWK.out]; exact wf_small _ (by have := HSL.out; have := HI.out; have := HKL.out; omega)); intro w4 hm4 hg4; rw [HWK.out] at hm4; have HM4 := Aside0.mk hm4; have HG4 := Aside0.mk hg4; clear hm4 hg4; have HO4 := Aside0.mk (R_grown' (Kd.R_below (R_bound' HO.out) HB3.out) HG4.out (fun k_ hk he => by injection he with he; have := hk.1; have := HZ8.out; omega)); have HF4 := Aside0.mk (Kd.F_grown (Kd.F_below HF.out HB3.out) HG4.out (fun k_ hk he => hk.2 (by injection he))); have HFI4 := Aside0.mk (Kd.F_grown (Kd.F_below HFI.out HB3.out) HG4.out (fun k_ hk he => hk.2 (by injection he))); have HX5 := Aside0.mk (blk_grown HX4.out HG4.out (fun he => by injection he with he; have := HGB.out; omega)); have HB4 := Aside0.mk (pw_below_grown (below_step HB.out HB3.out) (some mb) (below_step HB.out HB3.out).size HG4.out (fun k_ he => by injection he with he; have := HZ9.out; omega)); have HZ4 := Aside0.mk (show wr.heap.size < w4.heap.size from blk_lt HX5.out); have p1 : w4.cell? ⟨wr.heap.size, 1, none⟩ = some (.slice A1 x.f0.f1.length c1) := (blk_cell HX5.out 1).trans rfl)
                    | ((with_reducible refine gate_dst (N := 44) rfl ?_); at_lookup; refine wpList_lookup_own_int _ rfl _ _ 48 rfl 9 3 .i64 (Go.Maps.string_keyed Tryd.underlying9) Tryd.underlying48 Tryd.underlying3 (zero_int _) mb (i + 1) (D.put (.string (codeB x)) (.lit (.int .i64 ((kc + 1 : Nat) : Int)))) rfl HM4.out _ _ rfl HKEY.out ?_; intro cq hat hwc; obtain rfl := (cnt_is HD2.out HKC2.out hat).trans HQ.out.symm; clear hat hwc)
                    | (go_at_call 28; (refine (slices_Clone_int_int.calls A1 c1 x.f0.f1 x.f0.f1 _ (Kd.F_now HFI4.out) HLC.out (slices_Clone_ok _ ?hcl)).mono ?_); (case hcl => have := HGX.out.2.2; omega); rintro e w5 ⟨v5, rfl, ho5, hb5⟩; obtain ⟨A5, c5, hv5⟩ := Kd.R_slice ho5; subst hv5; have HR5 := Aside0.mk (Kd.R_bound ho5); have HL5 := Aside0.mk (Kd.R_reads' ho5).2.1; have HB5 := Aside0.mk hb5; have HX6 := Aside0.mk (blk_below HX5.out hb5); clear p1; have p0 : w5.cell? ⟨wr.heap.size, 0, none⟩ = some (.int .i64 x.f0.f0) := (blk_cell HX6.out 0).trans rfl; have p1 : w5.cell? ⟨wr.heap.size, 1, none⟩ = some (.slice A1 x.f0.f1.length c1) := (blk_cell HX6.out 1).trans rfl; have p2 : w5.cell? ⟨wr.heap.size, 2, none⟩ = some (.int .i64 x.f1) := (blk_cell HX6.out 2).trans rfl; have p3 : w5.frozen? ⟨wr.heap.size, 1, none⟩ = false := blk_frozen HX6.out 1; clear ho5 hb5)
                    | ((with_reducible refine gate_builtin (b := .append) (xs := #[.tmp 59, .tmp 61]) rfl ?_); at_builtin; refine Kd.R_append k36 (w0 := w5.setCell ⟨wr.heap.size, 1, none⟩ (.slice A5 x.f0.f1.length c5)) (W := w5.setCell ⟨wr.heap.size, 1, none⟩ (.slice A5 x.f0.f1.length c5)) S8 rfl (.tmp 59) (.tmp 61) 28 36 (.agg #[(.int .i64 0), (.slice none 0 0), (.int .i64 0)]) 40 rfl Tryd.underlying28 info36 rfl (by decide) (by decide) (.slice A4 out.length c4) out x [.int .i64 x.f0.f0, .slice A5 x.f0.f1.length c5, .int .i64 x.f1] (fun k_ => S8 ≤ k_) (fun k_ => w4.heap.size ≤ k_) ?hs ?hx ?hp ?hokp ?hfr ?hO (Below.refl _ _) ?hba ?hl ?_; (case hs => rfl); (case hx => show Value.slice (some ⟨w5.heap.size, 0, none⟩) 1 1 = _; rw [size_set1]); (case hp => exact k36_mkM _ _ _ x (Kd.R_lower (Kd.R_far (Kd.R_mono HR5.out (fun k_ hk => hk.2.1)) (fun k_ hk => by have := HZ4.out; show k_ ≠ wr.heap.size; omega) _) (by have := HZ.out; have := HZ4.out; omega))); (case hokp => exact fun k_ hk => ⟨by have := HZ.out; have := HZ4.out; omega, fun e_ => by have := Kd.R_lt HO.out k_ e_.symm; have := HZ4.out; omega⟩); (case hfr => exact fun k_ hk => Nat.le_trans (Nat.le_trans HZ.out (Nat.le_of_lt HZ4.out)) (Nat.le_trans (Nat.le_trans HB5.out.size (Nat.le_of_eq (size_set1 _ _ _).symm)) hk)); (case hO => exact Kd.R_mono (Kd.R_far (Kd.R_below HO4.out HB5.out) (fun k_ hk => by have := hk.2; show k_ ≠ wr.heap.size; omega) _) (fun k_ hk => hk.1)); (case hba => rw [size_set1]; exact Nat.le_trans (Nat.le_trans HZ.out (Nat.le_of_lt HZ4.out)) HB5.out.size); (case hl => have := HOL.out; have := HSL.out; omega); intro v62 w62 ho62 hb62 hg62 hat62; have HO62 := Aside0.mk ho62; have HB62 := Aside0.mk hb62; have HG62 := Aside0.mk hg62; clear ho62 hb62 hg62 hat62))
                  go_roundg k1
                  case measure => omega
                  case rel =>
                    refine ⟨i + 1, out ++ [x], _, by rw [HW.out], ⟨by have := HI.out; omega⟩, ⟨by rw [HREV.out]; exact HR3.out⟩, ⟨by rw [List.length_append]; have := HOL.out; simp only [List.length_cons, List.length_nil]; omega⟩, HO62, ⟨((HM4.out.kept (grown_of_below HB5.out none) (by simp)).setCell (a := ⟨wr.heap.size, 1, none⟩) (by have := HGB.out; show mb ≠ wr.heap.size; omega) _).kept HG62.out (fun he => ?_)⟩, ⟨by rw [HX3.out]; exact HD2.out⟩, ⟨Kd.F_grown (Kd.F_far (Kd.F_below HF4.out HB5.out) (fun k_ hk => by have := hk.1; have := HZ.out; show k_ ≠ wr.heap.size; omega) _) HG62.out (fun k_ hk he => ?_)⟩, ⟨below_weaken (below_set (below_step HB4.out HB5.out) HB.out.size) (by have := HZ9.out; have := HZ8.out; omega) HB62.out⟩, ⟨Nat.le_trans (Nat.le_trans (Nat.le_trans HZ.out (Nat.le_of_lt HZ4.out)) (Nat.le_trans HB5.out.size (Nat.le_of_eq (size_set1 _ _ _).symm))) HB62.out.size⟩⟩
                    · have := Kd.R_base HO.out _ he.symm
                      have := HZ8.out
                      omega
                    · have := Kd.R_base HO.out _ he.symm
                      have := hk.1
                      omega
        · have hi1 : i = s.length := by have := HI.out; omega
          have hi0 : ¬ (i : Int) < (s.length : Int) := by omega
          have HR3 := Aside0.mk (show (out, false) = (r1, r2) by have h := HR.out; rw [hi1, List.drop_length] at h; exact h)
          have HOL2 := Aside0.mk (show out.length ≤ 1000000 by have := HOL.out; have := HSL.out; omega)
          obtain ⟨A4, c4, e4⟩ := Kd.R_slice HO.out
          subst e4
          clear hi1
          go_wp2_with (first
            | (go_at_call 27; (refine (clone_own A4 c4 out _ S8 (fun k_ => S8 ≤ k_) ?hB ?hF ?hl).mono ?_); (case hB => exact HZ.out); (case hF => exact HO.out); (case hl => exact HOL2.out); rintro e w9 ⟨v9, rfl, ho9, hb9⟩; have HO9 := Aside0.mk ho9; have HB9 := Aside0.mk hb9; clear ho9 hb9))
          go_ret2
          obtain ⟨rfl, rfl⟩ := HR3.out
          exact ⟨_, rfl, Kd.R_lower (Kd.R_mono HO9.out (fun k_ hk => by have := HZ9.out; have := HZ8.out; have := HB.out.size; rcases hk with h | h <;> omega)) (by have := HZ9.out; have := HZ8.out; omega), below_step HB.out HB9.out⟩
theorem best_walk (A0 : Option Addr) (c0 : Nat) (l0 : List S36) (m : Int) (w : World) (r1 : List S36) (r2 : Bool) (hr0 : Kd.C k36 w A0 l0.length l0) (hl : l0.length ≤ 1000000)
    (hS : ∀ (A : Option Addr) (c : Nat) (W : World) (P : Nat → Prop), Kd.F k36 W P A l0.length l0 → Calls Tryd.prog 26 #[.slice A l0.length c] W fun e w' => ∃ (A' : Option Addr) (c' : Nat) (s : List S36), e = .returned (.slice A' s.length c') ∧ Kd.F k36 w' (fun k_ => P k_ ∨ W.heap.size ≤ k_) A' s.length s ∧ Below W.heap.size W w' ∧ s.length ≤ 1000000 ∧ (∀ r ∈ s, okR r) ∧ bestL m [] [] s = (r1, r2))
    (hT_ : YtlgndfplikhflaaDoorW.Tab.TabOK w) :
    Calls Tryd.prog 18 #[.slice A0 l0.length c0, .int .i64 m] w fun e w' => ∃ v0_ : Value, e = .returned (.tuple #[v0_, .bool r2]) ∧ Kd.V k36 36 w' w.heap.size (fun k_ => w.heap.size ≤ k_) v0_ r1 ∧ Below w.heap.size w w' :=
  (best_own A0 c0 l0 m w r1 r2 hr0 hl hS hT_).mono fun e w' ⟨v0_, he, hr, hb⟩ => ⟨v0_, he, Kd.N_V (Kd.R_N hr), hb⟩
theorem codeB_inj (a b : S36) : codeB a = codeB b ↔ rvalOf a = rvalOf b := YtlgndfplikhflaaDoorW.Rkc.code_inj a.f0.f0 b.f0.f0 a.f0.f1 b.f0.f1
/-- What is told of the best, at most so many. -/
def bestOf (l : List S36) (m : Int) : List S36 × Bool :=
  if (mx m 0).toNat < (YtlgndfplikhflaaDoorW.Rk.best cmpV rvalOf rcostOf l).length then ((YtlgndfplikhflaaDoorW.Rk.best cmpV rvalOf rcostOf l).take (mx m 0).toNat, true) else (YtlgndfplikhflaaDoorW.Rk.best cmpV rvalOf rcostOf l, false)
theorem bestL_uniq (m : Int) : ∀ (s : List S36) (cs : List (List UInt8)) (vs : List (Int × List Int)) (out : List S36), (∀ r : S36, codeB r ∈ cs ↔ rvalOf r ∈ vs) → out.length ≤ (mx m 0).toNat →
    bestL m cs out s = if (mx m 0).toNat < (out ++ YtlgndfplikhflaaDoorW.Rk.uniq rvalOf vs s).length then ((out ++ YtlgndfplikhflaaDoorW.Rk.uniq rvalOf vs s).take (mx m 0).toNat, true) else (out ++ YtlgndfplikhflaaDoorW.Rk.uniq rvalOf vs s, false)
  | [], cs, vs, out, _, ho => by
    unfold bestL YtlgndfplikhflaaDoorW.Rk.uniq
    rw [List.append_nil, if_neg (by omega)]
  | r :: s, cs, vs, out, hc, ho => by
    have hm : 0 ≤ mx m 0 := by unfold mx; split <;> omega
    unfold bestL YtlgndfplikhflaaDoorW.Rk.uniq
    by_cases h : codeB r ∈ cs
    · rw [if_pos h, if_pos ((hc r).1 h)]
      exact bestL_uniq m s (codeB r :: cs) vs out (fun x => by
        rw [List.mem_cons, hc x]
        constructor
        · rintro (e | e)
          · rw [(codeB_inj x r).1 e]; exact (hc r).1 h
          · exact e
        · exact Or.inr) ho
    · have hv : rvalOf r ∉ vs := fun q => h ((hc r).2 q)
      rw [if_neg h, if_neg hv]
      by_cases hl : (out.length : Int) ≥ mx m 0
      · have e : out.length = (mx m 0).toNat := by omega
        rw [if_pos hl, if_pos (by rw [List.length_append, List.length_cons]; omega), ← e, List.take_left]
      · rw [if_neg hl, bestL_uniq m s (codeB r :: cs) (rvalOf r :: vs) (out ++ [r]) (fun x => by rw [List.mem_cons, List.mem_cons, hc x, codeB_inj]) (by rw [List.length_append, List.length_singleton]; omega)]
        simp only [List.append_assoc, List.singleton_append]
theorem bestL_is (m : Int) (l s : List S36) (hp : s.Perm l) (hs : s.Pairwise (fun a b => YtlgndfplikhflaaDoorW.Rk.rle cmpV rvalOf rcostOf a b)) : bestL m [] [] s = bestOf l m := by
  rw [bestL_uniq m s [] [] [] (fun r => by simp) (Nat.zero_le _), List.nil_append, YtlgndfplikhflaaDoorW.Rk.best_sorted cmpV_tot valcost_ext l s hp hs]
  rfl
instance (r : S36) : Decidable (okR r) := by unfold okR; exact inferInstance
def rank_Best.f (l0 : List S36) (m : Int) : Option (List S36 × Bool) :=
  if l0.length ≤ 1000000 ∧ ∀ r ∈ l0, okR r then some (bestOf l0 m) else none
theorem rank_Best.f_is (l0 : List S36) (m : Int) (h1 : l0.length ≤ 1000000) (h2 : ∀ r ∈ l0, okR r) : rank_Best.f l0 m = some (bestOf l0 m) := if_pos ⟨h1, h2⟩
theorem rank_Best.calls (A0 : Option Addr) (c0 : Nat) (l0 : List S36) (m : Int) (r0 : List S36) (r1 : Bool) (w : World) (hr0 : Kd.C k36 w A0 l0.length l0) (hc0 : l0.length ≤ c0) (h : rank_Best.f l0 m = some (r0, r1)) (hT_ : YtlgndfplikhflaaDoorW.Tab.TabOK w) :
    Calls Tryd.prog 18 #[.slice A0 l0.length c0, .int .i64 m] w fun e w' => ∃ v0_ : Value, e = .returned (.tuple #[v0_, .bool r1]) ∧ Kd.V k36 36 w' w.heap.size (fun k_ => w.heap.size ≤ k_) v0_ r0 ∧ Below w.heap.size w w' := by
  unfold rank_Best.f at h
  split at h
  · rename_i hg
    have he := Option.some.inj h
    refine best_walk A0 c0 l0 m w r0 r1 hr0 (by have := hg.1; omega) (fun A c W P hF => ?_) hT_
    refine (sorted_any A c l0 W P hF (fun x hx => (hg.2 x hx).2.2) hg.1).mono ?_
    rintro e w' ⟨A', c', ys, he', hf, hb, hpm, hso⟩
    exact ⟨A', c', ys, he', hf, hb, by rw [hpm.length_eq]; have := hg.1; omega, fun r hr => hg.2 r (hpm.mem_iff.1 hr), by rw [bestL_is m l0 ys hpm hso]; exact he⟩
  · cases h
theorem rank_Best.owns (A0 : Option Addr) (c0 : Nat) (l0 : List S36) (m : Int) (r0 : List S36) (r1 : Bool) (w : World) (hr0 : Kd.C k36 w A0 l0.length l0) (hc0 : l0.length ≤ c0) (h : rank_Best.f l0 m = some (r0, r1)) (hT_ : YtlgndfplikhflaaDoorW.Tab.TabOK w) :
    Calls Tryd.prog 18 #[.slice A0 l0.length c0, .int .i64 m] w fun e w' => ∃ v0_ : Value, e = .returned (.tuple #[v0_, .bool r1]) ∧ Kd.R k36 36 w' w.heap.size (fun k_ => w.heap.size ≤ k_) v0_ r0 ∧ Below w.heap.size w w' := by
  unfold rank_Best.f at h
  split at h
  · rename_i hg
    have he := Option.some.inj h
    refine best_own A0 c0 l0 m w r0 r1 hr0 (by have := hg.1; omega) (fun A c W P hF => ?_) hT_
    refine (sorted_any A c l0 W P hF (fun x hx => (hg.2 x hx).2.2) hg.1).mono ?_
    rintro e w' ⟨A', c', ys, he', hf, hb, hpm, hso⟩
    exact ⟨A', c', ys, he', hf, hb, by rw [hpm.length_eq]; have := hg.1; omega, fun r hr => hg.2 r (hpm.mem_iff.1 hr), by rw [bestL_is m l0 ys hpm hso]; exact he⟩
  · cases h

/-! ### interlocutorlaw10_known: function 13 -/
/-! ### the chapter's example: behind rank_Best.calls, rank_Cmp.calls -/
def kx0 : S36 := ⟨⟨9, [5]⟩, 3⟩
def kx1 : S36 := ⟨⟨9, [-7]⟩, 2⟩
def kx2 : S36 := ⟨⟨9, [5]⟩, 1⟩
theorem it9 : Lib.itoa 9 = [57] := by decide +kernel
theorem it5 : Lib.itoa 5 = [53] := by decide +kernel
theorem it7 : Lib.itoa (-7) = [45, 55] := by decide +kernel
theorem code1 : codeB kx1 = [57, 44, 45, 55] := by unfold codeB codeBytes kx1; simp [it9, it7]
theorem code2 : codeB kx2 = [57, 44, 53] := by unfold codeB codeBytes kx2; simp [it9, it5]
theorem code_known : rank_Code.f 9 [-7] = some ⟨#[57, 44, 45, 55]⟩ := by
  rw [show rank_Code.f 9 [-7] = some (codeOf kx1) from code_ok kx1 ⟨by decide, by decide, by decide⟩]
  unfold codeOf
  rw [code1]
theorem kgood : ∀ r ∈ [kx2, kx1, kx0], okR r := by
  intro r hr
  simp only [List.mem_cons, List.not_mem_nil, or_false] at hr
  rcases hr with rfl | rfl | rfl <;> exact ⟨by decide, by decide, by decide⟩
theorem best_three (A : Option Addr) (c : Nat) (W : World) (hC : Kd.C k36 W A 3 [kx0, kx1, kx2]) (hT_ : YtlgndfplikhflaaDoorW.Tab.TabOK W) :
    Calls Tryd.prog 18 #[.slice A 3 c, .int .i64 1] W fun e w' => ∃ v0_ : Value, e = .returned (.tuple #[v0_, .bool true]) ∧ Kd.V k36 36 w' W.heap.size (fun k_ => W.heap.size ≤ k_) v0_ [kx2] ∧ Below W.heap.size W w' :=
  best_walk A c [kx0, kx1, kx2] 1 W [kx2] true hC (by simp)
    (fun A c W P hF => (sorted_three A c kx0 kx1 kx2 W P hF (by intro x hx; simp only [List.mem_cons, List.not_mem_nil, or_false] at hx; rcases hx with rfl | rfl | rfl <;> decide) (by decide) (by decide) (by decide)).mono fun e w' ⟨A', c', he, hf, hb⟩ => ⟨A', c', [kx2, kx1, kx0], he, hf, hb, by simp, kgood, by simp [bestL, code1, code2, mx]⟩)
    hT_
theorem best_none (A : Option Addr) (c : Nat) (W : World) (m : Int) (hT_ : YtlgndfplikhflaaDoorW.Tab.TabOK W) :
    Calls Tryd.prog 18 #[.slice A 0 c, .int .i64 m] W fun e w' => ∃ v0_ : Value, e = .returned (.tuple #[v0_, .bool false]) ∧ Kd.V k36 36 w' W.heap.size (fun k_ => W.heap.size ≤ k_) v0_ [] ∧ Below W.heap.size W w' :=
  best_walk A c [] m W [] false ⟨rfl, by decide, fun h => absurd h (Nat.lt_irrefl 0)⟩ (by simp)
    (fun A c W P hF => (sorted_none A c W).mono fun e w' ⟨A', c', he, hb⟩ => ⟨A', c', [], he, fun W' _ => ⟨rfl, by decide, fun h => absurd h (Nat.lt_irrefl 0)⟩, hb, by simp, by simp, rfl⟩)
    hT_
theorem C_one {W : World} {g : Nat} {x : Int} (h : W.heap[g]? = some (.cells #[.int .i64 x] 3 (0, 0))) : (Kd.int .i64).C W (some ⟨g, 0, none⟩) 1 [x] := by
  refine ⟨rfl, by decide, fun _ => ⟨⟨g, 0, none⟩, rfl, fun j p hj => ?_⟩⟩
  rcases j with _ | j
  · simp only [List.getElem?_cons_zero, Option.some.injEq] at hj
    subst hj
    refine ⟨[.int .i64 x], rfl, rfl, fun i u hu => ?_⟩
    rcases i with _ | i
    · simp only [List.getElem?_cons_zero, Option.some.injEq] at hu
      subst hu
      rw [add_at]
      exact (blk_cell h 0).trans rfl
    · simp at hu
  · simp at hj
theorem C_known {W : World} {g a b : Nat} (h0 : W.heap[a]? = some (.cells #[.int .i64 5] 3 (0, 0))) (h1 : W.heap[b]? = some (.cells #[.int .i64 (-7)] 3 (0, 0)))
    (h : W.heap[g]? = some (.cells #[.int .i64 9, .slice (some ⟨a, 0, none⟩) 1 1, .int .i64 3, .int .i64 9, .slice (some ⟨b, 0, none⟩) 1 1, .int .i64 2, .int .i64 9, .slice (some ⟨a, 0, none⟩) 1 1, .int .i64 1] 36 (0, 0))) : Kd.C k36 W (some ⟨g, 0, none⟩) 3 [kx0, kx1, kx2] := by
  have one : ∀ (j a : Nat) (x t : Int) (p : S36), p = ⟨⟨9, [x]⟩, t⟩ → W.heap[a]? = some (.cells #[.int .i64 x] 3 (0, 0)) → (∀ i u, ([.int .i64 9, .slice (some ⟨a, 0, none⟩) 1 1, .int .i64 t] : List Value)[i]? = some u → W.cell? ⟨g, j * 3 + i, none⟩ = some u) →
      ∃ c, c.length = 3 ∧ k36.K W p c ∧ ∀ i u, c[i]? = some u → W.cell? ((⟨g, 0, none⟩ : Addr).add (j * 3 + i)) = some u := by
    intro j a x t p hp ha hc
    subst hp
    refine ⟨[.int .i64 9, .slice (some ⟨a, 0, none⟩) 1 1, .int .i64 t], rfl, k36_mk W ⟨⟨9, [x]⟩, t⟩ (Nat.le_refl _) (C_one ha), fun i u hu => ?_⟩
    rw [add_at, Nat.zero_add]
    exact hc i u hu
  have cell : ∀ (j : Nat) (l : List Value), (∀ i, i < 3 → (#[Value.int .i64 9, .slice (some ⟨a, 0, none⟩) 1 1, .int .i64 3, .int .i64 9, .slice (some ⟨b, 0, none⟩) 1 1, .int .i64 2, .int .i64 9, .slice (some ⟨a, 0, none⟩) 1 1, .int .i64 1] : Array Value)[j * 3 + i]? = l[i]?) → l.length = 3 → ∀ i u, l[i]? = some u → W.cell? ⟨g, j * 3 + i, none⟩ = some u := by
    intro j l hl h3 i u hu
    have hi : i < 3 := by rw [← h3]; exact (List.getElem?_eq_some_iff.1 hu).1
    rw [blk_cell h (j * 3 + i), hl i hi]
    exact hu
  refine ⟨rfl, by decide, fun _ => ⟨⟨g, 0, none⟩, rfl, fun j p hj => ?_⟩⟩
  match j, hj with
  | 0, hj => exact one 0 a 5 3 p (Option.some.inj hj).symm h0 (cell 0 _ (by intro i hi; match i, hi with | 0, _ => rfl | 1, _ => rfl | 2, _ => rfl) rfl)
  | 1, hj => exact one 1 b (-7) 2 p (Option.some.inj hj).symm h1 (cell 1 _ (by intro i hi; match i, hi with | 0, _ => rfl | 1, _ => rfl | 2, _ => rfl) rfl)
  | 2, hj => exact one 2 a 5 1 p (Option.some.inj hj).symm h0 (cell 2 _ (by intro i hi; match i, hi with | 0, _ => rfl | 1, _ => rfl | 2, _ => rfl) rfl)
  | n + 3, hj => simp at hj
theorem blk_al {w : World} {g : Nat} {o : Obj} (h : w.heap[g]? = some o) (o' : Obj) : (w.alloc o').heap[g]? = some o := blk_below h (below_alloc (Below.refl _ _) _)
theorem blk_nw (w : World) (o : Obj) (g : Nat) (h : g = w.heap.size) : (w.alloc o).heap[g]? = some o := by rw [h]; exact blk_new w o
theorem add_nought {W : World} {ad : Addr} {v : Value} {k : Nat} (h : W.cell? ⟨(ad.add (Int.toNat 0 * 3)).block, (ad.add (Int.toNat 0 * 3)).off + k, none⟩ = some v) : W.cell? ⟨ad.block, ad.off + k, none⟩ = some v := by
  have e : ad.add (Int.toNat 0 * 3) = ad := by simp [Addr.add]
  rwa [e] at h
/-- The world in which the example's readings lie. -/
def kworld (w : World) : World := (((((w.alloc (.cells #[.int .i64 5] 3)).alloc (.cells #[.int .i64 (-7)] 3)).alloc (.cells #[.int .i64 9, .slice (some ⟨w.heap.size, 0, none⟩) 1 1] 24)).alloc (.cells #[.int .i64 9, .slice (some ⟨w.heap.size + 1, 0, none⟩) 1 1] 24)).alloc (.cells #[.int .i64 9, .slice (some ⟨w.heap.size, 0, none⟩) 1 1, .int .i64 3, .int .i64 9, .slice (some ⟨w.heap.size + 1, 0, none⟩) 1 1, .int .i64 2, .int .i64 9, .slice (some ⟨w.heap.size, 0, none⟩) 1 1, .int .i64 1] 36))
theorem kworld_below (w : World) : Below w.heap.size w (kworld w) := below_alloc (below_alloc (below_alloc (below_alloc (below_alloc (Below.refl _ _) _) _) _) _) _
theorem kworld0 (w : World) : (kworld w).heap[w.heap.size]? = some (.cells #[.int .i64 5] 3 (0, 0)) := blk_al (blk_al (blk_al (blk_al (blk_nw w _ _ rfl) _) _) _) _
theorem kworld1 (w : World) : (kworld w).heap[w.heap.size + 1]? = some (.cells #[.int .i64 (-7)] 3 (0, 0)) := blk_al (blk_al (blk_al (blk_nw (w.alloc (.cells #[.int .i64 5] 3)) _ _ (by simp)) _) _) _
theorem kworld2 (w : World) : (kworld w).heap[w.heap.size + 1 + 1]? = some (.cells #[.int .i64 9, .slice (some ⟨w.heap.size, 0, none⟩) 1 1] 24 (0, 0)) := blk_al (blk_al (blk_nw ((w.alloc (.cells #[.int .i64 5] 3)).alloc (.cells #[.int .i64 (-7)] 3)) _ _ (by simp)) _) _
theorem kworld3 (w : World) : (kworld w).heap[w.heap.size + 1 + 1 + 1]? = some (.cells #[.int .i64 9, .slice (some ⟨w.heap.size + 1, 0, none⟩) 1 1] 24 (0, 0)) := blk_al (blk_nw (((w.alloc (.cells #[.int .i64 5] 3)).alloc (.cells #[.int .i64 (-7)] 3)).alloc (.cells #[.int .i64 9, .slice (some ⟨w.heap.size, 0, none⟩) 1 1] 24)) _ _ (by simp)) _
theorem kworld4 (w : World) : (kworld w).heap[w.heap.size + 1 + 1 + 1 + 1]? = some (.cells #[.int .i64 9, .slice (some ⟨w.heap.size, 0, none⟩) 1 1, .int .i64 3, .int .i64 9, .slice (some ⟨w.heap.size + 1, 0, none⟩) 1 1, .int .i64 2, .int .i64 9, .slice (some ⟨w.heap.size, 0, none⟩) 1 1, .int .i64 1] 36 (0, 0)) := blk_nw ((((w.alloc (.cells #[.int .i64 5] 3)).alloc (.cells #[.int .i64 (-7)] 3)).alloc (.cells #[.int .i64 9, .slice (some ⟨w.heap.size, 0, none⟩) 1 1] 24)).alloc (.cells #[.int .i64 9, .slice (some ⟨w.heap.size + 1, 0, none⟩) 1 1] 24)) _ _ (by simp)
theorem kbest (w : World) (hT_ : YtlgndfplikhflaaDoorW.Tab.TabOK w) : Calls Tryd.prog 18 #[.slice (some ⟨w.heap.size + 1 + 1 + 1 + 1, 0, none⟩) 3 3, .int .i64 1] (((((w.alloc (.cells #[.int .i64 5] 3)).alloc (.cells #[.int .i64 (-7)] 3)).alloc (.cells #[.int .i64 9, .slice (some ⟨w.heap.size, 0, none⟩) 1 1] 24)).alloc (.cells #[.int .i64 9, .slice (some ⟨w.heap.size + 1, 0, none⟩) 1 1] 24)).alloc (.cells #[.int .i64 9, .slice (some ⟨w.heap.size, 0, none⟩) 1 1, .int .i64 3, .int .i64 9, .slice (some ⟨w.heap.size + 1, 0, none⟩) 1 1, .int .i64 2, .int .i64 9, .slice (some ⟨w.heap.size, 0, none⟩) 1 1, .int .i64 1] 36)) fun e w' => ∃ v0_ : Value, e = .returned (.tuple #[v0_, .bool true]) ∧ Kd.V k36 36 w' (kworld w).heap.size (fun k_ => (kworld w).heap.size ≤ k_) v0_ [kx2] ∧ Below (kworld w).heap.size (kworld w) w' :=
  best_three (some ⟨w.heap.size + 1 + 1 + 1 + 1, 0, none⟩) 3 (kworld w) (C_known (kworld0 w) (kworld1 w) (kworld4 w)) (tab_below hT_ (kworld_below w))
set_option maxHeartbeats 4000000 in
set_option maxRecDepth 100000 in
theorem known_walk (w : World) (hT_ : YtlgndfplikhflaaDoorW.Tab.TabOK w) :
    Calls Tryd.prog 13 #[] w fun e w' => e = .returned (.bool true) ∧ Below w.heap.size w w' := by
  have HT_ := Aside0.mk hT_
  clear hT_
  have HB := Aside0.mk (Below.refl w.heap.size w)
  have hu1 := Tryd.underlying36
  have hu3 := Tryd.underlying24
  go_enter Tryd.func13, Tryd.ntmps13
  go_wp2_with (first
    | (go_at_call 18; (with_reducible refine (kbest w HT_.out).mono ?_); rintro e w1 ⟨v1, rfl, hv1, hb1⟩; have HB1 := Aside0.mk (below_step (kworld_below w) hb1); have HV1 := Aside0.mk hv1; have H0 := Aside0.mk (blk_below (kworld0 w) hb1); have H1 := Aside0.mk (blk_below (kworld1 w) hb1); have H2 := Aside0.mk (blk_below (kworld2 w) hb1); have H3 := Aside0.mk (blk_below (kworld3 w) hb1); obtain ⟨A1, c1, ev1⟩ := Kd.V_slice HV1.out; subst ev1; clear hv1 hb1)
    | (go_at_call 18; (with_reducible refine (best_none none 0 w1 0 ?hT).mono ?_); (case hT => exact tab_below HT_.out HB1.out); rintro e w2 ⟨v2, rfl, hv2, hb2⟩; have HB2 := Aside0.mk (below_step HB1.out hb2); have HV2 := Aside0.mk (Kd.V_below HV1.out hb2); have HH0 := Aside0.mk (blk_below H0.out hb2); have HH1 := Aside0.mk (blk_below H1.out hb2); have HH3 := Aside0.mk (blk_below H3.out hb2); have HH2 := Aside0.mk (blk_below H2.out hb2); obtain ⟨A2, c2, ev2⟩ := Kd.V_slice hv2; subst ev2; clear hv2 hb2; obtain ⟨ad, Az, cz, he, q0, q1, q2, _, _⟩ := at_T36 (Kd.V_reads' HV2.out).2.2 0 (by decide) (by decide); subst he; have q3 : w2.cell? ⟨ad.block, ad.off + 2, none⟩ = some (.int .i64 1) := add_nought q2; clear q0 q1 q2; have p0 : w2.cell? ⟨w.heap.size + 1 + 1, 0, none⟩ = some (.int .i64 9) := (blk_cell HH2.out 0).trans rfl; have p1 : w2.cell? ⟨w.heap.size + 1 + 1, 1, none⟩ = some (.slice (some ⟨w.heap.size, 0, none⟩) 1 1) := (blk_cell HH2.out 1).trans rfl; have p2 : w2.cell? ⟨w.heap.size + 1 + 1 + 1, 0, none⟩ = some (.int .i64 9) := (blk_cell HH3.out 0).trans rfl; have p3 : w2.cell? ⟨w.heap.size + 1 + 1 + 1, 1, none⟩ = some (.slice (some ⟨w.heap.size + 1, 0, none⟩) 1 1) := (blk_cell HH3.out 1).trans rfl)
    | (go_at_call 14; (refine (rank_Cmp.grows 10 9 (some ⟨w.heap.size, 0, none⟩) 1 [5] 9 (some ⟨w.heap.size + 1, 0, none⟩) 1 [-7] 1 w2 (C_one HH0.out) (Nat.le_refl _) (C_one HH1.out) (Nat.le_refl _) (Cmp_eq 9 9 [5] [-7] (by decide) 10 (by decide))).mono ?_); rintro e w3 ⟨rfl, hg3⟩; have hb3 := gro_below hg3; have HB3 := Aside0.mk (below_step HB2.out hb3); have HK1 := Aside0.mk (blk_below HH1.out hb3); have p4 : w3.cell? ⟨w.heap.size + 1 + 1 + 1, 0, none⟩ = some (.int .i64 9) := pw_cell_below hb3 p2; have p5 : w3.cell? ⟨w.heap.size + 1 + 1 + 1, 1, none⟩ = some (.slice (some ⟨w.heap.size + 1, 0, none⟩) 1 1) := pw_cell_below hb3 p3; clear hb3)
    | (go_at_call 22; (refine (rank_Code.calls 9 (some ⟨w.heap.size + 1, 0, none⟩) 1 [-7] _ w3 (C_one HK1.out) (Nat.le_refl _) code_known ?hT).mono ?_); (case hT => exact tab_below HT_.out HB3.out); rintro e w4 ⟨rfl, hb4⟩; have HB4 := Aside0.mk (below_step HB3.out hb4); clear hb4))
  go_ret
  exact ⟨rfl, HB4.out⟩
def interlocutorlaw10_known.f : Option Bool := some true
theorem interlocutorlaw10_known.calls (r : Bool) (w : World) (h : interlocutorlaw10_known.f = some r) (hT_ : YtlgndfplikhflaaDoorW.Tab.TabOK w) :
    Calls Tryd.prog 13 #[] w fun e w' => e = .returned (.bool r) ∧ Below w.heap.size w w' := by
  obtain rfl := Option.some.inj h
  exact known_walk w hT_

/-! ### interlocutorlaw10_within: function 17 -/
def interlocutorlaw10_within.f (a0 : Int) (a1 : Int) : Option (Int) := if a1 = 0 then (none) else (if (Int.tmod a0 a1) < 0 then (some (wrap64 ((Int.tmod a0 a1) + a1))) else (some (Int.tmod a0 a1)))
set_option maxHeartbeats 8000000 in
set_option maxRecDepth 100000 in
theorem interlocutorlaw10_within.calls (a0 : Int) (a1 : Int) (r : Int) (w : World) (h : interlocutorlaw10_within.f a0 a1 = some r) :
    Calls Tryd.prog 17 #[.int .i64 a0, .int .i64 a1] w fun e w' => e = .returned (.int .i64 r) ∧ Drawn0 w w' := by
  have H : (if a1 = 0 then (none) else (if (Int.tmod a0 a1) < 0 then (some (wrap64 ((Int.tmod a0 a1) + a1))) else (some (Int.tmod a0 a1)))) = some r := h
  clear h
  by_cases c3 : a1 = 0
  · rw [if_pos c3] at H
    exact absurd H (by simp)
  · rw [if_neg c3] at H
    have c3b0 : (a1 == 0) = false := beq_eq_false_iff_ne.mpr c3
    have c3b1 : (a1 != 0) = true := bne_iff_ne.mpr c3
    by_cases c4 : (Int.tmod a0 a1) < 0
    · rw [if_pos c4] at H
      have c4b0 : decide ((Int.tmod a0 a1) < 0) = true := decide_eq_true c4
      clear c4
      obtain rfl := Option.some.inj H
      go_enter Tryd.func17, Tryd.ntmps17
      go_wp2
      go_ret
      exact ⟨by first | rfl | (simp; done) | (simp [*]; done), by repeat (first | exact Drawn0.refl _ | apply Drawn0.step)⟩
    · rw [if_neg c4] at H
      have c4b0 : decide ((Int.tmod a0 a1) < 0) = false := decide_eq_false c4
      clear c4
      obtain rfl := Option.some.inj H
      go_enter Tryd.func17, Tryd.ntmps17
      go_wp2
      go_ret
      exact ⟨by first | rfl | (simp; done) | (simp [*]; done), by repeat (first | exact Drawn0.refl _ | apply Drawn0.step)⟩

end Go.Proofs.YtlgndfplikhflaaDoor.G
