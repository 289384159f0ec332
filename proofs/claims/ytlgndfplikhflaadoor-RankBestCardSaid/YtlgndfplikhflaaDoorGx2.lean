import Derived.Test.YtlgndfplikhflaaDoorGx0
import Derived.Test.YtlgndfplikhflaaDoorGx1
namespace Go.Proofs.YtlgndfplikhflaaDoor.G
open Go.RowKit Go.Proofs.YtlgndfplikhflaaDoorW.PrintWords Go.Proofs.YtlgndfplikhflaaDoorW.PrintLast Go.Proofs.YtlgndfplikhflaaDoorW.PrintMore Go.Proofs.YtlgndfplikhflaaDoorW.VWords Go.Proofs.YtlgndfplikhflaaDoorW.Tab
attribute [local go_sem] max2_int min2_int max_two min_two max_three min_three max_four min_four
set_option linter.unusedVariables false
set_option linter.unusedSimpArgs false
abbrev N24 : Bool := false
abbrev Y24 : Bool := true
theorem pq24 : (∀ (t : Array Value) d (n : Nat) (v : Value), Act.put ⟨t, d⟩ (some n) v = ⟨t.setIfInBounds n v, d⟩) ∧ (∀ (l : List Value) (n : Nat) (v : Value), l.toArray.setIfInBounds n v = (l.set n v).toArray) ∧ (∀ (x v : Value) (l : List Value), (x :: l).set 0 v = v :: l) ∧ (∀ (x v : Value) (l : List Value) (n : Nat), (x :: l).set (n + 1) v = x :: l.set n v) ∧ (∀ z : Int, IntKind.i64.wrap z = wrap64 z) ∧ (∀ z : Int, IntKind.i32.wrap z = wrap32 z) := ⟨fun _ _ _ _ => rfl, fun _ _ _ => List.setIfInBounds_toArray .., fun _ _ _ => List.set_cons_zero .., fun _ _ _ _ => List.set_cons_succ .., i64_w, i32_w⟩
def rank_value_against.f (k : Nat) (a0_0 : Int) (l0_1 : List Int) (a1_0 : Int) (l1_1 : List Int) : Option (Int) := (cmp_Compare_int.f a0_0 a1_0).bind fun t109 => ((cmp_Compare_int.f (l0_1.length : Int) (l1_1.length : Int)).bind fun t110 => ((slices_Compare_int_int.f k l0_1 l1_1).bind fun t111 => ((cmp_Or_int.f k (([t109, t110, t111] : List Int))).bind fun t115 => (some t115))))
def rank_value_against.T1 : Bool × List (List Nat × List Nat) := (true, [([], []), ([0], [0]), ([], []), ([2], [2]), ([1, 3], [1, 3]), ([], []), ([5], [5]), ([6], [6]), ([], []), ([8], [8]), ([9], [9]), ([7, 10, 4], [7, 10]), ([], []), ([12], [12]), ([], []), ([14], [14]), ([13, 15, 11], [13, 15]), ([4, 11, 16], [4, 11, 16]), ([17, 16], [17]), ([18, 18, 0, 1, 2, 3, 4, 5, 6, 7, 8, 9, 10, 11, 12, 13, 14, 15, 16, 17, 18], [18])])
def rank_value_against.B1 : List Nat := [0, 1, 0, 4, 15, 0, 32, 96, 0, 256, 768, 2047, 0, 4096, 0, 16384, 65535, 131071, 262143, 524287]
theorem rank_value_against.tab1 : rtab .any (opsOf Tryd.f24 1) = rank_value_against.T1 := by kernel_rfl
theorem rank_value_against.bits1 : waitsOk rank_value_against.T1.2 rank_value_against.B1 = true := by kernel_rfl
def rank_Cmp.f (k : Nat) (a0_0 : Int) (l0_1 : List Int) (a1_0 : Int) (l1_1 : List Int) : Option (Int) := (rank_value_against.f k a0_0 l0_1 a1_0 l1_1).bind fun t118 => (some t118)
def codeBytes (a : Int) (l : List Int) : List UInt8 := Lib.itoa a ++ l.flatMap fun x => 44 :: Lib.itoa x
def rank_Code.f (a0_0 : Int) (l0_1 : List Int) : Option ByteArray :=
  if (-9223372036854775808 ≤ a0_0 ∧ a0_0 ≤ 9223372036854775807) ∧ (∀ x ∈ l0_1, -9223372036854775808 ≤ x ∧ x ≤ 9223372036854775807) ∧ l0_1.length ≤ 1000000 then some ⟨(codeBytes a0_0 l0_1).toArray⟩ else none
def codeInts (l : List UInt8) : List Int := l.map fun b => (b.toNat : Int)
theorem codeInts_app (a b : List UInt8) : codeInts (a ++ b) = codeInts a ++ codeInts b := by simp [codeInts]
theorem codeInts_str (l : List UInt8) : strOfNums (codeInts l) = ⟨l.toArray⟩ := by
  unfold strOfNums codeInts
  congr 1
  simp [List.map_map, Function.comp_def]
theorem codeBytes_snoc (a : Int) (l : List Int) (x : Int) : codeBytes a (l ++ [x]) = codeBytes a l ++ (44 :: Lib.itoa x) := by simp [codeBytes]
theorem itoa_len (x : Int) (h0 : -9223372036854775808 ≤ x) (h1 : x ≤ 9223372036854775807) : (Lib.itoa x).length ≤ 21 := Lib.itoa_length_le x h0 h1
theorem codeBytes_len (a : Int) (l : List Int) (h0 : -9223372036854775808 ≤ a ∧ a ≤ 9223372036854775807) (h : ∀ x ∈ l, -9223372036854775808 ≤ x ∧ x ≤ 9223372036854775807) : (codeBytes a l).length ≤ 21 + 22 * l.length := by
  unfold codeBytes
  rw [List.length_append]
  have h2 : (l.flatMap fun x => 44 :: Lib.itoa x).length ≤ 22 * l.length := by
    induction l with
    | nil => simp
    | cons x l ih =>
      rw [List.flatMap_cons, List.length_append, List.length_cons, List.length_cons]
      have := ih (fun y hy => h y (List.mem_cons_of_mem _ hy))
      have hx := h x List.mem_cons_self
      have := itoa_len x hx.1 hx.2
      omega
  have := itoa_len a h0.1 h0.2
  omega
theorem tab_belows {w : World} (h : YtlgndfplikhflaaDoorW.Tab.TabOK w) : ∀ W, Below w.heap.size w W → Lib.TabBelow Tryd.prog (w.heap.size + 1) W "internal/strconv.uint64pow10" .u64 Lib.pow10Tab := fun W hb w' hb' => YtlgndfplikhflaaDoorW.Tab.tab_below h (hb.trans (hb'.mono (Nat.le_succ _)))
theorem appendInt_nums (B : Nat) (y : Int) (hy : -9223372036854775808 ≤ y ∧ y ≤ 9223372036854775807) (v : Value) (X : List Int) (w : World) (hown : w.ownsRow B 5 1 v X.length (nums .u8 X)) (hBw : B ≤ w.heap.size) (hlim : X.length + 21 ≤ 140737488355328) (htab : Lib.TabBelow Tryd.prog B w "internal/strconv.uint64pow10" .u64 Lib.pow10Tab) :
    Calls Tryd.prog 34 #[v, .int .i64 y, .int .i64 10] w fun e w' => ∃ v', e = .returned v' ∧ w'.ownsRow B 5 1 v' (X ++ codeInts (Lib.itoa y)).length (nums .u8 (X ++ codeInts (Lib.itoa y))) ∧ Below B w w' := by
  refine (Go.Proofs.Tryd.strconv_AppendInt_10 B X.length y hy.1 hy.2 v (nums .u8 X) w hown hBw hlim htab).mono ?_
  rintro e w' ⟨v', rfl, ho, hb, _⟩
  refine ⟨v', rfl, ?_, hb⟩
  have e1 : (X ++ codeInts (Lib.itoa y)).length = X.length + (Lib.itoa y).length := by simp [codeInts]
  have e2 : nums .u8 (X ++ codeInts (Lib.itoa y)) = nums .u8 X ++ Lib.byteCells (Lib.itoa y) := by simp [nums, codeInts, Lib.byteCells, List.map_map, Function.comp_def]
  rw [e1, e2]
  exact ho
set_option maxHeartbeats 4000000 in
set_option maxRecDepth 100000 in
theorem rank_Code.walk_ (a0_0 : Int) (A0_1 : Option Addr) (c0_1 : Nat) (l0_1 : List Int) (r : ByteArray) (w : World) (hr0_1 : Kd.C (Kd.int .i64) w A0_1 l0_1.length l0_1) (h1 : -9223372036854775808 ≤ a0_0 ∧ a0_0 ≤ 9223372036854775807) (h2 : ∀ x ∈ l0_1, -9223372036854775808 ≤ x ∧ x ≤ 9223372036854775807) (h3 : l0_1.length ≤ 1000000) (hr : r = ⟨(codeBytes a0_0 l0_1).toArray⟩) (hT_ : YtlgndfplikhflaaDoorW.Tab.TabOK w) :
    Calls Tryd.prog 22 #[.agg #[.int .i64 a0_0, .slice A0_1 l0_1.length c0_1]] w fun e w' => e = .returned (.string r) ∧ Below w.heap.size w w' := by
  have hu := Tryd.underlying24
  have HT_ := Aside0.mk hT_
  have H1 := Aside0.mk h1
  have H2 := Aside0.mk h2
  have H3 := Aside0.mk h3
  have HR := Aside0.mk hr
  have HC := Aside0.mk hr0_1
  clear h1 h2 h3 hr hr0_1 hT_
  have HB := Aside0.mk (Below.refl w.heap.size w)
  go_enter Tryd.func22, Tryd.ntmps22
  go_wp2_with (first
    | ((with_reducible refine gate_dst (N := 1) rfl ?_); refine box_event ?hg (N := 1) ?hd (cs := #[.int .i64 a0_0, .slice A0_1 l0_1.length c0_1]) (t := 24) ?hr ?_; (case hd => rfl); (case hg => rfl); (case hr => first | (go_simp; done) | (go_simp; rfl)); intro gb hg w1 hbox hb; subst hg; have HB1 := Aside0.mk hb; have HX := Aside0.mk hbox; have hlt := (Array.getElem?_eq_some_iff.1 hbox).1; have HZ := Aside0.mk hlt; have hc0 : w1.cell? ⟨w.heap.size, 0, none⟩ = some (.int .i64 a0_0) := (blk_cell HX.out 0).trans rfl; clear hbox hb hlt HB)
    | (go_at_call 34; (refine (appendInt_nums (w.heap.size + 1) a0_0 H1.out (.slice none 0 0) [] _ (own_nil _ _ _ _) ?hB_ (by decide) ?hT_).mono ?_); (case hB_ => exact HZ.out); (case hT_ => exact tab_belows HT_.out _ HB1.out); rintro e w5 ⟨v5, rfl, hown, hb⟩; clear hc0; have HB5 := Aside0.mk (Below.trans HB1.out (hb.mono (Nat.le_succ _))); have HX5 := Aside0.mk ((hb.block w.heap.size (Nat.lt_succ_self _)).trans HX.out); have HO := Aside0.mk hown; have hc1 : w5.cell? ⟨w.heap.size, 1, none⟩ = some (.slice A0_1 l0_1.length c0_1) := (blk_cell HX5.out 1).trans rfl; have HS5 := Aside0.mk (Nat.lt_of_lt_of_le HZ.out hb.size); clear hown hb HB1 HX HZ))
  clear hc1
  go_loopg [3, 12] l0_1.length (fun kq v3 v12 wr => ∃ i : Nat, v12 = .int .i64 i ∧ Aside0 (i + kq = l0_1.length) ∧ Aside0 (wr.ownsRow (w.heap.size + 1) 5 1 v3 (codeInts (codeBytes a0_0 (l0_1.take i))).length (nums .u8 (codeInts (codeBytes a0_0 (l0_1.take i))))) ∧ Aside0 (Below w.heap.size w wr) ∧ Aside0 (w.heap.size + 1 ≤ wr.heap.size))
  case atStart => exact ⟨0, rfl, ⟨by simp⟩, ⟨by simpa [codeBytes] using HO.out⟩, HB5, HS5⟩
  case round =>
    clear HO HB5 HX5 HS5
    obtain ⟨i, rfl, HI, HO, HB, HS⟩ := hrel
    have hX := codeBytes_len a0_0 (l0_1.take i) H1.out (fun x hx => H2.out x (List.mem_of_mem_take hx))
    have HX := Aside0.mk (show (codeInts (codeBytes a0_0 (l0_1.take i))).length ≤ 22000021 by have := H3.out; simp only [codeInts, List.length_map]; simp only [List.length_take] at hX; omega)
    clear hX
    by_cases hi : i < l0_1.length
    · cases gk with
      | zero => exact absurd HI.out (by omega)
      | succ k1 =>
        obtain ⟨ad, he, hc⟩ := Kd.at_int (Kd.C_below HC.out HB.out) (i : Int) (by omega) (by omega)
        subst he
        rw [Int.toNat_natCast] at hc
        obtain ⟨y, HY⟩ : ∃ y, Aside0 (y = rd l0_1 i) := ⟨_, ⟨rfl⟩⟩
        rw [← HY.out] at hc
        have hmem : rd l0_1 i ∈ l0_1 := by
          unfold rd
          rw [Int.toNat_natCast, List.getD_eq_getElem?_getD, List.getElem?_eq_getElem hi]
          exact List.getElem_mem hi
        have HY1 := Aside0.mk (show -9223372036854775808 ≤ y ∧ y ≤ 9223372036854775807 by rw [HY.out]; exact H2.out _ hmem)
        have HY2 := Aside0.mk (show l0_1.take (i + 1) = l0_1.take i ++ [y] by rw [HY.out]; unfold rd; rw [Int.toNat_natCast, List.take_add_one, List.getD_eq_getElem?_getD, List.getElem?_eq_getElem hi]; rfl)
        clear hmem
        have hi0 : (i : Int) < (l0_1.length : Int) := by omega
        have HW := Aside0.mk (show wrap64 ((i : Int) + 1) = ((i + 1 : Nat) : Int) by have := H3.out; unfold wrap64; omega)
        go_wp2_with (first
          | ((with_reducible refine gate_builtin (b := .append) (xs := #[.tmp 16, .tmp 17]) rfl ?_); at_builtin; refine print_append_num (w0 := wr) (w.heap.size + 1) rfl (.tmp 16) (.tmp 17) 58 5 .u8 1 rfl Tryd.underlying58 info5 (by decide) u3 (codeInts (codeBytes a0_0 (l0_1.take i))) 44 rfl rfl HO.out (Below.refl _ _) HS.out ?aL ?_; (case aL => have := HX.out; omega); intro v18 w18 ho18 hb18 hg18 hat18; have HO18 := Aside0.mk ho18; have HB18 := Aside0.mk hb18; have HS18 := Aside0.mk (Nat.le_trans HS.out hb18.size); clear ho18 hb18 hg18 hat18)
          | (go_at_call 34; (refine (appendInt_nums (w.heap.size + 1) y HY1.out v18 (codeInts (codeBytes a0_0 (l0_1.take i)) ++ [44]) _ HO18.out HS18.out ?hL_ ?hT_).mono ?_); (case hL_ => have := HX.out; simp only [List.length_append, List.length_cons, List.length_nil]; omega); (case hT_ => exact tab_belows HT_.out _ (Below.trans HB.out (HB18.out.mono (Nat.le_succ _)))); rintro e w20 ⟨v20, rfl, ho20, hb20⟩; have HO20 := Aside0.mk ho20; have HB20 := Aside0.mk hb20; clear ho20 hb20))
        go_roundg k1
        case measure => omega
        case rel =>
          refine ⟨i + 1, by rw [HW.out], ⟨by have := HI.out; omega⟩, ⟨?_⟩, ⟨Below.trans (Below.trans HB.out (HB18.out.mono (Nat.le_succ _))) (HB20.out.mono (Nat.le_succ _))⟩, ⟨Nat.le_trans HS18.out HB20.out.size⟩⟩
          have e : codeInts (codeBytes a0_0 (l0_1.take (i + 1))) = codeInts (codeBytes a0_0 (l0_1.take i)) ++ [44] ++ codeInts (Lib.itoa y) := by rw [HY2.out, codeBytes_snoc, codeInts_app]; simp [codeInts]
          rw [e]
          exact HO20.out
    · have hi1 : i = l0_1.length := by have := HI.out; omega
      have hi0 : ¬ (i : Int) < (l0_1.length : Int) := by omega
      have HX2 := Aside0.mk (show codeInts (codeBytes a0_0 (l0_1.take i)) = codeInts (codeBytes a0_0 l0_1) by rw [hi1, List.take_length])
      clear hi1
      have hcv := own_string (P := Tryd.prog) Tryd.underlying58 Tryd.underlying5 Tryd.underlying9 HO.out
      rw [HX2.out, codeInts_str, ← HR.out] at hcv
      go_wp2
      go_ret
      exact ⟨rfl, HB.out⟩
theorem rank_Code.calls (a0_0 : Int) (A0_1 : Option Addr) (c0_1 : Nat) (l0_1 : List Int) (r : ByteArray) (w : World) (hr0_1 : Kd.C (Kd.int .i64) w A0_1 l0_1.length l0_1) (hc0_1 : l0_1.length ≤ c0_1) (h : rank_Code.f a0_0 l0_1 = some r) (hT_ : YtlgndfplikhflaaDoorW.Tab.TabOK w) :
    Calls Tryd.prog 22 #[.agg #[.int .i64 a0_0, .slice A0_1 l0_1.length c0_1]] w fun e w' => e = .returned (.string r) ∧ Below w.heap.size w w' := by
  unfold rank_Code.f at h
  by_cases hm : (-9223372036854775808 ≤ a0_0 ∧ a0_0 ≤ 9223372036854775807) ∧ (∀ x ∈ l0_1, -9223372036854775808 ≤ x ∧ x ≤ 9223372036854775807) ∧ l0_1.length ≤ 1000000
  · rw [if_pos hm] at h
    exact rank_Code.walk_ a0_0 A0_1 c0_1 l0_1 r w hr0_1 hm.1 hm.2.1 hm.2.2 (Option.some.inj h).symm hT_
  · rw [if_neg hm] at h
    cases h
end Go.Proofs.YtlgndfplikhflaaDoor.G
