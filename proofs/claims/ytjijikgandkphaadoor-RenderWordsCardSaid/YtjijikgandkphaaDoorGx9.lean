import Derived.Test.YtjijikgandkphaaDoorGx0
import Derived.Test.YtjijikgandkphaaDoorGx4
import Derived.Test.YtjijikgandkphaaDoorGx5
import Derived.Test.YtjijikgandkphaaDoorGx6
import Derived.Test.YtjijikgandkphaaDoorGx8
namespace Go.Proofs.YtjijikgandkphaaDoor.G
open Go.RowKit Go.Proofs.YtjijikgandkphaaDoorW.PrintWords Go.Proofs.YtjijikgandkphaaDoorW.PrintLast Go.Proofs.YtjijikgandkphaaDoorW.PrintMore Go.Proofs.YtjijikgandkphaaDoorW.VWords Go.Proofs.YtjijikgandkphaaDoorW.Tab
attribute [local go_sem] max2_int min2_int max_two min_two max_three min_three max_four min_four
set_option linter.unusedVariables false
set_option linter.unusedSimpArgs false
def shownF (k : Nat) (dg : Int) : List Int → ByteArray → Option ByteArray
 | [], out => some out
 | b :: bs, out => (fold_Digit.f k dg ((b - 48) % 256)).bind fun d => if out.size + d.size ≤ 9223372036854775807 then shownF k dg bs (out ++ d) else none
set_option maxHeartbeats 8000000 in
set_option maxRecDepth 100000 in
theorem digits_walk (k : Nat) (dg : Int) (s r : ByteArray) (g : Nat) (cs : Array Value) (w : World) (hb : w.heap[g]? = some (.cells cs 58 (0, 0))) (h2 : cs[2]? = some (.int .i64 dg)) (hs : s.size ≤ 9223372036854775807) (h : shownF k dg (bytesOf s) ⟨#[]⟩ = some r) :
  Calls Tryd.prog 42 #[.pointer (some ⟨g, 0, none⟩), .string s] w fun e w' => e = .returned (.string r) ∧ Below w.heap.size w w' := by
 have hu58 := Tryd.underlying58
 have hu35 := Tryd.underlying35
 have HK := Aside0.mk hb
 have H2 := Aside0.mk h2
 have HS := Aside0.mk hs
 have H := Aside0.mk h
 have HD := Aside0.mk (Below.refl w.heap.size w)
 clear hb h2 hs h
 go_enter Tryd.func42, Tryd.ntmps42
 go_wp2
 go_loopg [5, 9] (s.size + 1) (fun kq v5 v9 w' => ∃ (m : Nat) (i : Int) (out : ByteArray), v5 = .string out ∧ v9 = .int .i64 i ∧ Aside0 (i = (m : Int)) ∧ Aside0 (m ≤ s.size ∧ kq + m = s.size + 1) ∧ Aside0 (shownF k dg ((bytesOf s).drop m) out = some r) ∧ Aside0 (Below w.heap.size w w'))
 case atStart => exact ⟨0, 0, ⟨#[]⟩, rfl, rfl, ⟨rfl⟩, ⟨by omega, rfl⟩, H, HD⟩
 case round =>
  clear HD H
  obtain ⟨m, i, out, rfl, rfl, HI, HJ, H, HD⟩ := hrel
  cases gk with
  | zero => exact absurd HJ.out (by omega)
  | succ k1 =>
   by_cases hm : m < s.size
   ·have hwr : wrap64 (i + 1) = i + 1 := by have := HI.out; have := HS.out; unfold wrap64; omega
    have cb : decide (i < (s.size : Int)) = true := decide_eq_true (by have := HI.out; omega)
    have p0 : 0 ≤ i := by have := HI.out; omega
    have q0 : i < (s.size : Int) := by have := HI.out; omega
    have hl : (bytesOf s).drop m = bt s i :: (bytesOf s).drop (m + 1) := by
     rw [← rd_bytesOf, rd, List.getD_eq_getElem?_getD, show i.toNat = m by have := HI.out; omega, List.getElem?_eq_getElem (by rw [bytesOf_length]; exact hm)]
     exact List.drop_eq_getElem_cons (by rw [bytesOf_length]; exact hm)
    have H' := H.out
    rw [hl, shownF] at H'
    clear H hl
    obtain ⟨d, hd, H'⟩ := Option.bind_eq_some_iff.mp H'
    by_cases hsz : out.size + d.size ≤ 9223372036854775807
    ·rw [if_pos hsz] at H'
     have H := Aside0.mk H'
     have HDg := Aside0.mk hd
     clear H' hd
     have z2 : wr.cell? ⟨g, 2, none⟩ = some (.int .i64 dg) := (blk_cell (blk_below HK.out HD.out) 2).trans H2.out
     go_wp2_with fail
     have hsz2 : (9223372036854775807 < out.size + d.size) = False := eq_false (Nat.not_lt.2 hsz)
     have hbt := bt_at s i
     have hbr := bt_range s i
     have hw8 : IntKind.u8.wrap (bt s i - 48) = (bt s i - 48) % 256 := by simp [IntKind.wrap, IntKind.signed, IntKind.bits]
     have hw3 : IntKind.i64.wrap ((bt s i - 48) % 256) = (bt s i - 48) % 256 := by rw [i64_w]; unfold wrap64; omega
     have hw4 : wrap64 ((bt s i - 48) % 256) = (bt s i - 48) % 256 := by unfold wrap64; omega
     have e0 : wr.drew.cell? ⟨g, 2, none⟩ = some (.int .i64 dg) := z2
     replace HD := Aside0.mk (below_drew HD.out)
     clear z2
     refine start_ (n := 14) (S := fun w' => w'.cell? ⟨g, 2, none⟩ = some (.int .i64 dg)) (ds := []) #[false, false, false, false, false, false, false, false, false, false, false, false, false, false] (by kernel_rfl) rfl rfl e0 (fun hHeld => ?_)
     generalize World.drew _ = wd at HD hHeld ⊢
     refine pure_ (i := 0) (N := (some 12)) (v := ?_) (a' := ?_) (oB 14 1) rfl rfl (by kernel_rfl) (fun _ _ _ h => h) (Or.inl ⟨by rfl, ?_⟩) ?_ ?_
     rotate_left
     ·intro w'
      go_simp
      with_reducible rfl
     rotate_left
     ·simp only [Act.put, List.setIfInBounds_toArray, List.set_cons_zero, List.set_cons_succ, i64_w, i32_w]
      rfl
     refine pure_ (i := 1) (N := (some 13)) (v := ?_) (a' := ?_) (oB 14 3) rfl rfl (by kernel_rfl) (fun _ _ _ h => h) (Or.inl ⟨by rfl, ?_⟩) ?_ ?_
     rotate_left
     ·intro w'
      go_simp
      with_reducible rfl
     rotate_left
     ·simp only [Act.put, List.setIfInBounds_toArray, List.set_cons_zero, List.set_cons_succ, i64_w, i32_w]
      rfl
     refine pure_ (i := 2) (N := (some 14)) (v := ?_) (a' := ?_) (oB 14 7) rfl rfl (by kernel_rfl) (fun _ _ _ h => h) (Or.inl ⟨by rfl, ?_⟩) ?_ ?_
     rotate_left
     ·intro w'
      go_simp
      with_reducible rfl
     rotate_left
     ·simp only [Act.put, List.setIfInBounds_toArray, List.set_cons_zero, List.set_cons_succ, i64_w, i32_w]
      rfl
     refine pure_ (i := 3) (N := (some 15)) (v := ?_) (a' := ?_) (oB 14 15) rfl rfl (by kernel_rfl) (fun _ _ _ h => h) (Or.inl ⟨by rfl, ?_⟩) ?_ ?_
     rotate_left
     ·intro w'
      go_simp
      with_reducible rfl
     rotate_left
     ·simp only [Act.put, List.setIfInBounds_toArray, List.set_cons_zero, List.set_cons_succ, i64_w, i32_w]
      rfl
     refine pure_ (i := 4) (N := (some 16)) (v := ?_) (a' := ?_) (oB 14 31) rfl rfl (by kernel_rfl) (fun _ _ _ h => h) (Or.inl ⟨by rfl, ?_⟩) ?_ ?_
     rotate_left
     ·intro w'
      go_simp
      with_reducible rfl
     rotate_left
     ·simp only [Act.put, List.setIfInBounds_toArray, List.set_cons_zero, List.set_cons_succ, i64_w, i32_w]
      rfl
     refine take_ (i := 5) (N := (some 17)) (v := ?_) (a' := ?_) (oB 14 63) rfl rfl (by kernel_rfl) (fun _ _ _ h => h) (Or.inl ⟨by rfl, ?_⟩) hHeld ?_ ?_
     rotate_left
     ·rintro w' s0
      go_simp
      with_reducible rfl
     rotate_left
     ·simp only [Act.put, List.setIfInBounds_toArray, List.set_cons_zero, List.set_cons_succ, i64_w, i32_w]
      rfl
     refine pure_ (i := 6) (N := (some 18)) (v := ?_) (a' := ?_) (oB 14 127) rfl rfl (by kernel_rfl) (fun _ _ _ h => h) (Or.inl ⟨by rfl, ?_⟩) ?_ ?_
     rotate_left
     ·intro w'
      go_simp
      with_reducible rfl
     rotate_left
     ·simp only [Act.put, List.setIfInBounds_toArray, List.set_cons_zero, List.set_cons_succ, i64_w, i32_w]
      rfl
     refine pure_ (i := 7) (N := (some 19)) (v := ?_) (a' := ?_) (oB 14 255) rfl rfl (by kernel_rfl) (fun _ _ _ h => h) (Or.inl ⟨by rfl, ?_⟩) ?_ ?_
     rotate_left
     ·intro w'
      go_simp
      with_reducible rfl
     rotate_left
     ·simp only [Act.put, List.setIfInBounds_toArray, List.set_cons_zero, List.set_cons_succ, i64_w, i32_w]
      rfl
     refine pure_ (i := 8) (N := (some 20)) (v := ?_) (a' := ?_) (oB 14 511) rfl rfl (by kernel_rfl) (fun _ _ _ h => h) (Or.inl ⟨by rfl, ?_⟩) ?_ ?_
     rotate_left
     ·intro w'
      go_simp
      with_reducible rfl
     rotate_left
     ·simp only [Act.put, List.setIfInBounds_toArray, List.set_cons_zero, List.set_cons_succ, i64_w, i32_w]
      rfl
     refine pure_ (i := 9) (N := (some 21)) (v := ?_) (a' := ?_) (oB 14 1023) rfl rfl (by kernel_rfl) (fun _ _ _ h => h) (Or.inl ⟨by rfl, ?_⟩) ?_ ?_
     rotate_left
     ·intro w'
      go_simp
      with_reducible rfl
     rotate_left
     ·simp only [Act.put, List.setIfInBounds_toArray, List.set_cons_zero, List.set_cons_succ, i64_w, i32_w]
      rfl
     refine pure_ (i := 10) (N := (some 22)) (v := ?_) (a' := ?_) (oB 14 2047) rfl rfl (by kernel_rfl) (fun _ _ _ h => h) (Or.inl ⟨by rfl, ?_⟩) ?_ ?_
     rotate_left
     ·intro w'
      go_simp
      with_reducible rfl
     rotate_left
     ·simp only [Act.put, List.setIfInBounds_toArray, List.set_cons_zero, List.set_cons_succ, i64_w, i32_w]
      rfl
     refine one_ (i := 11) (N := (some 23)) (oB 14 4095) rfl rfl (by kernel_rfl) (by decide) (fun K hK => ?_)
     refine goes_ Tryd.func63 (by kernel_rfl) rfl #[.int .i64 dg, .int .i64 ((bt s i - 48) % 256)] (by rfl) rfl rfl (by (try simp only [List.map_toArray, List.map_cons, List.map_nil]); first | done | rfl) ?_
     refine (fold_Digit.calls k dg ((bt s i - 48) % 256) d _ HDg.out).mono ?_
     rintro e w8 ⟨rfl, hb⟩
     refine ⟨_, rfl, ?_⟩
     change K (Act.put _ (some 23) _) _
     refine hK.out _ _ (pw_cell_below hb hHeld) (fun hHeld => ?_)
     clear hK K
     refine nM ?_
     refine pure_ (i := 12) (N := (some 24)) (v := ?_) (a' := ?_) (oB 14 8191) rfl rfl (by kernel_rfl) (fun _ _ _ h => h) (Or.inl ⟨by rfl, ?_⟩) ?_ ?_
     rotate_left
     ·intro w'
      go_simp
      with_reducible rfl
     rotate_left
     ·simp only [Act.put, List.setIfInBounds_toArray, List.set_cons_zero, List.set_cons_succ, i64_w, i32_w]
      rfl
     refine pure_ (i := 13) (N := (some 5)) (v := ?_) (a' := ?_) (oB 14 16383) rfl rfl (by kernel_rfl) (fun _ _ _ h => h) (Or.inl ⟨by rfl, ?_⟩) ?_ ?_
     rotate_left
     ·intro w'
      go_simp
      with_reducible rfl
     rotate_left
     ·simp only [Act.put, List.setIfInBounds_toArray, List.set_cons_zero, List.set_cons_succ, i64_w, i32_w]
      rfl
     refine done_ (by kernel_rfl) ?_
     replace HD := Aside0.mk (below_step HD.out hb)
     clear hb hHeld hsz2 hbt hbr hw8 hw3 hw4 e0
     go_wp2
     go_roundg k1
     case measure => have := HJ.out; omega
     case rel => exact ⟨m + 1, wrap64 (i + 1), _, rfl, rfl, ⟨by have := HI.out; rw [hwr]; omega⟩, ⟨by have := HJ.out; omega⟩, H, HD⟩
    ·rw [if_neg hsz] at H'
     cases H'
   ·have cb : decide (i < (s.size : Int)) = false := decide_eq_false (by have := HI.out; omega)
    have H' := H.out
    rw [List.drop_eq_nil_of_le (by rw [bytesOf_length]; omega), shownF] at H'
    cases H'
    go_wp2
    go_ret
    exact ⟨rfl, HD.out⟩
abbrev rset5 (w : World) (g : Nat) (a b c d e : Value) : World := ((((w.setCell ⟨g, 0, none⟩ a).setCell ⟨g, 1, none⟩ b).setCell ⟨g, 2, none⟩ c).setCell ⟨g, 3, none⟩ d).setCell ⟨g, 4, none⟩ e
theorem rset5_far (w : World) (g b : Nat) (v0 v1 v2 v3 v4 : Value) (h : b ≠ g) : (rset5 w g v0 v1 v2 v3 v4).heap[b]? = w.heap[b]? := by
 unfold rset5
 rw [Below.heap_setCell _ _ _ _ h, Below.heap_setCell _ _ _ _ h, Below.heap_setCell _ _ _ _ h, Below.heap_setCell _ _ _ _ h, Below.heap_setCell _ _ _ _ h]
theorem rset5_blk {w : World} {g t : Nat} {x0 x1 x2 x3 x4 : Value} (h : w.heap[g]? = some (.cells #[x0, x1, x2, x3, x4] t (0, 0))) (v0 v1 v2 v3 v4 : Value) : (rset5 w g v0 v1 v2 v3 v4).heap[g]? = some (.cells #[v0, v1, v2, v3, v4] t (0, 0)) :=
 blk_set (blk_set (blk_set (blk_set (blk_set h 0 v0) 1 v1) 2 v2) 3 v3) 4 v4
theorem rset5_below {w W : World} {g : Nat} (h : Below w.heap.size w W) (n : w.heap.size ≤ g) (v0 v1 v2 v3 v4 : Value) : Below w.heap.size w (rset5 W g v0 v1 v2 v3 v4) := below_set (below_set (below_set (below_set (below_set h n) n) n) n) n
def numF (k : Nat) (dg : Int) (f : S81) (pw : Int) : Option ByteArray :=
 (strings_Repeat.f (⟨#[48]⟩ : ByteArray) (mx (wrap64 (pw - (f.f1.size : Int))) 0)).bind fun pad => if f.f1.size + pad.size ≤ 9223372036854775807 then (if f.f3 = true then shownF k dg (bytesOf (f.f1 ++ pad)) ⟨#[]⟩ else if f.f4 = true then shownF k dg (bytesOf f.f1) ⟨#[]⟩ else (shownF k dg (bytesOf (pad ++ f.f1)) ⟨#[]⟩).bind fun d => if 1 + d.size ≤ 9223372036854775807 then some ((if f.f2 = true then (⟨#[45]⟩ : ByteArray) else ⟨#[]⟩) ++ d) else none) else none
set_option maxHeartbeats 8000000 in
set_option maxRecDepth 100000 in
theorem number_walk (k : Nat) (dg : Int) (fs : List S81) (A : Option Addr) (c : Nat) (pk pf pw pc : Int) (pt : ByteArray) (r : ByteArray) (g : Nat) (cs : Array Value) (w : World) (hb : w.heap[g]? = some (.cells cs 58 (0, 0))) (h2 : cs[2]? = some (.int .i64 dg)) (h6 : cs[6]? = some (.slice A fs.length c)) (hC : Kd.C k81 w A fs.length fs) (p0 : 0 ≤ pf) (q0 : pf < (fs.length : Int)) (h : numF k dg (rd_T81 fs pf) pw = some r) :
  Calls Tryd.prog 30 #[.pointer (some ⟨g, 0, none⟩), .agg #[.int .i64 pk, .string pt, .int .i64 pf, .int .i64 pw, .int .i64 pc]] w fun e w' => e = .returned (.tuple #[.string r, .bool true]) ∧ Below w.heap.size w w' := by
 have hu58 := Tryd.underlying58
 have hu27 := Tryd.underlying27
 have hu81 := Tryd.underlying81
 have hu55 := Tryd.underlying55
 obtain ⟨ad, e, y0, y1, y2, y3, y4⟩ := at_T81 hC pf p0 q0
 subst e
 obtain ⟨f, hf⟩ : ∃ f, f = rd_T81 fs pf := ⟨_, rfl⟩
 rw [← hf] at h y0 y1 y2 y3 y4
 obtain ⟨pad, hpad, h⟩ := Option.bind_eq_some_iff.mp h
 obtain ⟨n1, q1⟩ : ∃ z : Int, (if wrap64 (pw - (f.f1.size : Int)) < 0 then 0 else wrap64 (pw - (f.f1.size : Int))) = z := ⟨_, rfl⟩
 have hpad2 : strings_Repeat.f (⟨#[48]⟩ : ByteArray) n1 = some pad := by rw [← q1]; exact hpad
 by_cases hsz : f.f1.size + pad.size ≤ 9223372036854775807
 rotate_left
 ·rw [if_neg hsz] at h
  cases h
 rw [if_pos hsz] at h
 have HK := Aside0.mk hb
 have H2 := Aside0.mk h2
 have H6 := Aside0.mk h6
 have HP := Aside0.mk hpad2
 have H := Aside0.mk h
 have HY := Aside0.mk (And.intro y0 (And.intro y1 (And.intro y2 (And.intro y3 y4))))
 have HF := Aside0.mk hf
 clear hb h2 h6 hpad hpad2 h y0 y1 y2 y3 y4 hf hC
 go_enter Tryd.func30, Tryd.ntmps30
 go_wp2_with (first | ((with_reducible refine gate_dst (N := 3) rfl ?_); refine box_event ?hg (N := 3) ?hd (cs := #[.int .i64 pk, .string pt, .int .i64 pf, .int .i64 pw, .int .i64 pc]) (t := 27) ?hr ?_; (case hd => rfl); (case hg => rfl); (case hr => first | (go_simp; done) | (go_simp; rfl)); intro g3 hg3 w3 hbox hb; have K3 := Aside0.mk hbox; have HD := Aside0.mk hb; clear hbox hb hg3))
 replace HD := Aside0.mk (below_drew HD.out)
 replace K3 := Aside0.mk (blk_drew K3.out)
 have e0 : w3.drew.cell? ⟨g, 6, none⟩ = some (.slice (some ad) fs.length c) ∧ w3.drew.cell? ⟨g3, 2, none⟩ = some (.int .i64 pf) ∧ w3.drew.cell? (ad.add (pf.toNat * 5)) = some (.int .i64 f.f0) ∧ w3.drew.cell? ⟨(ad.add (pf.toNat * 5)).block, (ad.add (pf.toNat * 5)).off + 1, none⟩ = some (.string f.f1) ∧ w3.drew.cell? ⟨(ad.add (pf.toNat * 5)).block, (ad.add (pf.toNat * 5)).off + 2, none⟩ = some (.bool f.f2) ∧ w3.drew.cell? ⟨(ad.add (pf.toNat * 5)).block, (ad.add (pf.toNat * 5)).off + 3, none⟩ = some (.bool f.f3) ∧ w3.drew.cell? ⟨(ad.add (pf.toNat * 5)).block, (ad.add (pf.toNat * 5)).off + 4, none⟩ = some (.bool f.f4) := ⟨(blk_cell (blk_below HK.out HD.out) 6).trans H6.out, (blk_cell K3.out 2).trans rfl, pw_cell_below HD.out HY.out.1, pw_cell_below HD.out HY.out.2.1, pw_cell_below HD.out HY.out.2.2.1, pw_cell_below HD.out HY.out.2.2.2.1, pw_cell_below HD.out HY.out.2.2.2.2⟩
 refine start_ (n := 10) (S := fun w' => w'.cell? ⟨g, 6, none⟩ = some (.slice (some ad) fs.length c) ∧ w'.cell? ⟨g3, 2, none⟩ = some (.int .i64 pf) ∧ w'.cell? (ad.add (pf.toNat * 5)) = some (.int .i64 f.f0) ∧ w'.cell? ⟨(ad.add (pf.toNat * 5)).block, (ad.add (pf.toNat * 5)).off + 1, none⟩ = some (.string f.f1) ∧ w'.cell? ⟨(ad.add (pf.toNat * 5)).block, (ad.add (pf.toNat * 5)).off + 2, none⟩ = some (.bool f.f2) ∧ w'.cell? ⟨(ad.add (pf.toNat * 5)).block, (ad.add (pf.toNat * 5)).off + 3, none⟩ = some (.bool f.f3) ∧ w'.cell? ⟨(ad.add (pf.toNat * 5)).block, (ad.add (pf.toNat * 5)).off + 4, none⟩ = some (.bool f.f4)) (ds := []) #[false, false, false, false, false, false, false, false, false, false] (by kernel_rfl) rfl rfl e0 (fun hHeld => ?_)
 clear e0
 generalize World.drew _ = wd at HD K3 hHeld ⊢
 refine pure_ (i := 0) (N := (some 9)) (v := ?_) (a' := ?_) (oB 10 1) rfl rfl (by kernel_rfl) (fun _ _ _ h => h) (Or.inl ⟨by rfl, ?_⟩) ?_ ?_
 rotate_left
 ·intro w'
  go_simp
  with_reducible rfl
 rotate_left
 ·simp only [Act.put, List.setIfInBounds_toArray, List.set_cons_zero, List.set_cons_succ, i64_w, i32_w]
  rfl
 refine pure_ (i := 1) (N := (some 10)) (v := ?_) (a' := ?_) (oB 10 3) rfl rfl (by kernel_rfl) (fun _ _ _ h => h) (Or.inl ⟨by rfl, ?_⟩) ?_ ?_
 rotate_left
 ·intro w'
  go_simp
  with_reducible rfl
 rotate_left
 ·simp only [Act.put, List.setIfInBounds_toArray, List.set_cons_zero, List.set_cons_succ, i64_w, i32_w]
  rfl
 refine pure_ (i := 2) (N := (some 11)) (v := ?_) (a' := ?_) (oB 10 7) rfl rfl (by kernel_rfl) (fun _ _ _ h => h) (Or.inl ⟨by rfl, ?_⟩) ?_ ?_
 rotate_left
 ·intro w'
  go_simp
  with_reducible rfl
 rotate_left
 ·simp only [Act.put, List.setIfInBounds_toArray, List.set_cons_zero, List.set_cons_succ, i64_w, i32_w]
  rfl
 refine pure_ (i := 4) (N := (some 13)) (v := ?_) (a' := ?_) (oB 10 23) rfl rfl (by kernel_rfl) (fun _ _ _ h => h) (Or.inl ⟨by rfl, ?_⟩) ?_ ?_
 rotate_left
 ·intro w'
  go_simp
  with_reducible rfl
 rotate_left
 ·simp only [Act.put, List.setIfInBounds_toArray, List.set_cons_zero, List.set_cons_succ, i64_w, i32_w]
  rfl
 refine take_ (i := 3) (N := (some 12)) (v := ?_) (a' := ?_) (oB 10 31) rfl rfl (by kernel_rfl) (fun _ _ _ h => h) (Or.inl ⟨by rfl, ?_⟩) hHeld ?_ ?_
 rotate_left
 ·rintro w' ⟨s0, s1, s2, s3, s4, s5, s6⟩
  go_simp
  with_reducible rfl
 rotate_left
 ·simp only [Act.put, List.setIfInBounds_toArray, List.set_cons_zero, List.set_cons_succ, i64_w, i32_w]
  rfl
 refine take_ (i := 5) (N := (some 14)) (v := ?_) (a' := ?_) (oB 10 63) rfl rfl (by kernel_rfl) (fun _ _ _ h => h) (Or.inl ⟨by rfl, ?_⟩) hHeld ?_ ?_
 rotate_left
 ·rintro w' ⟨s0, s1, s2, s3, s4, s5, s6⟩
  go_simp
  with_reducible rfl
 rotate_left
 ·simp only [Act.put, List.setIfInBounds_toArray, List.set_cons_zero, List.set_cons_succ, i64_w, i32_w]
  rfl
 refine pure_ (i := 6) (N := (some 15)) (v := ?_) (a' := ?_) (oB 10 127) rfl rfl (by kernel_rfl) (fun _ _ _ h => h) (Or.inl ⟨by rfl, ?_⟩) ?_ ?_
 rotate_left
 ·intro w'
  go_simp
  with_reducible rfl
 rotate_left
 ·simp only [Act.put, List.setIfInBounds_toArray, List.set_cons_zero, List.set_cons_succ, i64_w, i32_w]
  rfl
 refine take_ (i := 7) (N := (some 16)) (v := ?_) (a' := ?_) (oB 10 255) rfl rfl (by kernel_rfl) (fun _ _ _ h => h) (Or.inl ⟨by rfl, ?_⟩) hHeld ?_ ?_
 rotate_left
 ·rintro w' ⟨s0, s1, s2, s3, s4, s5, s6⟩
  go_simp
  with_reducible rfl
 rotate_left
 ·simp only [Act.put, List.setIfInBounds_toArray, List.set_cons_zero, List.set_cons_succ, i64_w, i32_w]
  rfl
 refine one_ (i := 8) (N := (some 6)) (oB 10 511) rfl rfl (by kernel_rfl) (by decide) (fun K hK => ?_)
 refine box_step ?hg (N := 6) ?hd (cs := #[.int .i64 0, .string (⟨#[]⟩ : ByteArray), .bool false, .bool false, .bool false]) (t := 81) ?hr ?_; (case hd => rfl); (case hg => rfl); (case hr => first | (go_simp; done) | (go_simp; rfl))
 intro g6 hg w6 hbox hb
 have K6 := Aside0.mk hbox
 have n3 : g3 < wd.heap.size := blk_lt K3.out
 have n6 : w.heap.size ≤ g6 := by rw [hg]; exact below_size HD.out
 replace K3 := Aside0.mk (blk_below K3.out hb)
 replace HD := Aside0.mk (below_step HD.out hb)
 have e36 : g3 ≠ g6 := by omega
 clear hg hbox n3
 change K (Act.put _ (some 6) _) _
 refine hK.out _ _ ⟨pw_cell_below hb hHeld.1, pw_cell_below hb hHeld.2.1, pw_cell_below hb hHeld.2.2.1, pw_cell_below hb hHeld.2.2.2.1, pw_cell_below hb hHeld.2.2.2.2.1, pw_cell_below hb hHeld.2.2.2.2.2.1, pw_cell_below hb hHeld.2.2.2.2.2.2⟩ (fun hHeld => ?_)
 clear hK K
 refine nM ?_
 have y0 : w6.cell? ⟨g6, 0, none⟩ = some (.int .i64 0) := (blk_cell K6.out 0).trans rfl
 have f0 := blk_frozen K6.out 0
 have y1 : w6.cell? ⟨g6, 1, none⟩ = some (.string (⟨#[]⟩ : ByteArray)) := (blk_cell K6.out 1).trans rfl
 have f1 := blk_frozen K6.out 1
 have y2 : w6.cell? ⟨g6, 2, none⟩ = some (.bool false) := (blk_cell K6.out 2).trans rfl
 have f2 := blk_frozen K6.out 2
 have y3 : w6.cell? ⟨g6, 3, none⟩ = some (.bool false) := (blk_cell K6.out 3).trans rfl
 have f3 := blk_frozen K6.out 3
 have y4 : w6.cell? ⟨g6, 4, none⟩ = some (.bool false) := (blk_cell K6.out 4).trans rfl
 have f4 := blk_frozen K6.out 4
 have ew : g ≠ g6 := by have := blk_lt HK.out; omega
 have ea : (ad.add (pf.toNat * 5)).block ≠ g6 := by have := World.block_lt_of_cell? w _ HY.out.1; omega
 refine one_ (i := 9) (N := none) (oB 10 1023) rfl rfl (by kernel_rfl) (by decide) (fun K hK => ?_)
 refine skip_ (w1 := ?_) (by rfl) rfl ?_ ?_
 rotate_left
 ·go_simp
  rfl
 clear y0 f0 y1 f1 y2 f2 y3 f3 y4 f4
 change K _ (rset5 w6 g6 (.int .i64 f.f0) (.string f.f1) (.bool f.f2) (.bool f.f3) (.bool f.f4))
 have hfar : ∀ b, b ≠ g6 → (rset5 w6 g6 (.int .i64 f.f0) (.string f.f1) (.bool f.f2) (.bool f.f3) (.bool f.f4)).heap[b]? = w6.heap[b]? := fun b hb => rset5_far w6 g6 b _ _ _ _ _ hb
 replace K3 := Aside0.mk ((hfar g3 e36).trans K3.out)
 replace HK := Aside0.mk ((hfar g ew).trans (blk_below HK.out HD.out))
 replace K6 := Aside0.mk (rset5_blk K6.out (.int .i64 f.f0) (.string f.f1) (.bool f.f2) (.bool f.f3) (.bool f.f4))
 replace HD := Aside0.mk (rset5_below HD.out n6 (.int .i64 f.f0) (.string f.f1) (.bool f.f2) (.bool f.f3) (.bool f.f4))
 have hcf : ∀ a v, a.block ≠ g6 → w6.cell? a = some v → (rset5 w6 g6 (.int .i64 f.f0) (.string f.f1) (.bool f.f2) (.bool f.f3) (.bool f.f4)).cell? a = some v := fun a v ha hv => by rw [World.cell?, hfar _ ha]; exact hv
 refine hK.out _ _ ⟨hcf _ _ ew hHeld.1, hcf _ _ e36 hHeld.2.1, hcf _ _ ea hHeld.2.2.1, hcf _ _ ea hHeld.2.2.2.1, hcf _ _ ea hHeld.2.2.2.2.1, hcf _ _ ea hHeld.2.2.2.2.2.1, hcf _ _ ea hHeld.2.2.2.2.2.2⟩ (fun hHeld => ?_)
 clear hK K
 refine done_ (by kernel_rfl) ?_
 clear hHeld hfar hcf e36 ew ea n6 hb
 generalize rset5 _ _ _ _ _ _ _ = W at HK K3 K6 HD ⊢
 have z3 : W.cell? ⟨g3, 3, none⟩ = some (.int .i64 pw) := (blk_cell K3.out 3).trans rfl
 have z6 : W.cell? ⟨g6, 1, none⟩ = some (.string f.f1) := (blk_cell K6.out 1).trans rfl
 have hs1 : (9223372036854775807 < f.f1.size + pad.size) = False := eq_false (Nat.not_lt.2 hsz)
 have hs2 : (9223372036854775807 < pad.size + f.f1.size) = False := eq_false (Nat.not_lt.2 (by omega))
 have HB := hsz
 have h := H.out
 clear H
 cases h3 : f.f3 with
 | true =>
  rw [if_pos h3] at h
  have HQ := Aside0.mk h
  clear h
  go_wp2_with (first
   | (go_at_call 41; (with_reducible refine (strings_Repeat.calls _ n1 pad _ HP.out).mono ?_); rintro e wr ⟨rfl, hb⟩; replace HK := Aside0.mk (blk_below HK.out hb); replace K3 := Aside0.mk (blk_below K3.out hb); replace K6 := Aside0.mk (blk_below K6.out hb); replace HD := Aside0.mk (below_step HD.out hb); clear hb; have y1 : wr.cell? ⟨g6, 1, none⟩ = some (.string f.f1) := (blk_cell K6.out 1).trans rfl; have y2 : wr.cell? ⟨g6, 2, none⟩ = some (.bool f.f2) := (blk_cell K6.out 2).trans rfl; have y3 : wr.cell? ⟨g6, 3, none⟩ = some (.bool f.f3) := (blk_cell K6.out 3).trans rfl; have y4 : wr.cell? ⟨g6, 4, none⟩ = some (.bool f.f4) := (blk_cell K6.out 4).trans rfl)
   | (go_at_call 42; (with_reducible refine (digits_walk k dg (f.f1 ++ pad) _ g cs _ HK.out H2.out (by rw [ByteArray.size_append]; omega) HQ.out).mono ?_); rintro e wz ⟨rfl, hb⟩; replace HD := Aside0.mk (below_step HD.out hb); clear hb))
  all_goals go_ret2
  all_goals exact ⟨by first | rfl | simp, HD.out⟩
 | false =>
  rw [if_neg (by rw [h3]; decide)] at h
  cases h4 : f.f4 with
  | true =>
   rw [if_pos h4] at h
   have HQ := Aside0.mk h
   clear h
   go_wp2_with (first
    | (go_at_call 41; (with_reducible refine (strings_Repeat.calls _ n1 pad _ HP.out).mono ?_); rintro e wr ⟨rfl, hb⟩; replace HK := Aside0.mk (blk_below HK.out hb); replace K3 := Aside0.mk (blk_below K3.out hb); replace K6 := Aside0.mk (blk_below K6.out hb); replace HD := Aside0.mk (below_step HD.out hb); clear hb; have y1 : wr.cell? ⟨g6, 1, none⟩ = some (.string f.f1) := (blk_cell K6.out 1).trans rfl; have y2 : wr.cell? ⟨g6, 2, none⟩ = some (.bool f.f2) := (blk_cell K6.out 2).trans rfl; have y3 : wr.cell? ⟨g6, 3, none⟩ = some (.bool f.f3) := (blk_cell K6.out 3).trans rfl; have y4 : wr.cell? ⟨g6, 4, none⟩ = some (.bool f.f4) := (blk_cell K6.out 4).trans rfl)
    | (go_at_call 42; (with_reducible refine (digits_walk k dg f.f1 _ g cs _ HK.out H2.out (by omega) HQ.out).mono ?_); rintro e wz ⟨rfl, hb⟩; replace HD := Aside0.mk (below_step HD.out hb); clear hb))
   all_goals go_ret2
   all_goals exact ⟨by first | rfl | simp, HD.out⟩
  | false =>
   rw [if_neg (by rw [h4]; decide)] at h
   obtain ⟨d, hd, h⟩ := Option.bind_eq_some_iff.mp h
   have HQ := Aside0.mk hd
   clear hd
   by_cases hz : 1 + d.size ≤ 9223372036854775807
   rotate_left
   ·rw [if_neg hz] at h
    cases h
   rw [if_pos hz] at h
   have hz2 : (9223372036854775807 < 1 + d.size) = False := eq_false (Nat.not_lt.2 hz)
   have hz3 : (9223372036854775807 < 0 + d.size) = False := eq_false (Nat.not_lt.2 (by omega))
   have hz4 : (9223372036854775807 < d.size) = False := eq_false (Nat.not_lt.2 (by omega))
   clear hz
   cases h2 : f.f2 with
   | true =>
    rw [h2, if_pos rfl] at h
    cases h
    go_wp2_with (first
     | (go_at_call 41; (with_reducible refine (strings_Repeat.calls _ n1 pad _ HP.out).mono ?_); rintro e wr ⟨rfl, hb⟩; replace HK := Aside0.mk (blk_below HK.out hb); replace K3 := Aside0.mk (blk_below K3.out hb); replace K6 := Aside0.mk (blk_below K6.out hb); replace HD := Aside0.mk (below_step HD.out hb); clear hb; have y1 : wr.cell? ⟨g6, 1, none⟩ = some (.string f.f1) := (blk_cell K6.out 1).trans rfl; have y2 : wr.cell? ⟨g6, 2, none⟩ = some (.bool f.f2) := (blk_cell K6.out 2).trans rfl; have y3 : wr.cell? ⟨g6, 3, none⟩ = some (.bool f.f3) := (blk_cell K6.out 3).trans rfl; have y4 : wr.cell? ⟨g6, 4, none⟩ = some (.bool f.f4) := (blk_cell K6.out 4).trans rfl)
     | (go_at_call 42; (with_reducible refine (digits_walk k dg (pad ++ f.f1) _ g cs _ HK.out H2.out (by rw [ByteArray.size_append]; omega) HQ.out).mono ?_); rintro e wz ⟨rfl, hb⟩; replace HD := Aside0.mk (below_step HD.out hb); clear hb))
    all_goals go_ret2
    all_goals exact ⟨by first | rfl | simp, HD.out⟩
   | false =>
    rw [h2, if_neg (by decide)] at h
    cases h
    go_wp2_with (first
     | (go_at_call 41; (with_reducible refine (strings_Repeat.calls _ n1 pad _ HP.out).mono ?_); rintro e wr ⟨rfl, hb⟩; replace HK := Aside0.mk (blk_below HK.out hb); replace K3 := Aside0.mk (blk_below K3.out hb); replace K6 := Aside0.mk (blk_below K6.out hb); replace HD := Aside0.mk (below_step HD.out hb); clear hb; have y1 : wr.cell? ⟨g6, 1, none⟩ = some (.string f.f1) := (blk_cell K6.out 1).trans rfl; have y2 : wr.cell? ⟨g6, 2, none⟩ = some (.bool f.f2) := (blk_cell K6.out 2).trans rfl; have y3 : wr.cell? ⟨g6, 3, none⟩ = some (.bool f.f3) := (blk_cell K6.out 3).trans rfl; have y4 : wr.cell? ⟨g6, 4, none⟩ = some (.bool f.f4) := (blk_cell K6.out 4).trans rfl)
     | (go_at_call 42; (with_reducible refine (digits_walk k dg (pad ++ f.f1) _ g cs _ HK.out H2.out (by rw [ByteArray.size_append]; omega) HQ.out).mono ?_); rintro e wz ⟨rfl, hb⟩; replace HD := Aside0.mk (below_step HD.out hb); clear hb))
    all_goals go_ret2
    all_goals exact ⟨by first | rfl | simp, HD.out⟩
def hits (pc n : Int) (x : S24) : Bool := x.f1 == pc && x.f2 == n
set_option maxHeartbeats 8000000 in
set_option maxRecDepth 100000 in
theorem clo_walk (fs : List S81) (A : Option Addr) (c : Nat) (pk pf pw pc : Int) (pt : ByteArray) (n : Int) (x : S24) (g g2 g3 : Nat) (cs : Array Value) (w : World) (hb : w.heap[g]? = some (.cells cs 58 (0, 0))) (h6 : cs[6]? = some (.slice A fs.length c)) (hC : Kd.C k81 w A fs.length fs) (b2 : w.heap[g2]? = some (.cells #[.pointer (some ⟨g, 0, none⟩)] 54 (0, 0))) (b3 : w.heap[g3]? = some (.cells #[.int .i64 pk, .string pt, .int .i64 pf, .int .i64 pw, .int .i64 pc] 27 (0, 0))) (p0 : 0 ≤ pf) (q0 : pf < (fs.length : Int)) (hn : n = (rd_T81 fs pf).f0) (b : Bool) (hbx : hits pc n x = b) :
  Calls Tryd.prog 44 #[.agg #[.string x.f0, .int .i64 x.f1, .int .i64 x.f2], .pointer (some ⟨g3, 0, none⟩), .pointer (some ⟨g2, 0, none⟩)] w fun e w' => e = .returned (.bool b) ∧ Below w.heap.size w w' := by
 have hu58 := Tryd.underlying58
 have hu27 := Tryd.underlying27
 have hu81 := Tryd.underlying81
 have hu55 := Tryd.underlying55
 have hu24 := Tryd.underlying24
 have hu25 := Tryd.underlying25
 have hu35 := Tryd.underlying35
 have hu54 := Tryd.underlying54
 obtain ⟨ad, e, y0, _⟩ := at_T81 hC pf p0 q0
 subst e
 rw [← hn] at y0
 have HK := Aside0.mk hb
 have H6 := Aside0.mk h6
 have HB2 := Aside0.mk b2
 have HB3 := Aside0.mk b3
 have HY := Aside0.mk y0
 have HN := Aside0.mk hn
 clear hb h6 b2 b3 y0 hn hC
 subst hbx
 have e : hits pc n x = (x.f1 == pc && x.f2 == n) := rfl
 rw [e]
 clear e
 cases c1 : x.f1 == pc with
 | true =>
  go_enter Tryd.func44, Tryd.ntmps44
  go_wp2_with (first | ((with_reducible refine gate_dst (N := 3) rfl ?_); refine box_event ?hg (N := 3) ?hd (cs := #[.string x.f0, .int .i64 x.f1, .int .i64 x.f2]) (t := 24) ?hr ?_; (case hd => rfl); (case hg => rfl); (case hr => first | (go_simp; done) | (go_simp; rfl)); intro ge hge we hbox hb; have z1 : we.cell? ⟨ge, 1, none⟩ = some (.int .i64 x.f1) := (blk_cell hbox 1).trans rfl; have z2 : we.cell? ⟨ge, 2, none⟩ = some (.int .i64 x.f2) := (blk_cell hbox 2).trans rfl; have HD := Aside0.mk hb; have z3 : we.cell? ⟨g3, 4, none⟩ = some (.int .i64 pc) := (blk_cell (blk_below HB3.out hb) 4).trans rfl; have z4 : we.cell? ⟨g3, 2, none⟩ = some (.int .i64 pf) := (blk_cell (blk_below HB3.out hb) 2).trans rfl; have z5 : we.cell? ⟨g2, 0, none⟩ = some (.pointer (some ⟨g, 0, none⟩)) := (blk_cell (blk_below HB2.out hb) 0).trans rfl; have z6 : we.cell? ⟨g, 6, none⟩ = some (.slice (some ad) fs.length c) := (blk_cell (blk_below HK.out hb) 6).trans H6.out; have z7 := pw_cell_below hb HY.out; clear hbox hb hge))
  go_quiet (fail)
  go_wp2
  go_ret
  exact ⟨by first | rfl | simp, pw_below_drewN HD.out _⟩
 | false =>
  go_enter Tryd.func44, Tryd.ntmps44
  go_wp2_with (first | ((with_reducible refine gate_dst (N := 3) rfl ?_); refine box_event ?hg (N := 3) ?hd (cs := #[.string x.f0, .int .i64 x.f1, .int .i64 x.f2]) (t := 24) ?hr ?_; (case hd => rfl); (case hg => rfl); (case hr => first | (go_simp; done) | (go_simp; rfl)); intro ge hge we hbox hb; have z1 : we.cell? ⟨ge, 1, none⟩ = some (.int .i64 x.f1) := (blk_cell hbox 1).trans rfl; have z2 : we.cell? ⟨ge, 2, none⟩ = some (.int .i64 x.f2) := (blk_cell hbox 2).trans rfl; have HD := Aside0.mk hb; have z3 : we.cell? ⟨g3, 4, none⟩ = some (.int .i64 pc) := (blk_cell (blk_below HB3.out hb) 4).trans rfl; have z4 : we.cell? ⟨g3, 2, none⟩ = some (.int .i64 pf) := (blk_cell (blk_below HB3.out hb) 2).trans rfl; have z5 : we.cell? ⟨g2, 0, none⟩ = some (.pointer (some ⟨g, 0, none⟩)) := (blk_cell (blk_below HB2.out hb) 0).trans rfl; have z6 : we.cell? ⟨g, 6, none⟩ = some (.slice (some ad) fs.length c) := (blk_cell (blk_below HK.out hb) 6).trans H6.out; have z7 := pw_cell_below hb HY.out; clear hbox hb hge))
  go_quiet (fail)
  go_wp2
  go_ret
  exact ⟨by first | rfl | simp, pw_below_drewN HD.out _⟩
set_option maxHeartbeats 8000000 in
set_option maxRecDepth 100000 in
theorem idx_walk (lex : List S24) (AL : Option Addr) (cL : Nat) (fs : List S81) (A : Option Addr) (c : Nat) (pk pf pw pc : Int) (pt : ByteArray) (n : Int) (g g2 g3 : Nat) (cs : Array Value) (w : World) (hL : Kd.C k24 w AL lex.length lex) (hb : w.heap[g]? = some (.cells cs 58 (0, 0))) (h6 : cs[6]? = some (.slice A fs.length c)) (hC : Kd.C k81 w A fs.length fs) (b2 : w.heap[g2]? = some (.cells #[.pointer (some ⟨g, 0, none⟩)] 54 (0, 0))) (b3 : w.heap[g3]? = some (.cells #[.int .i64 pk, .string pt, .int .i64 pf, .int .i64 pw, .int .i64 pc] 27 (0, 0))) (p0 : 0 ≤ pf) (q0 : pf < (fs.length : Int)) (hn : n = (rd_T81 fs pf).f0) :
  Calls Tryd.prog 43 #[.slice AL lex.length cL, .func (.func 44) #[] #[.pointer (some ⟨g3, 0, none⟩), .pointer (some ⟨g2, 0, none⟩)]] w fun e w' => ∃ i : Int, e = .returned (.int .i64 i) ∧ ((lex.find? (hits pc n) = none ∧ i = -1) ∨ (0 ≤ i ∧ i < (lex.length : Int) ∧ lex.find? (hits pc n) = some (rd_T24 lex i))) ∧ Below w.heap.size w w' := by
 have hu58 := Tryd.underlying58
 have hu27 := Tryd.underlying27
 have hu81 := Tryd.underlying81
 have hu55 := Tryd.underlying55
 have hu24 := Tryd.underlying24
 have hu25 := Tryd.underlying25
 have hu35 := Tryd.underlying35
 have hu54 := Tryd.underlying54
 have HL := Aside0.mk hL
 have HC := Aside0.mk hC
 have HK := Aside0.mk hb
 have H6 := Aside0.mk h6
 have HB2 := Aside0.mk b2
 have HB3 := Aside0.mk b3
 have HN := Aside0.mk hn
 have HM := Aside0.mk (Kd.C_max hL)
 have HD := Aside0.mk (Below.refl w.heap.size w)
 clear hL hb h6 b2 b3 hn hC
 go_enter Tryd.func43, Tryd.ntmps43
 go_wp2
 go_loopg [8] (lex.length + 1) (fun kq v8 w' => ∃ (m : Nat) (i : Int), v8 = .int .i64 i ∧ Aside0 (i = (m : Int)) ∧ Aside0 (m ≤ lex.length ∧ kq + m = lex.length + 1) ∧ Aside0 (lex.find? (hits pc n) = (lex.drop m).find? (hits pc n)) ∧ Aside0 (Below w.heap.size w w'))
 case atStart => exact ⟨0, 0, rfl, ⟨rfl⟩, ⟨by omega, rfl⟩, ⟨by rw [List.drop_zero]⟩, HD⟩
 case round =>
  clear HD
  obtain ⟨m, i, rfl, HI, HJ, H, HD⟩ := hrel
  cases gk with
  | zero => exact absurd HJ.out (by omega)
  | succ k1 =>
   by_cases hm : m < lex.length
   ·have hwr : wrap64 (i + 1) = i + 1 := by have := HI.out; have := HM.out; unfold wrap64; omega
    have cb : decide (i < (lex.length : Int)) = true := decide_eq_true (by have := HI.out; omega)
    have r0 : 0 ≤ i := by have := HI.out; omega
    have r1 : i < (lex.length : Int) := by have := HI.out; omega
    obtain ⟨x, hx⟩ : ∃ x, x = rd_T24 lex i := ⟨_, rfl⟩
    obtain ⟨ad, e, y0, y1, y2⟩ := at_T24 (Kd.C_below HL.out HD.out) i r0 r1
    subst e
    rw [← hx] at y0 y1 y2
    have hl : lex.drop m = x :: lex.drop (m + 1) := by
     rw [hx, rd_T24, List.getD_eq_getElem?_getD, show i.toNat = m by have := HI.out; omega, List.getElem?_eq_getElem hm]
     exact List.drop_eq_getElem_cons hm
    have HX := Aside0.mk hx
    clear hx
    have H' := H.out
    rw [hl, List.find?_cons] at H'
    clear H hl
    have hs : Value.slice (some ad) lex.length cL = Value.slice (some ad) lex.length cL := rfl
    clear hs
    cases ch : hits pc n x with
    | true =>
     rw [ch] at H'
     replace H' := Aside0.mk H'
     go_wp2_with (first | ((with_reducible refine gate_dyn (sl := 11) rfl ?_); refine goesV_ (some 16) rfl rfl 11 #[] #[.pointer (some ⟨g3, 0, none⟩), .pointer (some ⟨g2, 0, none⟩)] Tryd.func44 (by kernel_rfl) rfl #[.agg #[.string x.f0, .int .i64 x.f1, .int .i64 x.f2], .pointer (some ⟨g3, 0, none⟩), .pointer (some ⟨g2, 0, none⟩)] rfl rfl (by (try simp only [List.map_toArray, List.map_cons, List.map_nil]); first | done | rfl | (simp <;> rfl)) ?_; (with_reducible refine (clo_walk fs A c pk pf pw pc pt n x g g2 g3 cs _ (blk_below HK.out HD.out) H6.out (Kd.C_below HC.out HD.out) (blk_below HB2.out HD.out) (blk_below HB3.out HD.out) p0 q0 HN.out _ ch).mono ?_); rintro e wc ⟨rfl, hb⟩; refine ⟨_, rfl, ?_⟩; replace HD := Aside0.mk (below_step HD.out hb); clear hb))
     go_ret
     exact ⟨i, rfl, Or.inr ⟨r0, r1, by rw [H'.out, HX.out]⟩, HD.out⟩
    | false =>
     rw [ch] at H'
     replace H' := Aside0.mk H'
     go_wp2_with (first | ((with_reducible refine gate_dyn (sl := 11) rfl ?_); refine goesV_ (some 16) rfl rfl 11 #[] #[.pointer (some ⟨g3, 0, none⟩), .pointer (some ⟨g2, 0, none⟩)] Tryd.func44 (by kernel_rfl) rfl #[.agg #[.string x.f0, .int .i64 x.f1, .int .i64 x.f2], .pointer (some ⟨g3, 0, none⟩), .pointer (some ⟨g2, 0, none⟩)] rfl rfl (by (try simp only [List.map_toArray, List.map_cons, List.map_nil]); first | done | rfl | (simp <;> rfl)) ?_; (with_reducible refine (clo_walk fs A c pk pf pw pc pt n x g g2 g3 cs _ (blk_below HK.out HD.out) H6.out (Kd.C_below HC.out HD.out) (blk_below HB2.out HD.out) (blk_below HB3.out HD.out) p0 q0 HN.out _ ch).mono ?_); rintro e wc ⟨rfl, hb⟩; refine ⟨_, rfl, ?_⟩; replace HD := Aside0.mk (below_step HD.out hb); clear hb))
     go_roundg k1
     case measure => have := HJ.out; omega
     case rel => exact ⟨m + 1, i + 1, rfl, ⟨by have := HI.out; omega⟩, ⟨by have := HJ.out; omega⟩, H', HD⟩
   ·have cb : decide (i < (lex.length : Int)) = false := decide_eq_false (by have := HI.out; omega)
    have H' := H.out
    rw [List.drop_eq_nil_of_le (by omega)] at H'
    replace H' := Aside0.mk H'
    clear H
    go_wp2
    go_ret
    exact ⟨-1, rfl, Or.inl ⟨H'.out, rfl⟩, HD.out⟩
def wordF (pc n : Int) (lex : List S24) : Option ByteArray := (lex.find? (hits pc n)).map fun x => x.f0
def oks (o : Option ByteArray) : ByteArray × Bool := match o with | some s => (s, true) | none => (⟨#[]⟩, false)
set_option maxHeartbeats 8000000 in
set_option maxRecDepth 100000 in
theorem word_walk (lex : List S24) (AL : Option Addr) (cL : Nat) (fs : List S81) (A : Option Addr) (c : Nat) (pk pf pw pc : Int) (pt : ByteArray) (g : Nat) (cs : Array Value) (w : World) (hL : Kd.C k24 w AL lex.length lex) (hb : w.heap[g]? = some (.cells cs 58 (0, 0))) (h3 : cs[3]? = some (.slice AL lex.length cL)) (h6 : cs[6]? = some (.slice A fs.length c)) (hC : Kd.C k81 w A fs.length fs) (p0 : 0 ≤ pf) (q0 : pf < (fs.length : Int)) (o : ByteArray × Bool) (ho : oks (wordF pc (rd_T81 fs pf).f0 lex) = o) :
  Calls Tryd.prog 31 #[.pointer (some ⟨g, 0, none⟩), .agg #[.int .i64 pk, .string pt, .int .i64 pf, .int .i64 pw, .int .i64 pc]] w fun e w' => e = .returned (.tuple #[.string o.1, .bool o.2]) ∧ Below w.heap.size w w' := by
 have hu58 := Tryd.underlying58
 have hu27 := Tryd.underlying27
 have hu81 := Tryd.underlying81
 have hu55 := Tryd.underlying55
 have hu24 := Tryd.underlying24
 have hu25 := Tryd.underlying25
 have hu35 := Tryd.underlying35
 have hu54 := Tryd.underlying54
 have hmf : ∀ (fn : Fn) (first cap : Array Value) (w : World), (Instr.makeFunc fn first cap).run Tryd.prog w = .ok (.func fn first cap) w := fun _ _ _ _ => rfl
 obtain ⟨n, hn⟩ : ∃ n, n = (rd_T81 fs pf).f0 := ⟨_, rfl⟩
 rw [← hn] at ho
 have HL := Aside0.mk hL
 have HC := Aside0.mk hC
 have HK := Aside0.mk hb
 have H3 := Aside0.mk h3
 have H6 := Aside0.mk h6
 have HN := Aside0.mk hn
 have HO := Aside0.mk ho
 clear hL hb h3 h6 hn hC ho
 go_enter Tryd.func31, Tryd.ntmps31
 cases hf : lex.find? (hits pc n) with
 | none =>
  have HF := Aside0.mk hf
  have e := HO.out
  rw [wordF, hf] at e
  have e2 : (⟨#[]⟩, false) = o := e
  subst e2
  clear e hf HO
  go_wp2_with (first
   | ((with_reducible refine gate_dst (N := 2) rfl ?_); refine box_event ?hg (N := 2) ?hd (cs := #[.pointer (some ⟨g, 0, none⟩)]) (t := 54) ?hr ?_; (case hd => rfl); (case hg => rfl); (case hr => first | (go_simp; done) | (go_simp; rfl)); intro g2 hg2 w2 hbox hb; have K2 := Aside0.mk hbox; have HD := Aside0.mk hb; clear hbox hb hg2)
   | ((with_reducible refine gate_dst (N := 3) rfl ?_); refine box_event ?hg (N := 3) ?hd (cs := #[.int .i64 pk, .string pt, .int .i64 pf, .int .i64 pw, .int .i64 pc]) (t := 27) ?hr ?_; (case hd => rfl); (case hg => rfl); (case hr => first | (go_simp; done) | (go_simp; rfl)); intro g3 hg3 w3 hbox hb; have K3 := Aside0.mk hbox; replace K2 := Aside0.mk (blk_below K2.out hb); replace HD := Aside0.mk (below_step HD.out hb); have z2 : w3.cell? ⟨g2, 0, none⟩ = some (.pointer (some ⟨g, 0, none⟩)) := (blk_cell K2.out 0).trans rfl; have z3 : w3.cell? ⟨g, 3, none⟩ = some (.slice AL lex.length cL) := (blk_cell (blk_below HK.out HD.out) 3).trans H3.out; clear hbox hb hg3)
   | (go_at_call 43; (with_reducible refine (idx_walk lex AL cL fs A c pk pf pw pc pt n g g2 g3 cs _ (Kd.C_below HL.out HD.out) (blk_below HK.out HD.out) H6.out (Kd.C_below HC.out HD.out) K2.out K3.out p0 q0 HN.out).mono ?_); rintro e wi ⟨i, rfl, hi, hb⟩; replace K2 := Aside0.mk (blk_below K2.out hb); replace HD := Aside0.mk (below_step HD.out hb); clear hb z2 z3; obtain rfl : i = -1 := hi.elim (fun h => h.2) (fun h => absurd (HF.out.symm.trans h.2.2) (by simp)); clear hi))
  go_ret2
  exact ⟨rfl, HD.out⟩
 | some x =>
  have HF := Aside0.mk hf
  have e := HO.out
  rw [wordF, hf] at e
  have e2 : (x.f0, true) = o := e
  subst e2
  clear e hf HO
  go_wp2_with (first
   | ((with_reducible refine gate_dst (N := 2) rfl ?_); refine box_event ?hg (N := 2) ?hd (cs := #[.pointer (some ⟨g, 0, none⟩)]) (t := 54) ?hr ?_; (case hd => rfl); (case hg => rfl); (case hr => first | (go_simp; done) | (go_simp; rfl)); intro g2 hg2 w2 hbox hb; have K2 := Aside0.mk hbox; have HD := Aside0.mk hb; clear hbox hb hg2)
   | ((with_reducible refine gate_dst (N := 3) rfl ?_); refine box_event ?hg (N := 3) ?hd (cs := #[.int .i64 pk, .string pt, .int .i64 pf, .int .i64 pw, .int .i64 pc]) (t := 27) ?hr ?_; (case hd => rfl); (case hg => rfl); (case hr => first | (go_simp; done) | (go_simp; rfl)); intro g3 hg3 w3 hbox hb; have K3 := Aside0.mk hbox; replace K2 := Aside0.mk (blk_below K2.out hb); replace HD := Aside0.mk (below_step HD.out hb); have z2 : w3.cell? ⟨g2, 0, none⟩ = some (.pointer (some ⟨g, 0, none⟩)) := (blk_cell K2.out 0).trans rfl; have z3 : w3.cell? ⟨g, 3, none⟩ = some (.slice AL lex.length cL) := (blk_cell (blk_below HK.out HD.out) 3).trans H3.out; clear hbox hb hg3)
   | (go_at_call 43; (with_reducible refine (idx_walk lex AL cL fs A c pk pf pw pc pt n g g2 g3 cs _ (Kd.C_below HL.out HD.out) (blk_below HK.out HD.out) H6.out (Kd.C_below HC.out HD.out) K2.out K3.out p0 q0 HN.out).mono ?_); rintro e wi ⟨i, rfl, hi, hb⟩; replace K2 := Aside0.mk (blk_below K2.out hb); replace HD := Aside0.mk (below_step HD.out hb); clear hb z2 z3; obtain ⟨r0, r1, hx⟩ : 0 ≤ i ∧ i < (lex.length : Int) ∧ x = rd_T24 lex i := hi.elim (fun h => absurd (h.1.symm.trans HF.out) (by simp)) (fun h => ⟨h.1, h.2.1, Option.some.inj (HF.out.symm.trans h.2.2)⟩); have cn : decide (i < 0) = false := decide_eq_false (by omega); obtain ⟨al, e, y0, _⟩ := at_T24 (Kd.C_below HL.out HD.out) i r0 r1; rw [← hx] at y0; subst e; have HX := Aside0.mk hx; clear hi hx; have z2 : wi.cell? ⟨g2, 0, none⟩ = some (.pointer (some ⟨g, 0, none⟩)) := (blk_cell K2.out 0).trans rfl; have z3 : wi.cell? ⟨g, 3, none⟩ = some (.slice (some al) lex.length cL) := (blk_cell (blk_below HK.out HD.out) 3).trans H3.out))
  go_ret2
  exact ⟨rfl, HD.out⟩
set_option maxHeartbeats 8000000 in
set_option maxRecDepth 100000 in
theorem text_walk (pk pf pw pc : Int) (pt : ByteArray) (u : Value) (w : World) :
  Calls Tryd.prog 29 #[u, .agg #[.int .i64 pk, .string pt, .int .i64 pf, .int .i64 pw, .int .i64 pc]] w fun e w' => e = .returned (.tuple #[.string pt, .bool true]) ∧ Below w.heap.size w w' := by
 have hu27 := Tryd.underlying27
 go_enter Tryd.func29, Tryd.ntmps29
 go_wp2_with (first | ((with_reducible refine gate_dst (N := 3) rfl ?_); refine box_event ?hg (N := 3) ?hd (cs := #[.int .i64 pk, .string pt, .int .i64 pf, .int .i64 pw, .int .i64 pc]) (t := 27) ?hr ?_; (case hd => rfl); (case hg => rfl); (case hr => first | (go_simp; done) | (go_simp; rfl)); intro g3 hg3 w3 hbox hb; have K3 := Aside0.mk hbox; have HD := Aside0.mk hb; clear hbox hb hg3; have z1 : w3.cell? ⟨g3, 1, none⟩ = some (.string pt) := (blk_cell K3.out 1).trans rfl))
 go_ret2
 exact ⟨rfl, HD.out⟩
def partF (k : Nat) (dg : Int) (lex : List S24) (fs : List S81) (p : S27) : Option (ByteArray × Bool) :=
 if p.f0 = 0 then some (p.f1, true) else if p.f2 < 0 ∨ (fs.length : Int) ≤ p.f2 then some (⟨#[]⟩, false) else if p.f0 = 2 then some (oks (wordF p.f4 (rd_T81 fs p.f2).f0 lex)) else (numF k dg (rd_T81 fs p.f2) p.f3).bind fun s => some (s, true)
set_option maxHeartbeats 8000000 in
set_option maxRecDepth 100000 in
theorem part_walk (k : Nat) (dg : Int) (lex : List S24) (AL : Option Addr) (cL : Nat) (fs : List S81) (A : Option Addr) (c : Nat) (pk pf pw pc : Int) (pt : ByteArray) (g : Nat) (cs : Array Value) (w : World) (hL : Kd.C k24 w AL lex.length lex) (hb : w.heap[g]? = some (.cells cs 58 (0, 0))) (h2 : cs[2]? = some (.int .i64 dg)) (h3 : cs[3]? = some (.slice AL lex.length cL)) (h6 : cs[6]? = some (.slice A fs.length c)) (hC : Kd.C k81 w A fs.length fs) (o : ByteArray × Bool) (h : partF k dg lex fs ⟨pk, pt, pf, pw, pc⟩ = some o) :
  Calls Tryd.prog 15 #[.pointer (some ⟨g, 0, none⟩), .agg #[.int .i64 pk, .string pt, .int .i64 pf, .int .i64 pw, .int .i64 pc]] w fun e w' => e = .returned (.tuple #[.string o.1, .bool o.2]) ∧ Below w.heap.size w w' := by
 have hu58 := Tryd.underlying58
 have hu27 := Tryd.underlying27
 have hu81 := Tryd.underlying81
 have hu55 := Tryd.underlying55
 have hu24 := Tryd.underlying24
 have hu25 := Tryd.underlying25
 have hu35 := Tryd.underlying35
 have hu54 := Tryd.underlying54
 have hmf : ∀ (fn : Fn) (first cap : Array Value) (w : World), (Instr.makeFunc fn first cap).run Tryd.prog w = .ok (.func fn first cap) w := fun _ _ _ _ => rfl
 have h := h
 simp only [partF] at h
 have HL := Aside0.mk hL
 have HC := Aside0.mk hC
 have HK := Aside0.mk hb
 have H2 := Aside0.mk h2
 have H3 := Aside0.mk h3
 have H6 := Aside0.mk h6
 clear hL hb h2 h3 h6 hC
 by_cases c0 : pk = 0
 ·rw [if_pos c0] at h
  cases h
  have d0 : (pk == 0) = true := beq_iff_eq.mpr c0
  clear c0
  go_enter Tryd.func15, Tryd.ntmps15
  go_wp2_with (first
   | ((with_reducible refine gate_dst (N := 3) rfl ?_); refine box_event ?hg (N := 3) ?hd (cs := #[.int .i64 pk, .string pt, .int .i64 pf, .int .i64 pw, .int .i64 pc]) (t := 27) ?hr ?_; (case hd => rfl); (case hg => rfl); (case hr => first | (go_simp; done) | (go_simp; rfl)); intro g3 hg3 w3 hbox hb; have K3 := Aside0.mk hbox; have HD := Aside0.mk hb; clear hbox hb hg3; have z0 : w3.cell? ⟨g3, 0, none⟩ = some (.int .i64 pk) := (blk_cell K3.out 0).trans rfl; have z1 : w3.cell? ⟨g3, 1, none⟩ = some (.string pt) := (blk_cell K3.out 1).trans rfl; have z2 : w3.cell? ⟨g3, 2, none⟩ = some (.int .i64 pf) := (blk_cell K3.out 2).trans rfl; have z3 : w3.cell? ⟨g3, 3, none⟩ = some (.int .i64 pw) := (blk_cell K3.out 3).trans rfl; have z4 : w3.cell? ⟨g3, 4, none⟩ = some (.int .i64 pc) := (blk_cell K3.out 4).trans rfl; have z6 : w3.cell? ⟨g, 6, none⟩ = some (.slice A fs.length c) := (blk_cell (blk_below HK.out HD.out) 6).trans H6.out)
   | (go_at_call 29; (with_reducible refine (text_walk pk pf pw pc pt _ _).mono ?_); rintro e wt ⟨rfl, hb⟩; replace HD := Aside0.mk (below_step HD.out hb); clear hb))
  go_ret2
  exact ⟨rfl, HD.out⟩
 rw [if_neg c0] at h
 have d0 : (pk == 0) = false := beq_eq_false_iff_ne.mpr c0
 clear c0
 by_cases c1 : pf < 0
 ·rw [if_pos (Or.inl c1)] at h
  cases h
  have d1 : decide (pf < 0) = true := decide_eq_true c1
  clear c1
  go_enter Tryd.func15, Tryd.ntmps15
  go_wp2_with (first | ((with_reducible refine gate_dst (N := 3) rfl ?_); refine box_event ?hg (N := 3) ?hd (cs := #[.int .i64 pk, .string pt, .int .i64 pf, .int .i64 pw, .int .i64 pc]) (t := 27) ?hr ?_; (case hd => rfl); (case hg => rfl); (case hr => first | (go_simp; done) | (go_simp; rfl)); intro g3 hg3 w3 hbox hb; have K3 := Aside0.mk hbox; have HD := Aside0.mk hb; clear hbox hb hg3; have z0 : w3.cell? ⟨g3, 0, none⟩ = some (.int .i64 pk) := (blk_cell K3.out 0).trans rfl; have z1 : w3.cell? ⟨g3, 1, none⟩ = some (.string pt) := (blk_cell K3.out 1).trans rfl; have z2 : w3.cell? ⟨g3, 2, none⟩ = some (.int .i64 pf) := (blk_cell K3.out 2).trans rfl; have z3 : w3.cell? ⟨g3, 3, none⟩ = some (.int .i64 pw) := (blk_cell K3.out 3).trans rfl; have z4 : w3.cell? ⟨g3, 4, none⟩ = some (.int .i64 pc) := (blk_cell K3.out 4).trans rfl; have z6 : w3.cell? ⟨g, 6, none⟩ = some (.slice A fs.length c) := (blk_cell (blk_below HK.out HD.out) 6).trans H6.out))
  go_quiet (fail)
  go_wp2
  go_ret2
  exact ⟨rfl, pw_below_drewN HD.out _⟩
 by_cases c2 : (fs.length : Int) ≤ pf
 ·rw [if_pos (Or.inr c2)] at h
  cases h
  have d1 : decide (pf < 0) = false := decide_eq_false c1
  have d2 : decide ((fs.length : Int) ≤ pf) = true := decide_eq_true c2
  clear c1 c2
  go_enter Tryd.func15, Tryd.ntmps15
  go_wp2_with (first | ((with_reducible refine gate_dst (N := 3) rfl ?_); refine box_event ?hg (N := 3) ?hd (cs := #[.int .i64 pk, .string pt, .int .i64 pf, .int .i64 pw, .int .i64 pc]) (t := 27) ?hr ?_; (case hd => rfl); (case hg => rfl); (case hr => first | (go_simp; done) | (go_simp; rfl)); intro g3 hg3 w3 hbox hb; have K3 := Aside0.mk hbox; have HD := Aside0.mk hb; clear hbox hb hg3; have z0 : w3.cell? ⟨g3, 0, none⟩ = some (.int .i64 pk) := (blk_cell K3.out 0).trans rfl; have z1 : w3.cell? ⟨g3, 1, none⟩ = some (.string pt) := (blk_cell K3.out 1).trans rfl; have z2 : w3.cell? ⟨g3, 2, none⟩ = some (.int .i64 pf) := (blk_cell K3.out 2).trans rfl; have z3 : w3.cell? ⟨g3, 3, none⟩ = some (.int .i64 pw) := (blk_cell K3.out 3).trans rfl; have z4 : w3.cell? ⟨g3, 4, none⟩ = some (.int .i64 pc) := (blk_cell K3.out 4).trans rfl; have z6 : w3.cell? ⟨g, 6, none⟩ = some (.slice A fs.length c) := (blk_cell (blk_below HK.out HD.out) 6).trans H6.out))
  go_quiet (fail)
  go_wp2
  go_ret2
  exact ⟨rfl, pw_below_drewN HD.out _⟩
 rw [if_neg (by omega)] at h
 have d1 : decide (pf < 0) = false := decide_eq_false c1
 have d2 : decide ((fs.length : Int) ≤ pf) = false := decide_eq_false c2
 have p0 : 0 ≤ pf := by omega
 have q0 : pf < (fs.length : Int) := by omega
 clear c1 c2
 by_cases c3 : pk = 2
 ·rw [if_pos c3] at h
  have d3 : (pk == 2) = true := beq_iff_eq.mpr c3
  clear c3
  have HO := Aside0.mk (Option.some.inj h)
  clear h
  go_enter Tryd.func15, Tryd.ntmps15
  go_wp2_with (first | ((with_reducible refine gate_dst (N := 3) rfl ?_); refine box_event ?hg (N := 3) ?hd (cs := #[.int .i64 pk, .string pt, .int .i64 pf, .int .i64 pw, .int .i64 pc]) (t := 27) ?hr ?_; (case hd => rfl); (case hg => rfl); (case hr => first | (go_simp; done) | (go_simp; rfl)); intro g3 hg3 w3 hbox hb; have K3 := Aside0.mk hbox; have HD := Aside0.mk hb; clear hbox hb hg3; have z0 : w3.cell? ⟨g3, 0, none⟩ = some (.int .i64 pk) := (blk_cell K3.out 0).trans rfl; have z1 : w3.cell? ⟨g3, 1, none⟩ = some (.string pt) := (blk_cell K3.out 1).trans rfl; have z2 : w3.cell? ⟨g3, 2, none⟩ = some (.int .i64 pf) := (blk_cell K3.out 2).trans rfl; have z3 : w3.cell? ⟨g3, 3, none⟩ = some (.int .i64 pw) := (blk_cell K3.out 3).trans rfl; have z4 : w3.cell? ⟨g3, 4, none⟩ = some (.int .i64 pc) := (blk_cell K3.out 4).trans rfl; have z6 : w3.cell? ⟨g, 6, none⟩ = some (.slice A fs.length c) := (blk_cell (blk_below HK.out HD.out) 6).trans H6.out))
  go_quiet (fail)
  generalize hW : World.drewN _ _ = W
  replace HD := Aside0.mk (show Below w.heap.size w W by rw [← hW]; exact pw_below_drewN HD.out _)
  replace K3 := Aside0.mk (show W.heap[g3]? = some (.cells #[.int .i64 pk, .string pt, .int .i64 pf, .int .i64 pw, .int .i64 pc] 27 (0, 0)) by rw [← hW]; exact K3.out)
  clear hW z0 z1 z2 z3 z4 z6
  have z0 : W.cell? ⟨g3, 0, none⟩ = some (.int .i64 pk) := (blk_cell K3.out 0).trans rfl
  have z1 : W.cell? ⟨g3, 1, none⟩ = some (.string pt) := (blk_cell K3.out 1).trans rfl
  have z2 : W.cell? ⟨g3, 2, none⟩ = some (.int .i64 pf) := (blk_cell K3.out 2).trans rfl
  have z3 : W.cell? ⟨g3, 3, none⟩ = some (.int .i64 pw) := (blk_cell K3.out 3).trans rfl
  have z4 : W.cell? ⟨g3, 4, none⟩ = some (.int .i64 pc) := (blk_cell K3.out 4).trans rfl
  go_wp2_with (first | ((with_reducible refine gate_dyn (sl := 35) rfl ?_); refine goesV_ (some 37) rfl rfl 35 #[.pointer (some ⟨g, 0, none⟩)] #[] Tryd.func31 (by kernel_rfl) rfl #[.pointer (some ⟨g, 0, none⟩), .agg #[.int .i64 pk, .string pt, .int .i64 pf, .int .i64 pw, .int .i64 pc]] rfl rfl (by (try simp only [List.map_toArray, List.map_cons, List.map_nil]); first | done | rfl | (simp <;> rfl)) ?_; (with_reducible refine (word_walk lex AL cL fs A c pk pf pw pc pt g cs _ (Kd.C_below HL.out HD.out) (blk_below HK.out HD.out) H3.out H6.out (Kd.C_below HC.out HD.out) p0 q0 o HO.out).mono ?_); rintro e wc ⟨rfl, hb⟩; refine ⟨_, rfl, ?_⟩; replace HD := Aside0.mk (below_step HD.out hb); clear hb))
  go_ret2
  exact ⟨rfl, HD.out⟩
 ·rw [if_neg c3] at h
  have d3 : (pk == 2) = false := beq_eq_false_iff_ne.mpr c3
  clear c3
  obtain ⟨s, hs, h⟩ := Option.bind_eq_some_iff.mp h
  cases h
  have HS := Aside0.mk hs
  clear hs
  go_enter Tryd.func15, Tryd.ntmps15
  go_wp2_with (first | ((with_reducible refine gate_dst (N := 3) rfl ?_); refine box_event ?hg (N := 3) ?hd (cs := #[.int .i64 pk, .string pt, .int .i64 pf, .int .i64 pw, .int .i64 pc]) (t := 27) ?hr ?_; (case hd => rfl); (case hg => rfl); (case hr => first | (go_simp; done) | (go_simp; rfl)); intro g3 hg3 w3 hbox hb; have K3 := Aside0.mk hbox; have HD := Aside0.mk hb; clear hbox hb hg3; have z0 : w3.cell? ⟨g3, 0, none⟩ = some (.int .i64 pk) := (blk_cell K3.out 0).trans rfl; have z1 : w3.cell? ⟨g3, 1, none⟩ = some (.string pt) := (blk_cell K3.out 1).trans rfl; have z2 : w3.cell? ⟨g3, 2, none⟩ = some (.int .i64 pf) := (blk_cell K3.out 2).trans rfl; have z3 : w3.cell? ⟨g3, 3, none⟩ = some (.int .i64 pw) := (blk_cell K3.out 3).trans rfl; have z4 : w3.cell? ⟨g3, 4, none⟩ = some (.int .i64 pc) := (blk_cell K3.out 4).trans rfl; have z6 : w3.cell? ⟨g, 6, none⟩ = some (.slice A fs.length c) := (blk_cell (blk_below HK.out HD.out) 6).trans H6.out))
  go_quiet (fail)
  generalize hW : World.drewN _ _ = W
  replace HD := Aside0.mk (show Below w.heap.size w W by rw [← hW]; exact pw_below_drewN HD.out _)
  replace K3 := Aside0.mk (show W.heap[g3]? = some (.cells #[.int .i64 pk, .string pt, .int .i64 pf, .int .i64 pw, .int .i64 pc] 27 (0, 0)) by rw [← hW]; exact K3.out)
  clear hW z0 z1 z2 z3 z4 z6
  have z0 : W.cell? ⟨g3, 0, none⟩ = some (.int .i64 pk) := (blk_cell K3.out 0).trans rfl
  have z1 : W.cell? ⟨g3, 1, none⟩ = some (.string pt) := (blk_cell K3.out 1).trans rfl
  have z2 : W.cell? ⟨g3, 2, none⟩ = some (.int .i64 pf) := (blk_cell K3.out 2).trans rfl
  have z3 : W.cell? ⟨g3, 3, none⟩ = some (.int .i64 pw) := (blk_cell K3.out 3).trans rfl
  have z4 : W.cell? ⟨g3, 4, none⟩ = some (.int .i64 pc) := (blk_cell K3.out 4).trans rfl
  go_wp2_with (first | ((with_reducible refine gate_dyn (sl := 35) rfl ?_); refine goesV_ (some 37) rfl rfl 35 #[.pointer (some ⟨g, 0, none⟩)] #[] Tryd.func30 (by kernel_rfl) rfl #[.pointer (some ⟨g, 0, none⟩), .agg #[.int .i64 pk, .string pt, .int .i64 pf, .int .i64 pw, .int .i64 pc]] rfl rfl (by (try simp only [List.map_toArray, List.map_cons, List.map_nil]); first | done | rfl | (simp <;> rfl)) ?_; (with_reducible refine (number_walk k dg fs A c pk pf pw pc pt s g cs _ (blk_below HK.out HD.out) H2.out H6.out (Kd.C_below HC.out HD.out) p0 q0 HS.out).mono ?_); rintro e wc ⟨rfl, hb⟩; refine ⟨_, rfl, ?_⟩; replace HD := Aside0.mk (below_step HD.out hb); clear hb))
  go_ret2
  exact ⟨rfl, HD.out⟩
def partsF (k : Nat) (dg : Int) (lex : List S24) (fs : List S81) : List S27 → ByteArray → Option (ByteArray × Int)
 | [], out => some (if 256 < out.size then (⟨#[]⟩, 6) else (out, 0))
 | p :: ps, out => (partF k dg lex fs p).bind fun o => if o.2 = false then some (⟨#[]⟩, 7) else if out.size + o.1.size ≤ 9223372036854775807 then partsF k dg lex fs ps (out ++ o.1) else none
def writeF (k : Nat) (dg : Int) (lex : List S24) (styles : List S31) (st kd : Int) (l : List Int) : Option (ByteArray × Int) :=
 if st < 0 ∨ (styles.length : Int) ≤ st then some (⟨#[]⟩, 7) else if ((rd_T31 styles st).f0 == kd) = false then some (⟨#[]⟩, 7) else
 (act_Right.f k kd l).bind fun b => if b = false then some (⟨#[]⟩, 6) else (fieldsF k kd l).bind fun fs => partsF k dg lex fs (rd_T31 styles st).f1 ⟨#[]⟩
def render_Write.f (k : Nat) (a0_0 : ByteArray) (a0_1 a0_2 : Int) (l0_3 : List S24) (l0_4 : List S96) (l0_5 : List S31) (a1 a2_0 : Int) (l2_1 : List Int) : Option (ByteArray × Int) := writeF k a0_2 l0_3 l0_5 a1 a2_0 l2_1
theorem shownF_mono (k : Nat) (dg : Int) : ∀ bs out, LeO (shownF k dg bs out) (shownF (k + 1) dg bs out)
 | [], out => LeO.refl _
 | b :: bs, out => LeO.bind (fold_Digit.mono _ _ k) (fun d => LeO.ite (shownF_mono k dg bs _) (LeO.none _))
theorem numF_mono (k : Nat) (dg : Int) (f : S81) (pw : Int) : LeO (numF k dg f pw) (numF (k + 1) dg f pw) :=
 LeO.bind (LeO.refl _) (fun pad => LeO.ite (LeO.ite (shownF_mono k dg _ _) (LeO.ite (shownF_mono k dg _ _) (LeO.bind (shownF_mono k dg _ _) (fun d => LeO.refl _)))) (LeO.none _))
theorem partF_mono (k : Nat) (dg : Int) (lex : List S24) (fs : List S81) (p : S27) : LeO (partF k dg lex fs p) (partF (k + 1) dg lex fs p) :=
 LeO.ite (LeO.refl _) (LeO.ite (LeO.refl _) (LeO.ite (LeO.refl _) (LeO.bind (numF_mono k dg _ _) (fun s => LeO.refl _))))
theorem partsF_mono (k : Nat) (dg : Int) (lex : List S24) (fs : List S81) : ∀ ps out, LeO (partsF k dg lex fs ps out) (partsF (k + 1) dg lex fs ps out)
 | [], out => LeO.refl _
 | p :: ps, out => LeO.bind (partF_mono k dg lex fs p) (fun o => LeO.ite (LeO.refl _) (LeO.ite (partsF_mono k dg lex fs ps _) (LeO.none _)))
theorem splitF_mono (k : Nat) (m d : Int) : LeO (splitF k m d) (splitF (k + 1) m d) := LeO.bind (render_ten.mono _ k) (fun t => LeO.refl _)
theorem fieldsF_mono (k : Nat) (kd : Int) (l : List Int) : LeO (fieldsF k kd l) (fieldsF (k + 1) kd l) :=
 LeO.ite (LeO.ite (LeO.bind (splitF_mono k _ _) (fun p => LeO.refl _)) (LeO.none _)) (LeO.ite (LeO.ite (LeO.bind (splitF_mono k _ _) (fun p => LeO.refl _)) (LeO.none _)) (LeO.ite (LeO.refl _) (render_value_plains.mono kd l k)))
theorem render_Write.mono : ∀ a0 a1 a2 a3 a4 a5 a6 a7 a8 k, LeO (render_Write.f k a0 a1 a2 a3 a4 a5 a6 a7 a8) (render_Write.f (k + 1) a0 a1 a2 a3 a4 a5 a6 a7 a8) := fun _ _ _ _ _ _ _ _ _ k =>
 LeO.ite (LeO.refl _) (LeO.ite (LeO.refl _) (LeO.bind (act_Right.mono _ _ k) (fun b => LeO.ite (LeO.refl _) (LeO.bind (fieldsF_mono k _ _) (fun fs => partsF_mono k _ _ _ _ _)))))
set_option maxHeartbeats 8000000 in
set_option maxRecDepth 100000 in
theorem render_Write.calls (k : Nat) (a0_0 : ByteArray) (a0_1 a0_2 : Int) (A0_3 : Option Addr) (c0_3 : Nat) (l0_3 : List S24) (A0_4 : Option Addr) (c0_4 : Nat) (l0_4 : List S96) (A0_5 : Option Addr) (c0_5 : Nat) (l0_5 : List S31) (a1 a2_0 : Int) (A2_1 : Option Addr) (c2_1 : Nat) (l2_1 : List Int) (r1 : ByteArray) (r2 : Int) (w : World) (hr0_3 : Kd.C k24 w A0_3 l0_3.length l0_3) (hc0_3 : l0_3.length ≤ c0_3) (hr0_4 : Kd.C k96 w A0_4 l0_4.length l0_4) (hc0_4 : l0_4.length ≤ c0_4) (hr0_5 : Kd.C k31 w A0_5 l0_5.length l0_5) (hc0_5 : l0_5.length ≤ c0_5) (hr2_1 : Kd.C (Kd.int .i64) w A2_1 l2_1.length l2_1) (hc2_1 : l2_1.length ≤ c2_1) (h : render_Write.f k a0_0 a0_1 a0_2 l0_3 l0_4 l0_5 a1 a2_0 l2_1 = some (r1, r2)) (hT_ : TabOK w) :
  Calls Tryd.prog 10 #[.agg #[.string a0_0, .int .i64 a0_1, .int .i64 a0_2, .slice A0_3 l0_3.length c0_3, .slice A0_4 l0_4.length c0_4, .slice A0_5 l0_5.length c0_5], .int .i64 a1, .agg #[.int .i64 a2_0, .slice A2_1 l2_1.length c2_1]] w fun e w' => e = .returned (.tuple #[.string r1, .int .i64 r2]) ∧ Below w.heap.size w w' := by
 have hu58 := Tryd.underlying58
 have hu27 := Tryd.underlying27
 have hu81 := Tryd.underlying81
 have hu55 := Tryd.underlying55
 have hu24 := Tryd.underlying24
 have hu25 := Tryd.underlying25
 have hu35 := Tryd.underlying35
 have hu54 := Tryd.underlying54
 have hu38 := Tryd.underlying38
 have hu31 := Tryd.underlying31
 have hu32 := Tryd.underlying32
 have hu29 := Tryd.underlying29
 have HT := Aside0.mk hT_
 have HD := Aside0.mk (Below.refl w.heap.size w)
 have HL := Aside0.mk hr0_3
 have HS := Aside0.mk hr0_5
 have HV := Aside0.mk hr2_1
 have HVC := Aside0.mk hc2_1
 clear hT_ hr0_3 hc0_3 hr0_4 hc0_4 hr0_5 hc0_5 hr2_1 hc2_1
 have h : writeF k a0_2 l0_3 l0_5 a1 a2_0 l2_1 = some (r1, r2) := h
 rw [writeF] at h
 by_cases c1 : a1 < 0
 ·rw [if_pos (Or.inl c1)] at h
  obtain ⟨rfl, rfl⟩ : r1 = ⟨#[]⟩ ∧ r2 = 7 := by simpa using h.symm
  have d1 : decide (a1 < 0) = true := decide_eq_true c1
  clear c1 h
  go_enter Tryd.func10, Tryd.ntmps10
  go_wp2_with (first
   | ((with_reducible refine gate_dst (N := 3) rfl ?_); refine box_event ?hg (N := 3) ?hd (cs := #[.string a0_0, .int .i64 a0_1, .int .i64 a0_2, .slice A0_3 l0_3.length c0_3, .slice A0_4 l0_4.length c0_4, .slice A0_5 l0_5.length c0_5]) (t := 35) ?hr ?_; (case hd => rfl); (case hg => rfl); (case hr => first | (go_simp; done) | (go_simp; rfl)); intro g3 hg_ w3 hbox hb; have K3 := Aside0.mk hbox; replace HD := Aside0.mk (below_step HD.out hb); clear hbox hb hg_)
   | ((with_reducible refine gate_dst (N := 5) rfl ?_); refine box_event ?hg (N := 5) ?hd (cs := #[.int .i64 a2_0, .slice A2_1 l2_1.length c2_1]) (t := 38) ?hr ?_; (case hd => rfl); (case hg => rfl); (case hr => first | (go_simp; done) | (go_simp; rfl)); intro g5 hg_ w5 hbox hb; replace K3 := Aside0.mk (blk_below K3.out hb); have K5 := Aside0.mk hbox; replace HD := Aside0.mk (below_step HD.out hb); clear hbox hb hg_; have z5 : w5.cell? ⟨g3, 5, none⟩ = some (.slice A0_5 l0_5.length c0_5) := (blk_cell K3.out 5).trans rfl; have z0 : w5.cell? ⟨g5, 0, none⟩ = some (.int .i64 a2_0) := (blk_cell K5.out 0).trans rfl))
  go_quiet (fail)
  go_wp2
  go_ret2
  exact ⟨rfl, pw_below_drewN HD.out _⟩
 have d1 : decide (a1 < 0) = false := decide_eq_false c1
 by_cases c2 : (l0_5.length : Int) ≤ a1
 ·rw [if_pos (Or.inr c2)] at h
  obtain ⟨rfl, rfl⟩ : r1 = ⟨#[]⟩ ∧ r2 = 7 := by simpa using h.symm
  have d2 : decide ((l0_5.length : Int) ≤ a1) = true := decide_eq_true c2
  clear c1 c2 h
  go_enter Tryd.func10, Tryd.ntmps10
  go_wp2_with (first
   | ((with_reducible refine gate_dst (N := 3) rfl ?_); refine box_event ?hg (N := 3) ?hd (cs := #[.string a0_0, .int .i64 a0_1, .int .i64 a0_2, .slice A0_3 l0_3.length c0_3, .slice A0_4 l0_4.length c0_4, .slice A0_5 l0_5.length c0_5]) (t := 35) ?hr ?_; (case hd => rfl); (case hg => rfl); (case hr => first | (go_simp; done) | (go_simp; rfl)); intro g3 hg_ w3 hbox hb; have K3 := Aside0.mk hbox; replace HD := Aside0.mk (below_step HD.out hb); clear hbox hb hg_)
   | ((with_reducible refine gate_dst (N := 5) rfl ?_); refine box_event ?hg (N := 5) ?hd (cs := #[.int .i64 a2_0, .slice A2_1 l2_1.length c2_1]) (t := 38) ?hr ?_; (case hd => rfl); (case hg => rfl); (case hr => first | (go_simp; done) | (go_simp; rfl)); intro g5 hg_ w5 hbox hb; replace K3 := Aside0.mk (blk_below K3.out hb); have K5 := Aside0.mk hbox; replace HD := Aside0.mk (below_step HD.out hb); clear hbox hb hg_; have z5 : w5.cell? ⟨g3, 5, none⟩ = some (.slice A0_5 l0_5.length c0_5) := (blk_cell K3.out 5).trans rfl; have z0 : w5.cell? ⟨g5, 0, none⟩ = some (.int .i64 a2_0) := (blk_cell K5.out 0).trans rfl))
  go_quiet (fail)
  go_wp2
  go_ret2
  exact ⟨rfl, pw_below_drewN HD.out _⟩
 have d2 : decide ((l0_5.length : Int) ≤ a1) = false := decide_eq_false c2
 rw [if_neg (by omega)] at h
 have p0 : 0 ≤ a1 := by omega
 have q0 : a1 < (l0_5.length : Int) := by omega
 clear c1 c2
 obtain ⟨x, hx⟩ : ∃ x, x = rd_T31 l0_5 a1 := ⟨_, rfl⟩
 obtain ⟨ad, AP, cP, e, y0, y1, hP, hCP⟩ := at_T31 HS.out a1 p0 q0
 rw [← hx] at h y0 y1 hP hCP
 subst e
 have Yo0 := Aside0.mk y0
 have Yo1 := Aside0.mk y1
 have HCP := Aside0.mk hCP
 have HX := Aside0.mk hx
 clear y0 y1 hP hCP hx
 cases c3 : x.f0 == a2_0 with
 | false =>
  rw [if_pos c3] at h
  obtain ⟨rfl, rfl⟩ : r1 = ⟨#[]⟩ ∧ r2 = 7 := by simpa using h.symm
  clear h
  go_enter Tryd.func10, Tryd.ntmps10
  go_wp2_with (first
   | ((with_reducible refine gate_dst (N := 3) rfl ?_); refine box_event ?hg (N := 3) ?hd (cs := #[.string a0_0, .int .i64 a0_1, .int .i64 a0_2, .slice A0_3 l0_3.length c0_3, .slice A0_4 l0_4.length c0_4, .slice (some ad) l0_5.length c0_5]) (t := 35) ?hr ?_; (case hd => rfl); (case hg => rfl); (case hr => first | (go_simp; done) | (go_simp; rfl)); intro g3 hg_ w3 hbox hb; have K3 := Aside0.mk hbox; replace HD := Aside0.mk (below_step HD.out hb); clear hbox hb hg_)
   | ((with_reducible refine gate_dst (N := 5) rfl ?_); refine box_event ?hg (N := 5) ?hd (cs := #[.int .i64 a2_0, .slice A2_1 l2_1.length c2_1]) (t := 38) ?hr ?_; (case hd => rfl); (case hg => rfl); (case hr => first | (go_simp; done) | (go_simp; rfl)); intro g5 hg_ w5 hbox hb; replace K3 := Aside0.mk (blk_below K3.out hb); have K5 := Aside0.mk hbox; replace HD := Aside0.mk (below_step HD.out hb); clear hbox hb hg_; have z5 : w5.cell? ⟨g3, 5, none⟩ = some (.slice (some ad) l0_5.length c0_5) := (blk_cell K3.out 5).trans rfl; have z0 : w5.cell? ⟨g5, 0, none⟩ = some (.int .i64 a2_0) := (blk_cell K5.out 0).trans rfl; have z1 := pw_cell_below HD.out Yo0.out))
  go_quiet (fail)
  go_wp2
  go_ret2
  exact ⟨rfl, pw_below_drewN HD.out _⟩
 | true =>
  rw [if_neg (by rw [c3]; decide)] at h
  obtain ⟨b, hb_, h⟩ := Option.bind_eq_some_iff.mp h
  have HRI := Aside0.mk hb_
  clear hb_
  go_enter Tryd.func10, Tryd.ntmps10
  go_wp2_with (first
   | ((with_reducible refine gate_dst (N := 3) rfl ?_); refine box_event ?hg (N := 3) ?hd (cs := #[.string a0_0, .int .i64 a0_1, .int .i64 a0_2, .slice A0_3 l0_3.length c0_3, .slice A0_4 l0_4.length c0_4, .slice (some ad) l0_5.length c0_5]) (t := 35) ?hr ?_; (case hd => rfl); (case hg => rfl); (case hr => first | (go_simp; done) | (go_simp; rfl)); intro g3 hg_ w3 hbox hb; have K3 := Aside0.mk hbox; replace HD := Aside0.mk (below_step HD.out hb); clear hbox hb hg_)
   | ((with_reducible refine gate_dst (N := 5) rfl ?_); refine box_event ?hg (N := 5) ?hd (cs := #[.int .i64 a2_0, .slice A2_1 l2_1.length c2_1]) (t := 38) ?hr ?_; (case hd => rfl); (case hg => rfl); (case hr => first | (go_simp; done) | (go_simp; rfl)); intro g5 hg_ w5 hbox hb; replace K3 := Aside0.mk (blk_below K3.out hb); have K5 := Aside0.mk hbox; replace HD := Aside0.mk (below_step HD.out hb); clear hbox hb hg_; have z5 : w5.cell? ⟨g3, 5, none⟩ = some (.slice (some ad) l0_5.length c0_5) := (blk_cell K3.out 5).trans rfl; have z0 : w5.cell? ⟨g5, 0, none⟩ = some (.int .i64 a2_0) := (blk_cell K5.out 0).trans rfl; have z1 := pw_cell_below HD.out Yo0.out))
  go_quiet (fail)
  generalize hW : World.drewN _ _ = W
  replace HD := Aside0.mk (show Below w.heap.size w W by rw [← hW]; exact pw_below_drewN HD.out _)
  replace K3 := Aside0.mk (show W.heap[g3]? = some (.cells #[.string a0_0, .int .i64 a0_1, .int .i64 a0_2, .slice A0_3 l0_3.length c0_3, .slice A0_4 l0_4.length c0_4, .slice (some ad) l0_5.length c0_5] 35 (0, 0)) by rw [← hW]; exact K3.out)
  replace K5 := Aside0.mk (show W.heap[g5]? = some (.cells #[.int .i64 a2_0, .slice A2_1 l2_1.length c2_1] 38 (0, 0)) by rw [← hW]; exact K5.out)
  clear hW z0 z5 z1
  have z0 : W.cell? ⟨g5, 0, none⟩ = some (.int .i64 a2_0) := (blk_cell K5.out 0).trans rfl
  have z1 : W.cell? ⟨g5, 1, none⟩ = some (.slice A2_1 l2_1.length c2_1) := (blk_cell K5.out 1).trans rfl
  cases b with
  | false =>
   rw [if_pos rfl] at h
   obtain ⟨rfl, rfl⟩ : r1 = ⟨#[]⟩ ∧ r2 = 6 := by simpa using h.symm
   clear h
   go_wp2_with (first | (go_at_call 13; (with_reducible refine (act_Right.calls k a2_0 A2_1 c2_1 l2_1 _ _ (Kd.C_below HV.out HD.out) HVC.out HRI.out).mono ?_); rintro e wr ⟨rfl, hb⟩; replace K3 := Aside0.mk (blk_below K3.out hb); replace K5 := Aside0.mk (blk_below K5.out hb); replace HD := Aside0.mk (below_step HD.out hb); clear hb z0 z1))
   go_ret2
   exact ⟨rfl, HD.out⟩
  | true =>
   rw [if_neg (by decide)] at h
   obtain ⟨fs, hfs, h⟩ := Option.bind_eq_some_iff.mp h
   have HFS := Aside0.mk hfs
   have H := Aside0.mk h
   clear hfs h
   go_wp2_with (first | (go_at_call 13; (with_reducible refine (act_Right.calls k a2_0 A2_1 c2_1 l2_1 _ _ (Kd.C_below HV.out HD.out) HVC.out HRI.out).mono ?_); rintro e wr ⟨rfl, hb⟩; replace K3 := Aside0.mk (blk_below K3.out hb); replace K5 := Aside0.mk (blk_below K5.out hb); replace HD := Aside0.mk (below_step HD.out hb); clear hb z0 z1))
   replace HD := Aside0.mk (below_drew HD.out)
   replace K3 := Aside0.mk (blk_drew K3.out)
   replace K5 := Aside0.mk (blk_drew K5.out)
   refine start_ (n := 6) (S := fun w' => Below w.heap.size w w' ∧ w'.heap[g3]? = some (.cells #[.string a0_0, .int .i64 a0_1, .int .i64 a0_2, .slice A0_3 l0_3.length c0_3, .slice A0_4 l0_4.length c0_4, .slice (some ad) l0_5.length c0_5] 35 (0, 0)) ∧ w'.heap[g5]? = some (.cells #[.int .i64 a2_0, .slice A2_1 l2_1.length c2_1] 38 (0, 0))) (ds := []) #[false, false, false, false, false, false] (by kernel_rfl) rfl rfl ⟨HD.out, K3.out, K5.out⟩ (fun hHeld => ?_)
   generalize World.drew _ = wd at HD K3 K5 hHeld ⊢
   refine take_ (i := 0) (N := (some 39)) (v := ?_) (a' := ?_) #[true, false, false, false, false, false] rfl rfl (by kernel_rfl) (fun _ _ _ h => h) (Or.inl ⟨by rfl, ?_⟩) hHeld ?_ ?_
   rotate_left
   ·rintro w' ⟨hB_, hK3_, hK5_⟩
    have s0 : w'.cell? ⟨g3, 0, none⟩ = some (.string a0_0) := (blk_cell hK3_ 0).trans rfl
    have s1 : w'.cell? ⟨g3, 1, none⟩ = some (.int .i64 a0_1) := (blk_cell hK3_ 1).trans rfl
    have s2 : w'.cell? ⟨g3, 2, none⟩ = some (.int .i64 a0_2) := (blk_cell hK3_ 2).trans rfl
    have s3 : w'.cell? ⟨g3, 3, none⟩ = some (.slice A0_3 l0_3.length c0_3) := (blk_cell hK3_ 3).trans rfl
    have s4 : w'.cell? ⟨g3, 4, none⟩ = some (.slice A0_4 l0_4.length c0_4) := (blk_cell hK3_ 4).trans rfl
    have s5 : w'.cell? ⟨g3, 5, none⟩ = some (.slice (some ad) l0_5.length c0_5) := (blk_cell hK3_ 5).trans rfl
    go_simp
    with_reducible rfl
   rotate_left
   ·simp only [Act.put, List.setIfInBounds_toArray, List.set_cons_zero, List.set_cons_succ, i64_w, i32_w]
    rfl
   refine take_ (i := 1) (N := (some 40)) (v := ?_) (a' := ?_) #[true, true, false, false, false, false] rfl rfl (by kernel_rfl) (fun _ _ _ h => h) (Or.inl ⟨by rfl, ?_⟩) hHeld ?_ ?_
   rotate_left
   ·rintro w' ⟨hB_, hK3_, hK5_⟩
    have s0 : w'.cell? ⟨g5, 0, none⟩ = some (.int .i64 a2_0) := (blk_cell hK5_ 0).trans rfl
    have s1 : w'.cell? ⟨g5, 1, none⟩ = some (.slice A2_1 l2_1.length c2_1) := (blk_cell hK5_ 1).trans rfl
    go_simp
    with_reducible rfl
   rotate_left
   ·simp only [Act.put, List.setIfInBounds_toArray, List.set_cons_zero, List.set_cons_succ, i64_w, i32_w]
    rfl
   refine one_ (i := 2) (N := (some 41)) #[true, true, true, false, false, false] rfl rfl (by kernel_rfl) (by decide) (fun K hK => ?_)
   refine goes_ Tryd.func14 (by kernel_rfl) rfl #[.agg #[.int .i64 a2_0, .slice A2_1 l2_1.length c2_1]] (by rfl) rfl rfl (by (try simp only [List.map_toArray, List.map_cons, List.map_nil]); first | done | rfl) ?_
   refine (fields_walk k a2_0 A2_1 c2_1 l2_1 fs _ (Kd.C_below HV.out HD.out) HVC.out HFS.out (tab_below HT.out HD.out)).mono ?_
   rintro e wf ⟨v, rfl, ho, hb⟩
   obtain ⟨AF, cF, e, hF, hFC⟩ := Kd.R_reads ho
   subst e
   have HFC := Aside0.mk hFC
   clear ho hF hFC
   refine ⟨_, rfl, ?_⟩
   replace K3 := Aside0.mk (blk_below K3.out hb)
   replace K5 := Aside0.mk (blk_below K5.out hb)
   replace HD := Aside0.mk (below_step HD.out hb)
   clear hb
   change K (Act.put _ (some 41) _) _
   refine hK.out _ _ ⟨HD.out, K3.out, K5.out⟩ (fun hHeld => ?_)
   clear hK K
   refine nM ?_
   refine pure_ (i := 3) (N := (some 42)) (v := ?_) (a' := ?_) #[true, true, true, true, false, false] rfl rfl (by kernel_rfl) (fun _ _ _ h => h) (Or.inl ⟨by rfl, ?_⟩) ?_ ?_
   rotate_left
   ·intro w'
    go_simp
    with_reducible rfl
   rotate_left
   ·simp only [Act.put, List.setIfInBounds_toArray, List.set_cons_zero, List.set_cons_succ, i64_w, i32_w]
    rfl
   refine one_ (i := 4) (N := (some 43)) #[true, true, true, true, true, false] rfl rfl (by kernel_rfl) (by decide) (fun K hK => ?_)
   refine box_step ?hg (N := 43) ?hd (cs := #[.string a0_0, .int .i64 a0_1, .int .i64 a0_2, .slice A0_3 l0_3.length c0_3, .slice A0_4 l0_4.length c0_4, .slice (some ad) l0_5.length c0_5, .slice AF fs.length cF]) (t := 58) ?hr ?_; (case hd => rfl); (case hg => rfl); (case hr => first | (go_simp; done) | (go_simp; rfl))
   intro g8 hg_ wB hbox hb
   have K8 := Aside0.mk hbox
   replace K3 := Aside0.mk (blk_below K3.out hb)
   replace K5 := Aside0.mk (blk_below K5.out hb)
   replace HFC := Aside0.mk (Kd.C_below HFC.out hb)
   replace HD := Aside0.mk (below_step HD.out hb)
   clear hbox hb hg_
   change K (Act.put _ (some 43) _) _
   refine hK.out _ _ ⟨HD.out, K3.out, K5.out⟩ (fun hHeld => ?_)
   clear hK K
   refine nM ?_
   refine pure_ (i := 5) (N := (some 8)) (v := ?_) (a' := ?_) #[true, true, true, true, true, true] rfl rfl (by kernel_rfl) (fun _ _ _ h => h) (Or.inl ⟨by rfl, ?_⟩) ?_ ?_
   rotate_left
   ·intro w'
    go_simp
    with_reducible rfl
   rotate_left
   ·simp only [Act.put, List.setIfInBounds_toArray, List.set_cons_zero, List.set_cons_succ, i64_w, i32_w]
    rfl
   refine done_ (by kernel_rfl) ?_
   clear hHeld
   replace HL := Aside0.mk (Kd.C_below HL.out HD.out)
   replace HCP := Aside0.mk (Kd.C_below HCP.out HD.out)
   have z5 : wB.cell? ⟨g3, 5, none⟩ = some (.slice (some ad) l0_5.length c0_5) := (blk_cell K3.out 5).trans rfl
   have z1 := pw_cell_below HD.out Yo1.out
   have HLE := Aside0.mk (Below.refl wB.heap.size wB)
   have HM := Aside0.mk (Kd.C_max HCP.out)
   go_wp2
   go_loopg [9, 51] (x.f1.length + 1) (fun kq v9 v51 w' => ∃ (m : Nat) (i : Int) (o : ByteArray), v9 = .string o ∧ v51 = .int .i64 i ∧ Aside0 (i = (m : Int)) ∧ Aside0 (m ≤ x.f1.length ∧ kq + m = x.f1.length + 1) ∧ Aside0 (partsF k a0_2 l0_3 fs (x.f1.drop m) o = some (r1, r2)) ∧ Aside0 (Below wB.heap.size wB w'))
   case atStart => exact ⟨0, 0, ⟨#[]⟩, rfl, rfl, ⟨rfl⟩, ⟨by omega, rfl⟩, H, HLE⟩
   case round =>
    clear HLE H z5 z1
    obtain ⟨m, i, o, rfl, rfl, HI, HJ, H, HLE⟩ := hrel
    cases gk with
    | zero => exact absurd HJ.out (by omega)
    | succ k1 =>
     by_cases hm : m < x.f1.length
     ·have hwr : wrap64 (i + 1) = i + 1 := by have := HI.out; have := HM.out; unfold wrap64; omega
      have cb : decide (i < (x.f1.length : Int)) = true := decide_eq_true (by have := HI.out; omega)
      have r0 : 0 ≤ i := by have := HI.out; omega
      have r1_ : i < (x.f1.length : Int) := by have := HI.out; omega
      obtain ⟨p, hp⟩ : ∃ p, p = rd_T27 x.f1 i := ⟨_, rfl⟩
      obtain ⟨ap, e, y0, y1, y2, y3, y4⟩ := at_T27 (Kd.C_below HCP.out HLE.out) i r0 r1_
      subst e
      rw [← hp] at y0 y1 y2 y3 y4
      have hl : x.f1.drop m = p :: x.f1.drop (m + 1) := by
       rw [hp, rd_T27, List.getD_eq_getElem?_getD, show i.toNat = m by have := HI.out; omega, List.getElem?_eq_getElem hm]
       exact List.drop_eq_getElem_cons hm
      have H' := H.out
      rw [hl, partsF] at H'
      clear H hl hp
      obtain ⟨q, hq, H'⟩ := Option.bind_eq_some_iff.mp H'
      have HQ := Aside0.mk hq
      clear hq
      cases hq2 : q.2 with
      | false =>
       rw [if_pos hq2] at H'
       obtain ⟨rfl, rfl⟩ : r1 = ⟨#[]⟩ ∧ r2 = 7 := by simpa using H'.symm
       clear H'
       go_wp2_with (first | ((with_reducible refine gate_dst (N := 11) rfl ?_); refine box_event ?hg (N := 11) ?hd (cs := #[.int .i64 0, .string (⟨#[]⟩ : ByteArray), .int .i64 0, .int .i64 0, .int .i64 0]) (t := 27) ?hr ?_; (case hd => rfl); (case hg => rfl); (case hr => first | (go_simp; done) | (go_simp; rfl)); intro g11 hg_ w11 hbox hb; have K11 := Aside0.mk hbox; have No11 := Aside0.mk (show wB.heap.size ≤ g11 by rw [hg_]; exact below_size HLE.out); replace HLE := Aside0.mk (below_step HLE.out hb); clear hbox hb hg_; have t0 : w11.cell? ⟨g11, 0, none⟩ = some (.int .i64 0) := (blk_cell K11.out 0).trans rfl; have f0 := blk_frozen K11.out 0; have t1 : w11.cell? ⟨g11, 1, none⟩ = some (.string (⟨#[]⟩ : ByteArray)) := (blk_cell K11.out 1).trans rfl; have f1 := blk_frozen K11.out 1; have t2 : w11.cell? ⟨g11, 2, none⟩ = some (.int .i64 0) := (blk_cell K11.out 2).trans rfl; have f2 := blk_frozen K11.out 2; have t3 : w11.cell? ⟨g11, 3, none⟩ = some (.int .i64 0) := (blk_cell K11.out 3).trans rfl; have f3 := blk_frozen K11.out 3; have t4 : w11.cell? ⟨g11, 4, none⟩ = some (.int .i64 0) := (blk_cell K11.out 4).trans rfl; have f4 := blk_frozen K11.out 4) | (go_at_call 15; (with_reducible refine (part_walk k a0_2 l0_3 A0_3 c0_3 fs AF cF p.f0 p.f2 p.f3 p.f4 p.f1 g8 _ _ (Kd.C_below HL.out (rset5_below HLE.out No11.out (.int .i64 p.f0) (.string p.f1) (.int .i64 p.f2) (.int .i64 p.f3) (.int .i64 p.f4))) (blk_below K8.out (rset5_below HLE.out No11.out (.int .i64 p.f0) (.string p.f1) (.int .i64 p.f2) (.int .i64 p.f3) (.int .i64 p.f4))) rfl rfl rfl (Kd.C_below HFC.out (rset5_below HLE.out No11.out (.int .i64 p.f0) (.string p.f1) (.int .i64 p.f2) (.int .i64 p.f3) (.int .i64 p.f4))) q HQ.out).mono ?_); rintro e wp ⟨rfl, hb⟩; have HLE2 := Aside0.mk (below_step (rset5_below HLE.out No11.out (.int .i64 p.f0) (.string p.f1) (.int .i64 p.f2) (.int .i64 p.f3) (.int .i64 p.f4)) hb); clear hb))
       go_ret2
       exact ⟨rfl, below_step HD.out HLE2.out⟩
      | true =>
       rw [if_neg (by rw [hq2]; decide)] at H'
       by_cases hz : o.size + q.1.size ≤ 9223372036854775807
       ·rw [if_pos hz] at H'
        have H := Aside0.mk H'
        have hz2 : (9223372036854775807 < o.size + q.1.size) = False := eq_false (Nat.not_lt.2 hz)
        clear H' hz
        go_wp2_with (first | ((with_reducible refine gate_dst (N := 11) rfl ?_); refine box_event ?hg (N := 11) ?hd (cs := #[.int .i64 0, .string (⟨#[]⟩ : ByteArray), .int .i64 0, .int .i64 0, .int .i64 0]) (t := 27) ?hr ?_; (case hd => rfl); (case hg => rfl); (case hr => first | (go_simp; done) | (go_simp; rfl)); intro g11 hg_ w11 hbox hb; have K11 := Aside0.mk hbox; have No11 := Aside0.mk (show wB.heap.size ≤ g11 by rw [hg_]; exact below_size HLE.out); replace HLE := Aside0.mk (below_step HLE.out hb); clear hbox hb hg_; have t0 : w11.cell? ⟨g11, 0, none⟩ = some (.int .i64 0) := (blk_cell K11.out 0).trans rfl; have f0 := blk_frozen K11.out 0; have t1 : w11.cell? ⟨g11, 1, none⟩ = some (.string (⟨#[]⟩ : ByteArray)) := (blk_cell K11.out 1).trans rfl; have f1 := blk_frozen K11.out 1; have t2 : w11.cell? ⟨g11, 2, none⟩ = some (.int .i64 0) := (blk_cell K11.out 2).trans rfl; have f2 := blk_frozen K11.out 2; have t3 : w11.cell? ⟨g11, 3, none⟩ = some (.int .i64 0) := (blk_cell K11.out 3).trans rfl; have f3 := blk_frozen K11.out 3; have t4 : w11.cell? ⟨g11, 4, none⟩ = some (.int .i64 0) := (blk_cell K11.out 4).trans rfl; have f4 := blk_frozen K11.out 4) | (go_at_call 15; (with_reducible refine (part_walk k a0_2 l0_3 A0_3 c0_3 fs AF cF p.f0 p.f2 p.f3 p.f4 p.f1 g8 _ _ (Kd.C_below HL.out (rset5_below HLE.out No11.out (.int .i64 p.f0) (.string p.f1) (.int .i64 p.f2) (.int .i64 p.f3) (.int .i64 p.f4))) (blk_below K8.out (rset5_below HLE.out No11.out (.int .i64 p.f0) (.string p.f1) (.int .i64 p.f2) (.int .i64 p.f3) (.int .i64 p.f4))) rfl rfl rfl (Kd.C_below HFC.out (rset5_below HLE.out No11.out (.int .i64 p.f0) (.string p.f1) (.int .i64 p.f2) (.int .i64 p.f3) (.int .i64 p.f4))) q HQ.out).mono ?_); rintro e wp ⟨rfl, hb⟩; have HLE2 := Aside0.mk (below_step (rset5_below HLE.out No11.out (.int .i64 p.f0) (.string p.f1) (.int .i64 p.f2) (.int .i64 p.f3) (.int .i64 p.f4)) hb); clear hb))
        go_roundg k1
        case measure => have := HJ.out; omega
        case rel => exact ⟨m + 1, _, _, rfl, rfl, ⟨by have := HI.out; first | omega | (rw [hwr]; omega)⟩, ⟨by have := HJ.out; omega⟩, H, HLE2⟩
       ·rw [if_neg hz] at H'
        cases H'
     ·have cb : decide (i < (x.f1.length : Int)) = false := decide_eq_false (by have := HI.out; omega)
      have H' := H.out
      rw [List.drop_eq_nil_of_le (by omega), partsF] at H'
      clear H
      by_cases hz : 256 < o.size
      ·rw [if_pos hz] at H'
       obtain ⟨rfl, rfl⟩ : r1 = ⟨#[]⟩ ∧ r2 = 6 := by simpa using H'.symm
       have hz2 : decide (256 < (o.size : Int)) = true := decide_eq_true (by omega)
       clear H' hz
       go_wp2
       go_ret2
       exact ⟨rfl, below_step HD.out HLE.out⟩
      ·rw [if_neg hz] at H'
       obtain ⟨rfl, rfl⟩ : r1 = o ∧ r2 = 0 := by simpa [eq_comm] using H'
       have hz2 : decide (256 < (r1.size : Int)) = false := decide_eq_false (by omega)
       clear H' hz
       go_wp2
       go_ret2
       exact ⟨rfl, below_step HD.out HLE.out⟩
end Go.Proofs.YtjijikgandkphaaDoor.G
