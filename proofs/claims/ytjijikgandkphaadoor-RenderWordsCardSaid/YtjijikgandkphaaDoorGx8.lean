import Derived.Test.YtjijikgandkphaaDoorGx0
import Derived.Test.YtjijikgandkphaaDoorGx7
namespace Go.Proofs.YtjijikgandkphaaDoor.G
open Go.RowKit Go.Proofs.YtjijikgandkphaaDoorW.PrintWords Go.Proofs.YtjijikgandkphaaDoorW.PrintLast Go.Proofs.YtjijikgandkphaaDoorW.PrintMore Go.Proofs.YtjijikgandkphaaDoorW.VWords Go.Proofs.YtjijikgandkphaaDoorW.Tab
attribute [local go_sem] max2_int min2_int max_two min_two max_three min_three max_four min_four
set_option linter.unusedVariables false
set_option linter.unusedSimpArgs false
def fold_Digit.f (k : Nat) (a0 : Int) (a1 : Int) : Option (ByteArray) := (fold_zero.f a0).bind fun t171 => ((utf8_AppendRune.f k ([] : List Int) (wrap32 (wrap64 (t171 + (mn (mx a1 0) 9))))).bind fun t172 => (some (strOfNums t172)))
theorem fold_Digit.mono : ∀ a0 a1 k, LeO (fold_Digit.f k a0 a1) (fold_Digit.f (k + 1) a0 a1) := by
 intro a0 a1 k
 unfold fold_Digit.f
 repeat' first
   | (with_reducible exact utf8_AppendRune.mono _ _ _)
   | (with_reducible exact LeO.refl _)
   | (with_reducible exact LeO.none _)
   | (with_reducible refine LeO.ite ?_ ?_)
   | (with_reducible refine LeO.bind ?_ (fun _ => ?_))
   | exact utf8_AppendRune.mono _ _ _
   | exact LeO.none _
   | refine LeO.ite ?_ ?_
   | refine LeO.bind ?_ (fun _ => ?_)
set_option maxHeartbeats 8000000 in
set_option maxRecDepth 100000 in
theorem fold_Digit.calls (k : Nat) (a0 : Int) (a1 : Int) (r : ByteArray) (w : World) (h : fold_Digit.f k a0 a1 = some r) :
  Calls Tryd.prog 63 #[.int .i64 a0, .int .i64 a1] w fun e w' => e = .returned (.string r) ∧ Below w.heap.size w w' := by
 have HB := Aside0.mk (Below.refl w.heap.size w)
 have H : ((fold_zero.f a0).bind fun t171 => ((utf8_AppendRune.f k ([] : List Int) (wrap32 (wrap64 (t171 + (mn (mx a1 0) 9))))).bind fun t172 => (some (strOfNums t172)))) = some r := h
 clear h
 replace H := Option.bind_eq_some_iff.mp H
 obtain ⟨t171, A30, H⟩ := H
 replace H : ((utf8_AppendRune.f k ([] : List Int) (wrap32 (wrap64 (t171 + (mn (mx a1 0) 9))))).bind fun t172 => (some (strOfNums t172))) = some r := H
 have A3 := Aside0.mk A30
 clear A30
 obtain ⟨ji4, hji4⟩ : ∃ j_ : Int, (mx a1 0) = j_ := ⟨_, rfl⟩
 replace H : ((utf8_AppendRune.f k ([] : List Int) (wrap32 (wrap64 (t171 + (mn (ji4) 9))))).bind fun t172 => (some (strOfNums t172))) = some r := by first | (rw [hji4] at H; exact H) | (simp only [hji4] at H ⊢; exact H)
 (try rw [hji4] at A3)
 (try (have hji4l : 0 ≤ ji4 := by (rw [← hji4]; unfold mx; (repeat' split) <;> omega)))
 (try (have hji4m : 0 ≤ ji4 := by omega))
 have hji4_ : (if a1 < 0 then 0 else a1) = ji4 := hji4
 obtain ⟨ji5, hji5⟩ : ∃ j_ : Int, (mn (ji4) 9) = j_ := ⟨_, rfl⟩
 replace H : ((utf8_AppendRune.f k ([] : List Int) (wrap32 (wrap64 (t171 + (ji5))))).bind fun t172 => (some (strOfNums t172))) = some r := by first | (rw [hji5] at H; exact H) | (simp only [hji5] at H ⊢; exact H)
 (try rw [hji5] at A3)
 have hji5_ : (if 9 < (ji4) then 9 else (ji4)) = ji5 := hji5
 replace H := Option.bind_eq_some_iff.mp H
 obtain ⟨t172, A60, H⟩ := H
 replace H : (some (strOfNums t172)) = some r := H
 have A6 := Aside0.mk A60
 clear A60
 obtain rfl := Option.some.inj H
 go_enter Tryd.func63, Tryd.ntmps63
 go_wp2_with (first | ((with_reducible refine gate_callee (f := 79) rfl ?_); refine goesL_ (some 6) rfl rfl Tryd.func79 (by kernel_rfl) rfl #[.int .i64 a0] rfl (by (try simp only [List.map_toArray, List.map_cons, List.map_nil]); first | done | rfl | (simp only [List.length_drop, List.length_take]; rfl)) ?_; (with_reducible refine (fold_zero.calls a0 t171 _ A3.out).mono ?_); rintro e w' ⟨rfl, ⟨nd, rfl⟩⟩; refine ⟨_, rfl, ?_⟩) | ((with_reducible refine gate_callee (f := 78) rfl ?_); refine goesL_ (some 12) rfl rfl Tryd.func78 (by kernel_rfl) rfl #[.slice none 0 0, .int .i32 (wrap32 (wrap64 (t171 + (ji5))))] rfl (by (try simp only [List.map_toArray, List.map_cons, List.map_nil]); first | done | (simp only [hji5]; rfl) | rfl | (simp only [List.length_drop, List.length_take]; rfl)) ?_; (refine (utf8_AppendRune.calls k (fun k_ => some k_ = (.slice none 0 0 : Value).ownBlock) (.slice none 0 0) ([] : List Int) (wrap32 (wrap64 (t171 + (ji5)))) t172 w _ ?side1 ?side2 A6.out).mono ?_); (case side1 => repeat (first | (with_reducible first | exact HB.out | apply below_alloc | apply pw_below_drewN | apply below_drew1) | exact HB.out)); (case side2 => exact Kd.R_nil _ _ _ _ _); rintro e w7 ⟨v173, rfl, ho0, hb, hkp⟩; refine ⟨_, rfl, ?_⟩; have n0_ := Aside0.mk (Kd.R_mono (ok' := fun k_ => True) ho0 (fun k_ hk_ => trivial)); have n1_ := Aside0.mk (hb); clear HB; have HO174 := n0_; have HB := n1_; clear n0_ n1_; (try clear hb); (try clear hkp); (try clear ho0); have hcv8 := own_string (P := Tryd.prog) Tryd.underlying110 Tryd.underlying5 Tryd.underlying9 (Kd.own_of_R HO174.out)))
 go_ret
 exact ⟨by first | rfl | (simp [errW_none, errW_some] <;> rfl) | (simp only [← hji4, ← hji5]; first | rfl | (simp [errW_none, errW_some] <;> rfl)) | (simp [*, errW_none, errW_some] <;> rfl), by exact wU HB.out⟩
end Go.Proofs.YtjijikgandkphaaDoor.G
