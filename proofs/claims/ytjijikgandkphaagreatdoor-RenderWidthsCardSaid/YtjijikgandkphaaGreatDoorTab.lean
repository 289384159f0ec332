import Derived.Shelf.Strings.Builder1
import Derived.Shelf.Strings.Builder2
import Derived.Shelf.Small.Wraps
import Derived.Shelf.Strings.BuilderF
import Derived.Shelf.Strings.BuilderK
import Derived.Shelf.Strings.Builder2Cap
import Derived.Shelf.Strconv.Itoa0
import Derived.Shelf.Strconv.Itoa1
import Derived.Shelf.LaysM
import Derived.Shelf.Strconv.Itoa2
import Derived.Shelf.Strconv.Itoa3
import Derived.Shelf.Strings.Prefix
import Derived.Shelf.Bits.Mul64
import Derived.Shelf.Strings.Repeat
import Derived.Shelf.Strings.BuilderCap
import Derived.Ground.Names2Prog
import Derived.Shelf.Slices.Clone
import Derived.Shelf.Slices.SearchI
import Derived.Ground.SlgnProg
import Derived.Shelf.SlicesE.Clone
import Derived.Test.YtjijikgandkphaaGreatDoorProg
import Derived.Lib.LaidTab
import Derived.Sort.Grow
import Derived.Below
import Derived.KernelRfl
import Derived.Lib.ItoaMem
import Derived.RowKit
namespace Go.Proofs
open Go.Shelf
def Tryz.laysM171_ren : Go.Shelf.Ren := ⟨fun | 171 => 103 | 243 => 119 | 246 => 128 | 283 => 132 | 284 => 133 | 285 => 134 | 286 => 135 | 129 => 137 | 317 => 136 | 318 => 138 | 319 => 139 | 320 => 140 | 337 => 141 | 338 => 142 | n => n, fun | 3 => 3 | 9 => 9 | 2 => 2 | 4 => 4 | 171 => 166 | 0 => 0 | 53 => 157 | 37 => 101 | 5 => 5 | 173 => 169 | 212 => 172 | 51 => 154 | 20 => 20 | 213 => 173 | 46 => 102 | 232 => 176 | 233 => 177 | n => n, fun | 17 => 1 | 18 => 2 | 19 => 3 | n => n⟩
theorem Tryz.laysM171 : Go.Proofs.LaysM.n171 Tryz.prog Tryz.laysM171_ren := {
 mixed := by kernel_rfl
 f129 := Tryz.func137.trans (congrArg some (by kernel_rfl))
 f171 := Tryz.func103.trans (congrArg some (by kernel_rfl))
 f243 := Tryz.func119.trans (congrArg some (by kernel_rfl))
 f246 := Tryz.func128.trans (congrArg some (by kernel_rfl))
 f283 := Tryz.func132.trans (congrArg some (by kernel_rfl))
 f284 := Tryz.func133.trans (congrArg some (by kernel_rfl))
 f285 := Tryz.func134.trans (congrArg some (by kernel_rfl))
 f286 := Tryz.func135.trans (congrArg some (by kernel_rfl))
 f317 := Tryz.func136.trans (congrArg some (by kernel_rfl))
 f318 := Tryz.func138.trans (congrArg some (by kernel_rfl))
 f319 := Tryz.func139.trans (congrArg some (by kernel_rfl))
 f320 := Tryz.func140.trans (congrArg some (by kernel_rfl))
 f337 := Tryz.func141.trans (congrArg some (by kernel_rfl))
 f338 := Tryz.func142.trans (congrArg some (by kernel_rfl))
 t0 := Tryz.underlying0
 a0 := Tryz.isAgg0
 z0 := Tryz.sizeOf0
 v0 := Tryz.zeroValue0
 t2 := Tryz.underlying2
 a2 := Tryz.isAgg2
 z2 := Tryz.sizeOf2
 v2 := Tryz.zeroValue2
 t3 := Tryz.underlying3
 a3 := Tryz.isAgg3
 z3 := Tryz.sizeOf3
 v3 := Tryz.zeroValue3
 t4 := Tryz.underlying4
 a4 := Tryz.isAgg4
 z4 := Tryz.sizeOf4
 v4 := Tryz.zeroValue4
 t5 := Tryz.underlying5
 a5 := Tryz.isAgg5
 z5 := Tryz.sizeOf5
 v5 := Tryz.zeroValue5
 t9 := Tryz.underlying9
 a9 := Tryz.isAgg9
 z9 := Tryz.sizeOf9
 v9 := Tryz.zeroValue9
 t20 := Tryz.underlying20
 a20 := Tryz.isAgg20
 z20 := Tryz.sizeOf20
 v20 := Tryz.zeroValue20
 t37 := Tryz.underlying101
 a37 := Tryz.isAgg101
 z37 := Tryz.sizeOf101
 v37 := Tryz.zeroValue101
 t46 := Tryz.underlying102
 a46 := Tryz.isAgg102
 z46 := Tryz.sizeOf102
 v46 := Tryz.zeroValue102
 t51 := Tryz.underlying154
 a51 := Tryz.isAgg154
 z51 := Tryz.sizeOf154
 v51 := Tryz.zeroValue154
 t53 := Tryz.underlying157
 a53 := Tryz.isAgg157
 z53 := Tryz.sizeOf157
 v53 := Tryz.zeroValue157
 t171 := Tryz.underlying166
 a171 := Tryz.isAgg166
 z171 := Tryz.sizeOf166
 v171 := Tryz.zeroValue166
 t173 := Tryz.underlying169
 a173 := Tryz.isAgg169
 z173 := Tryz.sizeOf169
 v173 := Tryz.zeroValue169
 t212 := Tryz.underlying172
 a212 := Tryz.isAgg172
 z212 := Tryz.sizeOf172
 v212 := Tryz.zeroValue172
 t213 := Tryz.underlying173
 a213 := Tryz.isAgg173
 z213 := Tryz.sizeOf173
 t232 := Tryz.underlying176
 a232 := Tryz.isAgg176
 z232 := Tryz.sizeOf176
 v232 := Tryz.zeroValue176
 t233 := Tryz.underlying177
 a233 := Tryz.isAgg177
 z233 := Tryz.sizeOf177
 v233 := Tryz.zeroValue177
 g17 := by kernel_rfl
 g18 := by kernel_rfl
 g19 := by kernel_rfl
 i0 := by kernel_rfl
 i2 := by kernel_rfl
 i3 := by kernel_rfl
 i4 := by kernel_rfl
 i5 := by kernel_rfl
 i9 := by kernel_rfl
 i20 := by kernel_rfl
 i37 := by kernel_rfl
 i46 := by kernel_rfl
 i51 := by kernel_rfl
 i53 := by kernel_rfl
 i171 := by kernel_rfl
 i173 := by kernel_rfl
 i212 := by kernel_rfl
 i232 := by kernel_rfl
 i233 := by kernel_rfl
 m17 := by kernel_rfl
 m18 := by kernel_rfl
 m19 := by kernel_rfl }
open Go.RowKit Go.Sort Go.Lib in
theorem Tryz.strconv_Itoa (n : Int) (h0 : -9223372036854775808 ≤ n) (h1 : n ≤ 9223372036854775807) (w : World) (htab : Lib.TabIs Tryz.prog w "internal/strconv.uint64pow10" .u64 Lib.pow10Tab) :
  Calls Tryz.prog 103 #[.int .i64 n] w fun e w' => e = .returned (.string ⟨(Lib.itoa n).toArray⟩) ∧ ∃ k os, w' = grow (w.drewN k) os := Any.strconv_Itoa Tryz.laysM171 n h0 h1 w htab
def Tryz.lays105_ren : Go.Shelf.Ren := ⟨fun | 105 => 80 | 212 => 107 | 99 => 108 | 165 => 109 | 166 => 110 | 170 => 111 | 169 => 112 | 263 => 121 | 264 => 122 | 206 => 123 | 240 => 124 | 241 => 125 | 276 => 129 | 277 => 130 | n => n, fun | 9 => 9 | 3 => 3 | 4 => 4 | 20 => 20 | 0 => 0 | 46 => 102 | 109 => 139 | 5 => 5 | 72 => 144 | 76 => 148 | 51 => 154 | 146 => 155 | 53 => 157 | 148 => 158 | 70 => 142 | 37 => 101 | 75 => 147 | 127 => 160 | 164 => 163 | 80 => 151 | n => n, fun | n => n⟩
theorem Tryz.lays105 : Go.Proofs.Lays.n105 Tryz.prog Tryz.lays105_ren := {
 mixed := by kernel_rfl
 f99 := Tryz.func108.trans (congrArg some (by kernel_rfl))
 f105 := Tryz.func80.trans (congrArg some (by kernel_rfl))
 f165 := Tryz.func109.trans (congrArg some (by kernel_rfl))
 f166 := Tryz.func110.trans (congrArg some (by kernel_rfl))
 f169 := Tryz.func112.trans (congrArg some (by kernel_rfl))
 f170 := Tryz.func111.trans (congrArg some (by kernel_rfl))
 f206 := Tryz.func123.trans (congrArg some (by kernel_rfl))
 f212 := Tryz.func107.trans (congrArg some (by kernel_rfl))
 f240 := Tryz.func124.trans (congrArg some (by kernel_rfl))
 f241 := Tryz.func125.trans (congrArg some (by kernel_rfl))
 f263 := Tryz.func121.trans (congrArg some (by kernel_rfl))
 f264 := Tryz.func122.trans (congrArg some (by kernel_rfl))
 f276 := Tryz.func129.trans (congrArg some (by kernel_rfl))
 f277 := Tryz.func130.trans (congrArg some (by kernel_rfl))
 t0 := Tryz.underlying0
 a0 := Tryz.isAgg0
 z0 := Tryz.sizeOf0
 v0 := Tryz.zeroValue0
 t3 := Tryz.underlying3
 a3 := Tryz.isAgg3
 z3 := Tryz.sizeOf3
 v3 := Tryz.zeroValue3
 t4 := Tryz.underlying4
 a4 := Tryz.isAgg4
 z4 := Tryz.sizeOf4
 v4 := Tryz.zeroValue4
 t5 := Tryz.underlying5
 a5 := Tryz.isAgg5
 z5 := Tryz.sizeOf5
 v5 := Tryz.zeroValue5
 t9 := Tryz.underlying9
 a9 := Tryz.isAgg9
 z9 := Tryz.sizeOf9
 v9 := Tryz.zeroValue9
 t20 := Tryz.underlying20
 a20 := Tryz.isAgg20
 z20 := Tryz.sizeOf20
 v20 := Tryz.zeroValue20
 t37 := Tryz.underlying101
 a37 := Tryz.isAgg101
 z37 := Tryz.sizeOf101
 v37 := Tryz.zeroValue101
 t46 := Tryz.underlying102
 a46 := Tryz.isAgg102
 z46 := Tryz.sizeOf102
 v46 := Tryz.zeroValue102
 t51 := Tryz.underlying154
 a51 := Tryz.isAgg154
 z51 := Tryz.sizeOf154
 v51 := Tryz.zeroValue154
 t53 := Tryz.underlying157
 a53 := Tryz.isAgg157
 z53 := Tryz.sizeOf157
 v53 := Tryz.zeroValue157
 t70 := Tryz.underlying142
 a70 := Tryz.isAgg142
 z70 := Tryz.sizeOf142
 v70 := Tryz.zeroValue142
 t72 := Tryz.underlying144
 a72 := Tryz.isAgg144
 z72 := Tryz.sizeOf144
 v72 := Tryz.zeroValue144
 t75 := Tryz.underlying147
 a75 := Tryz.isAgg147
 z75 := Tryz.sizeOf147
 v75 := Tryz.zeroValue147
 t76 := Tryz.underlying148
 a76 := Tryz.isAgg148
 z76 := Tryz.sizeOf148
 v76 := Tryz.zeroValue148
 t109 := Tryz.underlying139
 a109 := Tryz.isAgg139
 z109 := Tryz.sizeOf139
 v109 := Tryz.zeroValue139
 t127 := Tryz.underlying160
 a127 := Tryz.isAgg160
 z127 := Tryz.sizeOf160
 v127 := Tryz.zeroValue160
 t146 := Tryz.underlying155
 a146 := Tryz.isAgg155
 z146 := Tryz.sizeOf155
 v146 := Tryz.zeroValue155
 t148 := Tryz.underlying158
 a148 := Tryz.isAgg158
 z148 := Tryz.sizeOf158
 v148 := Tryz.zeroValue158
 t164 := Tryz.underlying163
 a164 := Tryz.isAgg163
 z164 := Tryz.sizeOf163
 v164 := Tryz.zeroValue163 }
theorem Tryz.Builder_Extra_105 : Builder.Extra Tryz.prog Tryz.lays105_ren := {
 sizeBuilder := by kernel_rfl
 liesBuilder := by kernel_rfl
 t5 := Tryz.underlying5
 a5 := Tryz.isAgg5
 z5 := Tryz.sizeOf5
 v5 := Tryz.zeroValue5
 infoByte := by kernel_rfl
 cellsByte := by kernel_rfl
 sizeByte := by kernel_rfl
 neB5 := by decide }
open Go.RowKit Go.Lib in
theorem Tryz.strings_Repeat (s : ByteArray) (c : Nat) (w : World) (hc : c ≤ 9223372036854775807) (hlen : s.size * c ≤ 140737488355328) :
  Calls Tryz.prog 80 #[.string s, .int .i64 c] w fun e w' => e = .returned (.string ⟨(Lib.repeatL s.data.toList c).toArray⟩) ∧ Below w.heap.size w w' := Any.strings_Repeat Tryz.lays105 Tryz.Builder_Extra_105 s c w hc hlen
end Go.Proofs
namespace Go.Proofs.YtjijikgandkphaaGreatDoorW.Tab
open Go.Lib Go.RowKit
set_option linter.unusedVariables false
set_option linter.unusedSimpArgs false
def TabOK (w : World) : Prop := TabIs Tryz.prog w "internal/strconv.uint64pow10" .u64 pow10Tab
theorem tab_below {w w' : World} (h : TabOK w) (hb : Below w.heap.size w w') : TabOK w' := by
 have hg : ∃ g, Tryz.prog.globalNamed "internal/strconv.uint64pow10" = some g := by
  refine Option.isSome_iff_exists.mp ?_
  kernel_rfl
 obtain ⟨g, hg⟩ := hg
 unfold TabOK TabIs World.var? at h ⊢
 rw [hg] at h ⊢
 simp only [Option.bind_some] at h ⊢
 have hlt : g < w.heap.size := by
  rcases Nat.lt_or_ge g w.heap.size with h' | h'
  ·exact h'
  ·rw [Array.getElem?_eq_none h'] at h; cases h
 rw [hb.block g hlt]
 exact h
theorem below_grow_drewN (w : World) (k : Nat) (os : Array Obj) : Below w.heap.size w (Go.Sort.grow (w.drewN k) os) := by
 have h0 : ∀ (k : Nat), (w.drewN k).heap = w.heap ∧ (w.drewN k).os = w.os ∧ (w.drewN k).tape = w.tape ∧ (w.drewN k).output = w.output := fun _ => ⟨rfl, rfl, rfl, rfl⟩
 refine ⟨(h0 k).2.1, (h0 k).2.2.1, (h0 k).2.2.2, ?_, fun i hi => ?_⟩
 ·simp [Go.Sort.grow, (h0 k).1]
 ·show (w.heap ++ os)[i]? = _
  rw [Array.getElem?_append_left hi]
end Go.Proofs.YtjijikgandkphaaGreatDoorW.Tab
