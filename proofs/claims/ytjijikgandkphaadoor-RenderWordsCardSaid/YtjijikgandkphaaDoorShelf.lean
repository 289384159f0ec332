import Derived.Shelf.Strings.Builder1
import Derived.Shelf.Strings.Builder2
import Derived.Shelf.Small.Wraps
import Derived.Shelf.Strings.BuilderF
import Derived.Shelf.Strings.BuilderK
import Derived.Shelf.Strings.Builder2Cap
import Derived.Shelf.Strconv.Itoa0
import Derived.Shelf.Strconv.Itoa1
import Derived.Shelf.LaysM
import Derived.Shelf.Strconv.Itoa2
import Derived.Shelf.Strconv.Itoa3
import Derived.Shelf.Strings.Prefix
import Derived.Shelf.Bits.Mul64
import Derived.Shelf.Strings.Repeat
import Derived.Shelf.Strings.BuilderCap
import Derived.Test.YtjijikgandkphaaDoorProg
namespace Go.Proofs
open Go.Shelf
def Tryd.laysM171_ren : Go.Shelf.Ren := ⟨fun | 171 => 53 | 243 => 71 | 246 => 82 | 283 => 86 | 284 => 87 | 285 => 88 | 286 => 89 | 129 => 91 | 317 => 90 | 318 => 92 | 319 => 93 | 320 => 94 | 337 => 95 | 338 => 96 | n => n, fun | 3 => 3 | 9 => 9 | 2 => 2 | 4 => 4 | 171 => 142 | 0 => 0 | 53 => 131 | 37 => 110 | 5 => 5 | 173 => 145 | 212 => 148 | 51 => 128 | 20 => 20 | 213 => 149 | 46 => 105 | 232 => 152 | 233 => 153 | n => n, fun | 17 => 1 | 18 => 2 | 19 => 3 | n => n⟩
theorem Tryd.laysM171 : Go.Proofs.LaysM.n171 Tryd.prog Tryd.laysM171_ren := {
 mixed := by kernel_rfl
 f129 := Tryd.func91.trans (congrArg some (by kernel_rfl))
 f171 := Tryd.func53.trans (congrArg some (by kernel_rfl))
 f243 := Tryd.func71.trans (congrArg some (by kernel_rfl))
 f246 := Tryd.func82.trans (congrArg some (by kernel_rfl))
 f283 := Tryd.func86.trans (congrArg some (by kernel_rfl))
 f284 := Tryd.func87.trans (congrArg some (by kernel_rfl))
 f285 := Tryd.func88.trans (congrArg some (by kernel_rfl))
 f286 := Tryd.func89.trans (congrArg some (by kernel_rfl))
 f317 := Tryd.func90.trans (congrArg some (by kernel_rfl))
 f318 := Tryd.func92.trans (congrArg some (by kernel_rfl))
 f319 := Tryd.func93.trans (congrArg some (by kernel_rfl))
 f320 := Tryd.func94.trans (congrArg some (by kernel_rfl))
 f337 := Tryd.func95.trans (congrArg some (by kernel_rfl))
 f338 := Tryd.func96.trans (congrArg some (by kernel_rfl))
 t0 := Tryd.underlying0
 a0 := Tryd.isAgg0
 z0 := Tryd.sizeOf0
 v0 := Tryd.zeroValue0
 t2 := Tryd.underlying2
 a2 := Tryd.isAgg2
 z2 := Tryd.sizeOf2
 v2 := Tryd.zeroValue2
 t3 := Tryd.underlying3
 a3 := Tryd.isAgg3
 z3 := Tryd.sizeOf3
 v3 := Tryd.zeroValue3
 t4 := Tryd.underlying4
 a4 := Tryd.isAgg4
 z4 := Tryd.sizeOf4
 v4 := Tryd.zeroValue4
 t5 := Tryd.underlying5
 a5 := Tryd.isAgg5
 z5 := Tryd.sizeOf5
 v5 := Tryd.zeroValue5
 t9 := Tryd.underlying9
 a9 := Tryd.isAgg9
 z9 := Tryd.sizeOf9
 v9 := Tryd.zeroValue9
 t20 := Tryd.underlying20
 a20 := Tryd.isAgg20
 z20 := Tryd.sizeOf20
 v20 := Tryd.zeroValue20
 t37 := Tryd.underlying110
 a37 := Tryd.isAgg110
 z37 := Tryd.sizeOf110
 v37 := Tryd.zeroValue110
 t46 := Tryd.underlying105
 a46 := Tryd.isAgg105
 z46 := Tryd.sizeOf105
 v46 := Tryd.zeroValue105
 t51 := Tryd.underlying128
 a51 := Tryd.isAgg128
 z51 := Tryd.sizeOf128
 v51 := Tryd.zeroValue128
 t53 := Tryd.underlying131
 a53 := Tryd.isAgg131
 z53 := Tryd.sizeOf131
 v53 := Tryd.zeroValue131
 t171 := Tryd.underlying142
 a171 := Tryd.isAgg142
 z171 := Tryd.sizeOf142
 v171 := Tryd.zeroValue142
 t173 := Tryd.underlying145
 a173 := Tryd.isAgg145
 z173 := Tryd.sizeOf145
 v173 := Tryd.zeroValue145
 t212 := Tryd.underlying148
 a212 := Tryd.isAgg148
 z212 := Tryd.sizeOf148
 v212 := Tryd.zeroValue148
 t213 := Tryd.underlying149
 a213 := Tryd.isAgg149
 z213 := Tryd.sizeOf149
 t232 := Tryd.underlying152
 a232 := Tryd.isAgg152
 z232 := Tryd.sizeOf152
 v232 := Tryd.zeroValue152
 t233 := Tryd.underlying153
 a233 := Tryd.isAgg153
 z233 := Tryd.sizeOf153
 v233 := Tryd.zeroValue153
 g17 := by kernel_rfl
 g18 := by kernel_rfl
 g19 := by kernel_rfl
 i0 := by kernel_rfl
 i2 := by kernel_rfl
 i3 := by kernel_rfl
 i4 := by kernel_rfl
 i5 := by kernel_rfl
 i9 := by kernel_rfl
 i20 := by kernel_rfl
 i37 := by kernel_rfl
 i46 := by kernel_rfl
 i51 := by kernel_rfl
 i53 := by kernel_rfl
 i171 := by kernel_rfl
 i173 := by kernel_rfl
 i212 := by kernel_rfl
 i232 := by kernel_rfl
 i233 := by kernel_rfl
 m17 := by kernel_rfl
 m18 := by kernel_rfl
 m19 := by kernel_rfl }
open Go.RowKit Go.Sort Go.Lib in
theorem Tryd.strconv_Itoa (n : Int) (h0 : -9223372036854775808 ≤ n) (h1 : n ≤ 9223372036854775807) (w : World) (htab : Lib.TabIs Tryd.prog w "internal/strconv.uint64pow10" .u64 Lib.pow10Tab) :
  Calls Tryd.prog 53 #[.int .i64 n] w fun e w' => e = .returned (.string ⟨(Lib.itoa n).toArray⟩) ∧ ∃ k os, w' = grow (w.drewN k) os := Any.strconv_Itoa Tryd.laysM171 n h0 h1 w htab
def Tryd.lays105_ren : Go.Shelf.Ren := ⟨fun | 105 => 41 | 212 => 57 | 99 => 58 | 165 => 59 | 166 => 60 | 170 => 61 | 169 => 62 | 263 => 73 | 264 => 74 | 206 => 75 | 240 => 76 | 241 => 77 | 276 => 83 | 277 => 84 | n => n, fun | 9 => 9 | 3 => 3 | 4 => 4 | 20 => 20 | 0 => 0 | 46 => 105 | 109 => 106 | 5 => 5 | 72 => 112 | 76 => 116 | 51 => 128 | 146 => 129 | 53 => 131 | 148 => 132 | 70 => 109 | 37 => 110 | 75 => 115 | 127 => 134 | 164 => 139 | 80 => 119 | n => n, fun | n => n⟩
theorem Tryd.lays105 : Go.Proofs.Lays.n105 Tryd.prog Tryd.lays105_ren := {
 mixed := by kernel_rfl
 f99 := Tryd.func58.trans (congrArg some (by kernel_rfl))
 f105 := Tryd.func41.trans (congrArg some (by kernel_rfl))
 f165 := Tryd.func59.trans (congrArg some (by kernel_rfl))
 f166 := Tryd.func60.trans (congrArg some (by kernel_rfl))
 f169 := Tryd.func62.trans (congrArg some (by kernel_rfl))
 f170 := Tryd.func61.trans (congrArg some (by kernel_rfl))
 f206 := Tryd.func75.trans (congrArg some (by kernel_rfl))
 f212 := Tryd.func57.trans (congrArg some (by kernel_rfl))
 f240 := Tryd.func76.trans (congrArg some (by kernel_rfl))
 f241 := Tryd.func77.trans (congrArg some (by kernel_rfl))
 f263 := Tryd.func73.trans (congrArg some (by kernel_rfl))
 f264 := Tryd.func74.trans (congrArg some (by kernel_rfl))
 f276 := Tryd.func83.trans (congrArg some (by kernel_rfl))
 f277 := Tryd.func84.trans (congrArg some (by kernel_rfl))
 t0 := Tryd.underlying0
 a0 := Tryd.isAgg0
 z0 := Tryd.sizeOf0
 v0 := Tryd.zeroValue0
 t3 := Tryd.underlying3
 a3 := Tryd.isAgg3
 z3 := Tryd.sizeOf3
 v3 := Tryd.zeroValue3
 t4 := Tryd.underlying4
 a4 := Tryd.isAgg4
 z4 := Tryd.sizeOf4
 v4 := Tryd.zeroValue4
 t5 := Tryd.underlying5
 a5 := Tryd.isAgg5
 z5 := Tryd.sizeOf5
 v5 := Tryd.zeroValue5
 t9 := Tryd.underlying9
 a9 := Tryd.isAgg9
 z9 := Tryd.sizeOf9
 v9 := Tryd.zeroValue9
 t20 := Tryd.underlying20
 a20 := Tryd.isAgg20
 z20 := Tryd.sizeOf20
 v20 := Tryd.zeroValue20
 t37 := Tryd.underlying110
 a37 := Tryd.isAgg110
 z37 := Tryd.sizeOf110
 v37 := Tryd.zeroValue110
 t46 := Tryd.underlying105
 a46 := Tryd.isAgg105
 z46 := Tryd.sizeOf105
 v46 := Tryd.zeroValue105
 t51 := Tryd.underlying128
 a51 := Tryd.isAgg128
 z51 := Tryd.sizeOf128
 v51 := Tryd.zeroValue128
 t53 := Tryd.underlying131
 a53 := Tryd.isAgg131
 z53 := Tryd.sizeOf131
 v53 := Tryd.zeroValue131
 t70 := Tryd.underlying109
 a70 := Tryd.isAgg109
 z70 := Tryd.sizeOf109
 v70 := Tryd.zeroValue109
 t72 := Tryd.underlying112
 a72 := Tryd.isAgg112
 z72 := Tryd.sizeOf112
 v72 := Tryd.zeroValue112
 t75 := Tryd.underlying115
 a75 := Tryd.isAgg115
 z75 := Tryd.sizeOf115
 v75 := Tryd.zeroValue115
 t76 := Tryd.underlying116
 a76 := Tryd.isAgg116
 z76 := Tryd.sizeOf116
 v76 := Tryd.zeroValue116
 t109 := Tryd.underlying106
 a109 := Tryd.isAgg106
 z109 := Tryd.sizeOf106
 v109 := Tryd.zeroValue106
 t127 := Tryd.underlying134
 a127 := Tryd.isAgg134
 z127 := Tryd.sizeOf134
 v127 := Tryd.zeroValue134
 t146 := Tryd.underlying129
 a146 := Tryd.isAgg129
 z146 := Tryd.sizeOf129
 v146 := Tryd.zeroValue129
 t148 := Tryd.underlying132
 a148 := Tryd.isAgg132
 z148 := Tryd.sizeOf132
 v148 := Tryd.zeroValue132
 t164 := Tryd.underlying139
 a164 := Tryd.isAgg139
 z164 := Tryd.sizeOf139
 v164 := Tryd.zeroValue139 }
theorem Tryd.Builder_Extra_105 : Builder.Extra Tryd.prog Tryd.lays105_ren := {
 sizeBuilder := by kernel_rfl
 liesBuilder := by kernel_rfl
 t5 := Tryd.underlying5
 a5 := Tryd.isAgg5
 z5 := Tryd.sizeOf5
 v5 := Tryd.zeroValue5
 infoByte := by kernel_rfl
 cellsByte := by kernel_rfl
 sizeByte := by kernel_rfl
 neB5 := by decide }
open Go.RowKit Go.Lib in
theorem Tryd.strings_Repeat (s : ByteArray) (c : Nat) (w : World) (hc : c ≤ 9223372036854775807) (hlen : s.size * c ≤ 140737488355328) :
  Calls Tryd.prog 41 #[.string s, .int .i64 c] w fun e w' => e = .returned (.string ⟨(Lib.repeatL s.data.toList c).toArray⟩) ∧ Below w.heap.size w w' := Any.strings_Repeat Tryd.lays105 Tryd.Builder_Extra_105 s c w hc hlen
end Go.Proofs
