import Derived.Shelf.Small.Bits
import Derived.Shelf.Small.Strs
import Derived.Shelf.Strconv.Itoa0
import Derived.Shelf.Strings.Search1
import Derived.Shelf.SlSortCmp.WholeK
import Derived.Ground.SlsfProg
import Derived.Test.YtgbnfjhmobeloaaProg
namespace Go.Proofs
open Go.Shelf
def Try.lays137_ren : Go.Shelf.Ren := ⟨fun | 137 => 77 | 217 => 97 | 266 => 105 | n => n, fun | 9 => 9 | 5 => 5 | 3 => 3 | n => n, fun | n => n⟩
theorem Try.lays137 : Go.Proofs.Lays.n137 Try.prog Try.lays137_ren := {
 mixed := by kernel_rfl
 f137 := Try.func77.trans (congrArg some (by kernel_rfl))
 f217 := Try.func97.trans (congrArg some (by kernel_rfl))
 f266 := Try.func105.trans (congrArg some (by kernel_rfl))
 t3 := Try.underlying3
 a3 := Try.isAgg3
 z3 := Try.sizeOf3
 v3 := Try.zeroValue3
 t5 := Try.underlying5
 a5 := Try.isAgg5
 z5 := Try.sizeOf5
 v5 := Try.zeroValue5
 t9 := Try.underlying9
 a9 := Try.isAgg9
 z9 := Try.sizeOf9
 v9 := Try.zeroValue9 }
open Go.RowKit in
theorem Try.strings_IndexByte (s : ByteArray) (c : Int) (w : World) :
  Calls Try.prog 77 #[.string s, .int .u8 c] w fun e w' => e = .returned (.int .i64 (Lib.indexByte s.data.toList c.toNat.toUInt8)) ∧ w' = w := Any.strings_IndexByte Try.lays137 s c w
def Try.sortReading_ren : Go.Shelf.Ren := ⟨fun | 6 => 40 | 15 => 62 | 14 => 61 | 28 => 87 | 29 => 88 | 20 => 79 | 21 => 80 | 22 => 81 | 23 => 82 | 24 => 83 | 25 => 84 | 26 => 85 | 27 => 86 | 46 => 98 | 47 => 99 | 48 => 100 | 49 => 101 | 50 => 102 | 57 => 106 | n => n, fun | 22 => 39 | 24 => 47 | 25 => 79 | 3 => 3 | 39 => 83 | 0 => 0 | 53 => 128 | 55 => 130 | 4 => 4 | 46 => 122 | 45 => 121 | 50 => 117 | 5 => 5 | 9 => 9 | 66 => 143 | 70 => 147 | 76 => 151 | 77 => 66 | n => n, fun | n => n⟩
theorem Try.sortReading : Go.Proofs.SlLaysF0.n6 Try.prog Try.sortReading_ren := {
 mixed := by kernel_rfl
 f6 := ⟨Try.f40.name, by decide, Try.func40.trans (congrArg some (by kernel_rfl))⟩
 f14 := ⟨Try.f61.name, by decide, Try.func61.trans (congrArg some (by kernel_rfl))⟩
 f15 := Try.func62.trans (congrArg some (by kernel_rfl))
 f20 := ⟨Try.f79.name, by decide, Try.func79.trans (congrArg some (by kernel_rfl))⟩
 f21 := ⟨Try.f80.name, by decide, Try.func80.trans (congrArg some (by kernel_rfl))⟩
 f22 := ⟨Try.f81.name, by decide, Try.func81.trans (congrArg some (by kernel_rfl))⟩
 f23 := ⟨Try.f82.name, by decide, Try.func82.trans (congrArg some (by kernel_rfl))⟩
 f24 := ⟨Try.f83.name, by decide, Try.func83.trans (congrArg some (by kernel_rfl))⟩
 f25 := ⟨Try.f84.name, by decide, Try.func84.trans (congrArg some (by kernel_rfl))⟩
 f26 := ⟨Try.f85.name, by decide, Try.func85.trans (congrArg some (by kernel_rfl))⟩
 f27 := ⟨Try.f86.name, by decide, Try.func86.trans (congrArg some (by kernel_rfl))⟩
 f28 := Try.func87.trans (congrArg some (by kernel_rfl))
 f29 := Try.func88.trans (congrArg some (by kernel_rfl))
 f46 := ⟨Try.f98.name, by decide, Try.func98.trans (congrArg some (by kernel_rfl))⟩
 f47 := Try.func99.trans (congrArg some (by kernel_rfl))
 f48 := Try.func100.trans (congrArg some (by kernel_rfl))
 f49 := ⟨Try.f101.name, by decide, Try.func101.trans (congrArg some (by kernel_rfl))⟩
 f50 := ⟨Try.f102.name, by decide, Try.func102.trans (congrArg some (by kernel_rfl))⟩
 f57 := ⟨Try.f106.name, by decide, Try.func106.trans (congrArg some (by kernel_rfl))⟩
 t0 := Try.underlying0
 a0 := Try.isAgg0
 z0 := Try.sizeOf0
 v0 := Try.zeroValue0
 t3 := Try.underlying3
 a3 := Try.isAgg3
 z3 := Try.sizeOf3
 v3 := Try.zeroValue3
 t4 := Try.underlying4
 a4 := Try.isAgg4
 z4 := Try.sizeOf4
 v4 := Try.zeroValue4
 t5 := Try.underlying5
 a5 := Try.isAgg5
 z5 := Try.sizeOf5
 v5 := Try.zeroValue5
 t9 := Try.underlying9
 a9 := Try.isAgg9
 z9 := Try.sizeOf9
 v9 := Try.zeroValue9
 t22 := Try.underlying39
 a22 := Try.isAgg39
 z22 := Try.sizeOf39
 v22 := Try.zeroValue39
 t25 := Try.underlying79
 a25 := Try.isAgg79
 z25 := Try.sizeOf79
 v25 := Try.zeroValue79
 t39 := Try.underlying83
 a39 := Try.isAgg83
 z39 := Try.sizeOf83
 v39 := Try.zeroValue83
 t45 := Try.underlying121
 a45 := Try.isAgg121
 z45 := Try.sizeOf121
 v45 := Try.zeroValue121
 t46 := Try.underlying122
 a46 := Try.isAgg122
 z46 := Try.sizeOf122
 v46 := Try.zeroValue122
 t50 := Try.underlying117
 a50 := Try.isAgg117
 z50 := Try.sizeOf117
 v50 := Try.zeroValue117
 t53 := Try.underlying128
 a53 := Try.isAgg128
 z53 := Try.sizeOf128
 v53 := Try.zeroValue128
 t55 := Try.underlying130
 a55 := Try.isAgg130
 z55 := Try.sizeOf130
 v55 := Try.zeroValue130
 t66 := Try.underlying143
 a66 := Try.isAgg143
 z66 := Try.sizeOf143
 v66 := Try.zeroValue143
 t70 := Try.underlying147
 a70 := Try.isAgg147
 z70 := Try.sizeOf147
 v70 := Try.zeroValue147
 t76 := Try.underlying151
 a76 := Try.isAgg151
 z76 := Try.sizeOf151
 v76 := Try.zeroValue151
 t77 := Try.underlying66
 a77 := Try.isAgg66
 z77 := Try.sizeOf66
 v77 := Try.zeroValue66 }
open Go.Lib in
theorem Try.sort_lays : SlLaysF0.n6 Try.prog Try.sortReading_ren := Try.sortReading
end Go.Proofs
