/-
  The kit's contracts for sorting and comparing, laid at this seat in plain words by the kit's own tool. Conditions: as each says.
-/
import Derived.Shelf.SlSortCmp.WholeK
import Derived.Shelf.SlicesG.Cmp
import Derived.Ground.SlsfProg
import Derived.Ground.SlgcProg
import Derived.Test.YtebielkakdhelaaGreatDoorProg
set_option linter.unusedVariables false
set_option linter.unusedSimpArgs false
namespace Go.Proofs
open Go.Shelf
def Tryz.cmpInt_ren : Go.Shelf.Ren := ⟨fun | 5 => 56 | 7 => 116 | n => n, fun | 22 => 3 | 3 => 3 | 4 => 4 | n => n, fun | n => n⟩
theorem Tryz.cmpInt : Go.Proofs.SlLaysC2.n5 Tryz.prog Tryz.cmpInt_ren := {
  mixed := by kernel_rfl
  f5 := ⟨Tryz.f56.name, by decide, Tryz.func56.trans (congrArg some (by kernel_rfl))⟩
  f7 := ⟨Tryz.f116.name, by decide, Tryz.func116.trans (congrArg some (by kernel_rfl))⟩
  t3 := Tryz.underlying3
  a3 := Tryz.isAgg3
  z3 := Tryz.sizeOf3
  v3 := Tryz.zeroValue3
  t4 := Tryz.underlying4
  a4 := Tryz.isAgg4
  z4 := Tryz.sizeOf4
  v4 := Tryz.zeroValue4
  t22 := Tryz.underlying3
  a22 := Tryz.isAgg3
  z22 := Tryz.sizeOf3
  v22 := Tryz.zeroValue3 }
def Tryz.sortKey_ren : Go.Shelf.Ren := ⟨fun | 6 => 54 | 15 => 115 | 14 => 114 | 28 => 163 | 29 => 164 | 20 => 155 | 21 => 156 | 22 => 157 | 23 => 158 | 24 => 159 | 25 => 160 | 26 => 161 | 27 => 162 | 46 => 185 | 47 => 186 | 48 => 187 | 49 => 188 | 50 => 189 | 57 => 200 | n => n, fun | 22 => 25 | 24 => 46 | 25 => 98 | 3 => 3 | 39 => 162 | 0 => 0 | 53 => 204 | 55 => 41 | 4 => 4 | 46 => 198 | 45 => 197 | 50 => 167 | 5 => 5 | 9 => 9 | 66 => 228 | 70 => 232 | 76 => 240 | 77 => 241 | n => n, fun | n => n⟩
theorem Tryz.sortKey : Go.Proofs.SlLaysF0.n6 Tryz.prog Tryz.sortKey_ren := {
  mixed := by kernel_rfl
  f6 := ⟨Tryz.f54.name, by decide, Tryz.func54.trans (congrArg some (by kernel_rfl))⟩
  f14 := ⟨Tryz.f114.name, by decide, Tryz.func114.trans (congrArg some (by kernel_rfl))⟩
  f15 := Tryz.func115.trans (congrArg some (by kernel_rfl))
  f20 := ⟨Tryz.f155.name, by decide, Tryz.func155.trans (congrArg some (by kernel_rfl))⟩
  f21 := ⟨Tryz.f156.name, by decide, Tryz.func156.trans (congrArg some (by kernel_rfl))⟩
  f22 := ⟨Tryz.f157.name, by decide, Tryz.func157.trans (congrArg some (by kernel_rfl))⟩
  f23 := ⟨Tryz.f158.name, by decide, Tryz.func158.trans (congrArg some (by kernel_rfl))⟩
  f24 := ⟨Tryz.f159.name, by decide, Tryz.func159.trans (congrArg some (by kernel_rfl))⟩
  f25 := ⟨Tryz.f160.name, by decide, Tryz.func160.trans (congrArg some (by kernel_rfl))⟩
  f26 := ⟨Tryz.f161.name, by decide, Tryz.func161.trans (congrArg some (by kernel_rfl))⟩
  f27 := ⟨Tryz.f162.name, by decide, Tryz.func162.trans (congrArg some (by kernel_rfl))⟩
  f28 := Tryz.func163.trans (congrArg some (by kernel_rfl))
  f29 := Tryz.func164.trans (congrArg some (by kernel_rfl))
  f46 := ⟨Tryz.f185.name, by decide, Tryz.func185.trans (congrArg some (by kernel_rfl))⟩
  f47 := Tryz.func186.trans (congrArg some (by kernel_rfl))
  f48 := Tryz.func187.trans (congrArg some (by kernel_rfl))
  f49 := ⟨Tryz.f188.name, by decide, Tryz.func188.trans (congrArg some (by kernel_rfl))⟩
  f50 := ⟨Tryz.f189.name, by decide, Tryz.func189.trans (congrArg some (by kernel_rfl))⟩
  f57 := ⟨Tryz.f200.name, by decide, Tryz.func200.trans (congrArg some (by kernel_rfl))⟩
  t0 := Tryz.underlying0
  a0 := Tryz.isAgg0
  z0 := Tryz.sizeOf0
  v0 := Tryz.zeroValue0
  t3 := Tryz.underlying3
  a3 := Tryz.isAgg3
  z3 := Tryz.sizeOf3
  v3 := Tryz.zeroValue3
  t4 := Tryz.underlying4
  a4 := Tryz.isAgg4
  z4 := Tryz.sizeOf4
  v4 := Tryz.zeroValue4
  t5 := Tryz.underlying5
  a5 := Tryz.isAgg5
  z5 := Tryz.sizeOf5
  v5 := Tryz.zeroValue5
  t9 := Tryz.underlying9
  a9 := Tryz.isAgg9
  z9 := Tryz.sizeOf9
  v9 := Tryz.zeroValue9
  t22 := Tryz.underlying25
  a22 := Tryz.isAgg25
  z22 := Tryz.sizeOf25
  v22 := Tryz.zeroValue25
  t25 := Tryz.underlying98
  a25 := Tryz.isAgg98
  z25 := Tryz.sizeOf98
  v25 := Tryz.zeroValue98
  t39 := Tryz.underlying162
  a39 := Tryz.isAgg162
  z39 := Tryz.sizeOf162
  v39 := Tryz.zeroValue162
  t45 := Tryz.underlying197
  a45 := Tryz.isAgg197
  z45 := Tryz.sizeOf197
  v45 := Tryz.zeroValue197
  t46 := Tryz.underlying198
  a46 := Tryz.isAgg198
  z46 := Tryz.sizeOf198
  v46 := Tryz.zeroValue198
  t50 := Tryz.underlying167
  a50 := Tryz.isAgg167
  z50 := Tryz.sizeOf167
  v50 := Tryz.zeroValue167
  t53 := Tryz.underlying204
  a53 := Tryz.isAgg204
  z53 := Tryz.sizeOf204
  v53 := Tryz.zeroValue204
  t55 := Tryz.underlying41
  a55 := Tryz.isAgg41
  z55 := Tryz.sizeOf41
  v55 := Tryz.zeroValue41
  t66 := Tryz.underlying228
  a66 := Tryz.isAgg228
  z66 := Tryz.sizeOf228
  v66 := Tryz.zeroValue228
  t70 := Tryz.underlying232
  a70 := Tryz.isAgg232
  z70 := Tryz.sizeOf232
  v70 := Tryz.zeroValue232
  t76 := Tryz.underlying240
  a76 := Tryz.isAgg240
  z76 := Tryz.sizeOf240
  v76 := Tryz.zeroValue240
  t77 := Tryz.underlying241
  a77 := Tryz.isAgg241
  z77 := Tryz.sizeOf241
  v77 := Tryz.zeroValue241 }
end Go.Proofs
