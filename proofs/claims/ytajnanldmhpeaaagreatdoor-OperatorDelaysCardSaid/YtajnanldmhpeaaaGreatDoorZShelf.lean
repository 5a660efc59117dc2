/-
 The kit's contracts for sorting and comparing,laid at this seat in plain words by the kit's own tool. Conditions: as each says.
-/
import Derived.Shelf.SlSortCmp.WholeK
import Derived.Shelf.SlicesG.Cmp
import Derived.Shelf.SortM.Plain
import Derived.Shelf.Slices.CompactI
import Derived.Ground.SlgmProg
import Derived.Ground.Names2Prog
import Derived.Ground.SlsfProg
import Derived.Ground.SlgcProg
import Derived.Test.YtajnanldmhpeaaaGreatDoorProg
set_option linter.unusedVariables false
set_option linter.unusedSimpArgs false
namespace Go.Proofs
open Go.Shelf
def Tryz.cmpInt_ren:Go.Shelf.Ren:=⟨fun | 5=>91 | 7=>127 | n=>n,fun | 22=>3 | 3=>3 | 4=>4 | n=>n,fun | n=>n⟩
theorem Tryz.cmpInt:Go.Proofs.SlLaysC2.n5 Tryz.prog Tryz.cmpInt_ren:={
 mixed:=by kernel_rfl
 f5:=⟨Tryz.f91.name,by decide,Tryz.func91.trans (congrArg some (by kernel_rfl))⟩
 f7:=⟨Tryz.f127.name,by decide,Tryz.func127.trans (congrArg some (by kernel_rfl))⟩
 t3:=Tryz.underlying3
 a3:=Tryz.isAgg3
 z3:=Tryz.sizeOf3
 v3:=Tryz.zeroValue3
 t4:=Tryz.underlying4
 a4:=Tryz.isAgg4
 z4:=Tryz.sizeOf4
 v4:=Tryz.zeroValue4
 t22:=Tryz.underlying3
 a22:=Tryz.isAgg3
 z22:=Tryz.sizeOf3
 v22:=Tryz.zeroValue3 }
def Tryz.sortSpan_ren:Go.Shelf.Ren:=⟨fun | 6=>89 | 15=>126 | 14=>125 | 28=>160 | 29=>161 | 20=>152 | 21=>153 | 22=>154 | 23=>155 | 24=>156 | 25=>157 | 26=>158 | 27=>159 | 46=>195 | 47=>196 | 48=>197 | 49=>198 | 50=>199 | 57=>213 | n=>n,fun | 22=>140 | 24=>142 | 25=>145 | 3=>3 | 39=>172 | 0=>0 | 53=>202 | 55=>161 | 4=>4 | 46=>196 | 45=>195 | 50=>188 | 5=>5 | 9=>9 | 66=>231 | 70=>235 | 76=>244 | 77=>245 | n=>n,fun | n=>n⟩
theorem Tryz.sortSpan:Go.Proofs.SlLaysF0.n6 Tryz.prog Tryz.sortSpan_ren:={
 mixed:=by kernel_rfl
 f6:=⟨Tryz.f89.name,by decide,Tryz.func89.trans (congrArg some (by kernel_rfl))⟩
 f14:=⟨Tryz.f125.name,by decide,Tryz.func125.trans (congrArg some (by kernel_rfl))⟩
 f15:=Tryz.func126.trans (congrArg some (by kernel_rfl))
 f20:=⟨Tryz.f152.name,by decide,Tryz.func152.trans (congrArg some (by kernel_rfl))⟩
 f21:=⟨Tryz.f153.name,by decide,Tryz.func153.trans (congrArg some (by kernel_rfl))⟩
 f22:=⟨Tryz.f154.name,by decide,Tryz.func154.trans (congrArg some (by kernel_rfl))⟩
 f23:=⟨Tryz.f155.name,by decide,Tryz.func155.trans (congrArg some (by kernel_rfl))⟩
 f24:=⟨Tryz.f156.name,by decide,Tryz.func156.trans (congrArg some (by kernel_rfl))⟩
 f25:=⟨Tryz.f157.name,by decide,Tryz.func157.trans (congrArg some (by kernel_rfl))⟩
 f26:=⟨Tryz.f158.name,by decide,Tryz.func158.trans (congrArg some (by kernel_rfl))⟩
 f27:=⟨Tryz.f159.name,by decide,Tryz.func159.trans (congrArg some (by kernel_rfl))⟩
 f28:=Tryz.func160.trans (congrArg some (by kernel_rfl))
 f29:=Tryz.func161.trans (congrArg some (by kernel_rfl))
 f46:=⟨Tryz.f195.name,by decide,Tryz.func195.trans (congrArg some (by kernel_rfl))⟩
 f47:=Tryz.func196.trans (congrArg some (by kernel_rfl))
 f48:=Tryz.func197.trans (congrArg some (by kernel_rfl))
 f49:=⟨Tryz.f198.name,by decide,Tryz.func198.trans (congrArg some (by kernel_rfl))⟩
 f50:=⟨Tryz.f199.name,by decide,Tryz.func199.trans (congrArg some (by kernel_rfl))⟩
 f57:=⟨Tryz.f213.name,by decide,Tryz.func213.trans (congrArg some (by kernel_rfl))⟩
 t0:=Tryz.underlying0
 a0:=Tryz.isAgg0
 z0:=Tryz.sizeOf0
 v0:=Tryz.zeroValue0
 t3:=Tryz.underlying3
 a3:=Tryz.isAgg3
 z3:=Tryz.sizeOf3
 v3:=Tryz.zeroValue3
 t4:=Tryz.underlying4
 a4:=Tryz.isAgg4
 z4:=Tryz.sizeOf4
 v4:=Tryz.zeroValue4
 t5:=Tryz.underlying5
 a5:=Tryz.isAgg5
 z5:=Tryz.sizeOf5
 v5:=Tryz.zeroValue5
 t9:=Tryz.underlying9
 a9:=Tryz.isAgg9
 z9:=Tryz.sizeOf9
 v9:=Tryz.zeroValue9
 t22:=Tryz.underlying140
 a22:=Tryz.isAgg140
 z22:=Tryz.sizeOf140
 v22:=Tryz.zeroValue140
 t25:=Tryz.underlying145
 a25:=Tryz.isAgg145
 z25:=Tryz.sizeOf145
 v25:=Tryz.zeroValue145
 t39:=Tryz.underlying172
 a39:=Tryz.isAgg172
 z39:=Tryz.sizeOf172
 v39:=Tryz.zeroValue172
 t45:=Tryz.underlying195
 a45:=Tryz.isAgg195
 z45:=Tryz.sizeOf195
 v45:=Tryz.zeroValue195
 t46:=Tryz.underlying196
 a46:=Tryz.isAgg196
 z46:=Tryz.sizeOf196
 v46:=Tryz.zeroValue196
 t50:=Tryz.underlying188
 a50:=Tryz.isAgg188
 z50:=Tryz.sizeOf188
 v50:=Tryz.zeroValue188
 t53:=Tryz.underlying202
 a53:=Tryz.isAgg202
 z53:=Tryz.sizeOf202
 v53:=Tryz.zeroValue202
 t55:=Tryz.underlying161
 a55:=Tryz.isAgg161
 z55:=Tryz.sizeOf161
 v55:=Tryz.zeroValue161
 t66:=Tryz.underlying231
 a66:=Tryz.isAgg231
 z66:=Tryz.sizeOf231
 v66:=Tryz.zeroValue231
 t70:=Tryz.underlying235
 a70:=Tryz.isAgg235
 z70:=Tryz.sizeOf235
 v70:=Tryz.zeroValue235
 t76:=Tryz.underlying244
 a76:=Tryz.isAgg244
 z76:=Tryz.sizeOf244
 v76:=Tryz.zeroValue244
 t77:=Tryz.underlying245
 a77:=Tryz.isAgg245
 z77:=Tryz.sizeOf245
 v77:=Tryz.zeroValue245 }
end Go.Proofs
