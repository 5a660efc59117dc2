/-
 The kit's contracts for sorting and comparing,laid at this seat in plain words by the kit's own tool. Conditions: as each says.
-/
import Derived.Shelf.SlSortCmp.WholeK
import Derived.Shelf.SlicesG.Cmp
import Derived.Ground.SlsfProg
import Derived.Ground.SlgcProg
import Derived.Test.YtnlkbbboajcoeaaGreatDoorProg
set_option linter.unusedVariables false
set_option linter.unusedSimpArgs false
namespace Go.Proofs
open Go.Shelf
def Tryz.cmpInt_ren:Go.Shelf.Ren:=⟨fun | 5=>102 | 7=>140 | n=>n,fun | 22=>3 | 3=>3 | 4=>4 | n=>n,fun | n=>n⟩
theorem Tryz.cmpInt:Go.Proofs.SlLaysC2.n5 Tryz.prog Tryz.cmpInt_ren:={
 mixed:=by kernel_rfl
 f5:=⟨Tryz.f102.name,by decide,Tryz.func102.trans (congrArg some (by kernel_rfl))⟩
 f7:=⟨Tryz.f140.name,by decide,Tryz.func140.trans (congrArg some (by kernel_rfl))⟩
 t3:=Tryz.underlying3
 a3:=Tryz.isAgg3
 z3:=Tryz.sizeOf3
 v3:=Tryz.zeroValue3
 t4:=Tryz.underlying4
 a4:=Tryz.isAgg4
 z4:=Tryz.sizeOf4
 v4:=Tryz.zeroValue4
 t22:=Tryz.underlying3
 a22:=Tryz.isAgg3
 z22:=Tryz.sizeOf3
 v22:=Tryz.zeroValue3 }
def Tryz.sortSpan_ren:Go.Shelf.Ren:=⟨fun | 6=>100 | 15=>139 | 14=>138 | 28=>173 | 29=>174 | 20=>165 | 21=>166 | 22=>167 | 23=>168 | 24=>169 | 25=>170 | 26=>171 | 27=>172 | 46=>208 | 47=>209 | 48=>210 | 49=>211 | 50=>212 | 57=>226 | n=>n,fun | 22=>144 | 24=>146 | 25=>149 | 3=>3 | 39=>178 | 0=>0 | 53=>208 | 55=>168 | 4=>4 | 46=>202 | 45=>201 | 50=>194 | 5=>5 | 9=>9 | 66=>237 | 70=>241 | 76=>250 | 77=>251 | n=>n,fun | n=>n⟩
theorem Tryz.sortSpan:Go.Proofs.SlLaysF0.n6 Tryz.prog Tryz.sortSpan_ren:={
 mixed:=by kernel_rfl
 f6:=⟨Tryz.f100.name,by decide,Tryz.func100.trans (congrArg some (by kernel_rfl))⟩
 f14:=⟨Tryz.f138.name,by decide,Tryz.func138.trans (congrArg some (by kernel_rfl))⟩
 f15:=Tryz.func139.trans (congrArg some (by kernel_rfl))
 f20:=⟨Tryz.f165.name,by decide,Tryz.func165.trans (congrArg some (by kernel_rfl))⟩
 f21:=⟨Tryz.f166.name,by decide,Tryz.func166.trans (congrArg some (by kernel_rfl))⟩
 f22:=⟨Tryz.f167.name,by decide,Tryz.func167.trans (congrArg some (by kernel_rfl))⟩
 f23:=⟨Tryz.f168.name,by decide,Tryz.func168.trans (congrArg some (by kernel_rfl))⟩
 f24:=⟨Tryz.f169.name,by decide,Tryz.func169.trans (congrArg some (by kernel_rfl))⟩
 f25:=⟨Tryz.f170.name,by decide,Tryz.func170.trans (congrArg some (by kernel_rfl))⟩
 f26:=⟨Tryz.f171.name,by decide,Tryz.func171.trans (congrArg some (by kernel_rfl))⟩
 f27:=⟨Tryz.f172.name,by decide,Tryz.func172.trans (congrArg some (by kernel_rfl))⟩
 f28:=Tryz.func173.trans (congrArg some (by kernel_rfl))
 f29:=Tryz.func174.trans (congrArg some (by kernel_rfl))
 f46:=⟨Tryz.f208.name,by decide,Tryz.func208.trans (congrArg some (by kernel_rfl))⟩
 f47:=Tryz.func209.trans (congrArg some (by kernel_rfl))
 f48:=Tryz.func210.trans (congrArg some (by kernel_rfl))
 f49:=⟨Tryz.f211.name,by decide,Tryz.func211.trans (congrArg some (by kernel_rfl))⟩
 f50:=⟨Tryz.f212.name,by decide,Tryz.func212.trans (congrArg some (by kernel_rfl))⟩
 f57:=⟨Tryz.f226.name,by decide,Tryz.func226.trans (congrArg some (by kernel_rfl))⟩
 t0:=Tryz.underlying0
 a0:=Tryz.isAgg0
 z0:=Tryz.sizeOf0
 v0:=Tryz.zeroValue0
 t3:=Tryz.underlying3
 a3:=Tryz.isAgg3
 z3:=Tryz.sizeOf3
 v3:=Tryz.zeroValue3
 t4:=Tryz.underlying4
 a4:=Tryz.isAgg4
 z4:=Tryz.sizeOf4
 v4:=Tryz.zeroValue4
 t5:=Tryz.underlying5
 a5:=Tryz.isAgg5
 z5:=Tryz.sizeOf5
 v5:=Tryz.zeroValue5
 t9:=Tryz.underlying9
 a9:=Tryz.isAgg9
 z9:=Tryz.sizeOf9
 v9:=Tryz.zeroValue9
 t22:=Tryz.underlying144
 a22:=Tryz.isAgg144
 z22:=Tryz.sizeOf144
 v22:=Tryz.zeroValue144
 t25:=Tryz.underlying149
 a25:=Tryz.isAgg149
 z25:=Tryz.sizeOf149
 v25:=Tryz.zeroValue149
 t39:=Tryz.underlying178
 a39:=Tryz.isAgg178
 z39:=Tryz.sizeOf178
 v39:=Tryz.zeroValue178
 t45:=Tryz.underlying201
 a45:=Tryz.isAgg201
 z45:=Tryz.sizeOf201
 v45:=Tryz.zeroValue201
 t46:=Tryz.underlying202
 a46:=Tryz.isAgg202
 z46:=Tryz.sizeOf202
 v46:=Tryz.zeroValue202
 t50:=Tryz.underlying194
 a50:=Tryz.isAgg194
 z50:=Tryz.sizeOf194
 v50:=Tryz.zeroValue194
 t53:=Tryz.underlying208
 a53:=Tryz.isAgg208
 z53:=Tryz.sizeOf208
 v53:=Tryz.zeroValue208
 t55:=Tryz.underlying168
 a55:=Tryz.isAgg168
 z55:=Tryz.sizeOf168
 v55:=Tryz.zeroValue168
 t66:=Tryz.underlying237
 a66:=Tryz.isAgg237
 z66:=Tryz.sizeOf237
 v66:=Tryz.zeroValue237
 t70:=Tryz.underlying241
 a70:=Tryz.isAgg241
 z70:=Tryz.sizeOf241
 v70:=Tryz.zeroValue241
 t76:=Tryz.underlying250
 a76:=Tryz.isAgg250
 z76:=Tryz.sizeOf250
 v76:=Tryz.zeroValue250
 t77:=Tryz.underlying251
 a77:=Tryz.isAgg251
 z77:=Tryz.sizeOf251
 v77:=Tryz.zeroValue251 }
end Go.Proofs
