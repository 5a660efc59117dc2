/- Several texts of mine, one behind the other. Conditions: as each says. -/
import Derived.Test.YtfmdaiojokniiaaGreatDoorW13
import Derived.Test.YtfmdaiojokniiaaGreatDoorW17
import Derived.Shelf.SlicesG.Cmp
import Derived.Shelf.SortM.Plain
import Derived.Shelf.Slices.CompactI
import Derived.Ground.SlgmProg
import Derived.Ground.Names2Prog
import Derived.Ground.SlsfProg
import Derived.Ground.SlgcProg
set_option linter.unusedVariables false
set_option linter.unusedSimpArgs false
section
namespace Go.Proofs
open Go.Shelf
def Tryz.QG:Go.Shelf.Ren:=⟨fun | 5=>101 | 7=>176 | n=>n,fun | 22=>3 | 3=>3 | 4=>4 | n=>n,fun | n=>n⟩
theorem Tryz.QH:Go.Proofs.SlLaysC2.n5 Tryz.prog Tryz.QG:={
 mixed:=by kernel_rfl
 f5:=⟨Tryz.f101.name,by decide,Tryz.func101.trans (congrArg some (by kernel_rfl))⟩
 f7:=⟨Tryz.f176.name,by decide,Tryz.func176.trans (congrArg some (by kernel_rfl))⟩
 t3:=Tryz.underlying3
 a3:=Tryz.isAgg3
 z3:=Tryz.sizeOf3
 v3:=Tryz.zeroValue3
 t4:=Tryz.underlying4
 a4:=Tryz.isAgg4
 z4:=Tryz.sizeOf4
 v4:=Tryz.zeroValue4
 t22:=Tryz.underlying3
 a22:=Tryz.isAgg3
 z22:=Tryz.sizeOf3
 v22:=Tryz.zeroValue3 }
def Tryz.QI:Go.Shelf.Ren:=⟨fun | 6=>99 | 15=>153 | 14=>175 | 28=>231 | 29=>232 | 20=>247 | 21=>248 | 22=>249 | 23=>250 | 24=>251 | 25=>252 | 26=>253 | 27=>254 | 46=>299 | 47=>283 | 48=>284 | 49=>300 | 50=>301 | 57=>342 | n=>n,fun | 22=>167 | 24=>169 | 25=>172 | 3=>3 | 39=>224 | 0=>0 | 53=>290 | 55=>188 | 4=>4 | 46=>283 | 45=>282 | 50=>287 | 5=>5 | 9=>9 | 66=>330 | 70=>334 | 76=>362 | 77=>363 | n=>n,fun | n=>n⟩
theorem Tryz.QJ:Go.Proofs.SlLaysF0.n6 Tryz.prog Tryz.QI:={
 mixed:=by kernel_rfl
 f6:=⟨Tryz.f99.name,by decide,Tryz.func99.trans (congrArg some (by kernel_rfl))⟩
 f14:=⟨Tryz.f175.name,by decide,Tryz.func175.trans (congrArg some (by kernel_rfl))⟩
 f15:=Tryz.func153.trans (congrArg some (by kernel_rfl))
 f20:=⟨Tryz.f247.name,by decide,Tryz.func247.trans (congrArg some (by kernel_rfl))⟩
 f21:=⟨Tryz.f248.name,by decide,Tryz.func248.trans (congrArg some (by kernel_rfl))⟩
 f22:=⟨Tryz.f249.name,by decide,Tryz.func249.trans (congrArg some (by kernel_rfl))⟩
 f23:=⟨Tryz.f250.name,by decide,Tryz.func250.trans (congrArg some (by kernel_rfl))⟩
 f24:=⟨Tryz.f251.name,by decide,Tryz.func251.trans (congrArg some (by kernel_rfl))⟩
 f25:=⟨Tryz.f252.name,by decide,Tryz.func252.trans (congrArg some (by kernel_rfl))⟩
 f26:=⟨Tryz.f253.name,by decide,Tryz.func253.trans (congrArg some (by kernel_rfl))⟩
 f27:=⟨Tryz.f254.name,by decide,Tryz.func254.trans (congrArg some (by kernel_rfl))⟩
 f28:=Tryz.func231.trans (congrArg some (by kernel_rfl))
 f29:=Tryz.func232.trans (congrArg some (by kernel_rfl))
 f46:=⟨Tryz.f299.name,by decide,Tryz.func299.trans (congrArg some (by kernel_rfl))⟩
 f47:=Tryz.func283.trans (congrArg some (by kernel_rfl))
 f48:=Tryz.func284.trans (congrArg some (by kernel_rfl))
 f49:=⟨Tryz.f300.name,by decide,Tryz.func300.trans (congrArg some (by kernel_rfl))⟩
 f50:=⟨Tryz.f301.name,by decide,Tryz.func301.trans (congrArg some (by kernel_rfl))⟩
 f57:=⟨Tryz.f342.name,by decide,Tryz.func342.trans (congrArg some (by kernel_rfl))⟩
 t0:=Tryz.underlying0
 a0:=Tryz.isAgg0
 z0:=Tryz.sizeOf0
 v0:=Tryz.zeroValue0
 t3:=Tryz.underlying3
 a3:=Tryz.isAgg3
 z3:=Tryz.sizeOf3
 v3:=Tryz.zeroValue3
 t4:=Tryz.underlying4
 a4:=Tryz.isAgg4
 z4:=Tryz.sizeOf4
 v4:=Tryz.zeroValue4
 t5:=Tryz.underlying5
 a5:=Tryz.isAgg5
 z5:=Tryz.sizeOf5
 v5:=Tryz.zeroValue5
 t9:=Tryz.underlying9
 a9:=Tryz.isAgg9
 z9:=Tryz.sizeOf9
 v9:=Tryz.zeroValue9
 t22:=Tryz.underlying167
 a22:=Tryz.isAgg167
 z22:=Tryz.sizeOf167
 v22:=Tryz.zeroValue167
 t25:=Tryz.underlying172
 a25:=Tryz.isAgg172
 z25:=Tryz.sizeOf172
 v25:=Tryz.zeroValue172
 t39:=Tryz.underlying224
 a39:=Tryz.isAgg224
 z39:=Tryz.sizeOf224
 v39:=Tryz.zeroValue224
 t45:=Tryz.underlying282
 a45:=Tryz.isAgg282
 z45:=Tryz.sizeOf282
 v45:=Tryz.zeroValue282
 t46:=Tryz.underlying283
 a46:=Tryz.isAgg283
 z46:=Tryz.sizeOf283
 v46:=Tryz.zeroValue283
 t50:=Tryz.underlying287
 a50:=Tryz.isAgg287
 z50:=Tryz.sizeOf287
 v50:=Tryz.zeroValue287
 t53:=Tryz.underlying290
 a53:=Tryz.isAgg290
 z53:=Tryz.sizeOf290
 v53:=Tryz.zeroValue290
 t55:=Tryz.underlying188
 a55:=Tryz.isAgg188
 z55:=Tryz.sizeOf188
 v55:=Tryz.zeroValue188
 t66:=Tryz.underlying330
 a66:=Tryz.isAgg330
 z66:=Tryz.sizeOf330
 v66:=Tryz.zeroValue330
 t70:=Tryz.underlying334
 a70:=Tryz.isAgg334
 z70:=Tryz.sizeOf334
 v70:=Tryz.zeroValue334
 t76:=Tryz.underlying362
 a76:=Tryz.isAgg362
 z76:=Tryz.sizeOf362
 v76:=Tryz.zeroValue362
 t77:=Tryz.underlying363
 a77:=Tryz.isAgg363
 z77:=Tryz.sizeOf363
 v77:=Tryz.zeroValue363 }
def Tryz.QK:Go.Shelf.Ren:=⟨fun | 6=>85 | 15=>153 | 14=>152 | 28=>231 | 29=>232 | 20=>223 | 21=>224 | 22=>225 | 23=>226 | 24=>227 | 25=>228 | 26=>229 | 27=>230 | 46=>282 | 47=>283 | 48=>284 | 49=>285 | 50=>286 | 57=>333 | n=>n,fun | 22=>148 | 24=>59 | 25=>155 | 3=>3 | 39=>224 | 0=>0 | 53=>290 | 55=>188 | 4=>4 | 46=>283 | 45=>282 | 50=>287 | 5=>5 | 9=>9 | 66=>330 | 70=>334 | 76=>362 | 77=>363 | n=>n,fun | n=>n⟩
theorem Tryz.QL:Go.Proofs.SlLaysF0.n6 Tryz.prog Tryz.QK:={
 mixed:=by kernel_rfl
 f6:=⟨Tryz.f85.name,by decide,Tryz.func85.trans (congrArg some (by kernel_rfl))⟩
 f14:=⟨Tryz.f152.name,by decide,Tryz.func152.trans (congrArg some (by kernel_rfl))⟩
 f15:=Tryz.func153.trans (congrArg some (by kernel_rfl))
 f20:=⟨Tryz.f223.name,by decide,Tryz.func223.trans (congrArg some (by kernel_rfl))⟩
 f21:=⟨Tryz.f224.name,by decide,Tryz.func224.trans (congrArg some (by kernel_rfl))⟩
 f22:=⟨Tryz.f225.name,by decide,Tryz.func225.trans (congrArg some (by kernel_rfl))⟩
 f23:=⟨Tryz.f226.name,by decide,Tryz.func226.trans (congrArg some (by kernel_rfl))⟩
 f24:=⟨Tryz.f227.name,by decide,Tryz.func227.trans (congrArg some (by kernel_rfl))⟩
 f25:=⟨Tryz.f228.name,by decide,Tryz.func228.trans (congrArg some (by kernel_rfl))⟩
 f26:=⟨Tryz.f229.name,by decide,Tryz.func229.trans (congrArg some (by kernel_rfl))⟩
 f27:=⟨Tryz.f230.name,by decide,Tryz.func230.trans (congrArg some (by kernel_rfl))⟩
 f28:=Tryz.func231.trans (congrArg some (by kernel_rfl))
 f29:=Tryz.func232.trans (congrArg some (by kernel_rfl))
 f46:=⟨Tryz.f282.name,by decide,Tryz.func282.trans (congrArg some (by kernel_rfl))⟩
 f47:=Tryz.func283.trans (congrArg some (by kernel_rfl))
 f48:=Tryz.func284.trans (congrArg some (by kernel_rfl))
 f49:=⟨Tryz.f285.name,by decide,Tryz.func285.trans (congrArg some (by kernel_rfl))⟩
 f50:=⟨Tryz.f286.name,by decide,Tryz.func286.trans (congrArg some (by kernel_rfl))⟩
 f57:=⟨Tryz.f333.name,by decide,Tryz.func333.trans (congrArg some (by kernel_rfl))⟩
 t0:=Tryz.underlying0
 a0:=Tryz.isAgg0
 z0:=Tryz.sizeOf0
 v0:=Tryz.zeroValue0
 t3:=Tryz.underlying3
 a3:=Tryz.isAgg3
 z3:=Tryz.sizeOf3
 v3:=Tryz.zeroValue3
 t4:=Tryz.underlying4
 a4:=Tryz.isAgg4
 z4:=Tryz.sizeOf4
 v4:=Tryz.zeroValue4
 t5:=Tryz.underlying5
 a5:=Tryz.isAgg5
 z5:=Tryz.sizeOf5
 v5:=Tryz.zeroValue5
 t9:=Tryz.underlying9
 a9:=Tryz.isAgg9
 z9:=Tryz.sizeOf9
 v9:=Tryz.zeroValue9
 t22:=Tryz.underlying148
 a22:=Tryz.isAgg148
 z22:=Tryz.sizeOf148
 v22:=Tryz.zeroValue148
 t25:=Tryz.underlying155
 a25:=Tryz.isAgg155
 z25:=Tryz.sizeOf155
 v25:=Tryz.zeroValue155
 t39:=Tryz.underlying224
 a39:=Tryz.isAgg224
 z39:=Tryz.sizeOf224
 v39:=Tryz.zeroValue224
 t45:=Tryz.underlying282
 a45:=Tryz.isAgg282
 z45:=Tryz.sizeOf282
 v45:=Tryz.zeroValue282
 t46:=Tryz.underlying283
 a46:=Tryz.isAgg283
 z46:=Tryz.sizeOf283
 v46:=Tryz.zeroValue283
 t50:=Tryz.underlying287
 a50:=Tryz.isAgg287
 z50:=Tryz.sizeOf287
 v50:=Tryz.zeroValue287
 t53:=Tryz.underlying290
 a53:=Tryz.isAgg290
 z53:=Tryz.sizeOf290
 v53:=Tryz.zeroValue290
 t55:=Tryz.underlying188
 a55:=Tryz.isAgg188
 z55:=Tryz.sizeOf188
 v55:=Tryz.zeroValue188
 t66:=Tryz.underlying330
 a66:=Tryz.isAgg330
 z66:=Tryz.sizeOf330
 v66:=Tryz.zeroValue330
 t70:=Tryz.underlying334
 a70:=Tryz.isAgg334
 z70:=Tryz.sizeOf334
 v70:=Tryz.zeroValue334
 t76:=Tryz.underlying362
 a76:=Tryz.isAgg362
 z76:=Tryz.sizeOf362
 v76:=Tryz.zeroValue362
 t77:=Tryz.underlying363
 a77:=Tryz.isAgg363
 z77:=Tryz.sizeOf363
 v77:=Tryz.zeroValue363 }
def Tryz.QM:Go.Shelf.Ren:=⟨fun | 5=>182 | 8=>153 | 7=>261 | 19=>231 | 20=>232 | 10=>306 | 11=>307 | 12=>308 | 13=>309 | 14=>310 | 15=>311 | 16=>312 | 17=>313 | 18=>314 | 30=>344 | 31=>283 | 32=>284 | 33=>345 | 34=>346 | 35=>176 | 40=>358 | n=>n,fun | 23=>27 | 25=>3 | 3=>3 | 32=>224 | 22=>27 | 0=>0 | 44=>290 | 46=>188 | 4=>4 | 36=>283 | 35=>282 | 41=>287 | 5=>5 | 9=>9 | 53=>330 | 57=>334 | 63=>362 | 64=>363 | n=>n,fun | n=>n⟩
theorem Tryz.sortInt:Go.Proofs.SlLaysM.n5 Tryz.prog Tryz.QM:={
 mixed:=by kernel_rfl
 f5:=⟨Tryz.f182.name,by decide,Tryz.func182.trans (congrArg some (by kernel_rfl))⟩
 f7:=⟨Tryz.f261.name,by decide,Tryz.func261.trans (congrArg some (by kernel_rfl))⟩
 f8:=Tryz.func153.trans (congrArg some (by kernel_rfl))
 f10:=⟨Tryz.f306.name,by decide,Tryz.func306.trans (congrArg some (by kernel_rfl))⟩
 f11:=⟨Tryz.f307.name,by decide,Tryz.func307.trans (congrArg some (by kernel_rfl))⟩
 f12:=⟨Tryz.f308.name,by decide,Tryz.func308.trans (congrArg some (by kernel_rfl))⟩
 f13:=⟨Tryz.f309.name,by decide,Tryz.func309.trans (congrArg some (by kernel_rfl))⟩
 f14:=⟨Tryz.f310.name,by decide,Tryz.func310.trans (congrArg some (by kernel_rfl))⟩
 f15:=⟨Tryz.f311.name,by decide,Tryz.func311.trans (congrArg some (by kernel_rfl))⟩
 f16:=⟨Tryz.f312.name,by decide,Tryz.func312.trans (congrArg some (by kernel_rfl))⟩
 f17:=⟨Tryz.f313.name,by decide,Tryz.func313.trans (congrArg some (by kernel_rfl))⟩
 f18:=⟨Tryz.f314.name,by decide,Tryz.func314.trans (congrArg some (by kernel_rfl))⟩
 f19:=Tryz.func231.trans (congrArg some (by kernel_rfl))
 f20:=Tryz.func232.trans (congrArg some (by kernel_rfl))
 f30:=⟨Tryz.f344.name,by decide,Tryz.func344.trans (congrArg some (by kernel_rfl))⟩
 f31:=Tryz.func283.trans (congrArg some (by kernel_rfl))
 f32:=Tryz.func284.trans (congrArg some (by kernel_rfl))
 f33:=⟨Tryz.f345.name,by decide,Tryz.func345.trans (congrArg some (by kernel_rfl))⟩
 f34:=⟨Tryz.f346.name,by decide,Tryz.func346.trans (congrArg some (by kernel_rfl))⟩
 f35:=⟨Tryz.f176.name,by decide,Tryz.func176.trans (congrArg some (by kernel_rfl))⟩
 f40:=⟨Tryz.f358.name,by decide,Tryz.func358.trans (congrArg some (by kernel_rfl))⟩
 t0:=Tryz.underlying0
 a0:=Tryz.isAgg0
 z0:=Tryz.sizeOf0
 v0:=Tryz.zeroValue0
 t3:=Tryz.underlying3
 a3:=Tryz.isAgg3
 z3:=Tryz.sizeOf3
 v3:=Tryz.zeroValue3
 t4:=Tryz.underlying4
 a4:=Tryz.isAgg4
 z4:=Tryz.sizeOf4
 v4:=Tryz.zeroValue4
 t5:=Tryz.underlying5
 a5:=Tryz.isAgg5
 z5:=Tryz.sizeOf5
 v5:=Tryz.zeroValue5
 t9:=Tryz.underlying9
 a9:=Tryz.isAgg9
 z9:=Tryz.sizeOf9
 v9:=Tryz.zeroValue9
 t22:=Tryz.underlying27
 a22:=Tryz.isAgg27
 z22:=Tryz.sizeOf27
 v22:=Tryz.zeroValue27
 t23:=Tryz.underlying27
 a23:=Tryz.isAgg27
 z23:=Tryz.sizeOf27
 v23:=Tryz.zeroValue27
 t25:=Tryz.underlying3
 a25:=Tryz.isAgg3
 z25:=Tryz.sizeOf3
 v25:=Tryz.zeroValue3
 t32:=Tryz.underlying224
 a32:=Tryz.isAgg224
 z32:=Tryz.sizeOf224
 v32:=Tryz.zeroValue224
 t35:=Tryz.underlying282
 a35:=Tryz.isAgg282
 z35:=Tryz.sizeOf282
 v35:=Tryz.zeroValue282
 t36:=Tryz.underlying283
 a36:=Tryz.isAgg283
 z36:=Tryz.sizeOf283
 v36:=Tryz.zeroValue283
 t41:=Tryz.underlying287
 a41:=Tryz.isAgg287
 z41:=Tryz.sizeOf287
 v41:=Tryz.zeroValue287
 t44:=Tryz.underlying290
 a44:=Tryz.isAgg290
 z44:=Tryz.sizeOf290
 v44:=Tryz.zeroValue290
 t46:=Tryz.underlying188
 a46:=Tryz.isAgg188
 z46:=Tryz.sizeOf188
 v46:=Tryz.zeroValue188
 t53:=Tryz.underlying330
 a53:=Tryz.isAgg330
 z53:=Tryz.sizeOf330
 v53:=Tryz.zeroValue330
 t57:=Tryz.underlying334
 a57:=Tryz.isAgg334
 z57:=Tryz.sizeOf334
 v57:=Tryz.zeroValue334
 t63:=Tryz.underlying362
 a63:=Tryz.isAgg362
 z63:=Tryz.sizeOf362
 v63:=Tryz.zeroValue362
 t64:=Tryz.underlying363
 a64:=Tryz.isAgg363
 z64:=Tryz.sizeOf363
 v64:=Tryz.zeroValue363 }
end Go.Proofs
end
section
namespace Go.Proofs.YtfmdaiojokniiaaGreatDoor.P
open Go Go.aw
set_option maxRecDepth 100000
set_option maxHeartbeats 4000000
def iI (q:br):Bool:=Nm.valid q.name&&(decide (1≤q.type)&&decide (q.type≤8))
def qc (g:di):Bool:=Nm.valid g.ay&&(decide (1≤g.key)&&decide (g.key≤1000000))&&(decide (1≤g.lG)&&decide (g.lG≤3))&&CQ g.bQ g.upto
def oU (s:Signed):Bool:=s.sigs.all qc&&fF s.set&&decide (s.sigs.length≤6)
def Je (a:dj):Bool:=if a.kind=4 then Nm.valid a.cut else a.cut==[]
def xe (a:dj):Bool:=(decide (1≤a.kind)&&decide (a.kind≤7))&&decide (a.ae.length≤40)&&Je a&&a.ae.all oU
def Signed.eF (s:Signed):Prop:=s.set.Fits∧s.sigs.length≤maxLen∧∀ g∈s.sigs,g.ay.length≤maxLen
def dj.eF (a:dj):Prop:=a.ae.length≤maxLen∧(∀ s∈a.ae,s.eF)∧a.cut.length≤maxLen
theorem uh (n a b:Int):au E 178 [.int .i64 n,.int .i64 a,.int .i64 b] (· = .bool (decide (a≤n)&&decide (n≤b))):=by
 refine eP Tryz.func178 ?_;repeat' (first | with_reducible refine cY ?_ | with_reducible refine cN ?_ | with_reducible refine aj (fun _=>?_) (fun _=>?_) | refine gA Tryz.func178 ?_ | refine gB ?_ | with_reducible rfl)
 all_goals (simp_all; try omega)
theorem Rz (g:di) (hf:g.ay.length≤maxLen):au E 305 [g.enc] (· = .bool (qc g)):=by
 refine eP Tryz.func305 ?_;repeat' (first | with_reducible refine ar (fQ _ hf) ?_ | with_reducible refine aR (fQ _ hf) ?_ | with_reducible refine ar (uh _ _ _) ?_ | with_reducible refine aR (uh _ _ _) ?_ | with_reducible refine cY ?_ | with_reducible refine cN ?_ | with_reducible refine aj (fun _=>?_) (fun _=>?_) | refine gA Tryz.func305 ?_ | refine gB ?_ | with_reducible rfl)
 all_goals (simp_all [qc,CQ]; try omega)
theorem RA (g:di) (hf:g.ay.length≤maxLen):au E 304 [g.enc] (· = .bool (!qc g)):=by
 have c1:=Rz g hf;refine eP Tryz.func304 ?_;refine ar (c1) ?_;refine gO Tryz.func304 ?_
 with_reducible rfl
theorem RB (l:List di) (hl:l.length≤maxLen) (hf:∀ g∈l,g.ay.length≤maxLen):aq E 343 [] [.d (.sl (l.map di.enc)),.fn (.func 304) [] []] (fun a b=>∃ n:Int,a = .d (.int .i64 n)∧b=[]∧decide (n≥0) = !l.all qc):=by
 unfold maxLen at hl;refine aq.run ag (fn:=Tryz.f343) Tryz.func343 (body:=Tryz.f343.body.getD .skip) rfl (by decide) 2000 rfl ?_;(conv=>whnf);refine I.loop (κ:=Nat) ([4,5]++rg 8 11) (fun k=>[(8,.d (.int .i64 k))]) (fun _=>[]) (fun k=>k≤l.length∧(l.take k).all qc=true) (fun k=>l.length - k) 0 ⟨Nat.zero_le _,rfl⟩ ?_ ?_
 ·exact sZ
 rintro k ⟨hk,a7⟩ IH;refine I.head ag Tryz.func343 2000 ?_;(conv=>whnf);refine aj (fun h5=>?_) (fun h5=>?_)
 ·have ah:k<l.length:=by simpa using h5
  obtain ⟨x,hx⟩:=aU ah;have c1:=RA x (hf x (List.mem_of_getElem? hx));refine gO Tryz.func343 ?_;refine aT (e:=x.enc) (bu hx) rfl ?_;refine gO Tryz.func343 ?_;refine ar (c1) ?_;refine gO Tryz.func343 ?_;cases hp:qc x
  ·refine aY ?_;refine gO Tryz.func343 ?_;exact ⟨k,rfl,rfl,by rw [gG hx hp]; simp⟩
  ·refine aN ?_;refine gO Tryz.func343 ?_;refine I.back (IH (k+1) ⟨by omega,iD a7 hx hp⟩ (by omega)) ?_;exact sZ
 ·have aK:l.length≤k:=by simpa using h5
  rw [List.take_of_length_le aK] at a7;refine gO Tryz.func343 ?_;exact ⟨_,rfl,rfl,by rw [a7]; rfl⟩
theorem RC (l:List di) (hl:l.length≤maxLen) (hf:∀ g∈l,g.ay.length≤maxLen):aq E 303 [] [.d (.sl (l.map di.enc)),.fn (.func 304) [] []] (fun a b=>a = .d (.bool (!l.all qc))∧b=[]):=by
 refine aq.run ag (fn:=Tryz.f303) Tryz.func303 (body:=Tryz.f303.body.getD .skip) rfl (by decide) 2000 rfl ?_;(conv=>whnf);refine iT (RB l hl hf) ?_;rintro r b ⟨n,rfl,rfl,h⟩;refine gO Tryz.func303 ?_;exact ⟨by rw [h],rfl⟩
theorem RE (s:Signed) (hf:s.eF):au E 258 [s.enc] (· = .bool (oU s)):=by
 obtain ⟨s,l⟩:=s;obtain ⟨h1,h2,h3⟩:=hf;simp only at h1 h2 h3;unfold oU;simp only;show au E _ [DV.agg [.str s.name,.int .i64 s.type,.int .i64 s.cV,tH s.data,yJ l]] _;refine eP Tryz.func258 ?_;repeat' (first | with_reducible refine ar (tP s h1) ?_ | with_reducible refine aR (tP s h1) ?_ | with_reducible refine cY ?_ | with_reducible refine cN ?_ | with_reducible refine aj (fun _=>?_) (fun _=>?_) | refine gA Tryz.func258 ?_ | refine gB ?_ | with_reducible rfl)
 all_goals try (refine congrArg DV.bool ?_; simp_all; try omega)
 refine iT (RC l h2 h3) ?_;rintro r b ⟨rfl,rfl⟩;refine gO Tryz.func258 ?_;refine congrArg DV.bool ?_;simp_all;try omega
theorem RF (s:Signed) (hf:s.eF):au E 257 [s.enc] (· = .bool (!oU s)):=by
 have c1:=RE s hf;refine eP Tryz.func257 ?_;refine ar (c1) ?_;refine gO Tryz.func257 ?_
 with_reducible rfl
theorem RG (l:List Signed) (hl:l.length≤maxLen) (hf:∀ s∈l,s.eF):aq E 302 [] [.d (.sl (l.map Signed.enc)),.fn (.func 257) [] []] (fun a b=>∃ n:Int,a = .d (.int .i64 n)∧b=[]∧decide (n≥0) = !l.all oU):=by
 unfold maxLen at hl;refine aq.run ag (fn:=Tryz.f302) Tryz.func302 (body:=Tryz.f302.body.getD .skip) rfl (by decide) 2000 rfl ?_;(conv=>whnf);refine I.loop (κ:=Nat) ([4,5]++rg 8 11) (fun k=>[(8,.d (.int .i64 k))]) (fun _=>[]) (fun k=>k≤l.length∧(l.take k).all oU=true) (fun k=>l.length - k) 0 ⟨Nat.zero_le _,rfl⟩ ?_ ?_
 ·exact sZ
 rintro k ⟨hk,a7⟩ IH;refine I.head ag Tryz.func302 2000 ?_;(conv=>whnf);refine aj (fun h5=>?_) (fun h5=>?_)
 ·have ah:k<l.length:=by simpa using h5
  obtain ⟨x,hx⟩:=aU ah;have c1:=RF x (hf x (List.mem_of_getElem? hx));refine gO Tryz.func302 ?_;refine aT (e:=x.enc) (bu hx) rfl ?_;refine gO Tryz.func302 ?_;refine ar (c1) ?_;refine gO Tryz.func302 ?_;cases hp:oU x
  ·refine aY ?_;refine gO Tryz.func302 ?_;exact ⟨k,rfl,rfl,by rw [gG hx hp]; simp⟩
  ·refine aN ?_;refine gO Tryz.func302 ?_;refine I.back (IH (k+1) ⟨by omega,iD a7 hx hp⟩ (by omega)) ?_;exact sZ
 ·have aK:l.length≤k:=by simpa using h5
  rw [List.take_of_length_le aK] at a7;refine gO Tryz.func302 ?_;exact ⟨_,rfl,rfl,by rw [a7]; rfl⟩
theorem RH (l:List Signed) (hl:l.length≤maxLen) (hf:∀ s∈l,s.eF):aq E 256 [] [.d (.sl (l.map Signed.enc)),.fn (.func 257) [] []] (fun a b=>a = .d (.bool (!l.all oU))∧b=[]):=by
 refine aq.run ag (fn:=Tryz.f256) Tryz.func256 (body:=Tryz.f256.body.getD .skip) rfl (by decide) 2000 rfl ?_;(conv=>whnf);refine iT (RG l hl hf) ?_;rintro r b ⟨n,rfl,rfl,h⟩;refine gO Tryz.func256 ?_;exact ⟨by rw [h],rfl⟩
theorem RI (a:dj) (hf:a.eF):au E 179 [a.enc] (· = .bool (xe a)):=by
 obtain ⟨kd,l,cut⟩:=a;obtain ⟨h2,h3,h1⟩:=hf;simp only at h1 h2 h3;unfold xe Je;simp only;show au E _ [DV.agg [.int .i64 kd,.sl (l.map Signed.enc),.str cut]] _;refine eP Tryz.func179 ?_;repeat' (first | with_reducible refine ar (uh _ _ _) ?_ | with_reducible refine aR (uh _ _ _) ?_ | with_reducible refine cY ?_ | with_reducible refine cN ?_ | with_reducible refine aj (fun _=>?_) (fun _=>?_) | refine gA Tryz.func179 ?_ | refine gB ?_ | with_reducible rfl)
 all_goals try (refine congrArg DV.bool ?_; simp_all; try omega)
 refine iT (RH l h2 h3) ?_;rintro r b ⟨rfl,rfl⟩;refine gO Tryz.func179 ?_;repeat' (first | with_reducible refine ar (fQ cut h1) ?_ | with_reducible refine aR (fQ cut h1) ?_ | with_reducible refine cY ?_ | with_reducible refine cN ?_ | with_reducible refine aj (fun _=>?_) (fun _=>?_) | refine gA Tryz.func179 ?_ | refine gB ?_ | with_reducible rfl)
 all_goals
  refine congrArg DV.bool ?_;have e1:l.length≤40:=by simp_all; omega
  generalize l.all oU=b at *;cases b <;> simp_all
def DH (q:br) (a:dj):DV := .agg [.int .i64 2,.int .i64 0,.int .i64 1,.int .i64 1,.str q.name,.int .i64 q.type,.int .i64 a.kind,.sl (a.ae.map Signed.enc),.str a.cut]
theorem RJ (q:br) (a:dj) (hq:q.name.length≤maxLen) (hf:a.eF):au E 105 [DH q a] (· = .bool (iI q&&xe a)):=by
 unfold DH iI;have c1:=RI a hf;refine eP Tryz.func105 ?_;repeat' (first | with_reducible refine ar (uh _ _ _) ?_ | with_reducible refine aR (uh _ _ _) ?_ | with_reducible refine ar (fQ _ hq) ?_ | with_reducible refine aR (fQ _ hq) ?_ | with_reducible refine ar (c1) ?_ | with_reducible refine aR (c1) ?_ | with_reducible refine cY ?_ | with_reducible refine cN ?_ | with_reducible refine aj (fun _=>?_) (fun _=>?_) | refine gA Tryz.func105 ?_ | refine gB ?_ | with_reducible rfl)
 all_goals (refine congrArg DV.bool ?_; simp_all; try omega)
theorem DI (q:br) (hq:q.name.length≤maxLen):au E 79 [q.enc] (· = .bool (iI q)):=by
 refine eP Tryz.func79 ?_;repeat' (first | with_reducible refine ar (fQ _ hq) ?_ | with_reducible refine aR (fQ _ hq) ?_ | with_reducible refine cY ?_ | with_reducible refine cN ?_ | with_reducible refine aj (fun _=>?_) (fun _=>?_) | refine gA Tryz.func79 ?_ | refine gB ?_ | with_reducible rfl)
 all_goals (simp_all [iI]; try omega)
end Go.Proofs.YtfmdaiojokniiaaGreatDoor.P
end
