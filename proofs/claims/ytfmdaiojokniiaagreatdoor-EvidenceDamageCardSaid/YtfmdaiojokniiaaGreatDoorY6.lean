/- Several texts of mine, one behind the other. Conditions: as each says. -/
import Derived.Test.YtfmdaiojokniiaaGreatDoorY5
import Derived.Shelf.SlSortCmp.WholeK
import Derived.Shelf.SlicesG.Cmp
import Derived.Shelf.SortM.Plain
import Derived.Shelf.Slices.CompactI
import Derived.Ground.SlgmProg
import Derived.Ground.Names2Prog
import Derived.Ground.SlsfProg
import Derived.Ground.SlgcProg
import Derived.Test.YtfmdaiojokniiaaGreatDoorProg
set_option linter.unusedVariables false
set_option linter.unusedSimpArgs false
section
namespace Go.ax
open Go Go.RowKit
def Hr (H:List ae) (r:AV):Bool:=CE H.length [] H&&fW H.length [] r
theorem aw.oN {E:Env} {f:FuncId} {H H1:List ae} {args:List AV} {r0:AV} (hc:aw E f H args (fun a b=>a=r0∧b=H1)) (hr:jq H.length [] 0 H1=H) (hk:Hr H r0=true):aw E f H args (fun a b=>a=r0∧b=H):=by
 simp only [Hr,Bool.and_eq_true] at hk;obtain ⟨cH,hv⟩:=hk;unfold aw at hc ⊢;refine ⟨hc.1,hc.2.1,fun c vs h1 h2 h3=>(hc.2.2 c vs h1 h2 h3).mono fun e w' ⟨c',r,v,k1,k2,⟨k3,wX⟩,k4,k5,k6⟩=>?_⟩;subst k3;have a1:=k5.fa (n:=H.length) (B:=[]) (by rw [wX,hr]; exact cH);have a2:=zf (n:=H.length) (B:=[]) hv k4;obtain ⟨b1,b2⟩:=a1.Hd (ay:=c'.ay) (fun b hb => .inl hb);refine ⟨⟨(c'.fa H.length []).own,(c'.fa H.length []).heap,c'.ay,c'.w⟩,r,v,k1,k2,⟨rfl,by show jq _ _ 0 c'.heap=H; rw [wX,hr]⟩,b2 _ _ a2,b1,?_⟩;have hid:∀ i,i<H.length→c9 H.length [] i=false:=fun i hi=>by
  have:Nat.ble H.length i=false:=by
   cases q:Nat.ble H.length i
   ·rfl
   ·have:=Nat.le_of_ble_eq_true q; omega
  simp only [c9,this]; rfl
 exact {
  ay:=k6.ay
  os:=k6.os
  tape:=k6.tape
  output:=k6.output
  size:=k6.size
  keep:=k6.keep
  db:=fun i b n hi hb=>k6.db i b n (rR hi).2 hb
  boxes:=fun i bx hi=>by
   have ai:i<H.length:=by rw [← h1]; exact aT hi
   have e1:(jq H.length [] 0 c'.heap)[i]? = c'.heap[i]? := uc 0 i c'.heap (by rw [Nat.zero_add]; exact hid i ai)
   exact ud (c:=c') (fun x hx=>e1.trans hx) (fun x _=>wS (hid i ai)) (k6.boxes i bx hi) }
theorem nL {G:List (Nat × DV)} {s:List AV} {f:FuncId}:aZ G s (.func f) (.fn (.func f) [] []):=fun c a _ _=>by
 have:a.eval (.func f) = .func (.func f) #[] #[]:=rfl;rw [this];exact .fn _ [] [] #[] #[] rfl rfl (fun j x v hx=>by simp at hx) (fun j x v hx=>by simp at hx)
theorem Om {G:List (Nat × DV)} {s:List AV} {k:IntKind} {n:Int}:aZ G s (.const (.int k n)) (.d (.int k n)):=fun c a _ _ => .d _ _ (.int _ _)
theorem On {G:List (Nat × DV)} {s:List AV}:hY G s [] []:=fun c a _ _ => .nil
theorem Hs {G:List (Nat × DV)} {s:List AV} {x:Operand} {v:AV} {xs:List Operand} {vs:List AV} (h:aZ G s x v) (k:hY G s xs vs):hY G s (x::xs) (v::vs):=fun c a h3 h4=>VL.cons (h c a h3 h4) (k c a h3 h4)
theorem l8 {G:List (Nat × DV)} {s:List AV} {x:Operand} {v:AV} (h:aZ G s x v):hY G s [x] [v]:=Hs h On
theorem qb {G:List (Nat × DV)} {s:List AV} {x y:Operand} {v w:AV} (h:aZ G s x v) (k:aZ G s y w):hY G s [x,y] [v,w]:=Hs h (l8 k)
end Go.ax
end
section
namespace Go.ax
open Go Go.RowKit
set_option maxHeartbeats 1000000
theorem OV {bad:Nat→Prop} {w:World} {z:List DV} {v:Value} (hv:VD bad w (.sl z) v):∃ a cap,v = .slice a z.length cap∧z.length≤cap∧VD bad w (.sl z) (.slice a z.length z.length):=by
 cases hv with
 |slnil=>exact ⟨none,0,rfl,Nat.le_refl _,.slnil⟩
 |jB a=>exact ⟨some a,0,rfl,Nat.le_refl _,.jB a⟩
 |sl _ blk off cap sz f h1 h2 h3 h4 h5 h6 h7=>exact ⟨_,cap,rfl,h3,.sl _ blk off z.length sz f h1 h2 (Nat.le_refl _) h4 h5 h6 h7⟩
theorem I.slice3 {E:Env} {s:List AV} {h:List ae} (hE:E.OK) {ag:FuncId} {R:cx} {lits:List Nat} {ops:Array Oper} {o:Oper} {l:List Oper} {r:List aP} {t e:Nat} {ti ei:bk} {x y u m:Operand} {z:List DV} {j j1 j2:IntKind} {n:Nat} (hg:o.guard=none)
  (b9:o.op = .slice t x (some y) (some u) (some m)) (hi:E.T[t]? = some ti) (hk:ti.k = .slice e) (bP:E.T[e]? = some ei) (hv:aZ E.G s x (.d (.sl z))) (hy:aZ E.G s y (.d (.int j n))) (hu:aZ E.G s u (.d (.int j1 z.length))) (hm:aZ E.G s m (.d (.int j2 z.length))) (hn:n≤z.length) (bY:∀ e∈z,e.cells.length=ei.size)
  (H:cb s o.dst (.d (.sl (z.drop n))) fun s'=>I E ag R lits (.bo ops l::r) s' h):I E ag R lits (.bo ops (o::l)::r) s h:=by
 have ho:bC E o.op s h (.d (.sl (z.drop n))) h:=by
  rw [b9];refine .quiet fun o c ac e1 h2 h3 h4=>?_;subst h2;obtain ⟨kS,d,g1,g2,g3,-⟩:=cm (hE.types t ti hi);obtain rfl:=kg (hk.symm.trans g3);have hv:=hv c ac h3 h4;generalize Bv:ac.eval x=v at hv;cases hv with
  |d _ _ hv =>
   obtain ⟨a,cap,rfl,iw,hd⟩:=OV hv;obtain ⟨a',iz,e2,-,hd⟩:=Fz hd (lo:=n) (hi:=z.length) hn (Nat.le_refl _) bY;cases e2;rw [List.take_length] at hd;refine ⟨_,?_,.d _ _ hd⟩;have e3:=dM (hy c ac h3 h4);have e4:=dM (hu c ac h3 h4);have e5:=dM (hm c ac h3 h4);have b1:=run_sliceBound (P:=E.P) c.w j2 z.length cap .slice3Acap (by omega) (by omega);have b2:=run_sliceBound (P:=E.P) c.w j1 z.length z.length .slice3B (by omega) (by omega);have b3:=run_sliceBound (P:=E.P) c.w j n z.length .slice3C (by omega) (by omega);simp only [Int.toNat_natCast] at b1 b2 b3;simp only [execOp,e1,Bv,e3,e4,e5,Instr.sliceAt,Instr.slice,Instr.sliceBounds,Sem.run_bind,Sem.run_pure,Result.andThen_ok,run_underlying g2,Option.map_some,Option.isSome_some,if_true,b1,b2,b3,run_sizeOf (hE.types e ei bP)]
 rw [dN] at H;exact .of (.op (fR hg) ho H.to)
end Go.ax
end
section
namespace Go.Proofs
open Go.Shelf
def Tryz.RC:Go.Shelf.Ren:=⟨fun | 5=>101 | 7=>176 | n=>n,fun | 22=>3 | 3=>3 | 4=>4 | n=>n,fun | n=>n⟩
theorem Tryz.RE:Go.Proofs.SlLaysC2.n5 Tryz.prog Tryz.RC:={
 mixed:=by kernel_rfl
 f5:=⟨Tryz.f101.name,by decide,Tryz.func101.trans (congrArg some (by kernel_rfl))⟩
 f7:=⟨Tryz.f176.name,by decide,Tryz.func176.trans (congrArg some (by kernel_rfl))⟩
 t3:=Tryz.underlying3
 a3:=Tryz.isAgg3
 z3:=Tryz.sizeOf3
 v3:=Tryz.zeroValue3
 t4:=Tryz.underlying4
 a4:=Tryz.isAgg4
 z4:=Tryz.sizeOf4
 v4:=Tryz.zeroValue4
 t22:=Tryz.underlying3
 a22:=Tryz.isAgg3
 z22:=Tryz.sizeOf3
 v22:=Tryz.zeroValue3 }
def Tryz.RF:Go.Shelf.Ren:=⟨fun | 6=>99 | 15=>153 | 14=>175 | 28=>231 | 29=>232 | 20=>247 | 21=>248 | 22=>249 | 23=>250 | 24=>251 | 25=>252 | 26=>253 | 27=>254 | 46=>299 | 47=>283 | 48=>284 | 49=>300 | 50=>301 | 57=>342 | n=>n,fun | 22=>167 | 24=>169 | 25=>172 | 3=>3 | 39=>224 | 0=>0 | 53=>290 | 55=>188 | 4=>4 | 46=>283 | 45=>282 | 50=>287 | 5=>5 | 9=>9 | 66=>330 | 70=>334 | 76=>362 | 77=>363 | n=>n,fun | n=>n⟩
theorem Tryz.RG:Go.Proofs.SlLaysF0.n6 Tryz.prog Tryz.RF:={
 mixed:=by kernel_rfl
 f6:=⟨Tryz.f99.name,by decide,Tryz.func99.trans (congrArg some (by kernel_rfl))⟩
 f14:=⟨Tryz.f175.name,by decide,Tryz.func175.trans (congrArg some (by kernel_rfl))⟩
 f15:=Tryz.func153.trans (congrArg some (by kernel_rfl))
 f20:=⟨Tryz.f247.name,by decide,Tryz.func247.trans (congrArg some (by kernel_rfl))⟩
 f21:=⟨Tryz.f248.name,by decide,Tryz.func248.trans (congrArg some (by kernel_rfl))⟩
 f22:=⟨Tryz.f249.name,by decide,Tryz.func249.trans (congrArg some (by kernel_rfl))⟩
 f23:=⟨Tryz.f250.name,by decide,Tryz.func250.trans (congrArg some (by kernel_rfl))⟩
 f24:=⟨Tryz.f251.name,by decide,Tryz.func251.trans (congrArg some (by kernel_rfl))⟩
 f25:=⟨Tryz.f252.name,by decide,Tryz.func252.trans (congrArg some (by kernel_rfl))⟩
 f26:=⟨Tryz.f253.name,by decide,Tryz.func253.trans (congrArg some (by kernel_rfl))⟩
 f27:=⟨Tryz.f254.name,by decide,Tryz.func254.trans (congrArg some (by kernel_rfl))⟩
 f28:=Tryz.func231.trans (congrArg some (by kernel_rfl))
 f29:=Tryz.func232.trans (congrArg some (by kernel_rfl))
 f46:=⟨Tryz.f299.name,by decide,Tryz.func299.trans (congrArg some (by kernel_rfl))⟩
 f47:=Tryz.func283.trans (congrArg some (by kernel_rfl))
 f48:=Tryz.func284.trans (congrArg some (by kernel_rfl))
 f49:=⟨Tryz.f300.name,by decide,Tryz.func300.trans (congrArg some (by kernel_rfl))⟩
 f50:=⟨Tryz.f301.name,by decide,Tryz.func301.trans (congrArg some (by kernel_rfl))⟩
 f57:=⟨Tryz.f342.name,by decide,Tryz.func342.trans (congrArg some (by kernel_rfl))⟩
 t0:=Tryz.underlying0
 a0:=Tryz.isAgg0
 z0:=Tryz.sizeOf0
 v0:=Tryz.zeroValue0
 t3:=Tryz.underlying3
 a3:=Tryz.isAgg3
 z3:=Tryz.sizeOf3
 v3:=Tryz.zeroValue3
 t4:=Tryz.underlying4
 a4:=Tryz.isAgg4
 z4:=Tryz.sizeOf4
 v4:=Tryz.zeroValue4
 t5:=Tryz.underlying5
 a5:=Tryz.isAgg5
 z5:=Tryz.sizeOf5
 v5:=Tryz.zeroValue5
 t9:=Tryz.underlying9
 a9:=Tryz.isAgg9
 z9:=Tryz.sizeOf9
 v9:=Tryz.zeroValue9
 t22:=Tryz.underlying167
 a22:=Tryz.isAgg167
 z22:=Tryz.sizeOf167
 v22:=Tryz.zeroValue167
 t25:=Tryz.underlying172
 a25:=Tryz.isAgg172
 z25:=Tryz.sizeOf172
 v25:=Tryz.zeroValue172
 t39:=Tryz.underlying224
 a39:=Tryz.isAgg224
 z39:=Tryz.sizeOf224
 v39:=Tryz.zeroValue224
 t45:=Tryz.underlying282
 a45:=Tryz.isAgg282
 z45:=Tryz.sizeOf282
 v45:=Tryz.zeroValue282
 t46:=Tryz.underlying283
 a46:=Tryz.isAgg283
 z46:=Tryz.sizeOf283
 v46:=Tryz.zeroValue283
 t50:=Tryz.underlying287
 a50:=Tryz.isAgg287
 z50:=Tryz.sizeOf287
 v50:=Tryz.zeroValue287
 t53:=Tryz.underlying290
 a53:=Tryz.isAgg290
 z53:=Tryz.sizeOf290
 v53:=Tryz.zeroValue290
 t55:=Tryz.underlying188
 a55:=Tryz.isAgg188
 z55:=Tryz.sizeOf188
 v55:=Tryz.zeroValue188
 t66:=Tryz.underlying330
 a66:=Tryz.isAgg330
 z66:=Tryz.sizeOf330
 v66:=Tryz.zeroValue330
 t70:=Tryz.underlying334
 a70:=Tryz.isAgg334
 z70:=Tryz.sizeOf334
 v70:=Tryz.zeroValue334
 t76:=Tryz.underlying362
 a76:=Tryz.isAgg362
 z76:=Tryz.sizeOf362
 v76:=Tryz.zeroValue362
 t77:=Tryz.underlying363
 a77:=Tryz.isAgg363
 z77:=Tryz.sizeOf363
 v77:=Tryz.zeroValue363 }
def Tryz.RH:Go.Shelf.Ren:=⟨fun | 5=>182 | 8=>153 | 7=>261 | 19=>231 | 20=>232 | 10=>306 | 11=>307 | 12=>308 | 13=>309 | 14=>310 | 15=>311 | 16=>312 | 17=>313 | 18=>314 | 30=>344 | 31=>283 | 32=>284 | 33=>345 | 34=>346 | 35=>176 | 40=>358 | n=>n,fun | 23=>27 | 25=>3 | 3=>3 | 32=>224 | 22=>27 | 0=>0 | 44=>290 | 46=>188 | 4=>4 | 36=>283 | 35=>282 | 41=>287 | 5=>5 | 9=>9 | 53=>330 | 57=>334 | 63=>362 | 64=>363 | n=>n,fun | n=>n⟩
theorem Tryz.sortInt:Go.Proofs.SlLaysM.n5 Tryz.prog Tryz.RH:={
 mixed:=by kernel_rfl
 f5:=⟨Tryz.f182.name,by decide,Tryz.func182.trans (congrArg some (by kernel_rfl))⟩
 f7:=⟨Tryz.f261.name,by decide,Tryz.func261.trans (congrArg some (by kernel_rfl))⟩
 f8:=Tryz.func153.trans (congrArg some (by kernel_rfl))
 f10:=⟨Tryz.f306.name,by decide,Tryz.func306.trans (congrArg some (by kernel_rfl))⟩
 f11:=⟨Tryz.f307.name,by decide,Tryz.func307.trans (congrArg some (by kernel_rfl))⟩
 f12:=⟨Tryz.f308.name,by decide,Tryz.func308.trans (congrArg some (by kernel_rfl))⟩
 f13:=⟨Tryz.f309.name,by decide,Tryz.func309.trans (congrArg some (by kernel_rfl))⟩
 f14:=⟨Tryz.f310.name,by decide,Tryz.func310.trans (congrArg some (by kernel_rfl))⟩
 f15:=⟨Tryz.f311.name,by decide,Tryz.func311.trans (congrArg some (by kernel_rfl))⟩
 f16:=⟨Tryz.f312.name,by decide,Tryz.func312.trans (congrArg some (by kernel_rfl))⟩
 f17:=⟨Tryz.f313.name,by decide,Tryz.func313.trans (congrArg some (by kernel_rfl))⟩
 f18:=⟨Tryz.f314.name,by decide,Tryz.func314.trans (congrArg some (by kernel_rfl))⟩
 f19:=Tryz.func231.trans (congrArg some (by kernel_rfl))
 f20:=Tryz.func232.trans (congrArg some (by kernel_rfl))
 f30:=⟨Tryz.f344.name,by decide,Tryz.func344.trans (congrArg some (by kernel_rfl))⟩
 f31:=Tryz.func283.trans (congrArg some (by kernel_rfl))
 f32:=Tryz.func284.trans (congrArg some (by kernel_rfl))
 f33:=⟨Tryz.f345.name,by decide,Tryz.func345.trans (congrArg some (by kernel_rfl))⟩
 f34:=⟨Tryz.f346.name,by decide,Tryz.func346.trans (congrArg some (by kernel_rfl))⟩
 f35:=⟨Tryz.f176.name,by decide,Tryz.func176.trans (congrArg some (by kernel_rfl))⟩
 f40:=⟨Tryz.f358.name,by decide,Tryz.func358.trans (congrArg some (by kernel_rfl))⟩
 t0:=Tryz.underlying0
 a0:=Tryz.isAgg0
 z0:=Tryz.sizeOf0
 v0:=Tryz.zeroValue0
 t3:=Tryz.underlying3
 a3:=Tryz.isAgg3
 z3:=Tryz.sizeOf3
 v3:=Tryz.zeroValue3
 t4:=Tryz.underlying4
 a4:=Tryz.isAgg4
 z4:=Tryz.sizeOf4
 v4:=Tryz.zeroValue4
 t5:=Tryz.underlying5
 a5:=Tryz.isAgg5
 z5:=Tryz.sizeOf5
 v5:=Tryz.zeroValue5
 t9:=Tryz.underlying9
 a9:=Tryz.isAgg9
 z9:=Tryz.sizeOf9
 v9:=Tryz.zeroValue9
 t22:=Tryz.underlying27
 a22:=Tryz.isAgg27
 z22:=Tryz.sizeOf27
 v22:=Tryz.zeroValue27
 t23:=Tryz.underlying27
 a23:=Tryz.isAgg27
 z23:=Tryz.sizeOf27
 v23:=Tryz.zeroValue27
 t25:=Tryz.underlying3
 a25:=Tryz.isAgg3
 z25:=Tryz.sizeOf3
 v25:=Tryz.zeroValue3
 t32:=Tryz.underlying224
 a32:=Tryz.isAgg224
 z32:=Tryz.sizeOf224
 v32:=Tryz.zeroValue224
 t35:=Tryz.underlying282
 a35:=Tryz.isAgg282
 z35:=Tryz.sizeOf282
 v35:=Tryz.zeroValue282
 t36:=Tryz.underlying283
 a36:=Tryz.isAgg283
 z36:=Tryz.sizeOf283
 v36:=Tryz.zeroValue283
 t41:=Tryz.underlying287
 a41:=Tryz.isAgg287
 z41:=Tryz.sizeOf287
 v41:=Tryz.zeroValue287
 t44:=Tryz.underlying290
 a44:=Tryz.isAgg290
 z44:=Tryz.sizeOf290
 v44:=Tryz.zeroValue290
 t46:=Tryz.underlying188
 a46:=Tryz.isAgg188
 z46:=Tryz.sizeOf188
 v46:=Tryz.zeroValue188
 t53:=Tryz.underlying330
 a53:=Tryz.isAgg330
 z53:=Tryz.sizeOf330
 v53:=Tryz.zeroValue330
 t57:=Tryz.underlying334
 a57:=Tryz.isAgg334
 z57:=Tryz.sizeOf334
 v57:=Tryz.zeroValue334
 t63:=Tryz.underlying362
 a63:=Tryz.isAgg362
 z63:=Tryz.sizeOf362
 v63:=Tryz.zeroValue362
 t64:=Tryz.underlying363
 a64:=Tryz.isAgg363
 z64:=Tryz.sizeOf363
 v64:=Tryz.zeroValue363 }
end Go.Proofs
end
