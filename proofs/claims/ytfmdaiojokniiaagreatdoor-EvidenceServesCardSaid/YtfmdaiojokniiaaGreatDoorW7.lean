/- Several texts of mine, one behind the other. Conditions: as each says. -/
import Derived.Test.YtfmdaiojokniiaaGreatDoorW5
import Derived.Test.YtfmdaiojokniiaaGreatDoorW6
import Derived.Ground.NamesProg
import Derived.Shelf.Small.Strs
import Derived.Shelf.Strings.OnBuilder
import Derived.Test.YtfmdaiojokniiaaGreatDoorProg
set_option linter.unusedVariables false
set_option linter.unusedSimpArgs false
section
namespace Go.aw
open Go Go.RowKit
def G0 (H:List ab) (r:AV):Bool:=Cb H.length [] H&&iV H.length [] r
theorem aq.oy {E:Env} {f:FuncId} {H H1:List ab} {args:List AV} {r0:AV} (hc:aq E f H args (fun a b=>a=r0∧b=H1)) (hr:iU H.length [] 0 H1=H) (hk:G0 H r0=true):aq E f H args (fun a b=>a=r0∧b=H):=by
 simp only [G0,Bool.and_eq_true] at hk;obtain ⟨dS,hv⟩:=hk;unfold aq at hc ⊢;refine ⟨hc.1,hc.2.1,fun c vs h1 h2 h3=>(hc.2.2 c vs h1 h2 h3).mono fun e w' ⟨c',r,v,k1,k2,⟨k3,wu⟩,k4,k5,k6⟩=>?_⟩;subst k3;have a1:=k5.eV (n:=H.length) (B:=[]) (by rw [wu,hr]; exact dS);have a2:=yH (n:=H.length) (B:=[]) hv k4;obtain ⟨b1,b2⟩:=a1.GL (ax:=c'.ax) (fun b hb => .inl hb);refine ⟨⟨(c'.eV H.length []).own,(c'.eV H.length []).heap,c'.ax,c'.w⟩,r,v,k1,k2,⟨rfl,by show iU _ _ 0 c'.heap=H; rw [wu,hr]⟩,b2 _ _ a2,b1,?_⟩;have hid:∀ i,i<H.length→cZ H.length [] i=false:=fun i hi=>by
  have:Nat.ble H.length i=false:=by
   cases q:Nat.ble H.length i
   ·rfl
   ·have:=Nat.le_of_ble_eq_true q; omega
  simp only [cZ,this]; rfl
 exact {
  ax:=k6.ax
  os:=k6.os
  tape:=k6.tape
  output:=k6.output
  size:=k6.size
  keep:=k6.keep
  da:=fun i b n hi hb=>k6.da i b n (ry hi).2 hb
  boxes:=fun i bx hi=>by
   have ah:i<H.length:=by rw [← h1]; exact aP hi
   have e1:(iU H.length [] 0 c'.heap)[i]? = c'.heap[i]? := tG 0 i c'.heap (by rw [Nat.zero_add]; exact hid i ah)
   exact tI (c:=c') (fun x hx=>e1.trans hx) (fun x _=>wi (hid i ah)) (k6.boxes i bx hi) }
theorem lI {G:List (Nat × DV)} {s:List AV} {f:FuncId}:aQ G s (.func f) (.fn (.func f) [] []):=fun c a _ _=>by
 have:a.eval (.func f) = .func (.func f) #[] #[]:=rfl;rw [this];exact .fn _ [] [] #[] #[] rfl rfl (fun j x v hx=>by simp at hx) (fun j x v hx=>by simp at hx)
theorem G1 {G:List (Nat × DV)} {s:List AV} {k:IntKind} {n:Int}:aQ G s (.const (.int k n)) (.d (.int k n)):=fun c a _ _ => .d _ _ (.int _ _)
theorem NU {G:List (Nat × DV)} {s:List AV}:gS G s [] []:=fun c a _ _ => .nil
theorem G2 {G:List (Nat × DV)} {s:List AV} {x:Operand} {v:AV} {xs:List Operand} {vs:List AV} (h:aQ G s x v) (k:gS G s xs vs):gS G s (x::xs) (v::vs):=fun c a h3 h4=>VL.cons (h c a h3 h4) (k c a h3 h4)
theorem lJ {G:List (Nat × DV)} {s:List AV} {x:Operand} {v:AV} (h:aQ G s x v):gS G s [x] [v]:=G2 h NU
theorem lK {G:List (Nat × DV)} {s:List AV} {x y:Operand} {v w:AV} (h:aQ G s x v) (k:aQ G s y w):gS G s [x,y] [v,w]:=G2 h (lJ k)
end Go.aw
end
section
namespace Go.Proofs.YtfmdaiojokniiaaGreatDoor.P
open Go Go.aw
theorem nr {α:Type} {f:α→DV} {l:List α} {k:Nat} {x:α} (hx:l[k]? = some x):(l.map f)[((k:Nat):Int).toNat]? = some (f x):=by
 simp [hx]
theorem aU {α:Type} {l:List α} {k:Nat} (h:k<l.length):∃ x,l[k]? = some x:=⟨l[k],by simp [h]⟩
theorem dm {α:Type} {l:List α} {k:Nat} {x:α} (h:l[k]? = some x):l.take (k+1)=l.take k++[x]:=by
 rw [List.take_add_one,h]; rfl
def pP (l:List DV) (n:Int) (e:DV):Prop:=0≤n∧l[n.toNat]? = some e
theorem aT {l:List DV} {sz:Nat} {n:Int} {K:DV→Prop} {e:DV} (h:pP l n e) (hs:e.cells.length=sz) (k:K e):pk l sz n K:=gv e h.1 h.2 hs k
theorem bu {α:Type} {f:α→DV} {l:List α} {k:Nat} {x:α} (h:l[k]? = some x):pP (l.map f) (k:Int) (f x):=⟨by omega,nr h⟩
theorem Co {α:Type} {f:α→DV} {l:List α} {x:α} (h:l[0]? = some x):pP (l.map f) 0 (f x):=⟨by omega,by simp [h]⟩
theorem Cp {α:Type} {f:α→DV} {l:List α} {k:Nat} {x:α} (h:l[k - 1]? = some x) (h0:0<k) (hb:k≤4294967296):pP (l.map f) (IntKind.i64.wrap ((k:Int) - 1)) (f x):=by
 have:IntKind.i64.wrap ((k:Int) - 1)=((k - 1:Nat):Int):=by rw [wrap64 (by omega) (by omega)]; omega
 rw [this];exact bu h
theorem at_next {α:Type} {f:α→DV} {l:List α} {k:Nat} {x:α} (h:l[k+1]? = some x) (hb:k≤4294967296):pP (l.map f) (IntKind.i64.wrap ((k:Int)+1)) (f x):=by
 have:IntKind.i64.wrap ((k:Int)+1)=((k+1:Nat):Int):=by rw [wrap64 (by omega) (by omega)]; omega
 rw [this];exact bu h
theorem fD {l:Text} (h:Nm.valid l=true):l.length≤60:=by
 simp only [Nm.valid,Bool.or_eq_true,decide_eq_true_eq,Bool.and_eq_true] at h;rcases h with rfl | h
 ·simp
 ·exact h.1
theorem NV {a b:Prop} (k:b) (h:a:=by first | with_reducible rfl | exact congrArg (DV.int .i64) (by omega) | exact congrArg (DV.int .i64) (wrap64 (by omega) (by omega)) | exact congrArg (DV.int .i64) ((wrap64 (by omega) (by omega)).trans (by omega))):a∧b:=⟨h,k⟩
theorem NW {P:Prop} (h:P:=by (conv=>whnf); repeat (first | exact trivial | (refine NV ?_; conv=>whnf))):P:=h
theorem Cq {α:Type} [DecidableEq α]:∀ {l U:List α},l.Nodup→(∀ x∈l,x∈U)→l.length≤U.length
 | [],_,_,_=>by simp
 |x::l,U,h,hs=>by
  rw [List.nodup_cons] at h;have h1:=Cq (U:=U.erase x) h.2 fun y hy=>by
   have:y≠x:=fun e=>h.1 (e ▸ hy);exact (List.mem_erase_of_ne this).2 (hs y (List.mem_cons_of_mem _ hy))
  have h2:=List.length_erase_of_mem (hs x (List.mem_cons_self ..));have h3:=List.length_pos_of_mem (hs x (List.mem_cons_self ..));simp;omega
end Go.Proofs.YtfmdaiojokniiaaGreatDoor.P
end
section
namespace Go.aw
open Go Go.RowKit
set_option maxHeartbeats 1000000
theorem Ov {bad:Nat→Prop} {w:World} {z:List DV} {v:Value} (hv:VD bad w (.sl z) v):∃ a cap,v = .slice a z.length cap∧z.length≤cap∧VD bad w (.sl z) (.slice a z.length z.length):=by
 cases hv with
 |slnil=>exact ⟨none,0,rfl,Nat.le_refl _,.slnil⟩
 |ji a=>exact ⟨some a,0,rfl,Nat.le_refl _,.ji a⟩
 |sl _ blk off cap sz f h1 h2 h3 h4 h5 h6 h7=>exact ⟨_,cap,rfl,h3,.sl _ blk off z.length sz f h1 h2 (Nat.le_refl _) h4 h5 h6 h7⟩
theorem I.slice3 {E:Env} {s:List AV} {h:List ab} (hE:E.OK) {af:FuncId} {R:cu} {lits:List Nat} {ops:Array Oper} {o:Oper} {l:List Oper} {r:List aH} {t e:Nat} {ti ei:bh} {x y u m:Operand} {z:List DV} {j j1 j2:IntKind} {n:Nat} (hg:o.guard=none)
  (bZ:o.op = .slice t x (some y) (some u) (some m)) (hi:E.T[t]? = some ti) (hk:ti.k = .slice e) (bL:E.T[e]? = some ei) (hv:aQ E.G s x (.d (.sl z))) (hy:aQ E.G s y (.d (.int j n))) (hu:aQ E.G s u (.d (.int j1 z.length))) (hm:aQ E.G s m (.d (.int j2 z.length))) (hn:n≤z.length) (bK:∀ e∈z,e.cells.length=ei.size)
  (H:bY s o.dst (.d (.sl (z.drop n))) fun s'=>I E af R lits (.a8 ops l::r) s' h):I E af R lits (.a8 ops (o::l)::r) s h:=by
 have ho:bw E o.op s h (.d (.sl (z.drop n))) h:=by
  rw [bZ];refine .quiet fun o c ac e1 h2 h3 h4=>?_;subst h2;obtain ⟨kB,d,g1,g2,g3,-⟩:=cg (hE.types t ti hi);obtain rfl:=jO (hk.symm.trans g3);have hv:=hv c ac h3 h4;generalize A0:ac.eval x=v at hv;cases hv with
  |d _ _ hv =>
   obtain ⟨a,cap,rfl,hX,hd⟩:=Ov hv;obtain ⟨a',gR,e2,-,hd⟩:=E3 hd (lo:=n) (hi:=z.length) hn (Nat.le_refl _) bK;cases e2;rw [List.take_length] at hd;refine ⟨_,?_,.d _ _ hd⟩;have e3:=dM (hy c ac h3 h4);have e4:=dM (hu c ac h3 h4);have e5:=dM (hm c ac h3 h4);have b1:=run_sliceBound (P:=E.P) c.w j2 z.length cap .slice3Acap (by omega) (by omega);have b2:=run_sliceBound (P:=E.P) c.w j1 z.length z.length .slice3B (by omega) (by omega);have b3:=run_sliceBound (P:=E.P) c.w j n z.length .slice3C (by omega) (by omega);simp only [Int.toNat_natCast] at b1 b2 b3;simp only [execOp,e1,A0,e3,e4,e5,Instr.sliceAt,Instr.slice,Instr.sliceBounds,Sem.run_bind,Sem.run_pure,Result.andThen_ok,run_underlying g2,Option.map_some,Option.isSome_some,if_true,b1,b2,b3,run_sizeOf (hE.types e ei bL)]
 rw [dF] at H;exact .of (.op (fA hg) ho H.to)
end Go.aw
end
section
namespace Go.Proofs
open Go.Shelf
def Tryz.S9:Go.Shelf.Ren:=⟨fun | 137=>288 | 217=>335 | 266=>352 | n=>n,fun | 9=>9 | 5=>5 | 3=>3 | n=>n,fun | n=>n⟩
theorem Tryz.S':Go.Proofs.Lays.n137 Tryz.prog Tryz.S9:={
 mixed:=by kernel_rfl
 f137:=Tryz.func288.trans (congrArg some (by kernel_rfl))
 f217:=Tryz.func335.trans (congrArg some (by kernel_rfl))
 f266:=Tryz.func352.trans (congrArg some (by kernel_rfl))
 t3:=Tryz.underlying3
 a3:=Tryz.isAgg3
 z3:=Tryz.sizeOf3
 v3:=Tryz.zeroValue3
 t5:=Tryz.underlying5
 a5:=Tryz.isAgg5
 z5:=Tryz.sizeOf5
 v5:=Tryz.zeroValue5
 t9:=Tryz.underlying9
 a9:=Tryz.isAgg9
 z9:=Tryz.sizeOf9
 v9:=Tryz.zeroValue9 }
def Tryz.JP:Go.Shelf.Ren:=⟨fun | 156=>339 | 165=>353 | 166=>354 | 169=>355 | 240=>359 | 241=>360 | 276=>362 | 277=>363 | n=>n,fun | 31=>134 | 9=>9 | 3=>3 | 4=>4 | 0=>0 | 20=>20 | 72=>377 | 76=>315 | 70=>375 | 37=>115 | 75=>261 | 127=>379 | 164=>380 | 5=>5 | 80=>298 | n=>n,fun | n=>n⟩
theorem Tryz.zP:Go.Proofs.Lays.n156 Tryz.prog Tryz.JP:={
 mixed:=by kernel_rfl
 f156:=Tryz.func339.trans (congrArg some (by kernel_rfl))
 f165:=Tryz.func353.trans (congrArg some (by kernel_rfl))
 f166:=Tryz.func354.trans (congrArg some (by kernel_rfl))
 f169:=Tryz.func355.trans (congrArg some (by kernel_rfl))
 f240:=Tryz.func359.trans (congrArg some (by kernel_rfl))
 f241:=Tryz.func360.trans (congrArg some (by kernel_rfl))
 f276:=Tryz.func362.trans (congrArg some (by kernel_rfl))
 f277:=Tryz.func363.trans (congrArg some (by kernel_rfl))
 t0:=Tryz.underlying0
 a0:=Tryz.isAgg0
 z0:=Tryz.sizeOf0
 v0:=Tryz.zeroValue0
 t3:=Tryz.underlying3
 a3:=Tryz.isAgg3
 z3:=Tryz.sizeOf3
 v3:=Tryz.zeroValue3
 t4:=Tryz.underlying4
 a4:=Tryz.isAgg4
 z4:=Tryz.sizeOf4
 v4:=Tryz.zeroValue4
 t9:=Tryz.underlying9
 a9:=Tryz.isAgg9
 z9:=Tryz.sizeOf9
 v9:=Tryz.zeroValue9
 t20:=Tryz.underlying20
 a20:=Tryz.isAgg20
 z20:=Tryz.sizeOf20
 v20:=Tryz.zeroValue20
 t31:=Tryz.underlying134
 a31:=Tryz.isAgg134
 z31:=Tryz.sizeOf134
 v31:=Tryz.zeroValue134
 t37:=Tryz.underlying115
 a37:=Tryz.isAgg115
 z37:=Tryz.sizeOf115
 v37:=Tryz.zeroValue115
 t70:=Tryz.underlying375
 a70:=Tryz.isAgg375
 z70:=Tryz.sizeOf375
 v70:=Tryz.zeroValue375
 t72:=Tryz.underlying377
 a72:=Tryz.isAgg377
 z72:=Tryz.sizeOf377
 v72:=Tryz.zeroValue377
 t75:=Tryz.underlying261
 a75:=Tryz.isAgg261
 z75:=Tryz.sizeOf261
 v75:=Tryz.zeroValue261
 t76:=Tryz.underlying315
 a76:=Tryz.isAgg315
 z76:=Tryz.sizeOf315
 v76:=Tryz.zeroValue315
 t127:=Tryz.underlying379
 a127:=Tryz.isAgg379
 z127:=Tryz.sizeOf379
 v127:=Tryz.zeroValue379
 t164:=Tryz.underlying380
 a164:=Tryz.isAgg380
 z164:=Tryz.sizeOf380
 v164:=Tryz.zeroValue380 }
theorem Tryz.zQ:Builder.Extra Tryz.prog Tryz.JP:={
 sizeBuilder:=by kernel_rfl
 liesBuilder:=by kernel_rfl
 t5:=Tryz.underlying5
 a5:=Tryz.isAgg5
 z5:=Tryz.sizeOf5
 v5:=Tryz.zeroValue5
 infoByte:=by kernel_rfl
 cellsByte:=by kernel_rfl
 sizeByte:=by kernel_rfl
 neB5:=by decide }
end Go.Proofs
end
