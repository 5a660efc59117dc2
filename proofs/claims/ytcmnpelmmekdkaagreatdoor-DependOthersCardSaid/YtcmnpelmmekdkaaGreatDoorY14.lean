/- Several texts of mine, one behind the other. Conditions: as each says. -/
import Derived.Test.YtcmnpelmmekdkaaGreatDoorY13
import Derived.Ground.NamesProg
import Derived.Shelf.Small.Strs
import Derived.Shelf.Strings.OnBuilder
import Derived.Test.YtcmnpelmmekdkaaGreatDoorProg
set_option linter.unusedVariables false
set_option linter.unusedSimpArgs false
section
namespace Go.ax
open Go Go.RowKit
section
variable {E:Env} {ae:FuncId} {R:bY} {s:List AV} {h:List ag} {lits:List Nat} {ops:Array Oper} {o:Oper} {l aW:List Oper} {k:List aG}
theorem dB.oy {fx:Operand} {args:Array Operand} {ts:Array TypeId} {f:FuncId} {a1 a2 av:List AV} {ah:List Nat} {r:AV} {h1:List ag} (hw:ik ops o (bZ (b9 ops o) 0 s) true) (ho:o.op = .call { callee := .value fx,args:=args,argTypes:=ts })
  (hf:bp E.G (bZ (b9 ops o) 0 s) fx (.fn (.func f) a1 a2)) (ha:gU E.G (bZ (b9 ops o) 0 s) args.toList av) (hc:aC E f (jL ah h) ((a1++av++a2).map (kW ah h)) (fun a b=>a=r∧b=h1)) (hn:ah.Nodup) (ai:∀ j∈ah,j<h.length) (hr:fD ah h h1=h) :
  dB E ops o s h (jM ah h r):=fun c a k1 h2 h3 h4 j hj K Q hK=>dq.oy hw ho hf ha hc hn ai c a k1 h2 h3 h4 j hj K Q fun c' u q1 q2 q3 q4=>hK c' u q1 (q2.trans hr) q3 q4
theorem cb.oy {fx:Operand} {args:Array Operand} {ts:Array TypeId} {f:FuncId} {a1 a2 av:List AV} {ah:List Nat} {r:AV} {h1:List ag} (hc:aC E f (jL ah h) ((a1++av++a2).map (kW ah h)) (fun a b=>a=r∧b=h1)) (hg:o.guard=none) (ho:o.op = .call { callee := .value fx,args:=args,argTypes:=ts })
  (hf:bp E.G (bZ (b9 ops o) 0 s) fx (.fn (.func f) a1 a2)) (ha:gU E.G (bZ (b9 ops o) 0 s) args.toList av) (hn:ah.Nodup) (ai:∀ j∈ah,j<h.length) (hr:fD ah h h1=h)
  (H:cb E ae R ops k lits l aW (bG s o.dst (jM ah h r)) h):cb E ae R ops k lits (o::l) aW s h:=by
 have H:=H.to;unfold cb;refine ⟨_,dB.oy (eO hg) ho hf ha hc hn ai hr,fun e=>?_,H⟩;obtain ⟨dst,op,type,pos,after,guard⟩:=o;simp only at ho;subst ho;cases guard <;> cases e
theorem aE.An {G:List (Nat × DV)} {c:Cx} {au:Nat→Prop} (ho:aE G c) (hb:∀ b,au b→c.au b):aE G ⟨c.own,c.heap,au,c.w⟩∧(∀ x v,VR c x v→VR ⟨c.own,c.heap,au,c.w⟩ x v):=by
 have gP:∀ b,b<c.w.heap.size→¬ c.bad b→¬ (⟨c.own,c.heap,au,c.w⟩:Cx).bad b∧(⟨c.own,c.heap,au,c.w⟩:Cx).w.heap[b]? = c.w.heap[b]? := fun b _ hn=>⟨fun h=>hn (h.elim (fun h => .inl (hb b h)) .inr),rfl⟩;have lM:∀ x v,VR c x v→VR ⟨c.own,c.heap,au,c.w⟩ x v:=fun x v=>tn gP (fun _ _ hi=>ni hi rfl rfl);exact ⟨⟨fun b h=>ho.bD b (hb b h),ho.bI,ho.inj,fun i b n hi h=>ho.sep i b n hi (hb b h),fun i bx hx=>(ho.box i bx hx).gen lM (fun _ _ h=>h.mono gP) rfl (fun _ _ _=>rfl),fun g e hg=>lM _ _ (ho.fO g e hg)⟩,lM⟩
theorem forget {G:List (Nat × DV)} {c c':Cx} {h h2:List ag} {v:AV} {u:Value} (hc:c.heap=h) (k1:aE G c') (k2:c'.heap=h2) (k3:Step c c') (k4:VR c' v u) (hr:cU h.length [] 0 h2=h) (eh:rv h.length [] h=true) (hv:eH h.length [] v=true) :
  ∃ Ao:Cx,Ao.w=c'.w∧aE G Ao∧Ao.heap=h∧Step c Ao∧VR Ao v u:=by
 have a1:=k1.eC (n:=h.length) (B:=[]) (by rw [k2,hr]; exact eh);have a2:=xq (n:=h.length) (B:=[]) hv k4;obtain ⟨b1,b2⟩:=a1.An (au:=c'.au) (fun b hb => .inl hb);refine ⟨⟨(c'.eC h.length []).own,(c'.eC h.length []).heap,c'.au,c'.w⟩,rfl,b1,by show cU _ _ 0 c'.heap=h; rw [k2,hr],?_,b2 _ _ a2⟩;have hid:∀ i,i<h.length→du h.length [] i=false:=fun i hi=>by
  have:Nat.ble h.length i=false:=by
   cases q:Nat.ble h.length i
   ·rfl
   ·have:=Nat.le_of_ble_eq_true q; omega
  simp only [du,this]; rfl
 exact {
  au:=k3.au
  bD:=k3.bD
  os:=k3.os
  tape:=k3.tape
  output:=k3.output
  size:=k3.size
  keep:=k3.keep
  dC:=fun i b n hi hb=>k3.dC i b n (oO hi).2 hb
  boxes:=fun i bx hi=>by
   have ai:i<h.length:=by rw [← hc]; exact aZ hi
   have e1:(cU h.length [] 0 c'.heap)[i]? = c'.heap[i]? := sS 0 i c'.heap (by rw [Nat.zero_add]; exact hid i ai)
   exact FP rfl e1 (uV (hid i ai)) (k3.boxes i bx hi) }
theorem cb.jW {fx:Operand} {args:Array Operand} {ts:Array TypeId} {f:FuncId} {a1 a2 av:List AV} {ah:List Nat} {r:AV} {h1:List ag} (hc:aC E f (jL ah h) ((a1++av++a2).map (kW ah h)) (fun a b=>a=r∧b=h1)) (hg:o.guard=none) (ho:o.op = .call { callee := .value fx,args:=args,argTypes:=ts })
  (hf:bp E.G (bZ (b9 ops o) 0 s) fx (.fn (.func f) a1 a2)) (ha:gU E.G (bZ (b9 ops o) 0 s) args.toList av) (hn:ah.Nodup) (ai:∀ j∈ah,j<h.length) (hr:cU h.length [] 0 (fD ah h h1)=h) (eh:rv h.length [] h=true) (hv:eH h.length [] (jM ah h r)=true)
  (H:cb E ae R ops k lits l aW (bG s o.dst (jM ah h r)) h):cb E ae R ops k lits (o::l) aW s h:=by
 have H:=H.to;unfold cb;refine ⟨_,fun c a k1 h2 h3 h4 j hj K Q hK=>dq.oy (eO hg) ho hf ha hc hn ai c a k1 h2 h3 h4 j hj K Q fun c' u q1 q2 q3 q4=>?_,fun e=>?_,H⟩
 ·obtain ⟨c2,e,p1,p2,p3,p4⟩:=forget h2 q1 q2 q3 q4 hr eh hv;rw [← e];exact hK c2 u p1 p2 p3 p4
 ·obtain ⟨dst,op,type,pos,after,guard⟩:=o;simp only at ho;subst ho;cases guard <;> cases e
end
end Go.ax
end
section
namespace Go.ax
open Go Go.RowKit
theorem Step.An {c c':Cx} {au:Nat→Prop} (h:Step c c') (hb:∀ b,au b→b<c.w.heap.size):Step (c.ob au) (c'.ob au) :=
 { au:=rfl,bD:=hb,os:=h.os,tape:=h.tape,output:=h.output,size:=h.size,keep:=h.keep,dC:=h.dC,boxes:=h.boxes }
structure uY (c0:Cx) (dx dy:Nat) (ux uy:List Value) (tx ty:TypeId) (lx ly:Bool) (a:Act) (c:Cx):Prop where
 ex:∃ X Y:Option Nat,X.isSome=lx∧Y.isSome=ly∧(∀ b,X=some b→Y≠some b)∧(∀ b,c.au b↔c0.au b∨X=some b∨Y=some b) ∧
  (∀ b,X=some b→c0.w.heap.size≤b∧b<c.w.heap.size∧c.w.heap[b]? = some (.cells ux.toArray tx (0,0))∧(dx<a.tmps.size→a.tmps[dx]? = some (.pointer (some ⟨b,0,none⟩)))) ∧
  (∀ b,Y=some b→c0.w.heap.size≤b∧b<c.w.heap.size∧c.w.heap[b]? = some (.cells uy.toArray ty (0,0))∧(dy<a.tmps.size→a.tmps[dy]? = some (.pointer (some ⟨b,0,none⟩)))) ∧
  Step c0 (c.ob c0.au)
section
variable {G:List (Nat × DV)} {c0 c c':Cx} {dx dy:Nat} {ux uy:List Value} {tx ty:TypeId} {lx ly:Bool} {a a':Act}
theorem uY.start (hb:∀ b,c.au b→b<c.w.heap.size):uY c dx dy ux uy tx ty false false a c :=
 { ex:=⟨none,none,rfl,rfl,fun b h=>(nomatch h),fun b=>⟨.inl,fun h=>h.elim id (fun h=>h.elim (fun h=>nomatch h) (fun h=>nomatch h))⟩,fun b h=>(nomatch h),fun b h=>(nomatch h),Step.refl c hb⟩ }
theorem uY.step (h:uY c0 dx dy ux uy tx ty lx ly a c) (ho:aE G c) (hs:Step c c') (bP:a'.tmps.size=a.tmps.size) (hx:lx=true→a'.tmps[dx]? = a.tmps[dx]?) (hy:ly=true→a'.tmps[dy]? = a.tmps[dy]?):uY c0 dx dy ux uy tx ty lx ly a' c':=by
 obtain ⟨X,Y,h1,h2,h3,h4,h5,h6,h7⟩:=h.ex;have og:∀ b,c.au b→c'.w.heap[b]? = c.w.heap[b]? := fun b hb=>hs.keep b (ho.bD b hb) (fun i n hi=>ho.sep i b n hi hb);refine ⟨X,Y,h1,h2,h3,fun b=>by rw [hs.au]; exact h4 b,fun b e=>?_,fun b e=>?_,h7.trans (hs.An (fun b hb=>ho.bD b ((h4 b).2 (.inl hb))))⟩
 ·obtain ⟨k1,k2,k3,k4⟩:=h5 b e;refine ⟨k1,Nat.lt_of_lt_of_le k2 hs.size,(og b ((h4 b).2 (.inr (.inl e)))).trans k3,fun hl=>?_⟩;rw [hx (by rw [← h1,e]; rfl)];exact k4 (by omega)
 ·obtain ⟨k1,k2,k3,k4⟩:=h6 b e;refine ⟨k1,Nat.lt_of_lt_of_le k2 hs.size,(og b ((h4 b).2 (.inr (.inr e)))).trans k3,fun hl=>?_⟩;rw [hy (by rw [← h2,e]; rfl)];exact k4 (by omega)
theorem uY.done (h:uY c0 dx dy ux uy tx ty true true a c) (ho:aE G c) (h0:aE G c0) {zx zy:List AV} (Of:∀ c:Cx,VL c zx ux) (Og:∀ c:Cx,VL c zy uy) :
  ∃ cF:Cx,cF.w=c.w∧aE G cF∧cF.heap=c.heap++[.cells zx]++[.cells zy]∧Step c0 cF∧(∀ x v,VR c x v→VR cF x v) ∧
   (∀ v,dx<a.tmps.size→a.tmps[dx]? = some v→VR cF (.ptr c.heap.length 0) v)∧(∀ v,dy<a.tmps.size→a.tmps[dy]? = some v→VR cF (.ptr (c.heap.length+1) 0) v):=by
 obtain ⟨X,Y,h1,h2,h3,h4,h5,h6,h7⟩:=h.ex;obtain ⟨bx,rfl⟩:∃ b,X=some b:=Option.isSome_iff_exists.1 h1;obtain ⟨b_,rfl⟩:∃ b,Y=some b:=Option.isSome_iff_exists.1 h2;have aJ:bx≠b_:=fun e=>h3 bx rfl (by rw [e]);obtain ⟨x1,x2,x3,x4⟩:=h5 bx rfl;obtain ⟨y1,y2,y3,y4⟩:=h6 b_ rfl;have CZ:¬ c0.au bx:=fun hb=>by have:=h0.bD _ hb; omega
 have G6:¬ c0.au b_:=fun hb=>by have:=h0.bD _ hb; omega
 have Oh:∀ b,c.au b↔(c0.au b∨b=b_)∨b=bx:=fun b=>by
  rw [h4 b];constructor
  ·rintro (h | h | h)
   ·exact .inl (.inl h)
   ·cases h; exact .inr rfl
   ·cases h; exact .inl (.inr rfl)
  ·rintro ((h | rfl) | rfl)
   ·exact .inl h
   ·exact .inr (.inr rfl)
   ·exact .inr (.inl rfl)
 let c1:=c.bare (.cells zx) bx (fun b=>c0.au b∨b=b_)
 have jU:c1.own c.heap.length=some (bx,0):=by simp [c1,Cx.bare]
 have Xg:c1.heap[c.heap.length]? = some (.cells zx):=by simp [c1,Cx.bare]
 have sc:aE G c1:=ho.bare Oh (fun hb=>hb.elim CZ aJ) ⟨bx,0,ux.toArray,tx,jU,x3,by simpa using (Of c1).1.symm,fun j x v hx hu=>(Of _).2 j x v hx (by simpa using hu)⟩;have Xh:∀ x v,VR c x v→VR c1 x v:=fun _ _=>zo ho Oh;have Xi:c1.heap.length=c.heap.length+1:=by simp [c1,Cx.bare]
 have Oi:∀ b,c1.au b↔c0.au b∨b=b_:=fun b=>Iff.rfl
 let c2:=c1.bare (.cells zy) b_ c0.au
 have Oj:c2.own c1.heap.length=some (b_,0):=by simp [c2,Cx.bare]
 have Xj:c2.heap[c1.heap.length]? = some (.cells zy):=by simp [c2,Cx.bare]
 have wP:aE G c2:=sc.bare Oi G6 ⟨b_,0,uy.toArray,ty,Oj,y3,by simpa using (Og c2).1.symm,fun j x v hx hu=>(Og _).2 j x v hx (by simpa using hu)⟩;have Ol:∀ x v,VR c1 x v→VR c2 x v:=fun _ _=>zo sc Oi;refine ⟨c2,rfl,wP,rfl,?_,fun x v hv=>Ol _ _ (Xh _ _ hv),fun v hl hv=>?_,fun v hl hv=>?_⟩
 ·exact {
   au:=rfl
   bD:=h0.bD
   os:=h7.os
   tape:=h7.tape
   output:=h7.output
   size:=h7.size
   keep:=h7.keep
   dC:=fun i b n hi hb=>by
    simp only [c2,c1,Cx.bare] at hi;split at hi
    ·cases hi; omega
    ·split at hi
     ·cases hi; omega
     ·exact h7.dC i b n hi hb
   boxes:=fun i Om hi=>by
    have h8:=h7.boxes i Om hi;have ai:i<c.heap.length:=by
     cases Om with
     |cells cs=>rcases h8 with ⟨_,h8,_⟩ | h8 <;> exact aZ h8
     |arr g sz l=>rcases h8 with ⟨_,_,h8,_⟩ | h8 <;> exact aZ h8
     |map es=>rcases h8 with ⟨_,h8,_⟩ | h8 <;> exact aZ h8
     |gone=>exact aZ h8
    refine FP (c1:=c0) rfl ?_ ?_ h8
    ·show (c.heap++[.cells zx]++[.cells zy])[i]? = c.heap[i]?;rw [List.append_assoc,List.getElem?_append_left ai]
    ·show (if i=c1.heap.length then _ else if i=c.heap.length then _ else c.own i)=c.own i
     rw [if_neg (by omega),if_neg (by omega)] }
 ·rw [x4 hl] at hv;cases hv;exact Ol _ _ (.ptr _ _ zx _ 0 Xg jU)
 ·rw [y4 hl] at hv;cases hv;rw [← Xi];exact .ptr _ _ zy _ 0 Xj Oj
end
section
variable {E:Env} {ops:Array Oper}
variable {ae:FuncId} {R:bY} {s:List AV} {h:List ag} {k:List aG} {lits:List Nat}
end
end Go.ax
end
section
namespace Go.ax
open Go Go.RowKit
def OV (H:List ag) (r:AV):Bool:=rv H.length [] H&&eH H.length [] r
theorem aC.rE {E:Env} {f:FuncId} {H H1:List ag} {args:List AV} {r0:AV} (hc:aC E f H args (fun a b=>a=r0∧b=H1)) (hr:cU H.length [] 0 H1=H) (hk:OV H r0=true):aC E f H args (fun a b=>a=r0∧b=H):=by
 simp only [OV,Bool.and_eq_true] at hk;obtain ⟨eh,hv⟩:=hk;unfold aC at hc ⊢;refine ⟨hc.1,hc.2.1,fun c vs h1 h2 h3=>(hc.2.2 c vs h1 h2 h3).mono fun e w' ⟨c',r,v,k1,k2,⟨k3,Av⟩,k4,k5,k6⟩=>?_⟩;subst k3;have a1:=k5.eC (n:=H.length) (B:=[]) (by rw [Av,hr]; exact eh);have a2:=xq (n:=H.length) (B:=[]) hv k4;obtain ⟨b1,b2⟩:=a1.An (au:=c'.au) (fun b hb => .inl hb);refine ⟨⟨(c'.eC H.length []).own,(c'.eC H.length []).heap,c'.au,c'.w⟩,r,v,k1,k2,⟨rfl,by show cU _ _ 0 c'.heap=H; rw [Av,hr]⟩,b2 _ _ a2,b1,?_⟩;have hid:∀ i,i<H.length→du H.length [] i=false:=fun i hi=>by
  have:Nat.ble H.length i=false:=by
   cases q:Nat.ble H.length i
   ·rfl
   ·have:=Nat.le_of_ble_eq_true q; omega
  simp only [du,this]; rfl
 exact {
  au:=k6.au
  os:=k6.os
  tape:=k6.tape
  output:=k6.output
  size:=k6.size
  keep:=k6.keep
  dC:=fun i b n hi hb=>k6.dC i b n (oO hi).2 hb
  boxes:=fun i bx hi=>by
   have ai:i<H.length:=by rw [← h1]; exact aZ hi
   have e1:(cU H.length [] 0 c'.heap)[i]? = c'.heap[i]? := sS 0 i c'.heap (by rw [Nat.zero_add]; exact hid i ai)
   exact Ag (c:=c') (fun x hx=>e1.trans hx) (fun x _=>uV (hid i ai)) (k6.boxes i bx hi) }
theorem ff {G:List (Nat × DV)} {s:List AV} {f:FuncId}:bp G s (.func f) (.fn (.func f) [] []):=fun c a _ _=>by
 have:a.eval (.func f) = .func (.func f) #[] #[]:=rfl;rw [this];exact .fn _ [] [] #[] #[] rfl rfl (fun j x v hx=>by simp at hx) (fun j x v hx=>by simp at hx)
theorem pT {G:List (Nat × DV)} {s:List AV} {k:IntKind} {n:Int}:bp G s (.const (.int k n)) (.d (.int k n)):=fun c a _ _ => .d _ _ (.int _ _)
theorem XQ {G:List (Nat × DV)} {s:List AV}:gU G s [] []:=fun c a _ _ => .nil
theorem HO {G:List (Nat × DV)} {s:List AV} {x:Operand} {v:AV} {xs:List Operand} {vs:List AV} (h:bp G s x v) (k:gU G s xs vs):gU G s (x::xs) (v::vs):=fun c a h3 h4=>VL.cons (h c a h3 h4) (k c a h3 h4)
theorem jY {G:List (Nat × DV)} {s:List AV} {x:Operand} {v:AV} (h:bp G s x v):gU G s [x] [v]:=HO h XQ
theorem mg {G:List (Nat × DV)} {s:List AV} {x y:Operand} {v w:AV} (h:bp G s x v) (k:bp G s y w):gU G s [x,y] [v,w]:=HO h (jY k)
theorem pU {G:List (Nat × DV)} {s:List AV} {x y z:Operand} {v w u:AV} (h:bp G s x v) (k:bp G s y w) (l:bp G s z u):gU G s [x,y,z] [v,w,u]:=HO h (mg k l)
end Go.ax
end
section
namespace Go.Proofs
open Go.Shelf
def Tryz.XZ:Go.Shelf.Ren:=⟨fun | 137=>142 | 217=>209 | 266=>241 | n=>n,fun | 9=>9 | 5=>5 | 3=>3 | n=>n,fun | n=>n⟩
theorem Tryz.X0:Go.Proofs.Lays.n137 Tryz.prog Tryz.XZ:={
 mixed:=by kernel_rfl
 f137:=Tryz.func142.trans (congrArg some (by kernel_rfl))
 f217:=Tryz.func209.trans (congrArg some (by kernel_rfl))
 f266:=Tryz.func241.trans (congrArg some (by kernel_rfl))
 t3:=Tryz.underlying3
 a3:=Tryz.isAgg3
 z3:=Tryz.sizeOf3
 v3:=Tryz.zeroValue3
 t5:=Tryz.underlying5
 a5:=Tryz.isAgg5
 z5:=Tryz.sizeOf5
 v5:=Tryz.zeroValue5
 t9:=Tryz.underlying9
 a9:=Tryz.isAgg9
 z9:=Tryz.sizeOf9
 v9:=Tryz.zeroValue9 }
def Tryz.OZ:Go.Shelf.Ren:=⟨fun | 156=>213 | 165=>242 | 166=>243 | 169=>244 | 240=>252 | 241=>253 | 276=>255 | 277=>256 | n=>n,fun | 31=>32 | 9=>9 | 3=>3 | 4=>4 | 0=>0 | 20=>20 | 72=>274 | 76=>278 | 70=>271 | 37=>272 | 75=>277 | 127=>287 | 164=>289 | 5=>5 | 80=>168 | n=>n,fun | n=>n⟩
theorem Tryz.Dj:Go.Proofs.Lays.n156 Tryz.prog Tryz.OZ:={
 mixed:=by kernel_rfl
 f156:=Tryz.func213.trans (congrArg some (by kernel_rfl))
 f165:=Tryz.func242.trans (congrArg some (by kernel_rfl))
 f166:=Tryz.func243.trans (congrArg some (by kernel_rfl))
 f169:=Tryz.func244.trans (congrArg some (by kernel_rfl))
 f240:=Tryz.func252.trans (congrArg some (by kernel_rfl))
 f241:=Tryz.func253.trans (congrArg some (by kernel_rfl))
 f276:=Tryz.func255.trans (congrArg some (by kernel_rfl))
 f277:=Tryz.func256.trans (congrArg some (by kernel_rfl))
 t0:=Tryz.underlying0
 a0:=Tryz.isAgg0
 z0:=Tryz.sizeOf0
 v0:=Tryz.zeroValue0
 t3:=Tryz.underlying3
 a3:=Tryz.isAgg3
 z3:=Tryz.sizeOf3
 v3:=Tryz.zeroValue3
 t4:=Tryz.underlying4
 a4:=Tryz.isAgg4
 z4:=Tryz.sizeOf4
 v4:=Tryz.zeroValue4
 t9:=Tryz.underlying9
 a9:=Tryz.isAgg9
 z9:=Tryz.sizeOf9
 v9:=Tryz.zeroValue9
 t20:=Tryz.underlying20
 a20:=Tryz.isAgg20
 z20:=Tryz.sizeOf20
 v20:=Tryz.zeroValue20
 t31:=Tryz.underlying32
 a31:=Tryz.isAgg32
 z31:=Tryz.sizeOf32
 v31:=Tryz.zeroValue32
 t37:=Tryz.underlying272
 a37:=Tryz.isAgg272
 z37:=Tryz.sizeOf272
 v37:=Tryz.zeroValue272
 t70:=Tryz.underlying271
 a70:=Tryz.isAgg271
 z70:=Tryz.sizeOf271
 v70:=Tryz.zeroValue271
 t72:=Tryz.underlying274
 a72:=Tryz.isAgg274
 z72:=Tryz.sizeOf274
 v72:=Tryz.zeroValue274
 t75:=Tryz.underlying277
 a75:=Tryz.isAgg277
 z75:=Tryz.sizeOf277
 v75:=Tryz.zeroValue277
 t76:=Tryz.underlying278
 a76:=Tryz.isAgg278
 z76:=Tryz.sizeOf278
 v76:=Tryz.zeroValue278
 t127:=Tryz.underlying287
 a127:=Tryz.isAgg287
 z127:=Tryz.sizeOf287
 v127:=Tryz.zeroValue287
 t164:=Tryz.underlying289
 a164:=Tryz.isAgg289
 z164:=Tryz.sizeOf289
 v164:=Tryz.zeroValue289 }
theorem Tryz.Dk:Builder.Extra Tryz.prog Tryz.OZ:={
 sizeBuilder:=by kernel_rfl
 liesBuilder:=by kernel_rfl
 t5:=Tryz.underlying5
 a5:=Tryz.isAgg5
 z5:=Tryz.sizeOf5
 v5:=Tryz.zeroValue5
 infoByte:=by kernel_rfl
 cellsByte:=by kernel_rfl
 sizeByte:=by kernel_rfl
 neB5:=by decide }
end Go.Proofs
end
