/- The engine, part BB: regions that draw their order and make two variables, at any time. No conditions. -/
import Derived.Test.YthikfaephakahaaGreatDoorZEngB
set_option linter.unusedVariables false
set_option linter.unusedSimpArgs false
namespace Go.Eng
open Go Go.RowKit
theorem Step.unbar2 {c c':Cx} {bar:Nat→Prop} (h:Step c c') (hb:∀ b,bar b→b<c.w.heap.size):Step (c.unbar bar) (c'.unbar bar) :=
 { bar:=rfl,barlt:=hb,os:=h.os,tape:=h.tape,output:=h.output,size:=h.size,keep:=h.keep,newown:=h.newown,boxes:=h.boxes }
theorem Step.veil2 {c:Cx} {o:Obj} {bar:Nat→Prop} (hb:∀ b,bar b→b<c.w.heap.size):Step (c.unbar bar) ((c.veil o).unbar bar) :=
 { bar:=rfl,barlt:=hb,os:=rfl,tape:=rfl,output:=rfl,size:=(by show c.w.heap.size≤(c.w.alloc o).heap.size; simp),keep:=fun b h _=>Below.heap_alloc c.w o b h,newown:=fun i b n h _=>⟨n,h⟩,boxes:=fun i bx h=>boxStep_same h rfl rfl }
structure Mid2 (c0:Cx) (dx dy:Nat) (ux uy:List Value) (tx ty:TypeId) (lx ly:Bool) (a:Act) (c:Cx):Prop where
 ex:∃ X Y:Option Nat,X.isSome=lx∧Y.isSome=ly∧(∀ b,X=some b→Y≠some b)∧(∀ b,c.bar b↔c0.bar b∨X=some b∨Y=some b) ∧
  (∀ b,X=some b→c0.w.heap.size≤b∧b<c.w.heap.size∧c.w.heap[b]? = some (.cells ux.toArray tx (0,0))∧(dx<a.tmps.size→a.tmps[dx]? = some (.pointer (some ⟨b,0,none⟩)))) ∧
  (∀ b,Y=some b→c0.w.heap.size≤b∧b<c.w.heap.size∧c.w.heap[b]? = some (.cells uy.toArray ty (0,0))∧(dy<a.tmps.size→a.tmps[dy]? = some (.pointer (some ⟨b,0,none⟩)))) ∧
  Step c0 (c.unbar c0.bar)
section
variable {G:List (Nat × DV)} {c0 c c':Cx} {dx dy:Nat} {ux uy:List Value} {tx ty:TypeId} {lx ly:Bool} {a a':Act}
theorem Mid2.start (hb:∀ b,c.bar b→b<c.w.heap.size):Mid2 c dx dy ux uy tx ty false false a c :=
 { ex:=⟨none,none,rfl,rfl,fun b h=>(nomatch h),fun b=>⟨.inl,fun h=>h.elim id (fun h=>h.elim (fun h=>nomatch h) (fun h=>nomatch h))⟩,fun b h=>(nomatch h),fun b h=>(nomatch h),Step.refl c hb⟩ }
theorem Mid2.step (h:Mid2 c0 dx dy ux uy tx ty lx ly a c) (ho:HOk G c) (hs:Step c c') (hsz:a'.tmps.size=a.tmps.size) (hx:lx=true→a'.tmps[dx]? = a.tmps[dx]?) (hy:ly=true→a'.tmps[dy]? = a.tmps[dy]?):Mid2 c0 dx dy ux uy tx ty lx ly a' c':=by
 obtain ⟨X,Y,h1,h2,h3,h4,h5,h6,h7⟩:=h.ex;have hkeep:∀ b,c.bar b→c'.w.heap[b]? = c.w.heap[b]? := fun b hb=>hs.keep b (ho.barlt b hb) (fun i n hi=>ho.sep i b n hi hb);refine ⟨X,Y,h1,h2,h3,fun b=>by rw [hs.bar]; exact h4 b,fun b e=>?_,fun b e=>?_,h7.trans (hs.unbar2 (fun b hb=>ho.barlt b ((h4 b).2 (.inl hb))))⟩
 ·obtain ⟨k1,k2,k3,k4⟩:=h5 b e;refine ⟨k1,Nat.lt_of_lt_of_le k2 hs.size,(hkeep b ((h4 b).2 (.inr (.inl e)))).trans k3,fun hl=>?_⟩;rw [hx (by rw [← h1,e]; rfl)];exact k4 (by omega)
 ·obtain ⟨k1,k2,k3,k4⟩:=h6 b e;refine ⟨k1,Nat.lt_of_lt_of_le k2 hs.size,(hkeep b ((h4 b).2 (.inr (.inr e)))).trans k3,fun hl=>?_⟩;rw [hy (by rw [← h2,e]; rfl)];exact k4 (by omega)
theorem Mid2.done (h:Mid2 c0 dx dy ux uy tx ty true true a c) (ho:HOk G c) (h0:HOk G c0) {zx zy:List AV} (hzx:∀ c:Cx,VL c zx ux) (hzy:∀ c:Cx,VL c zy uy) :
  ∃ cF:Cx,cF.w=c.w∧HOk G cF∧cF.heap=c.heap++[.cells zx]++[.cells zy]∧Step c0 cF∧(∀ x v,VR c x v→VR cF x v) ∧
   (∀ v,dx<a.tmps.size→a.tmps[dx]? = some v→VR cF (.ptr c.heap.length 0) v)∧(∀ v,dy<a.tmps.size→a.tmps[dy]? = some v→VR cF (.ptr (c.heap.length+1) 0) v):=by
 obtain ⟨X,Y,h1,h2,h3,h4,h5,h6,h7⟩:=h.ex;obtain ⟨bx,rfl⟩:∃ b,X=some b:=Option.isSome_iff_exists.1 h1;obtain ⟨b_,rfl⟩:∃ b,Y=some b:=Option.isSome_iff_exists.1 h2;have hne:bx≠b_:=fun e=>h3 bx rfl (by rw [e]);obtain ⟨x1,x2,x3,x4⟩:=h5 bx rfl;obtain ⟨y1,y2,y3,y4⟩:=h6 b_ rfl;have hx0:¬ c0.bar bx:=fun hb=>by have:=h0.barlt _ hb; omega
 have hy0:¬ c0.bar b_:=fun hb=>by have:=h0.barlt _ hb; omega
 have bar1:∀ b,c.bar b↔(c0.bar b∨b=b_)∨b=bx:=fun b=>by
  rw [h4 b];constructor
  ·rintro (h | h | h)
   ·exact .inl (.inl h)
   ·cases h; exact .inr rfl
   ·cases h; exact .inl (.inr rfl)
  ·rintro ((h | rfl) | rfl)
   ·exact .inl h
   ·exact .inr (.inr rfl)
   ·exact .inr (.inl rfl)
 let c1:=c.bare (.cells zx) bx (fun b=>c0.bar b∨b=b_)
 have own1:c1.own c.heap.length=some (bx,0):=by simp [c1,Cx.bare]
 have at1:c1.heap[c.heap.length]? = some (.cells zx):=by simp [c1,Cx.bare]
 have ho1:HOk G c1:=ho.bare bar1 (fun hb=>hb.elim hx0 hne) ⟨bx,0,ux.toArray,tx,own1,x3,by simpa using (hzx c1).1.symm,fun j x v hx hu=>(hzx _).2 j x v hx (by simpa using hu)⟩;have vr1:∀ x v,VR c x v→VR c1 x v:=fun _ _=>bare_vr ho bar1;have len1:c1.heap.length=c.heap.length+1:=by simp [c1,Cx.bare]
 have bar2:∀ b,c1.bar b↔c0.bar b∨b=b_:=fun b=>Iff.rfl
 let c2:=c1.bare (.cells zy) b_ c0.bar
 have own2:c2.own c1.heap.length=some (b_,0):=by simp [c2,Cx.bare]
 have at2:c2.heap[c1.heap.length]? = some (.cells zy):=by simp [c2,Cx.bare]
 have ho2:HOk G c2:=ho1.bare bar2 hy0 ⟨b_,0,uy.toArray,ty,own2,y3,by simpa using (hzy c2).1.symm,fun j x v hx hu=>(hzy _).2 j x v hx (by simpa using hu)⟩;have vr2:∀ x v,VR c1 x v→VR c2 x v:=fun _ _=>bare_vr ho1 bar2;refine ⟨c2,rfl,ho2,rfl,?_,fun x v hv=>vr2 _ _ (vr1 _ _ hv),fun v hl hv=>?_,fun v hl hv=>?_⟩
 ·exact {
   bar:=rfl
   barlt:=h0.barlt
   os:=h7.os
   tape:=h7.tape
   output:=h7.output
   size:=h7.size
   keep:=h7.keep
   newown:=fun i b n hi hb=>by
    simp only [c2,c1,Cx.bare] at hi;split at hi
    ·cases hi; omega
    ·split at hi
     ·cases hi; omega
     ·exact h7.newown i b n hi hb
   boxes:=fun i bx' hi=>by
    have h8:=h7.boxes i bx' hi;have hlt:i<c.heap.length:=by
     cases bx' with
     |cells cs=>rcases h8 with ⟨_,h8,_⟩ | h8 <;> exact lt_of_getElem? h8
     |arr g sz l=>rcases h8 with ⟨_,_,h8,_⟩ | h8 <;> exact lt_of_getElem? h8
     |map es=>rcases h8 with ⟨_,h8,_⟩ | h8 <;> exact lt_of_getElem? h8
     |gone=>exact lt_of_getElem? h8
    refine boxStep_congr (c1:=c0) rfl ?_ ?_ h8
    ·show (c.heap++[.cells zx]++[.cells zy])[i]? = c.heap[i]?;rw [List.append_assoc,List.getElem?_append_left hlt]
    ·show (if i=c1.heap.length then _ else if i=c.heap.length then _ else c.own i)=c.own i
     rw [if_neg (by omega),if_neg (by omega)] }
 ·rw [x4 hl] at hv;cases hv;exact vr2 _ _ (.ptr _ _ zx _ 0 at1 own1)
 ·rw [y4 hl] at hv;cases hv;rw [← len1];exact .ptr _ _ zy _ 0 at2 own2
end
theorem cur_set_ne {t:Nat} {ox:Oper} {L:Nat→Bool} (hdt:ox.dst≠some t):∀ (q:List (Oper × AV)) (m' j:Nat) (s s':List AV),s.length=s'.length→s[t]? = s'[t]? → (∀ o v,q[m']? = some (o,v)→o.dst≠some t)→(cur (q.set m' (ox,.any)) L j s)[t]? = (cur q L j s')[t]?
 | [],_,_,_,_,_,hs,_=>hs
 |(po,pv)::q,m',j,s,s',hl,hs,hq=>by
  have hlen':∀ (b:Bool) (r:List AV) (o:Oper) (v:AV),(if b then putS r o.dst v else r).length=r.length:=fun b r o v=>by cases b <;> cases o.dst <;> simp [putS]
  cases m' with
  |zero =>
   simp only [List.set_cons_zero,cur];refine cur_congr _ _ _ _ _ _ (by rw [hlen',hlen',hl]) ?_ (fun _ _ _ _ _=>rfl);have:=hq po pv rfl;cases L j <;> simp [putS_other this,putS_other hdt,hs]
  |succ m' =>
   simp only [List.set_cons_succ,cur];refine cur_set_ne hdt q m' (j+1) _ _ (by rw [hlen',hlen',hl]) ?_ (fun o v ho=>hq o v (by simpa using ho));cases L j
   ·simpa using hs
   ·simp only [if_true]; exact putS_get hl hs
section
variable {E:Env} {ops:Array Oper}
variable {fid:FuncId} {R:Post} {s:List AV} {h:List Box} {k:List AItem} {lits:List Nat}
theorem alloc_inv {o:Oper} (h:isAllocB o=true):∃ t,o.op = .alloc t∧o.guard=none:=by
 obtain ⟨dst,op,type,pos,after,guard⟩:=o;cases op <;> first | (cases guard <;> first | exact ⟨_,rfl,rfl⟩ | cases h) | cases h
end
end Go.Eng
