/- Lemmas of mine. Conditions: as stated. -/
import Derived.Test.YtlhehdgciafakaaGreatDoorQ1
set_option linter.unusedVariables false
set_option linter.unusedSimpArgs false
open Array renaming getElem?_extract->ajN
open List renaming mem_of_getElem?->aiQ,getElem?_eq_getElem->aiX,getElem?_append_left->ahT,getElem?_map->ahy,range->ais,getElem?_eq_none_iff->ajJ,getElem?_eq_none->aht,nodup_cons->ajK,mem_append->aif,length_append->ah5,map_cons->ahx,mem_cons->ai3,getElem_of_mem->aiw,getElem?_append_right->aiH,mem_append_left->ajL,mem_append_right->ajM,length_replicate->aiR,all_eq_true->ahH
open Nat renaming beq->ahv,eq_of_beq_eq_true->ahu,zero_add->ahB,blt->ahw,ble->ahO,le_refl->ahL,le_of_ble_eq_true->ahA,lt_of_lt_of_le->ahD,lt_or_ge->ahs,add_comm->ahW
open Option renaming getD_some->ah8,map_some->air
section
namespace Go.az
open Go Go.RowKit
def dI:List Nat->Nat->Option Nat
 |[],_=>none
 |a::l,j=>match ahv a j with
  |true=>some 0
  |false=>(dI l j).map (· + 1)
theorem lA:∀ {l:List Nat} {j i:Nat},dI l j=some i->l[i]?=some j
 |a::l,j,i,h=>by
  simp only[dI]at h;split at h
  ·rename_i q;cases h;simp[ahu q]
  ·cases hx:dI l j with
   |none=>rw[hx]at h;cases h
   |some k=>rw[hx]at h;cases h;simpa using lA hx
theorem wD:∀ {l:List Nat} {j i:Nat},l.Nodup->l[i]?=some j->dI l j=some i
 |[],_,_,_,h=>by simp at h
 |a::l,j,0,_,h=>by simp at h;subst h;simp[dI]
 |a::l,j,i+1,hn,h=>by
  have hl:l[i]?=some j:=zD h
  have aL:(ahv a j)=false:=by
   cases hb:ahv a j with
   |false=>rfl
   |true =>
    have:=ahu hb;subst this;exact absurd (aiQ hl) (ajK.1 hn).1
  simp only[dI,aL,wD (ajK.1 hn).2 hl];rfl
theorem Hg{l:List Nat}{j:Nat}(h:dI l j=none)(hn:l.Nodup):j ∉ l:=fun hm=>by
 obtain⟨i,hi,he⟩:=aiw hm;rw[wD hn (i:=i) (by simp[hi,he])]at h;cases h
def oH(h:List ae)(j:Nat):Nat:=match eB h j with
 |some (.arr g _ _)=>g
 |_=>0
section
variable (ab:List Nat) (h:List ae)
def iN:AV->AV
 | .own j g=>match dI ab j with
  |some i=>match eB h j with
   |some (.arr g' _ _)=>match ahv g g' with
    |true => .own i 0
    |false => .any
   |_ => .any
  |none => .any
 | .ptr j off=>match dI ab j with
  |some i=>match eB h j with
   |some (.cells _) => .ptr i off
   |_ => .any
  |none => .any
 | .dv j g k off=>match dI ab j with
  |some i=>match eB h j with
   |some (.arr g' _ _)=>match ahv g g' with
    |true => .dv i 0 k off
    |false => .any
   |_ => .any
  |none => .any
 | .cut j g k q=>match dI ab j with
  |some i=>match eB h j with
   |some (.arr g' _ _)=>match ahv g g' with
    |true => .cut i 0 k q
    |false => .any
   |_ => .any
  |none => .any
 | .map j=>match dI ab j with
  |some i=>match eB h j with
   |some (.map _) => .map i
   |_ => .any
  |none => .any
 | .d x => .d x
 | .bT e off => .bT e off
 |_ => .any
def ic:AV->AV
 | .agg l => .agg (l.map (iN ab h))
 | .aG l => .aG (l.map (iN ab h))
 | .fn f a b => .fn f (a.map (iN ab h)) (b.map (iN ab h))
 |x=>iN ab h x
def qp:ae->ae
 | .arr _ ts l => .arr 0 ts l
 | .cells cs => .cells (cs.map (iN ab h))
 |b=>b
def fk:List ae:=ab.map fun j=>match eB h j with
 |some b=>qp ab h b
 |none => .gone
def ie(i:Nat):Nat:=match eB ab i with
 |some j=>j
 |none=>h.length+(i-ab.length)
def pG(i:Nat):Nat:=match eB ab i with
 |some j=>oH h j
 |none=>0
def mg:AV->AV
 | .own i g => .own (ie ab h i) (pG ab h i+g)
 | .ptr i off => .ptr (ie ab h i) off
 | .dv i g k off => .dv (ie ab h i) (pG ab h i+g) k off
 | .cut i g k q => .cut (ie ab h i) (pG ab h i+g) k q
 | .map i => .map (ie ab h i)
 | .d x => .d x
 | .bT e off => .bT e off
 |_ => .any
def yJ:AV->AV
 | .agg l => .agg (l.map (mg ab h))
 | .aG l => .aG (l.map (mg ab h))
 | .fn f a b => .fn f (a.map (mg ab h)) (b.map (mg ab h))
 |x=>mg ab h x
def kl:AV->AV
 | .aG l => .aG (l.map (yJ ab h))
 |x=>yJ ab h x
def nK(g0:Nat):ae->ae
 | .arr g ts l => .arr (g0+g) ts l
 | .cells cs => .cells (cs.map (mg ab h))
 |b=>b
def ru(h1:List ae):Nat->List ae->List ae
 |_,[]=>[]
 |j,b::r=>(match dI ab j with
  |some i=>match eB h1 i with
   |some b1=>nK ab h (oH h j) b1
   |none => .gone
  |none=>b)::ru h1 (j+1) r
def fV(h1:List ae):List ae:=ru ab h h1 0 h++(h1.drop ab.length).map (nK ab h 0)
end
section
variable {ab:List Nat} {h:List ae}
theorem yK(h1:List ae):∀ (j:Nat) (r:List ae),(ru ab h h1 j r).length=r.length
 |_,[]=>rfl
 |j,b::r=>by simp[ru,yK h1 (j+1) r]
theorem Hh(h1:List ae):∀ (j k:Nat) (r:List ae),(ru ab h h1 j r)[k]?=(r[k]?).map fun b=>match dI ab (j+k)with
  |some i=>match eB h1 i with
   |some b1=>nK ab h (oH h (j+k)) b1
   |none => .gone
  |none=>b
 |_,_,[]=>by simp[ru]
 |j,0,b::r=>by simp[ru]
 |j,k+1,b::r=>by
  simp only[ru,List.getElem?_cons_succ];rw[Hh h1 (j+1) k r,show j+1+k=j+(k+1) by omega]
theorem uG(h1:List ae):(fV ab h h1).length=h.length+(h1.length-ab.length):=by simp[fV,yK]
theorem Hi{h1:List ae}{j:Nat}(hj:j<h.length)(hn:dI ab j=none):(fV ab h h1)[j]?=h[j]? := by
 rw[fV,ahT (by rw[yK];exact hj),Hh,ahB,hn];simp
theorem Mz{h1:List ae}{i j:Nat}(hj:j<h.length)(hi:dI ab j=some i){b:ae}(hb:h1[i]?=some b):(fV ab h h1)[j]?=some (nK ab h (oH h j) b):=by
 rw[fV,ahT (by rw[yK];exact hj),Hh,ahB,hi];simp[ff,hb,hj]
theorem Vr{h1:List ae}{k:Nat}:(fV ab h h1)[h.length+k]?=(h1[ab.length+k]?).map (nK ab h 0):=by
 rw[fV,aiH (by rw[yK];omega),yK];simp
def Cx.fz(c:Cx)(ab:List Nat):Cx:=⟨fun i=>match ab[i]? with|some j=>c.own j|none=>none,fk ab c.heap,fun b=>c.aD b\/∃ j n,j ∉ ab/\c.own j=some (b,n),c.w⟩
def ig(w:List Nat)(src dst:List ae):List ae:=dst.mapIdx fun j b=>if j∈w then src[j]?.getD b else b
theorem MA{w:List Nat}{src dst:List ae}:(ig w src dst).length=dst.length:=by simp[ig]
theorem s4{w:List Nat}{src dst:List ae}{j:Nat}:(ig w src dst)[j]?=dst[j]?.map fun b=>if j∈w then src[j]?.getD b else b:=by simp[ig]
theorem rv{w:List Nat}{src dst:List ae}{j:Nat}(h:j ∉ w):(ig w src dst)[j]?=dst[j]? := by
 rw[s4];simp[h]
theorem A3{w:List Nat}{src dst:List ae}{j:Nat}{b:ae}(h:j∈w)(hl:j<dst.length)(hb:src[j]?=some b):(ig w src dst)[j]?=some b:=by
 rw[s4,aiX hl];simp[h,hb]
def eG(ab:List Nat)(h h1:List ae):List Nat:=List.range' h.length (h1.length-ab.length)
theorem qs{ab:List Nat}{h h1:List ae}{j:Nat}:j∈eG ab h h1↔h.length<=j/\j<h.length+(h1.length-ab.length):=by simp[eG]
def Cx.take(c c1:Cx)(ab:List Nat)(h:List ae):Cx:=⟨fun j=>match dI ab j with|some i=>c1.own i|none=>if j∈eG ab h c1.heap then c1.own (ab.length+(j-h.length))else c.own j,ig (ab++eG ab h c1.heap) (fV ab h c1.heap) c.heap,c.aD,c1.w⟩
variable {c c1:Cx} {G:List (Nat × DV)}
theorem MB(b:Nat):(c.fz ab).bad b↔c.bad b:=by
 constructor
 ·rintro((hb|⟨j,n,-,hj⟩)|⟨i,n,hi⟩)
  ·exact .inl hb
  ·exact .inr ⟨j,n,hj⟩
  ·simp only[Cx.fz]at hi;split at hi
   ·exact .inr ⟨_,n,hi⟩
   ·cases hi
 ·rintro(hb|⟨j,n,hj⟩)
  ·exact .inl (.inl hb)
  ·by_cases hm:j∈ab
   ·obtain⟨i,hi,he⟩:=aiw hm;refine .inr ⟨i,n,?_⟩;simp only[Cx.fz];rw[show ab[i]?=some j by simp[hi,he]];exact hj
   ·exact .inl (.inr ⟨j,n,hm,hj⟩)
theorem A4{x:DV}{v:Value}(hv:VD c.bad c.w x v):VD (c.fz ab).bad (c.fz ab).w x v:=hv.mono fun b _ hn=>⟨fun hb=>hn ((MB b).1 hb),rfl⟩
theorem uH{i j:Nat}{b:ae}(hi:ab[i]?=some j)(hb:h[j]?=some b):(fk ab h)[i]?=some (qp ab h b):=by
 simp[fk,hi,ff,hb]
theorem uI{i j:Nat}(hi:ab[i]?=some j):(c.fz ab).own i=c.own j:=by simp only[Cx.fz,hi]
theorem Hj{x:AV}{v:Value}(hv:VR c x v):VR (c.fz ab) (iN ab c.heap x) v:=by
 unfold iN;split
 ·rename_i j g;split
  ·rename_i i hi;have hi:=lA hi;rw[ff];split
   ·rename_i g' ts l hb;split
    ·rename_i q;have q:=ahu q;subst q;have cB:=uH hi hb;cases hv with
     |own _ _ _ l' blk cap k1 k2=>rw[hb]at k1;cases k1;exact .own i 0 ts l blk cap cB ((uI hi).trans k2)
     |jJ _ _ _ k1 k2=>rw[hb]at k1;cases k1;exact .jJ i 0 ts cB ((uI hi).trans k2)
     |l7 _ _ g2 _ _ _ k1 k2 _=>rw[hb]at k1;cases k1;omega
     |ln _ _ _ k1 _=>rw[hb]at k1;cases k1
     |ow _ _ _ _ _ _ k1 _ _=>rw[hb]at k1;cases k1
    ·exact .any _
   ·exact .any _
  ·exact .any _
 ·rename_i j off;split
  ·rename_i i hi;have hi:=lA hi;rw[ff];split
   ·rename_i cs hb;have cB:=uH hi hb;cases hv with
    |ptr _ _ cs' blk cap k1 k2=>exact .ptr i off _ blk cap cB ((uI hi).trans k2)
    |jK _ _ _ k1 _=>rw[hb]at k1;cases k1
   ·exact .any _
  ·exact .any _
 ·rename_i j g k off;split
  ·rename_i i hi;have hi:=lA hi;rw[ff];split
   ·rename_i g' ts l hb;split
    ·rename_i q;have q:=ahu q;subst q;have cB:=uH hi hb;cases hv with
     |dv _ _ _ _ _ l' blk cap k1 k2 k3=>rw[hb]at k1;cases k1;exact .dv i 0 k off ts l blk cap cB ((uI hi).trans k2) k3
     |nv _ _ g2 _ _ _ _ _ k1 k2 _=>rw[hb]at k1;cases k1;omega
     |nw _ _ _ _ _ k1 _=>rw[hb]at k1;cases k1
    ·exact .any _
   ·exact .any _
  ·exact .any _
 ·rename_i j g k qq;split
  ·rename_i i hi;have hi:=lA hi;rw[ff];split
   ·rename_i g' ts l hb;split
    ·rename_i q;have q:=ahu q;subst q;have cB:=uH hi hb;cases hv with
     |cut _ _ _ _ _ l' blk cap o k1 k2 k3 k4 k5=>rw[hb]at k1;cases k1;exact .cut i 0 k qq ts l blk cap o cB ((uI hi).trans k2) k3 k4 k5
     |pj _ _ g2 _ _ _ _ _ k1 k2 _=>rw[hb]at k1;cases k1;omega
     |pk _ _ _ _ _ k1 _=>rw[hb]at k1;cases k1
    ·exact .any _
   ·exact .any _
  ·exact .any _
 ·rename_i j;split
  ·rename_i i hi;have hi:=lA hi;rw[ff];split
   ·rename_i es hb;have cB:=uH hi hb;cases hv with
    |map _ ev blk cap k1 k2=>exact .map i _ blk cap cB ((uI hi).trans k2)
    |pn _ _ k1 _=>rw[hb]at k1;cases k1
   ·exact .any _
  ·exact .any _
 ·cases hv with|d _ _ hx=>exact .d _ _ (A4 hx)
 ·cases hv with
  |bT _ _ blk o f k1 k2 k3 k4=>exact .bT _ _ blk o f (fun hb=>k1 ((MB _).1 hb)) k2 k3 (fun j x hx=>A4 (k4 j x hx))
 ·exact .any _
theorem A5{l:List AV}{vs:List Value}(hv:VL c l vs):VL (c.fz ab) (l.map (iN ab c.heap)) vs :=
 ⟨zD hv.1,fun j x v hx hu=>by
  rw[ahy]at hx;cases hy:l[j]? with
  |none=>rw[hy]at hx;cases hx
  |some y=>rw[hy]at hx;cases hx;exact Hj (hv.2 j y v hy hu)⟩
theorem A6{l:List AV}{v:Value}(h:VR c (.aG l) v):∃ vs:List Value,v=.tuple vs.toArray/\VL c l vs:=by
 cases h with
 |aG _ vs hl hv=>exact⟨vs.toList,by simp,zD hl,fun j x v hx hu=>hv j x v hx (zD hu)⟩
theorem A7{l:List AV}{vs:List Value}(h:VL c l vs):VR c (.aG l) (.tuple vs.toArray) :=
 .aG l vs.toArray (zD h.1) (fun j x v hx hv=>h.2 j x v hx (zD hv))
theorem Hk{f:Fn}{a b:List AV}{v1 v2:List Value}(h1:VL c a v1)(h2:VL c b v2):VR c (.fn f a b) (.func f v1.toArray v2.toArray) :=
 .fn _ _ _ _ _ (zD h1.1) (zD h2.1) (fun j x v hx hv=>h1.2 j x v hx (zD hv)) (fun j x v hx hv=>h2.2 j x v hx (zD hv))
theorem MC{x:AV}{v:Value}(hv:VR c x v):VR (c.fz ab) (ic ab c.heap x) v:=by
 unfold ic;split
 ·obtain⟨vs,rfl,h1⟩:=qZ hv;exact yj (A5 h1)
 ·obtain⟨vs,rfl,h1⟩:=A6 hv;exact A7 (A5 h1)
 ·obtain⟨v1,v2,rfl,h1,h2⟩:=mP hv;exact Hk (A5 h1) (A5 h2)
 ·exact Hj hv
theorem MD{l:List AV}{vs:List Value}(hv:VL c l vs):VL (c.fz ab) (l.map (ic ab c.heap)) vs :=
 ⟨zD hv.1,fun j x v hx hu=>by
  rw[ahy]at hx;cases hy:l[j]? with
  |none=>rw[hy]at hx;cases hx
  |some y=>rw[hy]at hx;cases hx;exact MC (hv.2 j y v hy hu)⟩
theorem ME{l:List Nat}(hn:l.Nodup){i j a:Nat}(hi:l[i]?=some a)(hj:l[j]?=some a):i=j:=by
 have h1:=wD hn hi;have h2:=wD hn hj;rw[h1]at h2;cases h2;rfl
theorem aO.fz(ho:aO G c)(hn:ab.Nodup):aO G (c.fz ab) where
 bV:=fun b hb=>hb.elim (ho.bV b) fun⟨j,n,_,hj⟩=>(ho.bD j b n hj).1
 bD:=fun i b n hi=>by
  simp only[Cx.fz]at hi;split at hi
  ·rename_i j hj;exact⟨(ho.bD j b n hi).1,by show i<(fk ab c.heap).length;simp only[fk,List.length_map];exact aW hj⟩
  ·cases hi
 inj:=fun i j b n m hi hj=>by
  simp only[Cx.fz]at hi hj;split at hi
  ·rename_i a ha;split at hj
   ·rename_i a' A8;have:=ho.inj a a' b n m hi hj;subst this;exact ME hn ha A8
   ·cases hj
  ·cases hi
 sep:=fun i b n hi hb=>by
  simp only[Cx.fz]at hi;split at hi
  ·rename_i a ha;rcases hb with hb|⟨j,m,hj,hb⟩
   ·exact ho.sep a b n hi hb
   ·have:=ho.inj a j b n m hi hb;subst this;exact hj (aiQ ha)
  ·cases hi
 box:=fun i bx hi=>by
  have cu:(fk ab c.heap)[i]?=some bx:=hi;simp only[fk,ahy]at cu;cases hs:ab[i]? with
  |none=>rw[hs]at cu;cases cu
  |some j =>
   rw[hs]at cu;simp only[air,Option.some.injEq,ff]at cu;have bN:=uI (c:=c) hs;cases hb:c.heap[j]? with
   |none =>
    rw[hb]at cu;subst cu;show(c.fz ab).own i=none;rw[bN];cases hx:c.own j with
    |none=>rfl
    |some p=>have:=(ho.bD j p.1 p.2 hx).2;rw[ajJ]at hb;omega
   |some b =>
    rw[hb]at cu;subst cu;have dF:=ho.box j b hb;cases b with
    |cells cs =>
     obtain⟨blk,cap,vs,ty,k1,k2,k3⟩:=ho.cells hb;have:=A5 (ab:=ab) k3;exact⟨blk,cap,vs,ty,bN.trans k1,k2,zD this.1.symm,fun j x v hx hv=>this.2 j x v hx (zD hv)⟩
    |arr g ts l =>
     obtain⟨q0,q1,q2⟩:=dF;refine⟨q0,q1,?_⟩;rcases q2 with⟨q2,q3⟩|⟨blk,cap,vs,q2,q3,q4,q5,q6,q7⟩
     ·exact .inl ⟨bN.trans q2,q3⟩
     ·refine .inr ⟨blk,cap,vs,bN.trans q2,q3,q4,q5,q6,fun i j e x he hx=>?_⟩;obtain⟨v,r1,r2,r3⟩:=q7 i j e x he hx;exact⟨v,r1,r2,A4 r3⟩
    |map es =>
     obtain⟨blk,cap,en,ck,k1,k2,k3,k4⟩:=dF;exact⟨blk,cap,en,ck,bN.trans k1,k2,k3,fun j k x m hx hm=>⟨A4 (k4 j k x m hx hm).1,A4 (k4 j k x m hx hm).2⟩⟩
    |gone=>exact bN.trans dF
    |hole=>exact bN.trans dF
 gI:=fun g e hg=>by
  have:=Hj (ab:=ab) (ho.gI g e hg);exact this
theorem Vs:yv (fk ab h):=fun i g ts l hi=>by
 simp only[fk,ahy]at hi;cases hs:ab[i]? with
 |none=>rw[hs]at hi;cases hi
 |some j =>
  rw[hs]at hi;simp only[air,Option.some.injEq]at hi;split at hi
  ·rename_i b _;cases b<;>simp[qp]at hi;exact hi.1.symm
  ·cases hi
structure mV(c c1:Cx)(ab:List Nat)(h:List ae):Prop where
 nodup:ab.Nodup
 lt:∀ j∈ab,j<h.length
 len:h.length+(c1.heap.length-ab.length)<=c.heap.length
 same:∀ j∈ab,c.heap[j]?=h[j]?
 new:∀ j∈eG ab h c1.heap,c.heap[j]?=some .hole
 rel:Rel (c.fz ab) c1
 own:∀ i b n,c1.own i=some (b,n)->i<c1.heap.length
theorem Vt{h1:List ae}{j:Nat}(ai:∀ j∈ab,j<h.length)(hj:j∈eG ab h h1):dI ab j=none:=by
 cases hx:dI ab j with
 |none=>rfl
 |some i=>have:=ai _ (aiQ (lA hx));have:=qs.1 hj;omega
theorem MF{i j:Nat}(hn:ab.Nodup)(hi:ab[i]?=some j):(c.take c1 ab h).own j=c1.own i:=by
 simp only[Cx.take,wD hn hi]
theorem Hl{j:Nat}(hn:dI ab j=none)(hj:j ∉ eG ab h c1.heap):(c.take c1 ab h).own j=c.own j:=by
 simp only[Cx.take,hn,if_neg hj]
theorem MG{i:Nat}(hs:ab[i]?=none)(hi:i<c1.heap.length):h.length+(i-ab.length)∈eG ab h c1.heap:=by
 rw[ajJ]at hs;rw[qs];omega
theorem Hm(hb:mV c c1 ab h){i:Nat}(hi:i<c1.heap.length):(c.take c1 ab h).own (ie ab h i)=c1.own i:=by
 unfold ie;rw[ff];split
 ·rename_i j hj;exact MF hb.nodup hj
 ·rename_i hj;have hm:=MG (h:=h) hj hi;rw[ajJ]at hj;simp only[Cx.take,Vt hb.lt hm,if_pos hm]
  congr 1
  omega
theorem Dm(hb:mV c c1 ab h){i:Nat}{b:ae}(hi:c1.heap[i]?=some b):(c.take c1 ab h).heap[ie ab h i]?=some (nK ab h (pG ab h i) b):=by
 unfold ie pG;rw[ff];show(ig _ (fV ab h c1.heap) c.heap)[_]?=_;have hlen:=hb.len;split
 ·rename_i j hj;have hl:=hb.lt j (aiQ hj);exact A3 (ajL _ (aiQ hj)) oM (Mz hl (wD hb.nodup hj) hi)
 ·rename_i hj;have hm:=MG (h:=h) hj (aW hi);have Hn:=qs.1 hm;rw[ajJ]at hj;exact A3 (ajM _ hm) oM (by rw[Vr,show ab.length+(i-ab.length)=i by omega,hi];rfl)
theorem yL(hb:mV c c1 ab h){i j:Nat}{b:ae}(hi:ab[i]?=some j)(h1:c1.heap[i]?=some b):(c.take c1 ab h).heap[j]?=some (nK ab h (oH h j) b):=by
 have:=Dm hb h1
 simpa only[ie,pG,ff,hi]using this
theorem MI{j:Nat}(hn:dI ab j=none)(cW:ab.Nodup)(hj:j ∉ eG ab h c1.heap):(c.take c1 ab h).heap[j]?=c.heap[j]? :=
 rv fun hm=>(aif.1 hm).elim (Hg hn cW) hj
theorem yM(hb:mV c c1 ab h){j b n:Nat}(hj:(c.take c1 ab h).own j=some (b,n)):(∃ i,j=ie ab h i/\i<c1.heap.length/\c1.own i=some (b,n))\/(dI ab j=none/\j ∉ eG ab h c1.heap/\c.own j=some (b,n)):=by
 simp only[Cx.take]at hj;split at hj
 ·rename_i i hi;exact .inl ⟨i,by simp only[ie,ff,lA hi],hb.own i b n hj,hj⟩
 ·rename_i hx;split at hj
  ·rename_i hm;have hm:=qs.1 hm;refine .inl ⟨_,?_,hb.own _ b n hj,hj⟩;have:ab[ab.length+(j-h.length)]?=none:=aht oM;simp only[ie,ff,this];omega
  ·rename_i hm;exact .inr ⟨hx,hm,hj⟩
theorem MJ(ho:aO G c)(hb:mV c c1 ab h)(b:Nat):(c.take c1 ab h).bad b↔c1.bad b:=by
 constructor
 ·rintro(hx|⟨j,n,hx⟩)
  ·refine .inl ?_;rw[hb.rel.aD];exact .inl hx
  ·rcases yM hb hx with⟨i,-,-,hi⟩|⟨h1,-,h3⟩
   ·exact .inr ⟨i,n,hi⟩
   ·refine .inl ?_;rw[hb.rel.aD];exact .inr ⟨j,n,Hg h1 hb.nodup,h3⟩
 ·rintro(hx|⟨i,n,hx⟩)
  ·rw[hb.rel.aD]at hx;rcases hx with hx|⟨j,n,hj,hx⟩
   ·exact .inl hx
   ·refine .inr ⟨j,n,?_⟩;have h1:dI ab j=none:=by
     cases hi:dI ab j with
     |none=>rfl
     |some i=>exact absurd (aiQ (lA hi)) hj
    rw[Hl h1 (fun hm=>by have:=ho.box j _ (hb.new j hm);rw[show c.own j=none from this]at hx;cases hx)];exact hx
  ·exact .inr ⟨_,n,(Hm hb (hb.own i b n hx)).trans hx⟩
theorem A9(ho:aO G c)(hb:mV c c1 ab h){x:DV}{v:Value}(hv:VD c1.bad c1.w x v):VD (c.take c1 ab h).bad (c.take c1 ab h).w x v :=
 hv.mono fun b _ hn=>⟨fun h=>hn ((MJ ho hb b).1 h),rfl⟩
theorem MK(ho:aO G c)(hb:mV c c1 ab h){x:AV}{v:Value}(hv:VR c1 x v):VR (c.take c1 ab h) (mg ab h x) v:=by
 have hp:∀ {i:Nat} {b:ae},c1.heap[i]?=some b->(c.take c1 ab h).heap[ie ab h i]?=some (nK ab h (pG ab h i) b):=fun k=>Dm hb k;have hw:∀ {i:Nat} {b:ae},c1.heap[i]?=some b->(c.take c1 ab h).own (ie ab h i)=c1.own i:=fun k=>Hm hb (aW k);unfold mg;split
 ·rename_i i g;cases hv with
  |own _ _ ts l blk cap k1 k2=>exact .own _ _ ts l blk cap (hp k1) ((hw k1).trans k2)
  |jJ _ _ ts k1 k2=>exact .jJ _ _ ts (hp k1) ((hw k1).trans k2)
  |l7 _ _ g2 ts l _ k1 k2 k3=>exact .l7 _ _ _ ts l _ (hp k1) oM k3
  |ln _ _ _ k1 k3=>exact .ln _ _ _ (hp k1) k3
  |ow _ _ cs blk cap m k1 k2 k3=>exact .ow _ _ _ blk cap m (hp k1) ((hw k1).trans k2) (zD k3)
 ·rename_i i off;cases hv with
  |ptr _ _ cs blk cap k1 k2=>exact .ptr _ _ _ blk cap (hp k1) ((hw k1).trans k2)
  |jK _ _ _ k1 k3=>exact .jK _ _ _ (hp k1) k3
 ·rename_i i g k off;cases hv with
  |dv _ _ _ _ ts l blk cap k1 k2 k3=>exact .dv _ _ _ _ ts l blk cap (hp k1) ((hw k1).trans k2) k3
  |nv _ _ g2 _ _ ts l _ k1 k2 k3=>exact .nv _ _ _ _ _ ts l _ (hp k1) oM k3
  |nw _ _ _ _ _ k1 k3=>exact .nw _ _ _ _ _ (hp k1) k3
 ·rename_i i g k qq;cases hv with
  |cut _ _ _ _ ts l blk cap o k1 k2 k3 k4 k5=>exact .cut _ _ _ _ ts l blk cap o (hp k1) ((hw k1).trans k2) k3 k4 k5
  |pj _ _ g2 _ _ ts l _ k1 k2 k3=>exact .pj _ _ _ _ _ ts l _ (hp k1) oM k3
  |pk _ _ _ _ _ k1 k3=>exact .pk _ _ _ _ _ (hp k1) k3
 ·rename_i i;cases hv with
  |map _ es blk cap k1 k2=>exact .map _ es blk cap (hp k1) ((hw k1).trans k2)
  |pn _ _ k1 k3=>exact .pn _ _ (hp k1) k3
 ·cases hv with|d _ _ hx=>exact .d _ _ (A9 ho hb hx)
 ·cases hv with
  |bT _ _ blk o f k1 k2 k3 k4=>exact .bT _ _ blk o f (fun h=>k1 ((MJ ho hb _).1 h)) k2 k3 (fun j x hx=>A9 ho hb (k4 j x hx))
 ·exact .any _
theorem uJ{c c':Cx}{f:AV->AV}(hf:∀ {x:AV} {v:Value},VR c x v->VR c' (f x) v){l:List AV}{vs:List Value}(hv:VL c l vs):VL c' (l.map f) vs :=
 ⟨zD hv.1,fun j x v hx hu=>by
  rw[ahy]at hx;cases hy:l[j]? with
  |none=>rw[hy]at hx;cases hx
  |some y=>rw[hy]at hx;cases hx;exact hf (hv.2 j y v hy hu)⟩
theorem ML(ho:aO G c)(hb:mV c c1 ab h){x:AV}{v:Value}(hv:VR c1 x v):VR (c.take c1 ab h) (yJ ab h x) v:=by
 have hA:∀ {x:AV} {v:Value},VR c1 x v->VR (c.take c1 ab h) (mg ab h x) v:=fun h=>MK ho hb h;unfold yJ;split
 ·obtain⟨vs,rfl,h1⟩:=qZ hv;exact yj (uJ hA h1)
 ·obtain⟨vs,rfl,h1⟩:=A6 hv;exact A7 (uJ hA h1)
 ·obtain⟨v1,v2,rfl,h1,h2⟩:=mP hv;exact Hk (uJ hA h1) (uJ hA h2)
 ·exact hA hv
theorem Ho(ho:aO G c)(hb:mV c c1 ab h){x:AV}{v:Value}(hv:VR c1 x v):VR (c.take c1 ab h) (kl ab h x) v:=by
 unfold kl;split
 ·obtain⟨vs,rfl,h1⟩:=A6 hv;exact A7 (uJ (fun h=>ML ho hb h) h1)
 ·exact ML ho hb hv
theorem lp.take(ho:aO G c)(hb:mV c c1 ab h){i g:Nat}{b:ae}(hi:i<c1.heap.length)(dF:lp c1 i b):lp (c.take c1 ab h) (ie ab h i) (nK ab h g b):=by
 have bN:=Hm hb hi;cases b with
 |cells cs =>
  obtain⟨blk,cap,vs,ty,k1,k2,k3,k4⟩:=dF;have:VL (c.take c1 ab h) (cs.map (mg ab h)) vs.toList:=uJ (fun h=>MK ho hb h) ⟨zD k3.symm,fun j x v hx hv=>k4 j x v hx (zD hv)⟩;exact⟨blk,cap,vs,ty,bN.trans k1,k2,zD this.1.symm,fun j x v hx hv=>this.2 j x v hx (zD hv)⟩
 |arr g ts l =>
  obtain⟨q0,q1,q2⟩:=dF;refine⟨q0,q1,?_⟩;rcases q2 with⟨q2,q3⟩|⟨blk,cap,vs,q2,q3,q4,q5,q6,q7⟩
  ·exact .inl ⟨bN.trans q2,q3⟩
  ·refine .inr ⟨blk,cap,vs,bN.trans q2,q3,q4,q5,q6,fun i j e x he hx=>?_⟩;obtain⟨v,r1,r2,r3⟩:=q7 i j e x he hx;exact⟨v,r1,r2,A9 ho hb r3⟩
 |map es =>
  obtain⟨blk,cap,en,ck,k1,k2,k3,k4⟩:=dF;exact⟨blk,cap,en,ck,bN.trans k1,k2,k3,fun j k x m hx hm=>⟨A9 ho hb (k4 j k x m hx hm).1,A9 ho hb (k4 j k x m hx hm).2⟩⟩
 |gone=>exact bN.trans dF
 |hole=>exact bN.trans dF
theorem Hp{i b n:Nat}(hi:(c.fz ab).own i=some (b,n)):∃ k,ab[i]?=some k/\c.own k=some (b,n):=by
 simp only[Cx.fz]at hi;split at hi
 ·rename_i k hs;exact⟨k,hs,hi⟩
 ·cases hi
theorem Dn(ho:aO G c)(hb:mV c c1 ab h):Step c (c.take c1 ab h) where
 aD:=rfl
 bV:=ho.bV
 os:=hb.rel.os
 tape:=hb.rel.tape
 output:=hb.rel.output
 size:=hb.rel.size
 keep:=fun b ai hn=>hb.rel.keep b ai (fun i n hi=>by obtain⟨k,-,hk⟩:=Hp hi;exact hn k n hk)
 eh:=fun j b n hj ai=>by
  rcases yM hb hj with⟨i,rfl,-,hi⟩|⟨-,-,h3⟩
  ·obtain⟨m,hk⟩:=hb.rel.eh i b n hi ai;obtain⟨k,hs,hk⟩:=Hp hk;exact⟨m,by simpa only[ie,ff,hs]using hk⟩
  ·exact⟨n,h3⟩
 boxes:=fun j bx hj=>by
  cases hx:dI ab j with
  |none =>
   by_cases hm:j∈eG ab h c1.heap
   ·rw[hb.new j hm]at hj;cases hj;exact⟨_,s4.trans (by rw[hb.new j hm];rfl)⟩
   have h':(c.take c1 ab h).heap[j]?=some bx:=(MI hx hb.nodup hm).trans hj;have du:=Hl (c:=c) (c1:=c1) hx hm;cases bx with
   |cells cs=>exact .inl ⟨cs,h',du,rfl⟩
   |arr g sz l=>exact .inl ⟨g,l,h',.inr ⟨rfl,rfl,du⟩⟩
   |map es=>exact .inl ⟨es,h',du⟩
   |gone=>exact h'
   |hole=>exact⟨_,h'⟩
  |some i =>
   have hi:=lA hx;have Vu:=hb.same j (aiQ hi);have h1:=hb.rel.boxes i _ (uH hi hj);have du:=MF (c:=c) (c1:=c1) (h:=h) hb.nodup hi;have pH:=uI (c:=c) hi;have fT:c1.heap[i]?=some .gone->(c.take c1 ab h).heap[j]?=some .gone:=fun h=>yL hb hi h;cases bx with
   |cells cs =>
    rcases h1 with⟨cs',h1,h2,h3⟩|h1
    ·exact .inl ⟨_,yL hb hi h1,du.trans (h2.trans pH),by simpa [qp]using h3⟩
    ·exact .inr (fT h1)
   |arr g ts l =>
    rcases h1 with⟨g',l',h1,h2⟩|h1
    ·have aA:oH h j=g:=by simp only[oH,ff,<- Vu,hj]
     have h3:=yL hb hi h1;simp only[nK,aA]at h3;refine .inl ⟨g+g',l',h3,?_⟩;rcases h2 with h2|⟨h2,h4,h5⟩
     ·left;omega
     ·exact .inr ⟨by omega,h4,du.trans (h5.trans pH)⟩
    ·exact .inr (fT h1)
   |map es =>
    rcases h1 with⟨ev,h1,h2⟩|h1
    ·exact .inl ⟨ev,yL hb hi h1,du.trans (h2.trans pH)⟩
    ·exact .inr (fT h1)
   |gone=>exact fT h1
   |hole=>obtain⟨b,h1⟩:=h1;exact⟨_,yL hb hi h1⟩
theorem aO.take(ho:aO G c)(A':aO G c1)(hb:mV c c1 ab h):aO G (c.take c1 ab h):=by
 refine ho.next (Dn ho hb) (fun j b n hj=>?_) (fun j j' b n m hj fh=>?_) (fun j bx hj=>?_)
 ·rcases yM hb hj with⟨i,rfl,h2,hi⟩|⟨-,-,h3⟩
  ·exact⟨(A'.bD i b n hi).1,aW (Dm hb (aiX h2))⟩
  ·exact⟨ahD (ho.bD j b n h3).1 hb.rel.size,by show j<(ig _ _ _).length;rw[MA];exact(ho.bD j b n h3).2⟩
 ·have MM:∀ j i n m,dI ab j=none->c.own j=some (b,n)->c1.own i=some (b,m)->False:=fun j i n m hx hj hi=>by
   refine A'.sep i b m hi ?_;rw[hb.rel.aD];exact .inr ⟨j,n,Hg hx hb.nodup,hj⟩
  rcases yM hb hj with⟨i,rfl,-,hi⟩|⟨hx,-,MN⟩
  ·rcases yM hb fh with⟨i',rfl,-,cu⟩|⟨dY,-,Hq⟩
   ·rw[A'.inj i i' b n m hi cu]
   ·exact(MM j' i m n dY Hq hi).elim
  ·rcases yM hb fh with⟨i',rfl,-,cu⟩|⟨dY,-,Hq⟩
   ·exact(MM j i' n m hx MN cu).elim
   ·exact ho.inj j j' b n m MN Hq
 ·cases hx:dI ab j with
  |none =>
   by_cases hm:j∈eG ab h c1.heap
   ·right;have Hn:=qs.1 hm;have hl:ab.length+(j-h.length)<c1.heap.length:=by omega
    have s5:ie ab h (ab.length+(j-h.length))=j:=by
     have:ab[ab.length+(j-h.length)]?=none:=aht oM;simp only[ie,ff,this];omega
    have h2:=Dm hb (aiX hl);rw[s5,hj]at h2;cases h2;have:=(A'.box _ _ (aiX hl)).take (g:=pG ab h (ab.length+(j-h.length))) ho hb hl
    rwa [s5]at this
   ·left;rw[MI hx hb.nodup hm]at hj;refine⟨hj,Hl hx hm,fun b n cB=>hb.rel.keep b (ho.bD j b n cB).1 (fun i m hi=>?_)⟩;obtain⟨k,hs,hk⟩:=Hp hi;have:=ho.inj j k b n m cB hk;subst this;rw[wD hb.nodup hs]at hx;cases hx
  |some i =>
   right;have hi:=lA hx;have hl:=hb.lt j (aiQ hi);obtain⟨b1,oI⟩:∃ b1,c1.heap[i]?=some b1:=by
    have oJ:c.heap[j]?=some h[j]:=(hb.same j (aiQ hi)).trans (aiX hl);have uK:=hb.rel.boxes i _ (uH hi oJ);generalize qp ab c.heap h[j]=bb at uK;cases bb with
    |cells cs=>rcases uK with⟨_,h,_⟩|h<;>exact⟨_,h⟩
    |arr g ts l=>rcases uK with⟨_,_,h,_⟩|h<;>exact⟨_,h⟩
    |map es=>rcases uK with⟨_,h,_⟩|h<;>exact⟨_,h⟩
    |gone=>exact⟨_,uK⟩
    |hole=>exact uK
   rw[yL hb hi oI]at hj;cases hj;have:=(A'.box i b1 oI).take (g:=oH h j) ho hb (aW oI)
   rwa [show ie ab h i=j by simp only[ie,ff,hi]]at this
theorem MO{H:List ae}(hs:∀ j∈ab,H[j]?=h[j]?)(x:AV):iN ab H x=iN ab h x:=by
 have e:∀ {j i:Nat},dI ab j=some i->eB H j=eB h j:=fun hi=>by rw[ff,ff];exact hs _ (aiQ (lA hi))
 cases x<;>simp only[iN];all_goals
  split
  ·rename_i hi;rw[e hi]
  ·rfl
theorem MP{H:List ae}(hs:∀ j∈ab,H[j]?=h[j]?)(x:AV):ic ab H x=ic ab h x:=by
 have e:iN ab H=iN ab h:=funext (MO hs);unfold ic;rw[e]
theorem Hr{H:List ae}(hs:∀ j∈ab,H[j]?=h[j]?):fk ab H=fk ab h:=by
 have e:iN ab H=iN ab h:=funext (MO hs);refine List.map_congr_left fun j hj=>?_;rw[ff,ff,hs j hj];split
 ·unfold qp;rw[e]
 ·rfl
theorem au.Vv{E:Env}{f:FuncId}{args:List AV}{Q:AV->List ae->Prop}(H:au E f (fk ab h) (args.map (ic ab h)) Q)(hn:ab.Nodup)(ai:∀ j∈ab,j<h.length)(hs:∀ j∈ab,c.heap[j]?=h[j]?)
  (hr:∀ r h1,Q r h1->h.length+(h1.length-ab.length)<=c.heap.length/\∀ j∈eG ab h h1,c.heap[j]?=some .hole) (ho:aO E.G c) {vs:List Value} (hv:VL c args vs) :
  Calls E.P f vs.toArray c.w fun e w'=>∃ (c':Cx) (r:AV) (h1:List ae) (v:Value),e=.returned v/\c'.w=w'/\Q r h1/\c'.heap=ig (ab++eG ab h h1) (fV ab h h1) c.heap/\VR c' (kl ab h r) v/\aO E.G c'/\Step c c':=by
 unfold au at H;have fu:=MD (ab:=ab) hv;rw[show ic ab c.heap=ic ab h from funext (MP hs)]at fu;refine(H.2.2 (c.fz ab) vs (Hr hs) (ho.fz hn) fu).mono fun e w' ⟨c1,r,v,k1,k2,k3,k4,k5,k6⟩=>?_;obtain⟨h1,h2⟩:=hr _ _ k3;have hb:mV c c1 ab h:=⟨hn,ai,h1,hs,h2,k6,fun i b n hi=>(k5.bD i b n hi).2⟩;exact⟨c.take c1 ab h,r,c1.heap,v,k1,k2,k3,rfl,Ho ho hb k4,ho.take k5 hb,Dn ho hb⟩
def Cx.pad(c:Cx)(k:Nat):Cx:={ c with heap:=c.heap++List.replicate k .hole }
theorem Dp{k i:Nat}{bx:ae}(hi:c.heap[i]?=some bx):(c.pad k).heap[i]?=some bx:=(ahT (aW hi)).trans hi
theorem Hs{k i:Nat}(h1:c.heap.length<=i)(h2:i<c.heap.length+k):(c.pad k).heap[i]?=some .hole:=by
 show(c.heap++_)[i]?=_;rw[aiH h1,List.getElem?_replicate,if_pos oM]
theorem Dq(ho:aO G c)(k:Nat):Step c (c.pad k):=⟨rfl,ho.bV,rfl,rfl,rfl,ahL _,fun _ _ _=>rfl,fun i b n h _=>⟨n,h⟩,fun i bx hi=>by
  have h':=Dp (k:=k) hi;cases bx with
  |cells cs=>exact .inl ⟨cs,h',rfl,rfl⟩
  |arr g sz l=>exact .inl ⟨g,l,h',.inr ⟨rfl,rfl,rfl⟩⟩
  |map es=>exact .inl ⟨es,h',rfl⟩
  |gone=>exact h'
  |hole=>exact⟨_,h'⟩⟩
theorem aO.pad(ho:aO G c)(k:Nat):aO G (c.pad k):=by
 refine ho.next (Dq ho k) (fun i b n hi=>⟨(ho.bD i b n hi).1,?_⟩) ho.inj fun i bx hi=>?_
 ·have:=(ho.bD i b n hi).2;show i<(c.heap++_).length;rw[ah5];omega
 ·rcases ahs i c.heap.length with hl|hl
  ·exact .inl ⟨by rw[<- hi,Dp (aiX hl)];exact aiX hl,rfl,fun _ _ _=>rfl⟩
  ·have h2:=aW hi;rw[show(c.pad k).heap.length=c.heap.length+k by simp[Cx.pad]]at h2;rw[Hs hl h2]at hi;cases hi;right;show c.own i=none;cases hx:c.own i with
   |none=>rfl
   |some p=>have:=(ho.bD i p.1 p.2 hx).2;omega
theorem au.at{E:Env}{f:FuncId}{args:List AV}{Q:AV->List ae->Prop}(H:au E f (fk ab h) (args.map (ic ab h)) Q)(hn:ab.Nodup)(ai:∀ j∈ab,j<h.length)(hh:c.heap=h)(ho:aO E.G c){vs:List Value}(hv:VL c args vs) :
  Calls E.P f vs.toArray c.w fun e w'=>∃ (c':Cx) (r:AV) (h1:List ae) (v:Value),e=.returned v/\c'.w=w'/\Q r h1/\c'.heap=fV ab h h1/\VR c' (kl ab h r) v/\aO E.G c'/\Step c c':=by
 subst hh;unfold au at H;refine(H.2.2 (c.fz ab) vs rfl (ho.fz hn) (MD hv)).mono fun e w' ⟨c1,r,v,k1,k2,k3,k4,k5,k6⟩=>?_;have hs:∀ j∈ab,(c.pad (c1.heap.length-ab.length)).heap[j]?=c.heap[j]? := fun j hj=>ahT (ai j hj);have hg:(c.pad (c1.heap.length-ab.length)).fz ab=c.fz ab:=by
  simp only[Cx.fz,Hr hs];rfl
 have hb:mV (c.pad (c1.heap.length-ab.length)) c1 ab c.heap:=⟨hn,ai,by simp[Cx.pad],hs,fun j hj=>have hj:=qs.1 hj;Hs hj.1 hj.2,by rw[hg];exact k6,fun i b n hi=>(k5.bD i b n hi).2⟩;have Ba:=ho.pad (c1.heap.length-ab.length);refine⟨(c.pad (c1.heap.length-ab.length)).take c1 ab c.heap,r,c1.heap,v,k1,k2,k3,?_,Ho Ba hb k4,Ba.take k5 hb,(Dq ho _).trans (Dn Ba hb)⟩;refine List.ext_getElem? fun j=>?_;show(ig _ _ _)[j]?=_;by_cases hm:j∈ab++eG ab c.heap c1.heap
 ·have hl:j<c.heap.length+(c1.heap.length-ab.length):=(aif.1 hm).elim (fun h=>by have:=ai j h;omega) fun h=>(qs.1 h).2;obtain⟨b,hr⟩:∃ b,(fV ab c.heap c1.heap)[j]?=some b:=⟨_,aiX (by rw[uG];exact hl)⟩;rw[A3 hm (by show j<(c.heap++_).length;rw[ah5,aiR];exact hl) hr,hr]
 ·rw[rv hm];have iY:dI ab j=none:=by
   cases hx:dI ab j with
   |none=>rfl
   |some i=>exact absurd (ajL _ (aiQ (lA hx))) hm
  rcases ahs j c.heap.length with hl|hl
  ·rw[Hi hl iY,Dp (aiX hl),aiX hl]
  ·have:¬ j<c.heap.length+(c1.heap.length-ab.length):=fun h=>hm (ajM _ (qs.2 ⟨hl,h⟩));rw[aht (by show(c.heap++_).length<=j;rw[ah5,aiR];omega),aht (by rw[uG];omega)]
end
end Go.az
end
section
namespace Go.az
open Go Go.RowKit
universe u
section Ge
variable {α:Sort u} {β γ:Type}
def kP(f:β->(γ->α)->α):List β->(List γ->α)->α
 |[],k=>k []
 |a::l,k=>f a fun b=>kP f l fun l'=>k (b::l')
theorem ry{f:β->(γ->α)->α}{g:β->γ}(h:∀ x k,f x k=k (g x)):∀ (l:List β) (k:List γ->α),kP f l k=k (l.map g)
 |[],_=>rfl
 |a::l,k=>by simp only[kP,h,ry h l,ahx]
def uL:List β->List β->(List β->α)->α
 |[],m,k=>k m
 |a::l,m,k=>uL l m fun l'=>k (a::l')
theorem yN:∀ (l m:List β) (k:List β->α),uL l m k=k (l++m)
 |[],_,_=>rfl
 |a::l,m,k=>by simp only[uL,yN l,List.cons_append]
def qu:List β->Nat->(Nat->α)->α
 |[],n,k=>k n
 |_::l,n,k=>qu l (n+1) k
theorem wE:∀ (l:List β) (n:Nat) (k:Nat->α),qu l n k=k (n+l.length)
 |[],_,_=>rfl
 |_::l,n,k=>by rw[qu,wE l,List.length_cons];congr 1;omega
def s6:List Nat->Nat->Nat->α->(Nat->α)->α
 |[],_,_,no,_=>no
 |a::l,j,n,no,k=>match ahv a j with
  |true=>k n
  |false=>s6 l j (n+1) no k
theorem Ht:∀ (l:List Nat) (j n:Nat) (no:α) (k:Nat->α),s6 l j n no k=match dI l j with
  |some i=>k (n+i)
  |none=>no
 |[],_,_,_,_=>rfl
 |a::l,j,n,no,k=>by
  simp only[s6,dI];cases ahv a j with
  |true=>rfl
  |false =>
   rw[Ht l];cases dI l j with
   |none=>rfl
   |some i=>simp only[air];congr 1;omega
theorem yO{l:List β}{i:Nat}{no:α}{k:β->α}:bh l i no k=match eB l i with
  |some x=>k x
  |none=>no:=by
 rw[ff];cases h:l[i]? with
 |none=>exact Ly h no k
 |some x=>exact CW h no k
def uM(ab:List Nat)(h:List ae)(x:AV)(k:AV->α):α :=
 match x with
 | .own j g=>s6 ab j 0 (k .any) fun i=>bh h j (k .any) fun
  | .arr g' _ _=>match ahv g g' with
   |true=>k (.own i 0)
   |false=>k .any
  |_=>k .any
 | .ptr j off=>s6 ab j 0 (k .any) fun i=>bh h j (k .any) fun
  | .cells _=>k (.ptr i off)
  |_=>k .any
 | .dv j g n off=>s6 ab j 0 (k .any) fun i=>bh h j (k .any) fun
  | .arr g' _ _=>match ahv g g' with
   |true=>k (.dv i 0 n off)
   |false=>k .any
  |_=>k .any
 | .cut j g n q=>s6 ab j 0 (k .any) fun i=>bh h j (k .any) fun
  | .arr g' _ _=>match ahv g g' with
   |true=>k (.cut i 0 n q)
   |false=>k .any
  |_=>k .any
 | .map j=>s6 ab j 0 (k .any) fun i=>bh h j (k .any) fun
  | .map _=>k (.map i)
  |_=>k .any
 | .d x=>k (.d x)
 | .bT e off=>k (.bT e off)
 |_=>k .any
theorem Hu(ab:List Nat)(h:List ae)(x:AV)(k:AV->α):uM ab h x k=k (iN ab h x):=by
 unfold uM iN;simp only[Ht,yO,ahB];cases x with
 |own j g =>
  dsimp only;generalize dI ab j=a;generalize eB h j=o;cases a with
  |none=>rfl
  |some i=>cases o with
   |none=>rfl
   |some b=>cases b with
    |arr g' _ _=>dsimp only;cases ahv g g'<;>rfl
    |_=>rfl
 |ptr j off =>
  dsimp only;generalize dI ab j=a;generalize eB h j=o;cases a with
  |none=>rfl
  |some i=>cases o with
   |none=>rfl
   |some b=>cases b<;>rfl
 |cut j g n q =>
  dsimp only;generalize dI ab j=a;generalize eB h j=o;cases a with
  |none=>rfl
  |some i=>cases o with
   |none=>rfl
   |some b=>cases b with
    |arr g' _ _=>dsimp only;cases ahv g g'<;>rfl
    |_=>rfl
 |dv j g n off =>
  dsimp only;generalize dI ab j=a;generalize eB h j=o;cases a with
  |none=>rfl
  |some i=>cases o with
   |none=>rfl
   |some b=>cases b with
    |arr g' _ _=>dsimp only;cases ahv g g'<;>rfl
    |_=>rfl
 |map j =>
  dsimp only;generalize dI ab j=a;generalize eB h j=o;cases a with
  |none=>rfl
  |some i=>cases o with
   |none=>rfl
   |some b=>cases b<;>rfl
 |_=>rfl
def Bb(ab:List Nat)(h:List ae)(x:AV)(k:AV->α):α :=
 match x with
 | .agg l=>kP (uM ab h) l fun l'=>k (.agg l')
 | .aG l=>kP (uM ab h) l fun l'=>k (.aG l')
 | .fn f a b=>kP (uM ab h) a fun a'=>kP (uM ab h) b fun b'=>k (.fn f a' b')
 |x=>uM ab h x k
theorem Hv(ab:List Nat)(h:List ae)(x:AV)(k:AV->α):Bb ab h x k=k (ic ab h x):=by
 unfold Bb ic;cases x<;>simp only[ry (Hu ab h),Hu]
def Hw(ab:List Nat)(h:List ae)(b:ae)(k:ae->α):α :=
 match b with
 | .arr _ ts l=>k (.arr 0 ts l)
 | .cells cs=>kP (uM ab h) cs fun cs'=>k (.cells cs')
 | .map es=>k (.map es)
 | .gone=>k .gone
 | .hole=>k .hole
theorem Vw(ab:List Nat)(h:List ae)(b:ae)(k:ae->α):Hw ab h b k=k (qp ab h b):=by
 unfold Hw qp;cases b<;>simp only[ry (Hu ab h)]
def Hy(ab:List Nat)(h:List ae)(j:Nat)(k:ae->α):α:=bh h j (k .gone) fun b=>Hw ab h b k
theorem Vx(ab:List Nat)(h:List ae)(j:Nat)(k:ae->α):Hy ab h j k=k (match eB h j with|some b=>qp ab h b|none => .gone):=by
 unfold Hy;rw[yO];generalize eB h j=o;cases o with
 |none=>rfl
 |some b=>exact Vw ab h b k
def Bc(ab:List Nat)(h:List ae)(k:List ae->α):α:=kP (Hy ab h) ab k
theorem Hz(ab:List Nat)(h:List ae)(k:List ae->α):Bc ab h k=k (fk ab h):=by
 unfold Bc fk;rw[ry (Vx ab h)];all_goals rfl
def wF(ab:List Nat)(h:List ae)(i:Nat)(k:Nat->α):α:=bh ab i (qu h 0 fun n=>qu ab 0 fun m=>k (n+(i-m))) k
theorem Vy(ab:List Nat)(h:List ae)(i:Nat)(k:Nat->α):wF ab h i k=k (ie ab h i):=by
 unfold wF ie;rw[yO];simp only[wE,ahB];generalize eB ab i=o;cases o<;>rfl
def Dr(h:List ae)(j:Nat)(k:Nat->α):α:=bh h j (k 0) fun
 | .arr g _ _=>k g
 |_=>k 0
theorem MQ(h:List ae)(j:Nat)(k:Nat->α):Dr h j k=k (oH h j):=by
 unfold Dr oH;rw[yO];generalize eB h j=o;cases o with
 |none=>rfl
 |some b=>cases b<;>rfl
def Bd(ab:List Nat)(h:List ae)(i:Nat)(k:Nat->α):α:=bh ab i (k 0) fun j=>Dr h j k
theorem Vz(ab:List Nat)(h:List ae)(i:Nat)(k:Nat->α):Bd ab h i k=k (pG ab h i):=by
 unfold Bd pG;rw[yO];generalize eB ab i=o;cases o with
 |none=>rfl
 |some b=>exact MQ h b k
def uN(ab:List Nat)(h:List ae)(x:AV)(k:AV->α):α :=
 match x with
 | .own i g=>wF ab h i fun j=>Bd ab h i fun g0=>k (.own j (g0+g))
 | .ptr i off=>wF ab h i fun j=>k (.ptr j off)
 | .dv i g n off=>wF ab h i fun j=>Bd ab h i fun g0=>k (.dv j (g0+g) n off)
 | .cut i g n q=>wF ab h i fun j=>Bd ab h i fun g0=>k (.cut j (g0+g) n q)
 | .map i=>wF ab h i fun j=>k (.map j)
 | .d x=>k (.d x)
 | .bT e off=>k (.bT e off)
 |_=>k .any
theorem HA(ab:List Nat)(h:List ae)(x:AV)(k:AV->α):uN ab h x k=k (mg ab h x):=by
 unfold uN mg;cases x<;>simp only[Vy,Vz]
def Ds(ab:List Nat)(h:List ae)(x:AV)(k:AV->α):α :=
 match x with
 | .agg l=>kP (uN ab h) l fun l'=>k (.agg l')
 | .aG l=>kP (uN ab h) l fun l'=>k (.aG l')
 | .fn f a b=>kP (uN ab h) a fun a'=>kP (uN ab h) b fun b'=>k (.fn f a' b')
 |x=>uN ab h x k
theorem MR(ab:List Nat)(h:List ae)(x:AV)(k:AV->α):Ds ab h x k=k (yJ ab h x):=by
 unfold Ds yJ;cases x<;>simp only[ry (HA ab h),HA]
def gK(ab:List Nat)(h:List ae)(x:AV)(k:AV->α):α :=
 match x with
 | .aG l=>kP (Ds ab h) l fun l'=>k (.aG l')
 |x=>Ds ab h x k
theorem oK(ab:List Nat)(h:List ae)(x:AV)(k:AV->α):gK ab h x k=k (kl ab h x):=by
 unfold gK kl;cases x<;>simp only[ry (MR ab h),MR]
def Dt(ab:List Nat)(h:List ae)(g0:Nat)(b:ae)(k:ae->α):α :=
 match b with
 | .arr g ts l=>k (.arr (g0+g) ts l)
 | .cells cs=>kP (uN ab h) cs fun cs'=>k (.cells cs')
 | .map es=>k (.map es)
 | .gone=>k .gone
 | .hole=>k .hole
theorem MS(ab:List Nat)(h:List ae)(g0:Nat)(b:ae)(k:ae->α):Dt ab h g0 b k=k (nK ab h g0 b):=by
 unfold Dt nK;cases b<;>simp only[ry (HA ab h)]
def yP(ab:List Nat)(h h1:List ae):Nat->List ae->(List ae->α)->α
 |_,[],k=>k []
 |j,b::r,k=>s6 ab j 0 (yP ab h h1 (j+1) r fun r'=>k (b::r')) fun i=>bh h1 i (yP ab h h1 (j+1) r fun r'=>k (.gone::r')) fun b1=>Dr h j fun g=>Dt ab h g b1 fun b2=>yP ab h h1 (j+1) r fun r'=>k (b2::r')
theorem MT(ab:List Nat)(h h1:List ae):∀ (j:Nat) (r:List ae) (k:List ae->α),yP ab h h1 j r k=k (ru ab h h1 j r)
 |_,[],_=>rfl
 |j,b::r,k=>by
  simp only[yP,Ht,yO,MQ,MS,MT ab h h1 (j+1) r,ahB,ru];generalize dI ab j=a;cases a with
  |none=>rfl
  |some i =>
   dsimp only;generalize eB h1 i=o;cases o<;>rfl
def kQ(ab:List Nat)(h h1:List ae)(k:List ae->α):α:=yP ab h h1 0 h fun a=>qu ab 0 fun n=>vU n h1 fun h2=>kP (Dt ab h 0) h2 fun b=>uL a b k
theorem s7(ab:List Nat)(h h1:List ae)(k:List ae->α):kQ ab h h1 k=k (fV ab h h1):=by
 unfold kQ fV;simp only[MT,wE,ahB,Gf,ry (MS ab h 0),yN]
def wG(d:Nat):List Nat->Bool
 |[]=>false
 |a::l=>match ahv a d with
  |true=>true
  |false=>wG d l
def wH(j:Nat)(ab:List Nat)(k:List Nat->α):α:=match wG j ab with
 |true=>k ab
 |false=>uL ab [j] k
def Du(h:List ae)(x:AV)(ab:List Nat)(k:List Nat->α):α :=
 match x with
 | .own j g=>bh h j (k ab) fun
  | .arr g' _ _=>match ahv g g' with
   |true=>wH j ab k
   |false=>k ab
  |_=>k ab
 | .ptr j _=>bh h j (k ab) fun
  | .cells _=>wH j ab k
  |_=>k ab
 | .dv j g _ _=>bh h j (k ab) fun
  | .arr g' _ _=>match ahv g g' with
   |true=>wH j ab k
   |false=>k ab
  |_=>k ab
 | .cut j g _ _=>bh h j (k ab) fun
  | .arr g' _ _=>match ahv g g' with
   |true=>wH j ab k
   |false=>k ab
  |_=>k ab
 | .map j=>bh h j (k ab) fun
  | .map _=>wH j ab k
  |_=>k ab
 |_=>k ab
def uO(h:List ae):List AV->List Nat->(List Nat->α)->α
 |[],ab,k=>k ab
 |x::l,ab,k=>Du h x ab fun oL=>uO h l oL k
def s8(h:List ae):List AV->List Nat->(List Nat->α)->α
 |[],ab,k=>k ab
 |x::l,ab,k=>match x with
  | .agg c=>uO h c ab fun oL=>s8 h l oL k
  | .aG c=>uO h c ab fun oL=>s8 h l oL k
  | .fn _ a b=>uO h a ab fun oL=>uO h b oL fun VA=>s8 h l VA k
  |x=>Du h x ab fun oL=>s8 h l oL k
def uP(h:List ae):Nat->Nat->List Nat->(List Nat->α)->α
 |0,_,ab,k=>k ab
 |n+1,p,ab,k=>bh ab p (k ab) fun j=>bh h j (uP h n (p+1) ab k) fun
  | .cells cs=>uO h cs ab fun oL=>uP h n (p+1) oL k
  |_=>uP h n (p+1) ab k
def yQ(n:Nat):List Nat->Bool
 |[]=>true
 |j::l=>match wG j l,ahw j n with
  |false,true=>yQ n l
  |_,_=>false
end Ge
theorem Dv{d:Nat}:∀ {l:List Nat},wG d l=true↔d∈l
 |[]=>by simp[wG]
 |a::l=>by
  simp only[wG];split
  ·rename_i q;simp[ahu q]
  ·rename_i q;have aL:d≠a:=fun e=>by rw[e,Nat.beq_refl]at q;cases q
   rw[Dv (l:=l)];simp[aL]
theorem Dw{n:Nat}:∀ {l:List Nat},yQ n l=true->l.Nodup/\∀ j∈l,j<n
 |[],_=>⟨.nil,fun j hj=>by simp at hj⟩
 |j::l,H=>by
  simp only[yQ]at H;split at H
  ·rename_i q1 q2;obtain⟨h1,h2⟩:=Dw H;refine⟨ajK.2 ⟨fun hm=>?_,h1⟩,fun i hi=>?_⟩
   ·rw[Dv.2 hm]at q1;cases q1
   ·rcases ai3.1 hi with rfl|hi
    ·exact ahA q2
    ·exact h2 i hi
  ·cases H
@[irreducible] def yR (E : Env) (f : FuncId) (h0 : List ae) (args : List AV) (K : AV -> List ae -> Prop) : Prop := ∃ Q, au E f h0 args Q /\ ∀ r h1, Q r h1 -> K r h1
theorem lB{E:Env}{f:FuncId}{h0:List ae}{args:List AV}{K Q:AV->List ae->Prop}(H:au E f h0 args Q)(hk:∀ r h1,Q r h1->K r h1):yR E f h0 args K:=by unfold yR;exact⟨Q,H,hk⟩
theorem aX{E:Env}{f:FuncId}{h0:List ae}{args:List AV}{K:AV->List ae->Prop}{r:AV}{h1:List ae}(H:au E f h0 args (fun a b=>a=r/\b=h1))(hk:K r h1):yR E f h0 args K:=lB H fun _ _ ⟨e1,e2⟩=>by subst e1;subst e2;exact hk
def Dx(E:Env)(f:FuncId)(jr:List AV)(h:List ae)(stop:Prop)(k:AV->List ae->Prop):Prop :=
 s8 h jr [] fun Be=>uP h 20 0 Be fun ab=>qu h 0 fun n=>match yQ n ab with
  |true=>Bc ab h fun h0=>kP (Bb ab h) jr fun HB=>yR E f h0 HB fun r h1=>gK ab h r fun v=>kQ ab h h1 fun h'=>k v h'
  |false=>stop
theorem MU{h:List ae}{x:AV}{ab:List Nat}{k:List Nat->Prop}(H:Du h x ab k):∃ l,k l:=by
 have Dy:∀ {j:Nat},wH j ab k->∃ l,k l:=fun{j} H=>by
  unfold wH at H;split at H
  ·exact⟨_,H⟩
  ·rw[yN]at H;exact⟨_,H⟩
 unfold Du at H;split at H;all_goals first
  |exact⟨_,H⟩
  |(rcases bu H with H|⟨_, _, H⟩
    · exact⟨_, H⟩
    split at H
    · first
      |exact Dy H
      |(split at H
        · exact Dy H
        · exact⟨_, H⟩)
    · exact⟨_, H⟩)
theorem yS{h:List ae}:∀ {l:List AV} {ab:List Nat} {k:List Nat->Prop},uO h l ab k->∃ l,k l
 |[],_,_,H=>⟨_,H⟩
 |_::_,_,_,H=>by
  simp only[uO]at H;obtain⟨_,H⟩:=MU H;exact yS H
theorem wI{h:List ae}:∀ {l:List AV} {ab:List Nat} {k:List Nat->Prop},s8 h l ab k->∃ l,k l
 |[],_,_,H=>⟨_,H⟩
 |x::_,_,_,H=>by
  simp only[s8]at H;split at H
  ·obtain⟨_,H⟩:=yS H;exact wI H
  ·obtain⟨_,H⟩:=yS H;exact wI H
  ·obtain⟨_,H⟩:=yS H;obtain⟨_,H⟩:=yS H;exact wI H
  ·obtain⟨_,H⟩:=MU H;exact wI H
theorem yT{h:List ae}:∀ {n p:Nat} {ab:List Nat} {k:List Nat->Prop},uP h n p ab k->∃ l,k l
 |0,_,_,_,H=>⟨_,H⟩
 |n+1,p,ab,k,H=>by
  simp only[uP]at H;rcases bu H with H|⟨j,_,H⟩
  ·exact⟨_,H⟩
  rcases bu H with H|⟨b,_,H⟩
  ·exact yT H
  split at H
  ·obtain⟨_,H⟩:=yS H;exact yT H
  ·exact yT H
theorem VB{E:Env}{f:FuncId}{jr:List AV}{h:List ae}{stop:Prop}{k:AV->List ae->Prop}(H:Dx E f jr h stop k):stop\/∃ (ab:List Nat) (Q:AV->List ae->Prop),
  au E f (fk ab h) (jr.map (ic ab h)) Q/\ab.Nodup/\(∀ j∈ab,j<h.length)/\∀ r h1,Q r h1->k (kl ab h r) (fV ab h h1):=by
 unfold Dx at H;obtain⟨s0,H⟩:=wI H;obtain⟨ab,H⟩:=yT H;rw[wE,ahB]at H;split at H
 ·rename_i q;obtain⟨h1,h2⟩:=Dw q;rw[Hz,ry (Hv ab h)]at H;unfold yR at H;obtain⟨Q,h3,h4⟩:=H;refine .inr ⟨ab,Q,h3,h1,h2,fun r h1 hq=>?_⟩;have:=h4 r h1 hq;dsimp only at this;rw[oK,s7]at this;exact this
 ·exact .inl H
section
variable {E:Env} {f0:FuncId} {aj:ke} {k:List aY} {s:List AV} {cls:List cn} {h:List ae} {R:cT}
theorem AW.MV{ops:Array Oper}{o:Oper}{l:List Oper}{fx:Operand}{args:Array Operand}{ts:Array TypeId}{f:FuncId}{a1 a2 av:List AV}{ab:List Nat}{Q:AV->List ae->Prop}(hw:jm ops o s true)(ho:o.op=.call { callee := .value fx,args:=args,argTypes:=ts })
  (hf:bk E.G s fx (.fn (.func f) a1 a2)) (ha:kK E.G s args.toList av) (hc:au E f (fk ab h) ((a1++av++a2).map (ic ab h)) Q) (hn:ab.Nodup) (ai:∀ j∈ab,j<h.length)
  (H:∀ r h1,Q r h1->AW E f0 ⟨aj,.bF ops l::k,cg s o.dst (kl ab h r)⟩ cls (fV ab h h1) R):AW E f0 ⟨aj,.bF ops (o::l)::k,s⟩ cls h R:=by
 unfold AW at H ⊢;intro c0 c t ts h0 h1 h2 h3 hr bz h4 h5 cs;obtain⟨i,hi,dG,aV⟩:=oB (h1 _ (List.mem_cons_self ..));obtain⟨v1,v2,e1,e2,e3⟩:=mP (hf c ⟨t,marks aj.aS⟩ h3 h4);have e4:=ha c ⟨t,marks aj.aS⟩ h3 h4;have e5:=(e2.append e4).append e3;have hb:mc E.P f:=by unfold au at hc;exact hc.1
 obtain⟨e,w',fr,⟨c',r,hp,v,rfl,rfl,hQ,Dz,hv,du,bc⟩,GJ,GK,GL⟩:=hc.at (c:=c) hn ai h2 h3 e5 ((bf aj).atR ⟨t,marks aj.aS⟩ (.inRegion ops (i::(ais ops.size).drop (ops.size-l.length))::k.map aY.bO)::(fG cls ts++cs));have jo:VS c' (cg s o.dst (kl ab h r)) ((⟨t,marks aj.aS⟩:Act).put o.dst v).tmps:=VS.cg (a:=⟨t,marks aj.aS⟩) (bc.vs h4) o.dst hv;obtain⟨c2,wq,r2,u2,q1,q2,q3,wu,q4,q5,q6⟩:=H r hp hQ c0 c' _ ts h0 (iM aV (eV h1)) Dz du (hr.step bc) (bz.step h3 bc) jo (bc.cr h5) cs;refine⟨c2,wq,r2,u2,q1,q2,q3,wu,?_,q5,q6⟩;have cL:=AA (P:=E.P) (w:=c.w) (a:=⟨t,marks aj.aS⟩) ho e1 hb;have kg:(v1.toArray++args.map (⟨t,marks aj.aS⟩:Act).eval++v2.toArray)=(v1++args.toList.map (⟨t,marks aj.aS⟩:Act).eval++v2).toArray:=by
  apply Array.ext';simp
 rw[kg]at cL;have s1:=GI (P:=E.P) (b:=bf aj) (k:=k.map aY.bO) (cs:=fG cls ts++cs) (rest:=(ais ops.size).drop (ops.size-l.length)) hi (hw c t h4) cL;have s2:=step_leave_returned (c:=(bf aj).atR ⟨t,marks aj.aS⟩ (.inRegion ops (i::(ais ops.size).drop (ops.size-l.length))::k.map aY.bO)) (cs:=fG cls ts++cs) GL;rw[Frame.finish_atR,hi]at s2;have GM:(⟨aj,.bF ops (o::l)::k,s⟩:cn).bO t=(bf aj).atR ⟨t,marks aj.aS⟩ (.inRegion ops (i::(ais ops.size).drop (ops.size-l.length))::k.map aY.bO):=by
  simp only[cn.bO,ahx,dG]
 rw[GM];refine .head s1 (Steps.trans GJ (.head s2 ?_));have aJ:(bf aj).atR ((⟨t,marks aj.aS⟩:Act).put ((some o).bind (·.dst)) v) (.inRegion ops ((ais ops.size).drop (ops.size-l.length))::k.map aY.bO)=(⟨aj,.bF ops l::k,cg s o.dst (kl ab h r)⟩:cn).bO ((⟨t,marks aj.aS⟩:Act).put o.dst v).tmps:=by
  simp only[cn.bO,ahx,aY.bO,Option.bind_some];rw[put_defers]
 rw[aJ];exact q4
end
end Go.az
end
section
namespace Go.az
open Go Go.RowKit
@[irreducible] def mh (b : Bool) (A B : Prop) : Prop := (b = true -> A) /\ (b = false -> B)
theorem ah{b:Bool}{A B:Prop}(h1:b=true->A)(h2:b=false->B):mh b A B:=by unfold mh;exact⟨h1,h2⟩
theorem aZ{A B:Prop}(h:A):mh true A B:=ah (fun _=>h) (fun h=>by cases h)
theorem aU{A B:Prop}(h:B):mh false A B:=ah (fun h=>by cases h) (fun _=>h)
theorem aN{b:Bool}{A B:Prop}(hb:b=true)(h:A):mh b A B:=by subst hb;exact aZ h
theorem aP{b:Bool}{A B:Prop}(hb:b=false)(h:B):mh b A B:=by subst hb;exact aU h
theorem HC{b:Bool}{A B C:Prop}(h:mh b A B)(h1:b=true->A->C)(h2:b=false->B->C):C:=by
 unfold mh at h;cases hb:b
 ·exact h2 hb (h.2 hb)
 ·exact h1 hb (h.1 hb)
@[irreducible] def s9 (E : Env) (f : FuncId) (ds : List DV) (h : List ae) (K : AV -> List ae -> Prop) : Prop :=
 (∃ R1,aq E f ds R1/\∀ r,R1 r->K (.d r) h)\/∃ Q,au E f [] (ds.map .d) Q/\∀ r h1,Q r h1->K (kl [] h r) (fV [] h h1)
theorem ta{E:Env}{f:FuncId}{ds:List DV}{h:List ae}{K:AV->List ae->Prop}{R1:DV->Prop}(hc:aq E f ds R1)(hk:∀ r,R1 r->K (.d r) h):s9 E f ds h K:=by unfold s9;exact .inl ⟨R1,hc,hk⟩
theorem ao{E:Env}{f:FuncId}{ds:List DV}{h:List ae}{K:AV->List ae->Prop}{r:DV}(hc:aq E f ds (· = r))(hk:K (.d r) h):s9 E f ds h K:=ta hc fun _ e=>e ▸ hk
theorem MW{E:Env}{f:FuncId}{ds:List DV}{h:List ae}{K:AV->List ae->Prop}{Q:AV->List ae->Prop}(hc:au E f [] (ds.map .d) Q)(hk:∀ r h1,Q r h1->gK [] h r fun v=>kQ [] h h1 fun h'=>K v h'):s9 E f ds h K:=by
 unfold s9;refine .inr ⟨Q,hc,fun r h1 hq=>?_⟩;have:=hk r h1 hq;rw[oK,s7]at this;exact this
theorem lC{E:Env}{f:FuncId}{ds:List DV}{h:List ae}{K:AV->List ae->Prop}{r:AV}{h1:List ae}{args:List AV}(hc:au E f [] args (fun a b=>a=r/\b=h1))(ha:args=ds.map .d)(hk:gK [] h r fun v=>kQ [] h h1 fun h'=>K v h'):s9 E f ds h K :=
 MW (ha ▸ hc) fun _ _ ⟨e1,e2⟩=>by subst e1;subst e2;exact hk
def lD(d:Nat):List Nat->Bool
 |[]=>false
 |a::l=>match ahv a d with
  |true=>true
  |false=>lD d l
def Bf(G:List (Nat × DV))(s:List AV)(o:Oper)(stop:Prop)(k:FuncId->List AV->Prop):Prop :=
 match o.op with
 | .call { callee := .value fx,args:=args,.. }=>cG G s fx stop fun
  | .fn (.func f) a1 a2=>vW G s args.toList stop fun av=>uL a1 av fun a3=>uL a3 a2 fun a4=>k f a4
  | .d (.fn (.func f))=>vW G s args.toList stop fun av=>k f av
  |_=>stop
 |_=>stop
def HF(inl:List FuncId)(E:Env)(s:List AV)(h:List ae)(o:Oper)(stop:Prop)(k:AV->List ae->Prop):Prop :=
 Bf E.G s o stop fun f jr=>match lD f inl with
  |true=>stop
  |false=>sE jr (Dx E f jr h stop k) fun ds=>s9 E f ds h k
theorem MX{G:List (Nat × DV)}{s:List AV}{o:Oper}{stop:Prop}{k:FuncId->List AV->Prop}(H:Bf G s o stop k):stop\/∃ (fx:Operand) (args:Array Operand) (ts:Array TypeId) (f:FuncId) (a1 av a2:List AV),
  o.op=.call { callee := .value fx,args:=args,argTypes:=ts }/\bk G s fx (.fn (.func f) a1 a2)/\kK G s args.toList av/\k f (a1++av++a2):=by
 unfold Bf at H;split at H
 ·rename_i fx args ts cH;rcases cO H with H|⟨v,hv,H⟩
  ·exact .inl H
  split at H
  ·rename_i f a1 a2;rcases Aq H with H|⟨av,pI,H⟩
   ·exact .inl H
   rw[yN,yN]at H;exact .inr ⟨fx,args,ts,f,a1,av,a2,cH,hv,pI,H⟩
  ·rename_i f;rcases Aq H with H|⟨av,pI,H⟩
   ·exact .inl H
   refine .inr ⟨fx,args,ts,f,[],av,[],cH,fun c a h1 h2=>?_,pI,zD H⟩;have:=hv c a h1 h2;generalize a.eval fx=u at this;cases this with
   |d _ _ hx =>
    cases hx;exact .fn _ _ _ _ _ rfl rfl (fun j x v hx=>by simp at hx) (fun j x v hx=>by simp at hx)
  ·exact .inl H
 ·exact .inl H
def DA(ops:Array Oper)(g:Option (Nat × Bool))(no stop:Prop)(k:Nat->Bool->Prop):Prop :=
 match g with
 |none=>no
 |some (j,b)=>bh ops.toList j stop fun o=>match o.dst with
  |some d=>k d b
  |none=>stop
def MY:Bool->Bool->Bool
 |true,true=>true
 |false,false=>true
 |_,_=>false
def Bg(id:Nat):List aY->(stop:Prop)->(List aY->Prop)->Prop
 | .inBlock i::r,stop,k=>match ahv i id with
  |true=>k r
  |false=>Bg id r stop k
 |_::r,stop,k=>Bg id r stop k
 |[],stop,_=>stop
theorem wJ{id:Nat}{stop:Prop}{k:List aY->Prop}:∀ {l:List aY},Bg id l stop k->stop\/∃ r,oA id l=some r/\k r
 |[],H => .inl H
 | .inBlock i::l,H=>by
  simp only[Bg]at H;split at H
  ·rename_i q;exact .inr ⟨l,by simp only[oA,q],H⟩
  ·rename_i q;rcases wJ H with h|⟨r,hr,h⟩
   ·exact .inl h
   ·exact .inr ⟨r,by simp only[oA,q];exact hr,h⟩
 | .code c::l,H=>wJ (l:=l) H
 | .inLoop c::l,H=>wJ (l:=l) H
 | .rj c::l,H=>wJ (l:=l) H
 | .sK::l,H=>wJ (l:=l) H
 | .bF ops q::l,H=>wJ (l:=l) H
@[irreducible] def I (E : Env) (aj : FuncId) (R : cT) (VC : List Nat) (td : List aY) (s : List AV) (h : List ae) : Prop := AW E R.fx.f0 ⟨⟨aj, R.fx.cI, R.fx.aS⟩, td, s⟩ R.fx.cls h R
theorem I.of{E:Env}{aj:FuncId}{R:cT}{lits:List Nat}{td:List aY}{s:List AV}{h:List ae}(H:AW E R.fx.f0 ⟨⟨aj,R.fx.cI,R.fx.aS⟩,td,s⟩ R.fx.cls h R):I E aj R lits td s h:=by unfold I;exact H
theorem I.to{E:Env}{aj:FuncId}{R:cT}{lits:List Nat}{td:List aY}{s:List AV}{h:List ae}(H:I E aj R lits td s h):AW E R.fx.f0 ⟨⟨aj,R.fx.cI,R.fx.aS⟩,td,s⟩ R.fx.cls h R:=by unfold I at H;exact H
def Bh(aj:FuncId)(x:FX):Bool:=match x.cI,x.aS,x.cls with
 |none,[],[]=>ahv x.f0 aj
 |_,_,_=>false
theorem VE{aj:FuncId}{x:FX}(h:Bh aj x=true):x.cI=none/\x.aS=[]/\x.cls=[]/\x.f0=aj:=by
 unfold Bh at h;split at h
 ·rename_i a b c;exact⟨a,b,c,ahu h⟩
 ·cases h
def runK(E:Env)(aj:FuncId)(rs:List ResultVar)(R:cT):Nat->List Nat->List aY->List AV->List ae->Prop
 |0,lits,td,s,h=>I E aj R lits td s h
 |n+1,lits,td,s,h =>
  match td with
  |[]=>match Bh aj R.fx with
   |true=>pz E.T s h rs (I E aj R lits td s h) R.Q
   |false=>I E aj R lits td s h
  | .inBlock _::r=>runK E aj rs R n lits r s h
  | .inLoop _::_=>I E aj R lits td s h
  | .rj _::_=>I E aj R lits td s h
  | .sK::_=>I E aj R lits td s h
  | .code c::r=>match c with
   | .skip=>runK E aj rs R n lits r s h
   | .seq a b=>runK E aj rs R n lits (.code a :: .code b::r) s h
   | .block id b=>runK E aj rs R n lits (.code b :: .inBlock id::r) s h
   | .exit id=>Bg id r (I E aj R lits td s h) fun r'=>runK E aj rs R n lits r' s h
   | .region _ ops false=>runK E aj rs R n lits (.bF ops ops.toList::r) s h
   | .ret=>match Bh aj R.fx with
    |true=>pz E.T s h rs (I E aj R lits td s h) R.Q
    |false=>I E aj R lits td s h
   | .cond x a b=>cG E.G s x (I E aj R lits td s h) fun
    | .d (.bool t)=>mh t (I E aj R lits (.code a::r) s h) (I E aj R lits (.code b::r) s h)
    |_=>I E aj R lits td s h
   |_=>I E aj R lits td s h
  | .bF _ []::r=>runK E aj rs R n lits r s h
  | .bF ops (o::l)::r =>
   let go:Prop:=kJ E.T E.G o.op s h (AQ E o.op s h (pF E o.op s h (HF R.fx.inl E s h o (I E aj R lits td s h) fun v h'=>cz s o.dst v fun s'=>I E aj R lits (.bF ops l::r) s' h')
     fun v h'=>cz s o.dst v fun s'=>I E aj R lits (.bF ops l::r) s' h')
     fun v h'=>cz s o.dst v fun s'=>runK E aj rs R n lits (.bF ops l::r) s' h')
    fun v h'=>cz s o.dst v fun s'=>runK E aj rs R n lits (.bF ops l::r) s' h'
   DA ops o.guard go (I E aj R lits td s h) fun d b=>bh s d (I E aj R lits td s h) fun
    | .d (.bool t)=>match lD d lits with
     |false=>mh t (iA s d (.d (.bool true)) fun s'=>I E aj R (d::lits) td s' h) (iA s d (.d (.bool false)) fun s'=>I E aj R (d::lits) td s' h)
     |true=>match MY t b with
      |true=>go
      |false=>cz s o.dst (.d .undef) fun s'=>runK E aj rs R n lits (.bF ops l::r) s' h
    | .d .undef=>cz s o.dst (.d .undef) fun s'=>runK E aj rs R n lits (.bF ops l::r) s' h
    |_=>I E aj R lits td s h
section
variable {E:Env} {aj:FuncId} {R:cT}
theorem Bi{β:Type}:∀ {l:List β} {d:Nat} {x:β},l[d]?=some x->l.set d x=l
 |[],_,_,h=>by simp at h
 |a::l,0,x,h=>by simp at h;subst h;rfl
 |a::l,d+1,x,h=>by simp only[List.set_cons_succ];rw[Bi (zD h)]
theorem HG(hE:E.OK){fn:Func}(hf:E.P.funcs[aj]?=some fn):∀ (n:Nat) (lits:List Nat) (td:List aY) (s:List AV) (h:List ae),
  runK E aj fn.results.toList R n lits td s h->AW E R.fx.f0 ⟨⟨aj,R.fx.cI,R.fx.aS⟩,td,s⟩ R.fx.cls h R:=by
 have ret:∀ (lits:List Nat) (td:List aY) (s:List AV) (h:List ae),(td=[]\/∃ r,td=.code .ret::r)->(match Bh aj R.fx with|true=>pz E.T s h fn.results.toList (I E aj R lits td s h) R.Q|false=>I E aj R lits td s h)->AW E R.fx.f0 ⟨⟨aj,R.fx.cI,R.fx.aS⟩,td,s⟩ R.fx.cls h R:=by
  intro lits td s h pA H;split at H
  ·rename_i q;by_cases hA:I E aj R lits td s h
   ·exact hA.to
   ·rw[eq_false hA]at H;obtain⟨q1,q2,q3,q4⟩:=VE q;rw[q1,q2,q3,q4];rcases pA with rfl|⟨r,rfl⟩
    ·exact .Us hE hf H
    ·exact .ret hE hf H
  ·exact H.to
 intro n
 induction n with
 |zero=>intro lits td s h H;exact I.to H
 |succ n ih =>
  intro lits td s h H;unfold runK at H;split at H
  ·exact ret _ _ s h (.inl rfl) H
  ·exact .inBlock (ih _ _ _ _ H)
  ·exact I.to H
  ·exact I.to H
  ·exact I.to H
  ·rename_i c r;split at H
   ·exact .skip (ih _ _ _ _ H)
   ·exact .seq (ih _ _ _ _ H)
   ·exact .block (ih _ _ _ _ H)
   ·rcases wJ H with h'|⟨r',hr,H⟩
    ·exact h'.to
    ·exact .exit hr (ih _ _ _ _ H)
   ·exact .region (ih _ _ _ _ H)
   ·exact ret _ _ s h (.inr ⟨_,rfl⟩) H
   ·rcases cO H with h'|⟨v,hv,H⟩
    ·exact h'.to
    split at H
    ·rename_i t;refine HC H (fun e H2=>?_) (fun e H2=>?_)
     ·subst e;exact .cond hv (zD H2.to)
     ·subst e;exact .cond hv (zD H2.to)
    ·exact I.to H
   ·exact I.to H
  ·exact .Uk (ih _ _ _ _ H)
  ·rename_i ops o l r
   have go : jm ops o s true -> (kJ E.T E.G o.op s h (AQ E o.op s h (pF E o.op s h (HF R.fx.inl E s h o (I E aj R lits (.bF ops (o :: l) :: r) s h) fun v h' => cz s o.dst v fun s' => I E aj R lits (.bF ops l :: r) s' h')
         fun v h' => cz s o.dst v fun s' => I E aj R lits (.bF ops l :: r) s' h')
         fun v h' => cz s o.dst v fun s' => runK E aj fn.results.toList R n lits (.bF ops l :: r) s' h')
     fun v h'=>cz s o.dst v fun s'=>runK E aj fn.results.toList R n lits (.bF ops l::r) s' h')->AW E R.fx.f0 ⟨⟨aj,R.fx.cI,R.fx.aS⟩,.bF ops (o::l)::r,s⟩ R.fx.cls h R:=by
    intro hw H;rcases Ax hE H with H|⟨v,h',H,ho⟩
    ·rcases Mq hE H with H|⟨v,h',H,ho⟩
     case inr =>
      rw[eW]at H;exact .op hw ho (ih _ _ _ _ H)
     rcases A2 hE H with H|⟨v,h',H,ho⟩
     case inr =>
      rw[eW]at H;exact .op hw ho H.to
     unfold HF at H;rcases MX H with H|⟨fx,args,ts,f,a1,av,a2,cH,hv,pI,H⟩
     ·exact I.to H
     split at H
     ·exact I.to H
     rcases Aj (a1++av++a2) (Dx E f (a1++av++a2) h (I E aj R lits (.bF ops (o::l)::r) s h) fun v h'=>cz s o.dst v fun s'=>I E aj R lits (.bF ops l::r) s' h') (fun ds=>s9 E f ds h fun v h'=>cz s o.dst v fun s'=>I E aj R lits (.bF ops l::r) s' h')with⟨ds,e1,e2⟩|e2
     ·rw[e2]at H;unfold s9 at H;rcases H with⟨R1,hc,hk⟩|⟨Q,hc,hk⟩
      ·refine .call hw cH hv pI e1 hc fun u hu=>?_;have:=hk u hu;simp only[eW]at this;exact this.to
      ·refine .MV (ab:=[]) hw cH hv pI (Q:=Q) ?_ List.nodup_nil (fun j hj=>by simp at hj) fun u h1 hu=>?_
       ·have e3:(a1++av++a2).map (ic [] h)=ds.map .d:=by rw[e1,List.map_map];rfl
        rw[e3];exact hc
       ·have:=hk u h1 hu;simp only[eW]at this;exact this.to
     ·rw[e2]at H;rcases VB H with H|⟨ab,Q,hc,hn,ai,hk⟩
      ·exact I.to H
      refine .MV hw cH hv pI hc hn ai fun u h1 hu=>?_;have:=hk u h1 hu;simp only[eW]at this;exact this.to
    ·rw[eW]at H;exact .op hw ho (ih _ _ _ _ H)
   dsimp only at H;unfold DA at H;split at H
   ·rename_i hg;exact go (iF hg) H
   ·rename_i j b hg;rcases bu H with H|⟨oj,yU,H⟩
    ·exact I.to H
    split at H
    ·rename_i d hd;rcases bu H with H|⟨x,hx,H⟩
     ·exact I.to H
     split at H
     ·rename_i t;split at H
      ·refine HC H (fun e H2=>?_) (fun e H2=>?_)
       ·subst e;rw[jk,Bi hx]at H2;exact I.to H2
       ·subst e;rw[jk,Bi hx]at H2;exact I.to H2
      ·have hw:=yy hg yU hd hx;split at H
       ·rename_i q;have:(t==b)=true:=by cases t<;>cases b<;>first|rfl|cases q
        rw[this]at hw;exact go hw H
       ·rename_i q;have:(t==b)=false:=by cases t<;>cases b<;>first|rfl|cases q
        rw[this]at hw;rw[eW]at H;exact .LU hw (ih _ _ _ _ H)
     ·rw[eW]at H;exact .LU (LS hg yU hd hx) (ih _ _ _ _ H)
     ·exact I.to H
    ·exact I.to H
theorem I.run(hE:E.OK){fn:Func}(hf:E.P.funcs[aj]?=some fn)(n:Nat){lits:List Nat}{td:List aY}{s:List AV}{h:List ae}(H:runK E aj fn.results.toList R n lits td s h):I E aj R lits td s h := .of (HG hE hf n lits td s h H)
theorem aq.run (hE : E.OK) {fn : Func} (hf : E.P.funcs[aj]? = some fn) {body : Code} (hb : fn.body = some body) (hn : (fn.name == "runtime.NumGoroutine") = false) (n : Nat) {args : List DV} {R : DV -> Prop}
  (H:qh .d args fun a=>runK E aj fn.results.toList ⟨0,uA R,[],⟨aj,none,[],[],[],[]⟩⟩ n [] [.code body] (oC a fn.ntmps) []):aq E aj args R:=by
 rw[vV]at H;exact .Ur (.LV hf hb hn (fun i g ts l h=>by simp at h) (HG hE hf n _ _ _ _ H))
def qv:List ae->Bool
 |[]=>true
 | .arr g _ _::l=>match ahv g 0 with
  |true=>qv l
  |false=>false
 |_::l=>qv l
theorem kR:∀ {h:List ae},qv h=true->yv h
 |[],_=>fun i g ts l h=>by simp at h
 |b::r,H=>by
  have hr:qv r=true:=by
   unfold qv at H;split at H
   ·rename_i e;cases e
   ·rename_i e;cases e;split at H
    ·exact H
    ·cases H
   ·rename_i e;cases e;exact H
  intro i g ts l h;cases i with
  |zero =>
   simp at h;subst h;simp only[qv]at H;split at H
   ·rename_i q;exact ahu q
   ·cases H
  |succ i=>exact kR hr i g ts l (zD h)
theorem au.run (hE : E.OK) {fn : Func} (hf : E.P.funcs[aj]? = some fn) {body : Code} (hb : fn.body = some body) (hn : (fn.name == "runtime.NumGoroutine") = false) (n : Nat) {h : List ae} (nE : qv h = true) {args : List AV} {Q : AV -> List ae -> Prop}
  (H:runK E aj fn.results.toList ⟨h.length,Q,[],⟨aj,none,[],[],[],[]⟩⟩ n [] [.code body] (oC args fn.ntmps) h):au E aj h args Q :=
 .LV hf hb hn (kR nE) (HG hE hf n _ _ _ _ H)
end
end Go.az
end
section
namespace Go.az
open Go Go.RowKit
def yV(h h':List ae)(x y:AV)(K:Prop):Prop :=
 match y with
 | .any=>K
 | .d b=>match x with
  | .d a=>a=b/\K
  |_=>False
 | .own b' g'=>match x with
  | .own b g=>match ahv b b' with
   |true=>bh h b False fun
    | .arr g0 _ _=>bh h' b False fun
     | .arr g1 _ _=>match ahv g g0,ahv g' g1 with
      |true,true=>K
      |_,_=>False
     |_=>False
    |_=>False
   |false=>False
  |_=>False
 | .ptr b' HH=>match x with
  | .ptr b off=>match ahv b b',ahv off HH with
   |true,true=>bh h b False fun
    | .cells _=>bh h' b False fun
     | .cells _=>K
     |_=>False
    |_=>False
   |_,_=>False
  |_=>False
 | .bT e' HH=>match x with
  | .bT e off=>match ahv off HH with
   |true=>e=e'/\K
   |false=>False
  |_=>False
 | .map b'=>match x with
  | .map b=>match ahv b b' with
   |true=>bh h b False fun
    | .map _=>bh h' b False fun
     | .map _=>K
     |_=>False
    |_=>False
   |false=>False
  |_=>False
 | .cut b' g' k' q'=>match x with
  | .cut b g k q=>match ahv b b' with
   |true=>bh h b False fun
    | .arr g0 _ _=>bh h' b False fun
     | .arr g1 _ _=>match ahv g g0,ahv g' g1 with
      |true,true=>k=k'/\q=q'/\K
      |_,_=>False
     |_=>False
    |_=>False
   |false=>False
  |_=>False
 |_=>False
def uQ(h h':List ae):List AV->List AV->Prop->Prop
 |[],[],K=>K
 |x::l,y::l',K=>yV h h' x y (uQ h h' l l' K)
 |_,_,_=>False
def Bj(h h':List ae)(x y:AV)(K:Prop):Prop :=
 match y with
 | .agg l'=>match x with
  | .agg l=>uQ h h' l l' K
  |_=>False
 | .aG l'=>match x with
  | .aG l=>uQ h h' l l' K
  |_=>False
 | .fn f' a' b'=>match x with
  | .fn f a b=>f=f'/\uQ h h' a a' (uQ h h' b b' K)
  |_=>False
 |y=>yV h h' x y K
def wK(h h':List ae):List AV->List AV->Prop->Prop
 |[],[],K=>K
 |x::l,y::l',K=>Bj h h' x y (wK h h' l l' K)
 |_,_,_=>False
def MZ(g g':Nat):Bool:=match ahv g' 0 with
 |true=>ahv g 0
 |false=>true
theorem VF{g g':Nat}(h:MZ g g'=true):g'=0->g=0:=fun e=>by
 subst e;exact ahu h
def DB(h h':List ae)(x y:ae)(K:Prop):Prop :=
 match y with
 | .gone=>K
 | .cells l'=>match x with
  | .cells l=>wK h h' l l' K
  |_=>False
 | .arr g' fj l'=>match x with
  | .arr g ts l=>match MZ g g' with
   |true=>ts=fj/\l=l'/\K
   |false=>False
  |_=>False
 | .map ev=>match x with
  | .map es=>es=ev/\K
  |_=>False
 | .hole=>False
def uR(h h':List ae):List ae->List ae->Prop->Prop
 |_,[],K=>K
 |x::l,y::l',K=>DB h h' x y (uR h h' l l' K)
 |_,_,_=>False
def DD(own:Nat->Option (Nat × Nat))(h':List ae)(i:Nat):Option (Nat × Nat):=match h'[i]? with
 |none=>none
 |some .gone=>none
 |some _=>own i
def Cx.cut(c:Cx)(h':List ae):Cx:={ c with own:=DD c.own h',heap:=h' }
def M0(x y:ae):Prop:=match y with
 | .gone=>True
 | .cells l'=>∃ l,x=.cells l/\l.length=l'.length
 | .arr g' fj l'=>∃ g,x=.arr g fj l'/\(g'=0->g=0)
 | .map ev=>x=.map ev
 | .hole=>False
def HSub(h h':List ae):Prop:=∀ (i:Nat) (y:ae),h'[i]?=some y->∃ x,h[i]?=some x/\M0 x y
theorem mW{c:Cx}{h':List ae}{i:Nat}{y:ae}(hy:h'[i]?=some y)(hg:y ≠ .gone):(c.cut h').own i=c.own i:=by
 simp only[Cx.cut,DD,hy]
theorem tc{c:Cx}{h':List ae}{i:Nat}{p:Nat × Nat}(hi:(c.cut h').own i=some p):c.own i=some p/\∃ y,h'[i]?=some y/\y ≠ .gone:=by
 simp only[Cx.cut,DD]at hi;split at hi
 ·cases hi
 ·cases hi
 ·rename_i y aL hy;exact⟨hi,y,hy,fun e=>aL (by rw[<- e])⟩
theorem rz{c:Cx}{h':List ae}{x:DV}{v:Value}(hv:VD c.bad c.w x v):VD (c.cut h').bad (c.cut h').w x v :=
 hv.mono fun _ _ hn=>⟨fun hb=>hn (hb.elim .inl fun⟨i,n,hi⟩ => .inr ⟨i,n,(tc hi).1⟩),rfl⟩
theorem M3{h h':List ae}{x y:AV}{K:Prop}(H:yV h h' x y K)(hs:HSub h h'):K/\∀ (c:Cx) (v:Value),c.heap=h->VR c x v->VR (c.cut h') y v:=by
 unfold yV at H;split at H
 ·exact⟨H,fun c v _ _ => .any v⟩
 ·split at H
  ·obtain⟨rfl,H⟩:=H;exact⟨H,fun c v _ hv=>by cases hv with|d _ _ hv=>exact .d _ _ (rz hv)⟩
  ·exact H.elim
 ·rename_i b' g';split at H
  ·rename_i b g;split at H
   ·rename_i q;have:=ahu q;subst this;rcases bu H with H1|⟨bx,hb,H1⟩
    ·exact H1.elim
    clear H;split at H1
    ·rename_i g0 ts l;rcases bu H1 with H2|⟨HI,cB,H2⟩
     ·exact H2.elim
     clear H1;split at H2
     ·rename_i g1 fj l';split at H2
      ·rename_i q1 q2;have q1:=ahu q1;have q2:=ahu q2;subst q1;subst q2;refine⟨H2,fun c v hc hv=>?_⟩;obtain⟨x0,k1,gx,k2,-⟩:=hs b _ cB;rw[hb]at k1;cases k1;cases k2;subst hc;have ho:=mW (c:=c) cB sP;rcases lu hb hv with⟨blk,cap,r1,rfl⟩|⟨rfl,rfl,r1⟩
       ·exact .own b _ _ _ blk cap cB (ho.trans r1)
       ·exact .jJ b _ _ cB (ho.trans r1)
      ·exact H2.elim
     ·exact H2.elim
    ·exact H1.elim
   ·exact H.elim
  ·exact H.elim
 ·split at H
  ·split at H
   ·rename_i q1 q2;have q1:=ahu q1;have q2:=ahu q2;subst q1;subst q2;rcases bu H with H|⟨bx,hb,H⟩
    ·exact H.elim
    split at H
    ·rcases bu H with H|⟨HI,cB,H⟩
     ·exact H.elim
     split at H
     ·refine⟨H,fun c v hc hv=>?_⟩;subst hc;have ho:=mW (c:=c) cB sP;cases hv with
      |ptr _ _ cs blk cap k1 k2=>exact .ptr _ _ _ blk cap cB (ho.trans k2)
      |jK _ _ _ k1 _=>rw[hb]at k1;cases k1
     ·exact H.elim
    ·exact H.elim
   ·exact H.elim
  ·exact H.elim
 ·split at H
  ·split at H
   ·rename_i q;have:=ahu q;subst this;obtain⟨rfl,H⟩:=H;refine⟨H,fun c v hc hv=>?_⟩;cases hv with
    |bT _ _ blk o f k1 k2 k3 k4=>exact .bT _ _ blk o f (fun hb=>k1 (hb.elim .inl fun⟨i,n,hi⟩ => .inr ⟨i,n,(tc hi).1⟩)) k2 k3 (fun j x hx=>rz (k4 j x hx))
   ·exact H.elim
  ·exact H.elim
 ·split at H
  ·split at H
   ·rename_i q1;have q1:=ahu q1;subst q1;rcases bu H with H|⟨bx,hb,H⟩
    ·exact H.elim
    split at H
    ·rcases bu H with H|⟨HI,cB,H⟩
     ·exact H.elim
     split at H
     ·refine⟨H,fun c v hc hv=>?_⟩;subst hc;have ho:=mW (c:=c) cB sP;cases hv with
      |map _ es blk cap k1 k2=>exact .map _ _ blk cap cB (ho.trans k2)
      |pn _ _ k1 _=>rw[hb]at k1;cases k1
     ·exact H.elim
    ·exact H.elim
   ·exact H.elim
  ·exact H.elim
 ·rename_i b' g' k' q';split at H
  ·rename_i b g k qq;split at H
   ·rename_i q;have:=ahu q;subst this;rcases bu H with H1|⟨bx,hb,H1⟩
    ·exact H1.elim
    clear H;split at H1
    ·rename_i g0 ts l;rcases bu H1 with H2|⟨HI,cB,H2⟩
     ·exact H2.elim
     clear H1;split at H2
     ·rename_i g1 fj l';split at H2
      ·rename_i q1 q2;have q1:=ahu q1;have q2:=ahu q2;subst q1;subst q2;obtain⟨rfl,rfl,H2⟩:=H2;refine⟨H2,fun c v hc hv=>?_⟩;obtain⟨x0,k1,gx,k2,-⟩:=hs b _ cB;rw[hb]at k1;cases k1;cases k2;subst hc;have ho:=mW (c:=c) cB sP;cases hv with
       |cut _ _ _ _ _ l2 blk cap o r1 r2 r3 r4 r5=>rw[hb]at r1;cases r1;exact .cut b _ k _ _ _ blk cap o cB (ho.trans r2) r3 r4 r5
       |pj _ _ g2 _ _ _ _ _ r1 r2 _=>rw[hb]at r1;cases r1;omega
       |pk _ _ _ _ _ r1 _=>rw[hb]at r1;cases r1
      ·exact H2.elim
     ·exact H2.elim
    ·exact H1.elim
   ·exact H.elim
  ·exact H.elim
 ·exact H.elim
theorem Bk{h h':List ae}{K:Prop}(hs:HSub h h'):∀ {l l':List AV},uQ h h' l l' K->K/\l.length=l'.length/\∀ (c:Cx) (vs:List Value),c.heap=h->VL c l vs->VL (c.cut h') l' vs
 |[],[],H=>⟨H,rfl,fun c vs _ hv=>⟨hv.1,fun j x v hx=>by simp at hx⟩⟩
 |x::l,y::l',H=>by
  simp only[uQ]at H;obtain⟨H,h1⟩:=M3 H hs;obtain⟨H,h2,h3⟩:=Bk hs H;refine⟨H,by simp[h2],fun c vs hc hv=>?_⟩;cases vs with
  |nil=>have:=hv.1;simp at this
  |cons v vs=>exact .cons (h1 c v hc hv.head.1) (h3 c vs hc hv.head.2)
 |[],_::_,H=>H.elim
 |_::_,[],H=>H.elim
theorem VG{h h':List ae}{x y:AV}{K:Prop}(H:Bj h h' x y K)(hs:HSub h h'):K/\∀ (c:Cx) (v:Value),c.heap=h->VR c x v->VR (c.cut h') y v:=by
 unfold Bj at H;split at H
 ·split at H
  ·obtain⟨H,-,h1⟩:=Bk hs H;refine⟨H,fun c v hc hv=>?_⟩;obtain⟨vs,rfl,jl⟩:=qZ hv;exact yj (h1 c vs hc jl)
  ·exact H.elim
 ·split at H
  ·obtain⟨H,-,h1⟩:=Bk hs H;refine⟨H,fun c v hc hv=>?_⟩;cases hv with
   |aG _ vs hl bJ =>
    have:=h1 c vs.toList hc ⟨zD hl,fun j x v hx hv=>bJ j x v hx (zD hv)⟩;exact .aG _ vs (zD this.1) (fun j x v hx hv=>this.2 j x v hx (zD hv))
  ·exact H.elim
 ·split at H
  ·obtain⟨rfl,H⟩:=H;obtain⟨H,-,h1⟩:=Bk hs H;obtain⟨H,-,h2⟩:=Bk hs H;refine⟨H,fun c v hc hv=>?_⟩;obtain⟨v1,v2,rfl,r1,r2⟩:=mP hv;have r1:=h1 c v1 hc r1;have r2:=h2 c v2 hc r2;exact .fn _ _ _ _ _ (zD r1.1) (zD r2.1) (fun j x v hx hv=>r1.2 j x v hx (zD hv)) (fun j x v hx hv=>r2.2 j x v hx (zD hv))
  ·exact H.elim
 ·exact M3 H hs
theorem HJ{h h':List ae}{K:Prop}(hs:HSub h h'):∀ {l l':List AV},wK h h' l l' K->K/\∀ (c:Cx) (vs:List Value),c.heap=h->VL c l vs->VL (c.cut h') l' vs
 |[],[],H=>⟨H,fun c vs _ hv=>⟨hv.1,fun j x v hx=>by simp at hx⟩⟩
 |x::l,y::l',H=>by
  simp only[wK]at H;obtain⟨H,h1⟩:=VG H hs;obtain⟨H,h3⟩:=HJ hs H;refine⟨H,fun c vs hc hv=>?_⟩;cases vs with
  |nil=>have:=hv.1;simp at this
  |cons v vs=>exact .cons (h1 c v hc hv.head.1) (h3 c vs hc hv.head.2)
 |[],_::_,H=>H.elim
 |_::_,[],H=>H.elim
theorem M4{h h':List ae}{x y:AV}{Q:Prop}(H:yV h h' x y Q):Q:=by
 unfold yV at H;repeat' split at H
 all_goals first
  |exact H
  |exact H.elim
  |exact H.2
  |(rcases bu H with H|⟨_, _, H⟩
    · exact H.elim
    split at H
    · rcases bu H with H|⟨_, _, H⟩
      · exact H.elim
      repeat' split at H
      all_goals first|exact H|exact H.elim|exact H.2.2|exact H.2
    all_goals exact H.elim)
theorem DE{h h':List ae}{K:Prop}:∀ {l l':List AV},uQ h h' l l' K->K
 |[],[],H=>H
 |_::_,_::_,H=>DE (M4 H)
 |[],_::_,H=>H.elim
 |_::_,[],H=>H.elim
theorem HK{h h':List ae}{K:Prop}:∀ {l l':List AV},wK h h' l l' K->l.length=l'.length/\K
 |[],[],H=>⟨rfl,H⟩
 |x::l,y::l',H=>by
  have hK:∀ {Q:Prop},Bj h h' x y Q->Q:=fun{Q} H=>by
   unfold Bj at H;repeat' split at H
   all_goals first
    |exact H.elim
    |exact DE H
    |exact DE (DE H.2)
    |exact M4 H
  simp only[wK]at H;obtain⟨h1,h2⟩:=HK (hK H);exact⟨by simp[h1],h2⟩
 |[],_::_,H=>H.elim
 |_::_,[],H=>H.elim
theorem M5{h h':List ae}{K:Prop}:∀ {l l':List ae},uR h h' l l' K->HSub l l'/\K
 |[],[],H=>⟨fun i y hy=>by simp at hy,H⟩
 |_::_,[],H=>⟨fun i y hy=>by simp at hy,H⟩
 |x::l,y::l',H=>by
  simp only[uR]at H;have key:M0 x y/\uR h h' l l' K:=by
   unfold DB at H;split at H
   ·exact⟨trivial,H⟩
   ·split at H
    ·obtain⟨h1,h2⟩:=HK H;exact⟨⟨_,rfl,h1⟩,h2⟩
    ·exact H.elim
   ·split at H
    ·split at H
     ·rename_i q;obtain⟨rfl,rfl,H⟩:=H;exact⟨⟨_,rfl,VF q⟩,H⟩
     ·exact H.elim
    ·exact H.elim
   ·split at H
    ·obtain⟨rfl,H⟩:=H;exact⟨rfl,H⟩
    ·exact H.elim
   ·exact H.elim
  obtain⟨h1,h2⟩:=M5 key.2;refine⟨fun i z hz=>?_,h2⟩;cases i with
  |zero=>simp at hz;subst hz;exact⟨x,rfl,key.1⟩
  |succ i=>obtain⟨w,k1,k2⟩:=h1 i z (zD hz);exact⟨w,zD k1,k2⟩
 |[],_::_,H=>H.elim
theorem M6{h h':List ae}{K:Prop}(hs:HSub h h'):∀ {l l':List ae},uR h h' l l' K->∀ (i:Nat) (cs:List AV),l'[i]?=some (.cells cs)->∃ rA,l[i]?=some (.cells rA)/\∀ (c:Cx) (vs:List Value),c.heap=h->VL c rA vs->VL (c.cut h') cs vs
 |_,[],H=>fun i y hy=>by simp at hy
 |x::l,y::l',H=>by
  simp only[uR]at H;intro i cs hi;cases i with
  |zero =>
   simp at hi;subst hi;simp only[DB]at H;split at H
   ·obtain⟨-,h3⟩:=HJ hs H;exact⟨_,rfl,h3⟩
   ·exact H.elim
  |succ i =>
   have wC:uR h h' l l' K:=by
    unfold DB at H;split at H
    ·exact H
    ·split at H
     ·exact(HK H).2
     ·exact H.elim
    ·split at H
     ·split at H
      ·exact H.2.2
      ·exact H.elim
     ·exact H.elim
    ·split at H
     ·exact H.2
     ·exact H.elim
    ·exact H.elim
   obtain⟨rA,k1,k2⟩:=M6 hs wC i cs (zD hi);exact⟨rA,zD k1,k2⟩
 |[],_::_,H=>H.elim
theorem aO.cut{G:List (Nat × DV)}{c:Cx}(ho:aO G c){h':List ae}(hs:HSub c.heap h')(yq:∀ (i:Nat) (cs:List AV),h'[i]?=some (.cells cs)->∃ rA,c.heap[i]?=some (.cells rA)/\∀ (vs:List Value),VL c rA vs->VL (c.cut h') cs vs):aO G (c.cut h') where
 bV:=ho.bV
 bD:=fun i b n hi=>by
  obtain⟨h1,y,h2,-⟩:=tc hi;exact⟨(ho.bD i b n h1).1,aW h2⟩
 inj:=fun i j b n m hi hj=>ho.inj i j b n m (tc hi).1 (tc hj).1
 sep:=fun i b n hi=>ho.sep i b n (tc hi).1
 box:=fun i bx hi=>by
  have cu:h'[i]?=some bx:=hi;obtain⟨x,hx,hb⟩:=hs i bx cu;cases bx with
  |gone=>show(c.cut h').own i=none;simp only[Cx.cut,DD,cu]
  |hole=>exact hb.elim
  |cells cs =>
   obtain⟨rA,k1,k2⟩:=yq i cs cu;obtain⟨blk,cap,vs,ty,g1,g2,g3⟩:=ho.cells k1;have:=k2 vs.toList g3;exact⟨blk,cap,vs,ty,(mW cu sP).trans g1,g2,zD this.1.symm,fun j x v hx hv=>this.2 j x v hx (zD hv)⟩
  |arr g ts l =>
   obtain⟨g0,rfl,-⟩:=hb;obtain⟨q0,q1,q2⟩:=ho.box i _ hx;refine⟨q0,q1,?_⟩;have du:=mW (c:=c) cu sP;rcases q2 with⟨q2,q3⟩|⟨blk,cap,vs,q2,q3,q4,q5,q6,q7⟩
   ·exact .inl ⟨du.trans q2,q3⟩
   ·refine .inr ⟨blk,cap,vs,du.trans q2,q3,q4,q5,q6,fun i j e x he hx=>?_⟩;obtain⟨v,r1,r2,r3⟩:=q7 i j e x he hx;exact⟨v,r1,r2,rz r3⟩
  |map es =>
   obtain rfl:x=.map es:=hb;obtain⟨blk,cap,en,ck,k1,k2,k3,k4⟩:=ho.box i _ hx;exact⟨blk,cap,en,ck,(mW cu sP).trans k1,k2,k3,fun j k x m hx hm=>⟨rz (k4 j k x m hx hm).1,rz (k4 j k x m hx hm).2⟩⟩
 gI:=fun g e hg=>by
  have hp:∀ p,VR c (.bT e 0) p->VR (c.cut h') (.bT e 0) p:=fun p hp=>by
   cases hp with
   |bT _ _ blk o' fv k1 k2 k3 k4=>exact .bT _ _ blk o' fv (fun hb=>k1 (hb.elim .inl fun⟨i,n,hi⟩ => .inr ⟨i,n,(tc hi).1⟩)) k2 k3 (fun j x hx=>rz (k4 j x hx))
  exact hp _ (ho.gI g e hg)
def uS(n:Nat)(h:List ae)(s:List AV)(h':List ae)(s':List AV):Prop:=match ahO n h'.length with
 |true=>uR h h' h h' (wK h h' s s' True)
 |false=>False
theorem dy.cut{c0 c:Cx}(hr:dy c0 c){h':List ae}(hn:c0.heap.length<=h'.length)(hs:HSub c.heap h'):dy c0 (c.cut h') where
 lim:=hr.lim
 nz:=hr.nz
 aD:=hr.aD
 oz:=hr.oz
 os:=hr.os
 tape:=hr.tape
 output:=hr.output
 size:=hr.size
 keep:=hr.keep
 eh:=fun i b n hi hb=>hr.eh i b n (tc hi).1 hb
 boxes:=fun i bx hi=>by
  have ai:i<h'.length:=ahD (aW hi) hn;obtain⟨y,hy⟩:∃ y,h'[i]?=some y:=⟨h'[i],by simp[ai]⟩;obtain⟨x,hx,hb⟩:=hs i y hy;have ia:(c.cut h').heap[i]?=some y:=hy;have h1:=hr.boxes i bx hi;have fT:y=.gone->Ay c0 (c.cut h') i bx:=fun e=>by
   subst e;cases bx with
   |cells cs=>exact .inr ia
   |arr g sz l=>exact .inr ia
   |map es=>exact .inr ia
   |gone=>exact ia
   |hole=>exact⟨_,ia⟩
  cases y with
  |gone=>exact fT rfl
  |hole=>exact hb.elim
  |cells cs' =>
   obtain⟨cs1,rfl,hl⟩:=hb;have ho:=mW (c:=c) hy sP;cases bx with
   |cells cs =>
    rcases h1 with⟨VH,h1,h2,h3⟩|h1
    ·rw[hx]at h1;cases h1;exact .inl ⟨cs',ia,ho.trans h2,by omega⟩
    ·rw[hx]at h1;cases h1
   |arr g sz l =>
    rcases h1 with⟨_,_,h1,_⟩|h1<;>(rw[hx]at h1;cases h1)
   |map es=>rcases h1 with⟨_,h1,_⟩|h1<;>(rw[hx]at h1;cases h1)
   |gone=>have h1:c.heap[i]?=some .gone:=h1;rw[hx]at h1;cases h1
   |hole=>exact⟨_,ia⟩
  |arr g' fj l' =>
   obtain⟨g1,rfl,hl⟩:=hb;have ho:=mW (c:=c) hy sP;cases bx with
   |cells cs=>rcases h1 with⟨_,h1,_⟩|h1<;>(rw[hx]at h1;cases h1)
   |arr g sz l =>
    rcases h1 with⟨g2,l2,h1,h2⟩|h1
    ·rw[hx]at h1;cases h1;refine .inl ⟨g',l',ia,?_⟩;by_cases hz:g'=0
     ·have:=hl hz;rcases h2 with h2|⟨h2,h3,h4⟩
      ·omega
      ·exact .inr ⟨hz,h3,ho.trans h4⟩
     ·left;omega
    ·rw[hx]at h1;cases h1
   |map es=>rcases h1 with⟨_,h1,_⟩|h1<;>(rw[hx]at h1;cases h1)
   |gone=>have h1:c.heap[i]?=some .gone:=h1;rw[hx]at h1;cases h1
   |hole=>exact⟨_,ia⟩
  |map ev =>
   obtain rfl:x=.map ev:=hb;have ho:=mW (c:=c) hy sP;cases bx with
   |cells cs=>rcases h1 with⟨_,h1,_⟩|h1<;>(rw[hx]at h1;cases h1)
   |arr g sz l=>rcases h1 with⟨_,_,h1,_⟩|h1<;>(rw[hx]at h1;cases h1)
   |map es =>
    rcases h1 with⟨es2,h1,h2⟩|h1
    ·rw[hx]at h1;cases h1;exact .inl ⟨ev,ia,ho.trans h2⟩
    ·rw[hx]at h1;cases h1
   |gone=>have h1:c.heap[i]?=some .gone:=h1;rw[hx]at h1;cases h1
   |hole=>exact⟨_,ia⟩
def yW(h h':List ae)(x:AV)(K:Prop):Prop :=
 match x with
 | .any=>K
 | .d _=>K
 | .own b g=>bh h' b False fun
  | .gone=>K
  | .arr g1 _ _=>bh h b False fun
   | .arr g0 _ _=>match ahw g g1 with
    |true=>match ahO g g0 with
     |true=>K
     |false=>False
    |false=>match ahv g g0,ahv g g1 with
     |true,true=>K
     |_,_=>False
   |_=>False
  |_=>False
 | .ptr b _=>bh h' b False fun
  | .gone=>K
  | .cells _=>bh h b False fun
   | .cells _=>K
   |_=>False
  |_=>False
 | .bT _ _=>K
 | .map b=>bh h' b False fun
  | .gone=>K
  | .map _=>bh h b False fun
   | .map _=>K
   |_=>False
  |_=>False
 | .cut b g _ _=>bh h' b False fun
  | .gone=>K
  | .arr g1 _ _=>bh h b False fun
   | .arr g0 _ _=>match ahw g g1 with
    |true=>match ahO g g0 with
     |true=>K
     |false=>False
    |false=>match ahv g g0,ahv g g1 with
     |true,true=>K
     |_,_=>False
   |_=>False
  |_=>False
 | .dv b g _ _=>bh h' b False fun
  | .gone=>K
  | .arr g1 _ _=>bh h b False fun
   | .arr g0 _ _=>match ahw g g1 with
    |true=>match ahO g g0 with
     |true=>K
     |false=>False
    |false=>match ahv g g0,ahv g g1 with
     |true,true=>K
     |_,_=>False
   |_=>False
  |_=>False
 |_=>False
def wL(h h':List ae):List AV->Prop->Prop
 |[],K=>K
 |x::l,K=>yW h h' x (wL h h' l K)
def Bl(h h':List ae)(x:AV)(K:Prop):Prop :=
 match x with
 | .agg l=>wL h h' l K
 | .aG l=>wL h h' l K
 | .fn _ a b=>wL h h' a (wL h h' b K)
 |x=>yW h h' x K
def Bm(h h':List ae):List AV->Prop->Prop
 |[],K=>K
 |x::l,K=>Bl h h' x (Bm h h' l K)
def DF(h h':List ae):List cn->Prop->Prop
 |[],K=>K
 |f::l,K=>Bm h h' f.jP (DF h h' l K)
def wM(h h':List ae):List br->Prop->Prop
 |[],K=>K
 | .loop i::l,K=>Bm h h' i.jP (wM h h' l K)
 | .mark _::l,K=>wM h h' l K
 |_::_,_=>False
def uT(h h':List ae)(x:FX)(K:Prop):Prop:=DF h h' x.cls (wM h h' x.loops K)
theorem yX{β:Type}{l:List β}{i:Nat}{k:β->Prop}{K:Prop}(hk:∀ x,k x->K)(H:bh l i False k):K:=by
 rcases bu H with H|⟨x,_,H⟩
 ·exact H.elim
 ·exact hk x H
theorem M7{h h':List ae}{x:AV}{K:Prop}(H:yW h h' x K):K:=by
 have arr:∀ (b g:Nat),(bh h' b False fun
  | .gone=>K
  | .arr g1 _ _=>bh h b False fun
   | .arr g0 _ _=>match ahw g g1 with
    |true=>match ahO g g0 with
     |true=>K
     |false=>False
    |false=>match ahv g g0,ahv g g1 with
     |true,true=>K
     |_,_=>False
   |_=>False
  |_=>False)->K:=fun b g H=>yX (fun y H=>by
   split at H
   ·exact H
   ·refine yX (fun z H=>?_) H;split at H
    ·split at H
     ·split at H
      ·exact H
      ·exact H.elim
     ·split at H
      ·exact H
      ·exact H.elim
    ·exact H.elim
   ·exact H.elim) H
 cases x with
 |own b g=>exact arr b g H
 |dv b g i off=>exact arr b g H
 |cut b g k q=>exact arr b g H
 |ptr b off =>
  exact yX (fun y H=>by
   split at H
   ·exact H
   ·refine yX (fun z H=>?_) H;split at H
    ·exact H
    ·exact H.elim
   ·exact H.elim) H
 |map b =>
  exact yX (fun y H=>by
   split at H
   ·exact H
   ·refine yX (fun z H=>?_) H;split at H
    ·exact H
    ·exact H.elim
   ·exact H.elim) H
 |any=>exact H
 |d x=>exact H
 |bT e off=>exact H
 |agg l=>exact H.elim
 |aG l=>exact H.elim
 |fn f a b=>exact H.elim
theorem Bn{h h':List ae}:∀ {l:List AV} {K:Prop},wL h h' l K->K
 |[],_,H=>H
 |_::_,_,H=>Bn (M7 H)
theorem VI{h h':List ae}{x:AV}{K:Prop}(H:Bl h h' x K):K:=by
 unfold Bl at H;split at H
 ·exact Bn H
 ·exact Bn H
 ·exact Bn (Bn H)
 ·exact M7 H
theorem HL{h h':List ae}:∀ {l:List AV} {K:Prop},Bm h h' l K->K
 |[],_,H=>H
 |_::_,_,H=>HL (VI H)
theorem M8{h h':List ae}:∀ {l:List cn} {K:Prop},DF h h' l K->K
 |[],_,H=>H
 |_::_,_,H=>M8 (HL H)
theorem HM{h h':List ae}:∀ {l:List br} {K:Prop},wM h h' l K->K
 |[],_,H=>H
 | .loop _::_,_,H=>HM (HL H)
 | .mark _::l,_,H=>HM (l:=l) H
 | .row _::_,_,H=>H.elim
 | .iter _::_,_,H=>H.elim
theorem M9{h h':List ae}(hs:HSub h h'){x:AV}{K:Prop}(H:yW h h' x K):K/\∀ (c:Cx),c.heap=h->∀ v,VR c x v->VR (c.cut h') x v:=by
 have own:∀ (b g:Nat) (K:Prop),(bh h' b False fun
  | .gone=>K
  | .arr g1 _ _=>bh h b False fun
   | .arr g0 _ _=>match ahw g g1 with
    |true=>match ahO g g0 with
     |true=>K
     |false=>False
    |false=>match ahv g g0,ahv g g1 with
     |true,true=>K
     |_,_=>False
   |_=>False
  |_=>False)->K/\(h'[b]?=some .gone\/∃ g0 g1 ts l,h[b]?=some (.arr g0 ts l)/\h'[b]?=some (.arr g1 ts l)/\(g<g1\/g=g0/\g=g1)):=fun b g K H=>by
  rcases bu H with H|⟨y,hy,H⟩
  ·exact H.elim
  split at H
  ·exact⟨H,.inl hy⟩
  ·rename_i g1 ts1 l1;rcases bu H with H|⟨x,hx,H⟩
   ·exact H.elim
   split at H
   ·rename_i g0 ts0 l0;obtain⟨x',dY,q⟩:=hs b _ hy;rw[hx]at dY;cases dY;obtain⟨g2,q,-⟩:=q;cases q;split at H
    ·rename_i q1;split at H
     ·exact⟨H,.inr ⟨_,_,_,_,hx,hy,.inl (ahA q1)⟩⟩
     ·exact H.elim
    ·split at H
     ·rename_i q1 q2;exact⟨H,.inr ⟨_,_,_,_,hx,hy,.inr ⟨ahu q1,ahu q2⟩⟩⟩
     ·exact H.elim
   ·exact H.elim
  ·exact H.elim
 cases x with
 |any=>exact⟨H,fun c _ v _ => .any v⟩
 |d x=>exact⟨H,fun c _ v hv=>by cases hv with|d _ _ hv=>exact .d _ _ (rz hv)⟩
 |bT e off=>exact⟨H,fun c _ v hv=>by cases hv with|bT _ _ blk o f k1 k2 k3 k4=>exact .bT _ _ blk o f (fun hb=>k1 (hb.elim .inl fun⟨i,n,hi⟩ => .inr ⟨i,n,(tc hi).1⟩)) k2 k3 (fun j x hx=>rz (k4 j x hx))⟩
 |own b g =>
  obtain⟨hK,hq⟩:=own b g K H;refine⟨hK,fun c hc v hv=>?_⟩;subst hc;rcases hq with hq|⟨g0,g1,ts,l,q1,q2,q3⟩
  ·have bW:v.oneCell'=true:=by cases hv<;>first|rfl|assumption
   exact .ln b g v hq bW
  ·have ho:=mW (c:=c) q2 sP;rcases q3 with q3|⟨rfl,rfl⟩
   ·have bW:v.oneCell'=true:=by cases hv<;>first|rfl|assumption
    exact .l7 b g g1 ts l v q2 q3 bW
   ·cases hv with
    |own _ _ sz l' blk cap hb du=>rw[q1]at hb;cases hb;exact .own b g ts l blk cap q2 (ho.trans du)
    |jJ _ _ sz hb du=>rw[q1]at hb;cases hb;exact .jJ b g ts q2 (ho.trans du)
    |l7 _ _ g' sz l' v hb hg hv=>rw[q1]at hb;cases hb;omega
    |ln _ _ v hb hv=>rw[q1]at hb;cases hb
    |ow _ _ _ _ _ _ hb _ _=>rw[q1]at hb;cases hb
 |cut b g k qq =>
  obtain⟨hK,hq⟩:=own b g K H;refine⟨hK,fun c hc v hv=>?_⟩;subst hc;rcases hq with hq|⟨g0,g1,ts,l,q1,q2,q3⟩
  ·have bW:v.oneCell'=true:=by cases hv<;>first|rfl|assumption
   exact .pk b g k qq v hq bW
  ·have ho:=mW (c:=c) q2 sP;rcases q3 with q3|⟨rfl,rfl⟩
   ·have bW:v.oneCell'=true:=by cases hv<;>first|rfl|assumption
    exact .pj b g g1 k qq ts l v q2 q3 bW
   ·cases hv with
    |cut _ _ _ _ sz l' blk cap o hb du hk CU VJ=>rw[q1]at hb;cases hb;exact .cut b g k qq ts l blk cap o q2 (ho.trans du) hk CU VJ
    |pj _ _ g' _ _ sz l' v hb hg hv=>rw[q1]at hb;cases hb;omega
    |pk _ _ _ _ v hb hv=>rw[q1]at hb;cases hb
 |dv b g i off =>
  obtain⟨hK,hq⟩:=own b g K H;refine⟨hK,fun c hc v hv=>?_⟩;subst hc;rcases hq with hq|⟨g0,g1,ts,l,q1,q2,q3⟩
  ·have bW:v.oneCell'=true:=by cases hv<;>first|rfl|assumption
   exact .nw b g i off v hq bW
  ·have ho:=mW (c:=c) q2 sP;rcases q3 with q3|⟨rfl,rfl⟩
   ·have bW:v.oneCell'=true:=by cases hv<;>first|rfl|assumption
    exact .nv b g g1 i off ts l v q2 q3 bW
   ·cases hv with
    |dv _ _ _ _ sz l' blk cap hb du hi=>rw[q1]at hb;cases hb;exact .dv b g i off ts l blk cap q2 (ho.trans du) hi
    |nv _ _ g' _ _ sz l' v hb hg hv=>rw[q1]at hb;cases hb;omega
    |nw _ _ _ _ v hb hv=>rw[q1]at hb;cases hb
 |ptr b off =>
  simp only[yW]at H;rcases bu H with H|⟨y,hy,H⟩
  ·exact H.elim
  split at H
  ·refine⟨H,fun c _ v hv=>?_⟩;have bW:v.oneCell'=true:=by cases hv<;>first|rfl|assumption
   exact .jK b off v hy bW
  ·rcases bu H with H|⟨x,hx,H⟩
   ·exact H.elim
   split at H
   ·refine⟨H,fun c hc v hv=>?_⟩;subst hc;have ho:=mW (c:=c) hy sP;cases hv with
    |ptr _ _ cs blk cap hb du=>exact .ptr b off _ blk cap hy (ho.trans du)
    |jK _ _ v hb hv=>rw[hx]at hb;cases hb
   ·exact H.elim
  ·exact H.elim
 |map b =>
  simp only[yW]at H;rcases bu H with H|⟨y,hy,H⟩
  ·exact H.elim
  split at H
  ·refine⟨H,fun c _ v hv=>?_⟩;have bW:v.oneCell'=true:=by cases hv<;>first|rfl|assumption
   exact .pn b v hy bW
  ·rcases bu H with H|⟨x,hx,H⟩
   ·exact H.elim
   split at H
   ·refine⟨H,fun c hc v hv=>?_⟩;subst hc;have ho:=mW (c:=c) hy sP;cases hv with
    |map _ es blk cap hb du=>exact .map b _ blk cap hy (ho.trans du)
    |pn _ v hb hv=>rw[hx]at hb;cases hb
   ·exact H.elim
  ·exact H.elim
 |agg l=>exact H.elim
 |aG l=>exact H.elim
 |fn f a b=>exact H.elim
theorem Bo{h h':List ae}(hs:HSub h h'):∀ {l:List AV} {K:Prop},wL h h' l K->K/\∀ (c:Cx),c.heap=h->∀ (j:Nat) x v,l[j]?=some x->VR c x v->VR (c.cut h') x v
 |[],K,H=>⟨H,fun c _ j x v hx=>by simp at hx⟩
 |y::l,K,H=>by
  obtain⟨H,h1⟩:=M9 hs H;obtain⟨H,h2⟩:=Bo hs H;refine⟨H,fun c hc j x v hx hv=>?_⟩;cases j with
  |zero=>simp at hx;subst hx;exact h1 c hc v hv
  |succ j=>exact h2 c hc j x v (zD hx) hv
theorem VK{h h':List ae}(hs:HSub h h'){x:AV}{K:Prop}(H:Bl h h' x K):K/\∀ (c:Cx),c.heap=h->∀ v,VR c x v->VR (c.cut h') x v:=by
 unfold Bl at H;split at H
 ·obtain⟨H,h1⟩:=Bo hs H;exact⟨H,fun c hc v hv=>by cases hv with|agg _ vs hl bJ=>exact .agg _ vs hl fun j x v hx hu=>h1 c hc j x v hx (bJ j x v hx hu)⟩
 ·obtain⟨H,h1⟩:=Bo hs H;exact⟨H,fun c hc v hv=>by cases hv with|aG _ vs hl bJ=>exact .aG _ vs hl fun j x v hx hu=>h1 c hc j x v hx (bJ j x v hx hu)⟩
 ·obtain⟨H,h1⟩:=Bo hs H;obtain⟨H,h2⟩:=Bo hs H;exact⟨H,fun c hc v hv=>by cases hv with|fn _ _ _ v1 v2 k1 k2 k3 k4=>exact .fn _ _ _ v1 v2 k1 k2 (fun j x v hx hu=>h1 c hc j x v hx (k3 j x v hx hu)) (fun j x v hx hu=>h2 c hc j x v hx (k4 j x v hx hu))⟩
 ·exact M9 hs H
theorem HN{h h':List ae}(hs:HSub h h'):∀ {l:List AV} {K:Prop},Bm h h' l K->K/\∀ (c:Cx),c.heap=h->∀ t,VS c l t->VS (c.cut h') l t
 |[],K,H=>⟨H,fun c _ t ht=>⟨ht.1,fun j x v hx=>by simp at hx⟩⟩
 |y::l,K,H=>by
  obtain⟨H,h1⟩:=VK hs H;obtain⟨H,h2⟩:=HN hs H;refine⟨H,fun c hc t ht=>⟨ht.1,fun j x v hx hv=>?_⟩⟩;cases j with
  |zero=>simp at hx;subst hx;exact h1 c hc v (ht.2 0 _ v rfl hv)
  |succ j =>
   have fu:(t.extract 1)[j]?=some v:=by
    rw[ajN];have:=(Array.getElem?_eq_some_iff.1 hv).1;rw[if_pos oM,ahW];exact hv
   have:=h2 c hc (t.extract 1) ⟨by have:=ht.1;simp at this ⊢;omega,fun i x v hx hv=>ht.2 (i+1) x v (zD hx) (by
    rw[ajN]at hv;split at hv
    ·rw[ahW]at hv;exact hv
    ·cases hv)⟩
   exact this.2 j x v (zD hx) fu
theorem M'{h h':List ae}(hs:HSub h h'):∀ {l:List cn} {K:Prop},DF h h' l K->K/\∀ (c:Cx),c.heap=h->∀ ts,CR c l ts->CR (c.cut h') l ts
 |[],K,H=>⟨H,fun c _ ts ht=>by cases ts with|nil=>trivial|cons t ts=>exact ht.elim⟩
 |f::l,K,H=>by
  obtain⟨H,h1⟩:=HN hs H;obtain⟨H,h2⟩:=M' hs H;refine⟨H,fun c hc ts ht=>?_⟩;cases ts with
  |nil=>exact ht.elim
  |cons t ts=>exact⟨h1 c hc t ht.1,ht.2.1,h2 c hc ts ht.2.2⟩
theorem HO{h h':List ae}(hs:HSub h h'):∀ {l:List br} {K:Prop},wM h h' l K->K/\∀ (lim:Nat) (c:Cx),c.heap=h->∀ g∈l,kf lim c g->kf lim (c.cut h') g
 |[],K,H=>⟨H,fun lim c _ g hg=>by simp at hg⟩
 | .loop i::l,K,H=>by
  obtain⟨H,h1⟩:=HN hs H;obtain⟨H,h2⟩:=HO hs H;refine⟨H,fun lim c hc g hg hk=>?_⟩;rcases ai3.1 hg with rfl|hg
  ·obtain⟨k1,k2,k3,k4⟩:=(show py lim c i from hk);exact(show py lim (c.cut h') i from ⟨k1,k2,k3,h1 c hc _ k4⟩)
  ·exact h2 lim c hc g hg hk
 | .mark d::l,K,H=>by
  obtain⟨H,h2⟩:=HO (l:=l) hs H;refine⟨H,fun lim c hc g hg hk=>?_⟩;rcases ai3.1 hg with rfl|hg
  ·obtain⟨k1,k2,k3⟩:=(show ux lim c d from hk);exact(show ux lim (c.cut h') d from ⟨k1,k2,k3⟩)
  ·exact h2 lim c hc g hg hk
 | .row _::_,_,H=>H.elim
 | .iter _::_,_,H=>H.elim
theorem kf.VM{lim:Nat}{c:Cx}{h':List ae}:∀ {g:br},kf lim c g->g.flat->kf lim (c.cut h') g
 | .row r,h,_=>nC.gen (c:=c) h (nC.aD (c:=c) h) rfl (fun _ _=>rz)
 | .iter i,h,_=>nD.gen (c:=c) h (nD.GC (c:=c) h) (nD.Az (c:=c) h) rfl rfl (fun _ _=>rz)
 | .loop _,_,h=>h.elim
 | .mark d,h,_=>by obtain⟨k1,k2,k3⟩:=(show ux lim c d from h);exact(show ux lim (c.cut h') d from ⟨k1,k2,k3⟩)
section
variable {E:Env} {aj:FuncId} {R:cT} {td:List aY} {s s':List AV} {h h':List ae}
theorem dp.cut{lim:Nat}{c:Cx}{rows loops:List br}(h:dp lim c rows loops){h':List ae}(hl:∀ g∈loops,kf lim c g->kf lim (c.cut h') g):dp lim (c.cut h') rows loops :=
 ⟨⟨fun g hg=>(aif.1 hg).elim (fun uU=>(h.all.each g hg).VM (h.flat g uU)) (fun uU=>hl g uU (h.all.each g hg)),h.all.nodup⟩,h.flat⟩
theorem AW.weaken{f0:FuncId}{fd:ke}(hs:uT h h' R.fx (uS R.n h s h' s'))(H:AW E f0 ⟨fd,td,s'⟩ R.fx.cls h' R):AW E f0 ⟨fd,td,s⟩ R.fx.cls h R:=by
 unfold AW at H ⊢;intro c0 c t ts h0 h1 h2 h3 hr bz h4 h5 cs;subst h2;unfold uT at hs;have uV:=hs;replace hs:=HM (M8 hs);unfold uS at hs;split at hs
 case h_2=>exact hs.elim
 rename_i q;have hn:=ahA q;obtain⟨k1,k2⟩:=M5 hs;have k3:=M6 k1 hs;obtain⟨-,k4⟩:=HJ k1 k2;obtain⟨rB,f1⟩:=M' k1 uV;obtain⟨-,f2⟩:=HO k1 rB;have hv:=k4 c t.toList rfl ⟨zD h4.1,fun j x v hx hv=>h4.2 j x v hx (zD hv)⟩;have aV:=h3.cut k1 (fun i cs hi=>by obtain⟨rA,r1,r2⟩:=k3 i cs hi;exact⟨rA,r1,fun vs hv=>r2 c vs rfl hv⟩);exact H c0 (c.cut h') t ts h0 h1 rfl aV (hr.cut oM k1) (bz.cut fun g hg=>f2 _ c rfl g hg) ⟨zD hv.1,fun j x v hx hu=>hv.2 j x v hx (zD hu)⟩ (f1 c rfl ts h5) cs
def anyS:List Nat->List AV->List AV
 |[],s=>s
 |d::l,s=>anyS l (s.set d .any)
def lE:List (Nat × AV)->List AV->List AV
 |[],s=>s
 |(d,v)::l,s=>lE l (s.set d v)
def lF:List (Nat × ae)->List ae->List ae
 |[],h=>h
 |(d,v)::l,h=>lF l (h.set d v)
def DG{α:Sort _}:List Nat->List AV->(List AV->α)->α
 |[],s,k=>k s
 |d::l,s,k=>iA s d .any fun s'=>DG l s' k
theorem Na{α:Sort _}:∀ (l:List Nat) (s:List AV) (k:List AV->α),DG l s k=k (anyS l s)
 |[],_,_=>rfl
 |d::l,s,k=>by simp only[DG,jk,anyS,Na l]
def wN{α:Sort _}{β:Type}:List (Nat × β)->List β->(List β->α)->α
 |[],s,k=>k s
 |(d,v)::l,s,k=>iA s d v fun s'=>wN l s' k
theorem Nb{α:Sort _}:∀ (l:List (Nat × AV)) (s:List AV) (k:List AV->α),wN l s k=k (lE l s)
 |[],_,_=>rfl
 |(d,v)::l,s,k=>by simp only[wN,jk,lE,Nb l]
theorem Nc{α:Sort _}:∀ (l:List (Nat × ae)) (s:List ae) (k:List ae->α),wN l s k=k (lF l s)
 |[],_,_=>rfl
 |(d,v)::l,s,k=>by simp only[wN,jk,lF,Nc l]
def Bp(ks:List Nat):AV->Bool
 | .own j _=>lD j ks
 | .cut j _ _ _=>lD j ks
 | .dv j _ _ _=>lD j ks
 |_=>false
def Nd(ks:List Nat):AV->Bool
 | .agg l=>l.any (Bp ks)
 | .aG l=>l.any (Bp ks)
 | .fn _ a b=>a.any (Bp ks)||b.any (Bp ks)
 |x=>Bp ks x
def lG(ks:List Nat):List AV->List AV
 |[]=>[]
 |x::s=>(match Nd ks x with|true => .any|false=>x)::lG ks s
def Bq{α:Sort _}(ks:List Nat):List AV->(List AV->α)->α
 |[],k=>k []
 |x::s,k=>match Nd ks x with
  |true=>Bq ks s fun s'=>k (.any::s')
  |false=>Bq ks s fun s'=>k (x::s')
theorem Nf{α:Sort _}(ks:List Nat):∀ (s:List AV) (k:List AV->α),Bq ks s k=k (lG ks s)
 |[],_=>rfl
 |x::s,k=>by
  simp only[Bq,lG];split<;>rename_i q<;>rw[Nf ks s]<;>simp only[q]
def mi:List (Nat × ae)->List Nat
 |[]=>[]
 |p::l=>p.1::mi l
def rC{α:Sort _}(fm ks:List Nat)(vars:List (Nat × AV))(boxes:List (Nat × ae))(s:List AV)(h:List ae)(k:List AV->List ae->α):α :=
 Bq ks s fun s0=>DG fm s0 fun s1=>wN vars s1 fun s2=>wN boxes h fun h2=>k s2 h2
theorem yY{α:Sort _}(fm ks:List Nat)(vars:List (Nat × AV))(boxes:List (Nat × ae))(s:List AV)(h:List ae)(k:List AV->List ae->α):rC fm ks vars boxes s h k=k (lE vars (anyS fm (lG ks s))) (lF boxes h):=by
 simp only[rC,Nf,Na,Nb,Nc]
theorem I.loop{lits:List Nat}{b:Code}{k:List aY}{κ:Type}(fm:List Nat)(vars:κ->List (Nat × AV))(boxes:κ->List (Nat × ae))(Φ:κ->Prop)(μ:κ->Nat)(x0:κ)(h0:Φ x0)
  (oN:rC fm (mi (boxes x0)) (vars x0) (boxes x0) s h fun s' h'=>uT h h' R.fx (uS R.n h s h' s'))
  (uW:∀ x,Φ x->(∀ y,Φ y->μ y<μ x->I E aj R [] (.inLoop b::k) (lE (vars y) (anyS fm (lG (mi (boxes x0)) s))) (lF (boxes y) h))->I E aj R [] (.code b :: .inLoop b::k) (lE (vars x) (anyS fm (lG (mi (boxes x0)) s))) (lF (boxes x) h)) :
  I E aj R lits (.code (.loop b)::k) s h:=by
 have main:∀ n x,μ x<n->Φ x->I E aj R [] (.inLoop b::k) (lE (vars x) (anyS fm (lG (mi (boxes x0)) s))) (lF (boxes x) h):=by
  intro n
  induction n with
  |zero=>intro x hx;omega
  |succ n ih=>intro x hx hP;exact .of (.inLoop (uW x hP fun y hy hm=>ih y oM hy).to)
 rw[yY]at oN;exact .of (.loop (.weaken oN (uW x0 h0 fun y hy _=>main (μ y+1) y oM hy).to))
theorem I.head(hE:E.OK){fn:Func}(hf:E.P.funcs[aj]?=some fn)(n:Nat){lits fm ks:List Nat}{vars:List (Nat × AV)}{boxes:List (Nat × ae)}{s0:List AV}{h0:List ae}
  (H:rC fm ks vars boxes s0 h0 fun s' h'=>runK E aj fn.results.toList R n lits td s' h'):I E aj R lits td (lE vars (anyS fm (lG ks s0))) (lF boxes h0):=by
 rw[yY]at H;exact .run hE hf n H
theorem I.back{lits VN fm ks:List Nat}{vars:List (Nat × AV)}{boxes:List (Nat × ae)}{s0:List AV}{h0:List ae}(H:I E aj R lits td (lE vars (anyS fm (lG ks s0))) (lF boxes h0))
  (hs:rC fm ks vars boxes s0 h0 fun s' h'=>uT h h' R.fx (uS R.n h s h' s')):I E aj R VN td s h:=by
 rw[yY]at hs;exact .of (.weaken hs H.to)
theorem I.nH{lits:List Nat}(d:Nat)(ts:Nat × Nat)(kh:0<ts.2)(hd:s[d]?=some (.d .aF))(H:I E aj R lits td (s.set d (.own h.length 0)) (h++[.arr 0 ts []])):I E aj R lits td s h:=by
 replace H:=H.to;refine .of (.mb (fun c t fj h1 h2 h3 h4 h5=>?_) H);subst h2
 let c':Cx:={ c with heap:=c.heap++[.arr 0 ts []] }
 have bI:c.own c.heap.length=none:=by
  cases ho:c.own c.heap.length with
  |none=>rfl
  |some p=>have:=(h3.bD _ p.1 p.2 ho).2;omega
 have bc:Step c c':=⟨rfl,h3.bV,rfl,rfl,rfl,ahL _,fun _ _ _=>rfl,fun i b n hi _=>⟨n,hi⟩,fun i bx hi=>by
  have h':c'.heap[i]?=some bx:=by show(c.heap++_)[i]?=_;rw[ahT (aW hi)];exact hi
  cases bx with
  |cells cs=>exact .inl ⟨cs,h',rfl,rfl⟩
  |arr g sz l=>exact .inl ⟨g,l,h',.inr ⟨rfl,rfl,rfl⟩⟩
  |map es=>exact .inl ⟨es,h',rfl⟩
  |gone=>exact h'
  |hole=>exact⟨_,h'⟩⟩
 have eK:c'.heap[c.heap.length]?=some (.arr 0 ts []):=by show(c.heap++_)[_]?=_;simp
 have aV:aO E.G c':=h3.next bc (fun i b n hi=>⟨(h3.bD i b n hi).1,by have:=(h3.bD i b n hi).2;show i<(c.heap++_).length;simp;omega⟩) h3.inj (fun i bx hi=>by
  by_cases hY:i=c.heap.length
  ·subst hY;rw[eK]at hi;cases hi;exact .inr ⟨kh,fun i e he=>by simp at he,.inl ⟨bI,rfl⟩⟩
  ·have ai : i < c.heap.length := by have := aW hi;have h2 : c'.heap.length=c.heap.length+1 := by show(c.heap ++ _).length=_;simp
                                     omega
   have cu:(c.heap++[.arr 0 ts []])[i]?=some bx:=hi;rw[ahT ai]at cu
   exact .inl ⟨cu,rfl,fun _ _ _=>rfl⟩)
 refine⟨c',t,fj,h1,rfl,aV,?_,bc.cr h5,bc,fun _ => .refl _ _⟩;have jn:d<t.size:=by rw[<- h4.1];exact aW hd
 have hv:t[d]=.slice none 0 0:=by
  have:=h4.2 d _ t[d] hd (by simp[jn]);generalize t[d]=u at this;cases this with
  |d _ _ hv=>cases hv;rfl
 have:=VS.put (bc.vs h4) d (x := .own c.heap.length 0) (v:=t[d]) (by rw[hv];exact .jJ _ _ ts eK bI)
 simpa [Array.setIfInBounds,jn]using this
end
end Go.az
end
section
namespace Go.az
open Go Go.RowKit
section
variable {α:Sort _}
def DH(b g:Nat)(l:List DV)(x:AV)(k:AV->α):α:=match x with
 | .own j g'=>match ahv j b,ahv g' g with
  |true,true=>k (.d (.sl l))
  |_,_=>k (.own j g')
 |x=>k x
def wO(b g:Nat)(l:List DV):List AV->(List AV->α)->α
 |[],k=>k []
 |x::r,k=>DH b g l x fun y=>wO b g l r fun r'=>k (y::r')
def HP(b g:Nat)(l:List DV)(x:AV)(k:AV->α):α:=match x with
 | .agg c=>wO b g l c fun c'=>yg c' k
 | .aG c=>wO b g l c fun c'=>k (.aG c')
 | .fn f a1 a2=>wO b g l a1 fun Ng=>wO b g l a2 fun Nh=>k (.fn f Ng Nh)
 |x=>DH b g l x k
def HQ(b g:Nat)(l:List DV):List AV->(List AV->α)->α
 |[],k=>k []
 |x::r,k=>HP b g l x fun y=>HQ b g l r fun r'=>k (y::r')
def Br(b g:Nat)(l:List DV):List ae->(List ae->α)->α
 |[],k=>k []
 |x::r,k=>match x with
  | .cells c=>wO b g l c fun c'=>Br b g l r fun r'=>k (.cells c'::r')
  |x=>Br b g l r fun r'=>k (x::r')
end
def Ni(b:Nat)(s:List AV)(h:List ae)(k:List AV->List ae->Prop):Prop:=bh h b False fun
 | .arr g _ l=>HQ b g l s fun s'=>Br b g l h fun h'=>iA h' b .gone fun sG=>k s' sG
 |_=>False
structure yZ(b g:Nat)(l:List DV)(c c':Cx):Prop where
 step:Step c c'
 own:∀ v,VR c (.own b g) v->VR c' (.d (.sl l)) v
section
variable {b g:Nat} {l:List DV}
theorem Nj{x:AV}{k:AV->Prop}(H:DH b g l x k):∃ y,k y/\∀ c c',yZ b g l c c'->∀ v,VR c x v->VR c' y v:=by
 unfold DH at H;split at H
 ·split at H
  ·rename_i q1 q2;have q1:=ahu q1;have q2:=ahu q2;subst q1;subst q2;exact⟨_,H,fun c c' hf v hv=>hf.own v hv⟩
  ·exact⟨_,H,fun c c' hf v hv=>hf.step.vr hv⟩
 ·exact⟨_,H,fun c c' hf v hv=>hf.step.vr hv⟩
theorem y0:∀ {r:List AV} {k:List AV->Prop},wO b g l r k->∃ r',k r'/\r'.length=r.length/\∀ c c',yZ b g l c c'->∀ vs,VL c r vs->VL c' r' vs
 |[],_,H=>⟨[],H,rfl,fun _ _ _ _ hv=>⟨hv.1,fun j x v hx=>by simp at hx⟩⟩
 |x::r,k,H=>by
  obtain⟨y,H,hy⟩:=Nj H;obtain⟨r',H,hl,hr⟩:=y0 H;refine⟨y::r',H,by simp[hl],fun c c' hf vs hv=>?_⟩;cases vs with
  |nil=>have:=hv.1;simp at this
  |cons v vs=>exact .cons (hy c c' hf v hv.head.1) (hr c c' hf vs hv.head.2)
theorem VO{x:AV}{k:AV->Prop}(H:HP b g l x k):∃ y,k y/\∀ c c',yZ b g l c c'->∀ v,VR c x v->VR c' y v:=by
 unfold HP at H;split at H
 ·obtain⟨r',H,-,hr⟩:=y0 H;obtain⟨y,H,hy⟩:=Am H;refine⟨y,H,fun c c' hf v hv=>?_⟩;obtain⟨vs,rfl,jl⟩:=qZ hv;exact hy c' vs (hr c c' hf vs jl)
 ·obtain⟨r',H,-,hr⟩:=y0 H;refine⟨_,H,fun c c' hf v hv=>?_⟩;cases hv with
  |aG _ vs hl bJ =>
   have:=hr c c' hf vs.toList ⟨zD hl,fun j x v hx hv=>bJ j x v hx (zD hv)⟩;exact .aG _ vs (zD this.1) (fun j x v hx hv=>this.2 j x v hx (zD hv))
 ·obtain⟨Ng,H,-,h1⟩:=y0 H;obtain⟨Nh,H,-,h2⟩:=y0 H;refine⟨_,H,fun c c' hf v hv=>?_⟩;obtain⟨v1,v2,rfl,r1,r2⟩:=mP hv;have r1:=h1 c c' hf v1 r1;have r2:=h2 c c' hf v2 r2;exact .fn _ _ _ _ _ (zD r1.1) (zD r2.1) (fun j x v hx hv=>r1.2 j x v hx (zD hv)) (fun j x v hx hv=>r2.2 j x v hx (zD hv))
 ·exact Nj H
theorem Nk:∀ {r:List AV} {k:List AV->Prop},HQ b g l r k->∃ r',k r'/\∀ c c',yZ b g l c c'->∀ vs,VL c r vs->VL c' r' vs
 |[],_,H=>⟨[],H,fun _ _ _ _ hv=>⟨hv.1,fun j x v hx=>by simp at hx⟩⟩
 |x::r,k,H=>by
  obtain⟨y,H,hy⟩:=VO H;obtain⟨r',H,hr⟩:=Nk H;refine⟨y::r',H,fun c c' hf vs hv=>?_⟩;cases vs with
  |nil=>have:=hv.1;simp at this
  |cons v vs=>exact .cons (hy c c' hf v hv.head.1) (hr c c' hf vs hv.head.2)
def DI(b g:Nat)(l:List DV)(x y:ae):Prop:=match x with
 | .cells cs=>∃ cs',y=.cells cs'/\cs'.length=cs.length/\∀ c c',yZ b g l c c'->∀ vs,VL c cs vs->VL c' cs' vs
 |x=>y=x
theorem HR:∀ {r:List ae} {k:List ae->Prop},Br b g l r k->∃ r',k r'/\r'.length=r.length/\∀ (i:Nat) (x:ae),r[i]?=some x->∃ y,r'[i]?=some y/\DI b g l x y
 |[],_,H=>⟨[],H,rfl,fun i x hx=>by simp at hx⟩
 |x::r,k,H=>by
  unfold Br at H;have fin:∀ {y:ae} {r':List ae},DI b g l x y->(∀ (i:Nat) (x:ae),r[i]?=some x->∃ y,r'[i]?=some y/\DI b g l x y)->∀ (i:Nat) (z:ae),(x::r)[i]?=some z->∃ y',(y::r')[i]?=some y'/\DI b g l z y':=fun{y r'} h1 h2 i z hz=>by
   cases i with
   |zero=>simp at hz;subst hz;exact⟨y,rfl,h1⟩
   |succ i=>obtain⟨y',k1,k2⟩:=h2 i z (zD hz);exact⟨y',zD k1,k2⟩
  split at H
  ·obtain⟨c',H,hl,hr⟩:=y0 H;obtain⟨r',H,qw,wm⟩:=HR H;exact⟨_,H,by simp[qw],fin ⟨c',rfl,hl,hr⟩ wm⟩
  ·rename_i aL;obtain⟨r',H,qw,wm⟩:=HR H;refine⟨_,H,by simp[qw],fin ?_ wm⟩;cases x with
   |cells c=>exact absurd rfl (aL c)
   |arr _ _ _=>rfl
   |map _=>rfl
   |gone=>rfl
   |hole=>rfl
end
section
variable {E:Env} {aj:FuncId} {R:cT} {td:List aY} {s:List AV} {h:List ae}
theorem I.freeze{lits:List Nat}(b:Nat)(H:Ni b s h fun s' h'=>I E aj R lits td s' h'):I E aj R lits td s h:=by
 unfold Ni at H;rcases bu H with H|⟨bx,hb,H⟩
 ·exact H.elim
 split at H
 case h_2=>exact H.elim
 rename_i g ts l;obtain⟨s',H,VP⟩:=Nk H;obtain⟨h',H,hlen,Dz⟩:=HR H;rw[jk]at H;refine .of (.mb (fun c t fj h1 h2 h3 h4 h5=>?_) H.to);subst h2;have fE:=aW hb
 let c':Cx:={ c with own:=fun i=>if i=b then none else c.own i,heap:=h'.set b .gone }
 have fT:c'.heap[b]?=some .gone:=by show(h'.set b .gone)[b]?=_;rw[List.getElem?_set_self oM]
 have ly:∀ i,i≠b->c'.heap[i]?=h'[i]? := fun i hi=>by show(h'.set b .gone)[i]?=_;rw[List.getElem?_set_ne (Ne.symm hi)]
 have bN:∀ i,i≠b->c'.own i=c.own i:=fun i hi=>by simp only[c',if_neg hi]
 have kO:∀ i p,c'.own i=some p->i≠b/\c.own i=some p:=fun i p hp=>by
  simp only[c']at hp;split at hp
  ·cases hp
  ·rename_i q;exact⟨q,hp⟩
 have bc:Step c c':=⟨rfl,h3.bV,rfl,rfl,rfl,ahL _,fun _ _ _=>rfl,fun i x n hi _=>⟨n,(kO i _ hi).2⟩,fun i bx hi=>by
  by_cases bL:i=b
  ·subst bL;cases bx with
   |cells cs=>exact .inr fT
   |arr g sz l=>exact .inr fT
   |map es=>exact .inr fT
   |gone=>exact fT
   |hole=>exact⟨_,fT⟩
  ·obtain⟨y,k1,k2⟩:=Dz i bx hi;rw[<- ly i bL]at k1;cases bx with
   |cells cs=>obtain⟨cs',rfl,e,-⟩:=k2;exact .inl ⟨cs',k1,bN i bL,e⟩
   |arr g sz l=>obtain rfl:y=_:=k2;exact .inl ⟨g,l,k1,.inr ⟨rfl,rfl,bN i bL⟩⟩
   |map es=>obtain rfl:y=_:=k2;exact .inl ⟨es,k1,bN i bL⟩
   |gone=>obtain rfl:y=_:=k2;exact k1
   |hole=>obtain rfl:y=_:=k2;exact⟨_,k1⟩⟩
 have qf:∀ x,c'.bad x->c.bad x:=fun x hx=>hx.elim .inl fun⟨i,n,hi⟩ => .inr ⟨i,n,(kO i _ hi).2⟩
 have DJ:yZ b g l c c':=⟨bc,fun v hv=>by
  obtain⟨q0,q1,q2⟩:=h3.box b _ hb;rcases lu hb hv with⟨blk,cap,r1,rfl⟩|⟨rfl,rfl,r1⟩
  ·rcases q2 with⟨q2,-⟩|⟨jL,iV,vs,q2,q3,q4,q5,q6,q7⟩
   ·rw[r1]at q2;cases q2
   rw[r1]at q2;cases q2;refine .d _ _ (.sl l blk 0 cap ts.2 (fun i j=>(vs[i*ts.2+j]?).getD undef) (fun _ fJ=>?_) q0 q5 (fun i e he=>q1 i e he) (fun i j e x he hx=>?_) (fun i j e x he hx=>?_) (fun i j e x he hx=>?_))
   ·rcases fJ with fJ|⟨i,n,hi⟩
    ·exact h3.sep b blk cap r1 fJ
    ·obtain⟨k1,k2⟩:=kO i _ hi;exact k1 (h3.inj i b blk n cap k2 r1)
   ·obtain⟨v,p1,p2,p3⟩:=q7 i j e x he hx;rw[p1,ah8];exact mL q3 _ v (zD p1)
   ·obtain⟨v,p1,p2,p3⟩:=q7 i j e x he hx;simp only[p1,ah8];exact bc.vd p3
   ·obtain⟨v,p1,p2,p3⟩:=q7 i j e x he hx;simp only[p1,ah8];exact p2
  ·exact .d _ _ .slnil⟩
 have aV:aO E.G c':=by
  refine h3.next bc (fun i x n hi=>?_) (fun i j x n m hi hj=>h3.inj i j x n m (kO i _ hi).2 (kO j _ hj).2) (fun i bx hi=>?_)
  ·have:=h3.bD i x n (kO i _ hi).2;refine⟨this.1,?_⟩;show i<(h'.set b .gone).length;rw[List.length_set,hlen];exact this.2
  ·right;by_cases bL:i=b
   ·subst bL;rw[fT]at hi;cases hi;show c'.own i=none;simp[c']
   ·rw[ly i bL]at hi;have hY:i<c.heap.length:=by rw[<- hlen];exact aW hi
    obtain⟨y,k1,k2⟩:=Dz i c.heap[i] (by simp[hY]);rw[hi]at k1;cases k1;have kb:c.heap[i]?=some c.heap[i]:=by simp[hY]
    generalize c.heap[i]=x at k2 kb;cases x with
    |cells cs =>
     obtain⟨cs',rfl,e,hv⟩:=k2;obtain⟨blk,cap,vs,ty,g1,g2,g3⟩:=h3.cells kb;have:=hv c c' DJ vs.toList g3;exact⟨blk,cap,vs,ty,(bN i bL).trans g1,g2,zD this.1.symm,fun j x v hx hv=>this.2 j x v hx (zD hv)⟩
    |arr _ _ _=>obtain rfl:bx=_:=k2;exact(h3.box i _ kb).keep bc (bN i bL) (fun _ _ _=>rfl)
    |map _=>obtain rfl:bx=_:=k2;exact(h3.box i _ kb).keep bc (bN i bL) (fun _ _ _=>rfl)
    |gone=>obtain rfl:bx=_:=k2;exact(h3.box i _ kb).keep bc (bN i bL) (fun _ _ _=>rfl)
    |hole=>obtain rfl:bx=_:=k2;exact(h3.box i _ kb).keep bc (bN i bL) (fun _ _ _=>rfl)
 have hv:=VP c c' DJ t.toList ⟨zD h4.1,fun j x v hx hv=>h4.2 j x v hx (zD hv)⟩;exact⟨c',t,fj,h1,rfl,aV,⟨zD hv.1,fun j x v hx hu=>hv.2 j x v hx (zD hu)⟩,bc.cr h5,bc,fun _ => .refl _ _⟩
theorem I.te{lits:List Nat}{b:Code}{k:List aY}(H:I E aj R [] (.code b :: .inLoop b::k) s h):I E aj R lits (.code (.loop b)::k) s h := .of (.loop H.to)
theorem I.again{lits:List Nat}{b:Code}{k:List aY}(H:I E aj R [] (.code b :: .inLoop b::k) s h):I E aj R lits (.inLoop b::k) s h := .of (.inLoop H.to)
theorem I.Nl{lits:List Nat}{ops:Array Oper}{o:Oper}{l:List Oper}{k:List aY}{v:AV}{h':List ae}(ho:bE E o.op s h v h')(hg:o.guard=none)(H:cz s o.dst v fun s'=>I E aj R lits (.bF ops l::k) s' h'):I E aj R lits (.bF ops (o::l)::k) s h:=by
 rw[eW]at H;exact .of (.op (iF hg) ho H.to)
end
def DK:DV->Bool
 | .int _ _=>true
 | .bool _=>true
 | .str _=>true
 | .undef=>true
 | .aF=>true
 |_=>false
def DL:DV->Bool
 | .aG c=>c.all DK
 | .agg c=>c.all DK
 |x=>DK x
theorem Nn{x:DV}(hx:DK x=true){bad yc:Nat->Prop}{w w':World}{v:Value}(hv:VD bad w x v):VD yc w' x v:=by
 cases hv<;>first|(cases hx;done)|(constructor;done)
theorem No{x:DV}(hx:DL x=true){bad yc:Nat->Prop}{w w':World}{v:Value}(hv:VD bad w x v):VD yc w' x v:=by
 cases hv with
 |agg c vs hl bJ=>exact .agg c vs hl fun j x v h1 h2=>Nn (ahH.1 hx x (aiQ h1)) (bJ j x v h1 h2)
 |aG c vs hl bJ=>exact .aG c vs hl fun j x v h1 h2=>Nn (ahH.1 hx x (aiQ h1)) (bJ j x v h1 h2)
 |_=>first|(cases hx;done)|(constructor;done)
def rD(h:List ae):List AV->Option (List DV)
 |[]=>some []
 | .d x::l=>match rD h l with
  |some r=>some (x::r)
  |none=>none
 | .own b _::l=>match eB h b with
  |some (.arr _ _ m)=>match rD h l with
   |some r=>some (.sl m::r)
   |none=>none
  |_=>none
 |_::_=>none
def wP:List AV->Bool
 |[]=>true
 | .own _ g::l=>match ahv g 0 with
  |true=>wP l
  |false=>false
 |_::l=>wP l
theorem DM{G:List (Nat × DV)}{c:Cx}(ho:aO G c)(hf:yv c.heap):∀ {args:List AV} {ds:List DV} {vs:List Value},rD c.heap args=some ds->wP args=true->VL c args vs->kM c.aD c.w ds vs
 |[],ds,vs,h,_,hv=>by cases h;exact⟨hv.1,fun j x v hx=>by simp at hx⟩
 |x::l,ds,vs,h,hg,hv=>by
  cases vs with
  |nil=>have:=hv.1;simp at this
  |cons v vs =>
   obtain⟨js,mj⟩:=hv.head
   have fin:∀ {d:DV} {r:List DV},VD c.aD c.w d v->kM c.aD c.w r vs->kM c.aD c.w (d::r) (v::vs):=fun{d r} h1 h2=>⟨by simp[h2.1],fun j x u hx hu=>by
    cases j with
    |zero=>simp at hx hu;subst hx;subst hu;exact h1
    |succ j=>exact h2.2 j x u (zD hx) (zD hu)⟩
   have less:∀ {d:DV} {u:Value},VD c.bad c.w d u->VD c.aD c.w d u:=fun hd=>hd.mono fun b _ hn=>⟨fun hb=>hn (.inl hb),rfl⟩;cases x with
   |d x =>
    simp only[rD]at h;cases hr:rD c.heap l with
    |none=>rw[hr]at h;cases h
    |some r =>
     rw[hr]at h;cases h;cases js with
     |d _ _ hd=>exact fin (less hd) (DM ho hf hr hg mj)
   |own b g =>
    simp only[rD,ff]at h;simp only[wP]at hg;split at hg
    case h_2=>cases hg
    rename_i q;have q:=ahu q;subst q;split at h
    case h_2=>cases h
    rename_i g' ts m hb;obtain rfl:=hf b g' ts m hb;cases hr:rD c.heap l with
    |none=>rw[hr]at h;cases h
    |some r =>
     rw[hr]at h;cases h;refine fin ?_ (DM ho hf hr hg mj);obtain⟨q0,q1,q2⟩:=ho.box b _ hb;rcases lu hb js with⟨blk,cap,r1,rfl⟩|⟨rfl,rfl,r1⟩
     ·rcases q2 with⟨q2,-⟩|⟨jL,iV,vs',q2,q3,q4,q5,q6,q7⟩
      ·rw[r1]at q2;cases q2
      rw[r1]at q2;cases q2;refine .sl m blk 0 cap ts.2 (fun i j=>(vs'[i*ts.2+j]?).getD undef) (fun _ fJ=>ho.sep b blk cap r1 fJ) q0 q5 (fun i e he=>q1 i e he) (fun i j e x he hx=>?_) (fun i j e x he hx=>?_) (fun i j e x he hx=>?_)
      ·obtain⟨v,p1,p2,p3⟩:=q7 i j e x he hx;rw[p1,ah8];exact mL q3 _ v (zD p1)
      ·obtain⟨v,p1,p2,p3⟩:=q7 i j e x he hx;simp only[p1,ah8];exact less p3
      ·obtain⟨v,p1,p2,p3⟩:=q7 i j e x he hx;simp only[p1,ah8];exact p2
     ·exact .slnil
   |_=>cases h
theorem aq.dc{E:Env}{f:FuncId}{ds:List DV}{h:List ae}{args:List AV}{R:DV->Prop}(H:aq E f ds R)(nE:qv h=true)(hd:rD h args=some ds)(hg:wP args=true)(hr:∀ r,R r->DL r=true):au E f h args (fun a b=>∃ r,R r/\a=.d r/\b=h):=by
 unfold aq at H;unfold au;refine⟨H.1,kR nE,fun c vs h1 h2 h3=>?_⟩;subst h1;have ik:uz E.G c.aD c.w:=fun g e aA=>by
  have hp:∀ p,VR c (.bT e 0) p->VR ⟨fun _=>none,[],c.aD,c.w⟩ (.bT e 0) p:=fun p hp=>by
   cases hp with
   |bT _ _ blk o' fv k1 k2 k3 k4=>exact .bT _ _ blk o' fv (fun hb=>k1 (.inl (wj.1 hb))) k2 k3 (fun j x hx=>wk ((k4 j x hx).mono fun b _ hn=>⟨fun hb=>hn (.inl hb),rfl⟩))
  exact hp _ (h2.gI g e aA)
 refine(H.2 c.aD c.w vs h2.bV ik (DM h2 (kR nE) hd hg h3)).mono fun e w' ⟨v,r,k1,k2,k3,k4⟩=>?_;obtain⟨q1,q2⟩:=h2.grow k4;exact⟨c.fe w',.d r,v,k1,rfl,⟨r,k2,rfl,rfl⟩,.d _ _ (No (hr r k2) k3),q1,(Rel.refl c (kR nE)).step q2⟩
theorem VQ{E:Env}{f:FuncId}{h0:List ae}{args:List AV}{ds:List DV}{r:DV}{K:AV->List ae->Prop}(H:aq E f ds (· = r))(hd:rD h0 args=some ds)(hr:DL r=true)(hg:wP args=true)(nE:qv h0=true)(hk:K (.d r) h0):yR E f h0 args K :=
 lB (H.dc nE hd hg (fun _ e=>e ▸ hr)) fun a b ⟨r',e1,e2,e3⟩=>by subst e1;subst e2;subst e3;exact hk
end Go.az
end
