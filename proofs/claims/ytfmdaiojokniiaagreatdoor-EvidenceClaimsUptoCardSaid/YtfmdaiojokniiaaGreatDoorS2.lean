/- Lemmas of mine. Conditions: as stated. -/
import Derived.Test.YtfmdaiojokniiaaGreatDoorS1
set_option linter.unusedVariables false
set_option linter.unusedSimpArgs false
open Array renaming getElem?_extract->age
open List renaming mem_of_getElem?->afh,getElem?_eq_getElem->afo,getElem?_append_left->ael,getElem?_map->ad1,range->aeU,getElem?_eq_none_iff->aga,getElem?_eq_none->adW,nodup_cons->agb,mem_append->aeI,length_append->aey,map_cons->ad0,mem_cons->afu,getElem_of_mem->aeY,getElem?_append_right->ae9,mem_append_left->agc,mem_append_right->agd,length_replicate->afi,all_eq_true->ad'
open Nat renaming beq->adY,eq_of_beq_eq_true->adX,zero_add->ad5,blt->adZ,ble->aeg,le_refl->aed,le_of_ble_eq_true->ad3,lt_of_lt_of_le->ad4,lt_or_ge->adV,add_comm->aep
open Option renaming getD_some->aeB,map_some->aeT
section
namespace Go.aA
open Go Go.RowKit
def dn:List Nat->Nat->Option Nat
 |[],_=>none
 |a::l,j=>match adY a j with
  |true=>some 0
  |false=>(dn l j).map (· + 1)
theorem kl:∀ {l:List Nat} {j i:Nat},dn l j=some i->l[i]?=some j
 |a::l,j,i,h=>by
  simp only[dn]at h;split at h
  ·rename_i q;cases h;simp[adX q]
  ·cases hx:dn l j with
   |none=>rw[hx]at h;cases h
   |some k=>rw[hx]at h;cases h;simpa using kl hx
theorem uE:∀ {l:List Nat} {j i:Nat},l.Nodup->l[i]?=some j->dn l j=some i
 |[],_,_,_,h=>by simp at h
 |a::l,j,0,_,h=>by simp at h;subst h;simp[dn]
 |a::l,j,i+1,hn,h=>by
  have hl:l[i]?=some j:=by simpa using h
  have aJ:(adY a j)=false:=by
   cases hb:adY a j with
   |false=>rfl
   |true =>
    have:=adX hb;subst this;exact absurd (afh hl) (agb.1 hn).1
  simp only[dn,aJ,uE (agb.1 hn).2 hl];rfl
theorem Ff{l:List Nat}{j:Nat}(h:dn l j=none)(hn:l.Nodup):j ∉ l:=fun hm=>by
 obtain⟨i,hi,he⟩:=aeY hm;rw[uE hn (i:=i) (by simp[hi,he])]at h;cases h
def nn(h:List af)(j:Nat):Nat:=match dJ h j with
 |some (.arr g _ _)=>g
 |_=>0
section
variable (ab:List Nat) (h:List af)
def gR:AV->AV
 | .own j g=>match dn ab j with
  |some i=>match dJ h j with
   |some (.arr g' _ _)=>match adY g g' with
    |true => .own i 0
    |false => .any
   |_ => .any
  |none => .any
 | .ptr j off=>match dn ab j with
  |some i=>match dJ h j with
   |some (.cells _) => .ptr i off
   |_ => .any
  |none => .any
 | .cX j g k off=>match dn ab j with
  |some i=>match dJ h j with
   |some (.arr g' _ _)=>match adY g g' with
    |true => .cX i 0 k off
    |false => .any
   |_ => .any
  |none => .any
 | .cut j g k q=>match dn ab j with
  |some i=>match dJ h j with
   |some (.arr g' _ _)=>match adY g g' with
    |true => .cut i 0 k q
    |false => .any
   |_ => .any
  |none => .any
 | .map j=>match dn ab j with
  |some i=>match dJ h j with
   |some (.map _) => .map i
   |_ => .any
  |none => .any
 | .d x => .d x
 | .bQ e off => .bQ e off
 |_ => .any
def gj:AV->AV
 | .agg l => .agg (l.map (gR ab h))
 | .aF l => .aF (l.map (gR ab h))
 | .fn f a b => .fn f (a.map (gR ab h)) (b.map (gR ab h))
 |x=>gR ab h x
def oZ:af->af
 | .arr _ ts l => .arr 0 ts l
 | .cells cs => .cells (cs.map (gR ab h))
 |b=>b
def eF:List af:=ab.map fun j=>match dJ h j with
 |some b=>oZ ab h b
 |none => .gone
def gm(i:Nat):Nat:=match dJ ab i with
 |some j=>j
 |none=>h.length+(i-ab.length)
def ou(i:Nat):Nat:=match dJ ab i with
 |some j=>nn h j
 |none=>0
def la:AV->AV
 | .own i g => .own (gm ab h i) (ou ab h i+g)
 | .ptr i off => .ptr (gm ab h i) off
 | .cX i g k off => .cX (gm ab h i) (ou ab h i+g) k off
 | .cut i g k q => .cut (gm ab h i) (ou ab h i+g) k q
 | .map i => .map (gm ab h i)
 | .d x => .d x
 | .bQ e off => .bQ e off
 |_ => .any
def xb:AV->AV
 | .agg l => .agg (l.map (la ab h))
 | .aF l => .aF (l.map (la ab h))
 | .fn f a b => .fn f (a.map (la ab h)) (b.map (la ab h))
 |x=>la ab h x
def jd:AV->AV
 | .aF l => .aF (l.map (xb ab h))
 |x=>xb ab h x
def mA(g0:Nat):af->af
 | .arr g ts l => .arr (g0+g) ts l
 | .cells cs => .cells (cs.map (la ab h))
 |b=>b
def pN(h1:List af):Nat->List af->List af
 |_,[]=>[]
 |j,b::r=>(match dn ab j with
  |some i=>match dJ h1 i with
   |some b1=>mA ab h (nn h j) b1
   |none => .gone
  |none=>b)::pN h1 (j+1) r
def fk(h1:List af):List af:=pN ab h h1 0 h++(h1.drop ab.length).map (mA ab h 0)
end
section
variable {ab:List Nat} {h:List af}
theorem xc(h1:List af):∀ (j:Nat) (r:List af),(pN ab h h1 j r).length=r.length
 |_,[]=>rfl
 |j,b::r=>by simp[pN,xc h1 (j+1) r]
theorem Fg(h1:List af):∀ (j k:Nat) (r:List af),(pN ab h h1 j r)[k]?=(r[k]?).map fun b=>match dn ab (j+k)with
  |some i=>match dJ h1 i with
   |some b1=>mA ab h (nn h (j+k)) b1
   |none => .gone
  |none=>b
 |_,_,[]=>by simp[pN]
 |j,0,b::r=>by simp[pN]
 |j,k+1,b::r=>by
  simp only[pN,List.getElem?_cons_succ];rw[Fg h1 (j+1) k r,show j+1+k=j+(k+1) by omega]
theorem sL(h1:List af):(fk ab h h1).length=h.length+(h1.length-ab.length):=by simp[fk,xc]
theorem Fh{h1:List af}{j:Nat}(hj:j<h.length)(hn:dn ab j=none):(fk ab h h1)[j]?=h[j]? := by
 rw[fk,ael (by rw[xc];exact hj),Fg,ad5,hn];simp
theorem Kg{h1:List af}{i j:Nat}(hj:j<h.length)(hi:dn ab j=some i){b:af}(hb:h1[i]?=some b):(fk ab h h1)[j]?=some (mA ab h (nn h j) b):=by
 rw[fk,ael (by rw[xc];exact hj),Fg,ad5,hi];simp[eC,hb,hj]
theorem St{h1:List af}{k:Nat}:(fk ab h h1)[h.length+k]?=(h1[ab.length+k]?).map (mA ab h 0):=by
 rw[fk,ae9 (by rw[xc];omega),xc];simp
def Cx.eM(c:Cx)(ab:List Nat):Cx:=⟨fun i=>match ab[i]? with|some j=>c.own j|none=>none,eF ab c.heap,fun b=>c.aE b\/∃ j n,j ∉ ab/\c.own j=some (b,n),c.w⟩
def gp(w:List Nat)(src dst:List af):List af:=dst.mapIdx fun j b=>if j∈w then src[j]?.getD b else b
theorem Kh{w:List Nat}{src dst:List af}:(gp w src dst).length=dst.length:=by simp[gp]
theorem qQ{w:List Nat}{src dst:List af}{j:Nat}:(gp w src dst)[j]?=dst[j]?.map fun b=>if j∈w then src[j]?.getD b else b:=by simp[gp]
theorem pO{w:List Nat}{src dst:List af}{j:Nat}(h:j ∉ w):(gp w src dst)[j]?=dst[j]? := by
 rw[qQ];simp[h]
theorem zf{w:List Nat}{src dst:List af}{j:Nat}{b:af}(h:j∈w)(hl:j<dst.length)(hb:src[j]?=some b):(gp w src dst)[j]?=some b:=by
 rw[qQ,afo hl];simp[h,hb]
def dQ(ab:List Nat)(h h1:List af):List Nat:=List.range' h.length (h1.length-ab.length)
theorem o0{ab:List Nat}{h h1:List af}{j:Nat}:j∈dQ ab h h1↔h.length<=j/\j<h.length+(h1.length-ab.length):=by simp[dQ]
def Cx.take(c c1:Cx)(ab:List Nat)(h:List af):Cx:=⟨fun j=>match dn ab j with|some i=>c1.own i|none=>if j∈dQ ab h c1.heap then c1.own (ab.length+(j-h.length))else c.own j,gp (ab++dQ ab h c1.heap) (fk ab h c1.heap) c.heap,c.aE,c1.w⟩
variable {c c1:Cx} {G:List (Nat × DV)}
theorem Ki(b:Nat):(c.eM ab).bad b↔c.bad b:=by
 constructor
 ·rintro((hb|⟨j,n,-,hj⟩)|⟨i,n,hi⟩)
  ·exact .inl hb
  ·exact .inr ⟨j,n,hj⟩
  ·simp only[Cx.eM]at hi;split at hi
   ·exact .inr ⟨_,n,hi⟩
   ·cases hi
 ·rintro(hb|⟨j,n,hj⟩)
  ·exact .inl (.inl hb)
  ·by_cases hm:j∈ab
   ·obtain⟨i,hi,he⟩:=aeY hm;refine .inr ⟨i,n,?_⟩;simp only[Cx.eM];rw[show ab[i]?=some j by simp[hi,he]];exact hj
   ·exact .inl (.inr ⟨j,n,hm,hj⟩)
theorem zg{x:DV}{v:Value}(hv:VD c.bad c.w x v):VD (c.eM ab).bad (c.eM ab).w x v:=hv.mono fun b _ hn=>⟨fun hb=>hn ((Ki b).1 hb),rfl⟩
theorem sM{i j:Nat}{b:af}(hi:ab[i]?=some j)(hb:h[j]?=some b):(eF ab h)[i]?=some (oZ ab h b):=by
 simp[eF,hi,eC,hb]
theorem sN{i j:Nat}(hi:ab[i]?=some j):(c.eM ab).own i=c.own j:=by simp only[Cx.eM,hi]
theorem Fi{x:AV}{v:Value}(hv:VR c x v):VR (c.eM ab) (gR ab c.heap x) v:=by
 unfold gR;split
 ·rename_i j g;split
  ·rename_i i hi;have hi:=kl hi;rw[eC];split
   ·rename_i g' ts l hb;split
    ·rename_i q;have q:=adX q;subst q;have cw:=sM hi hb;cases hv with
     |own _ _ _ l' blk cap k1 k2=>rw[hb]at k1;cases k1;exact .own i 0 ts l blk cap cw ((sN hi).trans k2)
     |iH _ _ _ k1 k2=>rw[hb]at k1;cases k1;exact .iH i 0 ts cw ((sN hi).trans k2)
     |kQ _ _ g2 _ _ _ k1 k2 _=>rw[hb]at k1;cases k1;omega
     |jY _ _ _ k1 _=>rw[hb]at k1;cases k1
     |mZ _ _ _ _ _ _ k1 _ _=>rw[hb]at k1;cases k1
    ·exact .any _
   ·exact .any _
  ·exact .any _
 ·rename_i j off;split
  ·rename_i i hi;have hi:=kl hi;rw[eC];split
   ·rename_i cs hb;have cw:=sM hi hb;cases hv with
    |ptr _ _ cs' blk cap k1 k2=>exact .ptr i off _ blk cap cw ((sN hi).trans k2)
    |iI _ _ _ k1 _=>rw[hb]at k1;cases k1
   ·exact .any _
  ·exact .any _
 ·rename_i j g k off;split
  ·rename_i i hi;have hi:=kl hi;rw[eC];split
   ·rename_i g' ts l hb;split
    ·rename_i q;have q:=adX q;subst q;have cw:=sM hi hb;cases hv with
     |cX _ _ _ _ _ l' blk cap k1 k2 k3=>rw[hb]at k1;cases k1;exact .cX i 0 k off ts l blk cap cw ((sN hi).trans k2) k3
     |mc _ _ g2 _ _ _ _ _ k1 k2 _=>rw[hb]at k1;cases k1;omega
     |me _ _ _ _ _ k1 _=>rw[hb]at k1;cases k1
    ·exact .any _
   ·exact .any _
  ·exact .any _
 ·rename_i j g k qq;split
  ·rename_i i hi;have hi:=kl hi;rw[eC];split
   ·rename_i g' ts l hb;split
    ·rename_i q;have q:=adX q;subst q;have cw:=sM hi hb;cases hv with
     |cut _ _ _ _ _ l' blk cap o k1 k2 k3 k4 k5=>rw[hb]at k1;cases k1;exact .cut i 0 k qq ts l blk cap o cw ((sN hi).trans k2) k3 k4 k5
     |nY _ _ g2 _ _ _ _ _ k1 k2 _=>rw[hb]at k1;cases k1;omega
     |nZ _ _ _ _ _ k1 _=>rw[hb]at k1;cases k1
    ·exact .any _
   ·exact .any _
  ·exact .any _
 ·rename_i j;split
  ·rename_i i hi;have hi:=kl hi;rw[eC];split
   ·rename_i es hb;have cw:=sM hi hb;cases hv with
    |map _ ee blk cap k1 k2=>exact .map i _ blk cap cw ((sN hi).trans k2)
    |n0 _ _ k1 _=>rw[hb]at k1;cases k1
   ·exact .any _
  ·exact .any _
 ·cases hv with|d _ _ hx=>exact .d _ _ (zg hx)
 ·cases hv with
  |bQ _ _ blk o f k1 k2 k3 k4=>exact .bQ _ _ blk o f (fun hb=>k1 ((Ki _).1 hb)) k2 k3 (fun j x hx=>zg (k4 j x hx))
 ·exact .any _
theorem zh{l:List AV}{vs:List Value}(hv:VL c l vs):VL (c.eM ab) (l.map (gR ab c.heap)) vs :=
 ⟨by simpa using hv.1,fun j x v hx hu=>by
  rw[ad1]at hx;cases hy:l[j]? with
  |none=>rw[hy]at hx;cases hx
  |some y=>rw[hy]at hx;cases hx;exact Fi (hv.2 j y v hy hu)⟩
theorem zi{l:List AV}{v:Value}(h:VR c (.aF l) v):∃ vs:List Value,v=.tuple vs.toArray/\VL c l vs:=by
 cases h with
 |aF _ vs hl hv=>exact⟨vs.toList,by simp,by simpa using hl,fun j x v hx hu=>hv j x v hx (by simpa using hu)⟩
theorem zj{l:List AV}{vs:List Value}(h:VL c l vs):VR c (.aF l) (.tuple vs.toArray) :=
 .aF l vs.toArray (by simpa using h.1) (fun j x v hx hv=>h.2 j x v hx (by simpa using hv))
theorem Fj{f:Fn}{a b:List AV}{v1 v2:List Value}(h1:VL c a v1)(h2:VL c b v2):VR c (.fn f a b) (.func f v1.toArray v2.toArray) :=
 .fn _ _ _ _ _ (by simpa using h1.1) (by simpa using h2.1) (fun j x v hx hv=>h1.2 j x v hx (by simpa using hv)) (fun j x v hx hv=>h2.2 j x v hx (by simpa using hv))
theorem Kj{x:AV}{v:Value}(hv:VR c x v):VR (c.eM ab) (gj ab c.heap x) v:=by
 unfold gj;split
 ·obtain⟨vs,rfl,h1⟩:=pG hv;exact wE (zh h1)
 ·obtain⟨vs,rfl,h1⟩:=zi hv;exact zj (zh h1)
 ·obtain⟨v1,v2,rfl,h1,h2⟩:=mr hv;exact Fj (zh h1) (zh h2)
 ·exact Fi hv
theorem Kk{l:List AV}{vs:List Value}(hv:VL c l vs):VL (c.eM ab) (l.map (gj ab c.heap)) vs :=
 ⟨by simpa using hv.1,fun j x v hx hu=>by
  rw[ad1]at hx;cases hy:l[j]? with
  |none=>rw[hy]at hx;cases hx
  |some y=>rw[hy]at hx;cases hx;exact Kj (hv.2 j y v hy hu)⟩
theorem Kl{l:List Nat}(hn:l.Nodup){i j a:Nat}(hi:l[i]?=some a)(hj:l[j]?=some a):i=j:=by
 have h1:=uE hn hi;have h2:=uE hn hj;rw[h1]at h2;cases h2;rfl
theorem aM.eM(ho:aM G c)(hn:ab.Nodup):aM G (c.eM ab) where
 bS:=fun b hb=>hb.elim (ho.bS b) fun⟨j,n,_,hj⟩=>(ho.bB j b n hj).1
 bB:=fun i b n hi=>by
  simp only[Cx.eM]at hi;split at hi
  ·rename_i j hj;exact⟨(ho.bB j b n hi).1,by show i<(eF ab c.heap).length;simp only[eF,List.length_map];exact aX hj⟩
  ·cases hi
 inj:=fun i j b n m hi hj=>by
  simp only[Cx.eM]at hi hj;split at hi
  ·rename_i a ha;split at hj
   ·rename_i a' zk;have:=ho.inj a a' b n m hi hj;subst this;exact Kl hn ha zk
   ·cases hj
  ·cases hi
 sep:=fun i b n hi hb=>by
  simp only[Cx.eM]at hi;split at hi
  ·rename_i a ha;rcases hb with hb|⟨j,m,hj,hb⟩
   ·exact ho.sep a b n hi hb
   ·have:=ho.inj a j b n m hi hb;subst this;exact hj (afh ha)
  ·cases hi
 box:=fun i bx hi=>by
  have cj:(eF ab c.heap)[i]?=some bx:=hi;simp only[eF,ad1]at cj;cases hs:ab[i]? with
  |none=>rw[hs]at cj;cases cj
  |some j =>
   rw[hs]at cj;simp only[aeT,Option.some.injEq,eC]at cj;have bH:=sN (c:=c) hs;cases hb:c.heap[j]? with
   |none =>
    rw[hb]at cj;subst cj;show(c.eM ab).own i=none;rw[bH];cases hx:c.own j with
    |none=>rfl
    |some p=>have:=(ho.bB j p.1 p.2 hx).2;rw[aga]at hb;omega
   |some b =>
    rw[hb]at cj;subst cj;have dx:=ho.box j b hb;cases b with
    |cells cs =>
     obtain⟨blk,cap,vs,ty,k1,k2,k3⟩:=ho.cells hb;have:=zh (ab:=ab) k3;exact⟨blk,cap,vs,ty,bH.trans k1,k2,by simpa using this.1.symm,fun j x v hx hv=>this.2 j x v hx (by simpa using hv)⟩
    |arr g ts l =>
     obtain⟨q0,q1,q2⟩:=dx;refine⟨q0,q1,?_⟩;rcases q2 with⟨q2,q3⟩|⟨blk,cap,vs,q2,q3,q4,q5,q6,q7⟩
     ·exact .inl ⟨bH.trans q2,q3⟩
     ·refine .inr ⟨blk,cap,vs,bH.trans q2,q3,q4,q5,q6,fun i j e x he hx=>?_⟩;obtain⟨v,r1,r2,r3⟩:=q7 i j e x he hx;exact⟨v,r1,r2,zg r3⟩
    |map es =>
     obtain⟨blk,cap,en,ck,k1,k2,k3,k4⟩:=dx;exact⟨blk,cap,en,ck,bH.trans k1,k2,k3,fun j k x m hx hm=>⟨zg (k4 j k x m hx hm).1,zg (k4 j k x m hx hm).2⟩⟩
    |gone=>exact bH.trans dx
    |hole=>exact bH.trans dx
 fS:=fun g e hg=>by
  have:=Fi (ab:=ab) (ho.fS g e hg);exact this
theorem Su:wO (eF ab h):=fun i g ts l hi=>by
 simp only[eF,ad1]at hi;cases hs:ab[i]? with
 |none=>rw[hs]at hi;cases hi
 |some j =>
  rw[hs]at hi;simp only[aeT,Option.some.injEq]at hi;split at hi
  ·rename_i b _;cases b<;>simp[oZ]at hi;exact hi.1.symm
  ·cases hi
structure lN(c c1:Cx)(ab:List Nat)(h:List af):Prop where
 nodup:ab.Nodup
 lt:∀ j∈ab,j<h.length
 len:h.length+(c1.heap.length-ab.length)<=c.heap.length
 same:∀ j∈ab,c.heap[j]?=h[j]?
 new:∀ j∈dQ ab h c1.heap,c.heap[j]?=some .hole
 rel:Rel (c.eM ab) c1
 own:∀ i b n,c1.own i=some (b,n)->i<c1.heap.length
theorem Sv{h1:List af}{j:Nat}(ah:∀ j∈ab,j<h.length)(hj:j∈dQ ab h h1):dn ab j=none:=by
 cases hx:dn ab j with
 |none=>rfl
 |some i=>have:=ah _ (afh (kl hx));have:=o0.1 hj;omega
theorem Km{i j:Nat}(hn:ab.Nodup)(hi:ab[i]?=some j):(c.take c1 ab h).own j=c1.own i:=by
 simp only[Cx.take,uE hn hi]
theorem Fk{j:Nat}(hn:dn ab j=none)(hj:j ∉ dQ ab h c1.heap):(c.take c1 ab h).own j=c.own j:=by
 simp only[Cx.take,hn,if_neg hj]
theorem Kn{i:Nat}(hs:ab[i]?=none)(hi:i<c1.heap.length):h.length+(i-ab.length)∈dQ ab h c1.heap:=by
 rw[aga]at hs;rw[o0];omega
theorem Fl(hb:lN c c1 ab h){i:Nat}(hi:i<c1.heap.length):(c.take c1 ab h).own (gm ab h i)=c1.own i:=by
 unfold gm;rw[eC];split
 ·rename_i j hj;exact Km hb.nodup hj
 ·rename_i hj;have hm:=Kn (h:=h) hj hi;rw[aga]at hj;simp only[Cx.take,Sv hb.lt hm,if_pos hm]
  congr 1
  omega
theorem BT(hb:lN c c1 ab h){i:Nat}{b:af}(hi:c1.heap[i]?=some b):(c.take c1 ab h).heap[gm ab h i]?=some (mA ab h (ou ab h i) b):=by
 unfold gm ou;rw[eC];show(gp _ (fk ab h c1.heap) c.heap)[_]?=_;have hlen:=hb.len;split
 ·rename_i j hj;have hl:=hb.lt j (afh hj);exact zf (agc _ (afh hj)) (by omega) (Kg hl (uE hb.nodup hj) hi)
 ·rename_i hj;have hm:=Kn (h:=h) hj (aX hi);have zm:=o0.1 hm;rw[aga]at hj;exact zf (agd _ hm) (by omega) (by rw[St,show ab.length+(i-ab.length)=i by omega,hi];rfl)
theorem xd(hb:lN c c1 ab h){i j:Nat}{b:af}(hi:ab[i]?=some j)(h1:c1.heap[i]?=some b):(c.take c1 ab h).heap[j]?=some (mA ab h (nn h j) b):=by
 have:=BT hb h1
 simpa only[gm,ou,eC,hi]using this
theorem Ko{j:Nat}(hn:dn ab j=none)(c8:ab.Nodup)(hj:j ∉ dQ ab h c1.heap):(c.take c1 ab h).heap[j]?=c.heap[j]? :=
 pO fun hm=>(aeI.1 hm).elim (Ff hn c8) hj
theorem xe(hb:lN c c1 ab h){j b n:Nat}(hj:(c.take c1 ab h).own j=some (b,n)):(∃ i,j=gm ab h i/\i<c1.heap.length/\c1.own i=some (b,n))\/(dn ab j=none/\j ∉ dQ ab h c1.heap/\c.own j=some (b,n)):=by
 simp only[Cx.take]at hj;split at hj
 ·rename_i i hi;exact .inl ⟨i,by simp only[gm,eC,kl hi],hb.own i b n hj,hj⟩
 ·rename_i hx;split at hj
  ·rename_i hm;have hm:=o0.1 hm;refine .inl ⟨_,?_,hb.own _ b n hj,hj⟩;have:ab[ab.length+(j-h.length)]?=none:=adW (by omega);simp only[gm,eC,this];omega
  ·rename_i hm;exact .inr ⟨hx,hm,hj⟩
theorem Kp(ho:aM G c)(hb:lN c c1 ab h)(b:Nat):(c.take c1 ab h).bad b↔c1.bad b:=by
 constructor
 ·rintro(hx|⟨j,n,hx⟩)
  ·refine .inl ?_;rw[hb.rel.aE];exact .inl hx
  ·rcases xe hb hx with⟨i,-,-,hi⟩|⟨h1,-,h3⟩
   ·exact .inr ⟨i,n,hi⟩
   ·refine .inl ?_;rw[hb.rel.aE];exact .inr ⟨j,n,Ff h1 hb.nodup,h3⟩
 ·rintro(hx|⟨i,n,hx⟩)
  ·rw[hb.rel.aE]at hx;rcases hx with hx|⟨j,n,hj,hx⟩
   ·exact .inl hx
   ·refine .inr ⟨j,n,?_⟩;have h1:dn ab j=none:=by
     cases hi:dn ab j with
     |none=>rfl
     |some i=>exact absurd (afh (kl hi)) hj
    rw[Fk h1 (fun hm=>by have:=ho.box j _ (hb.new j hm);rw[show c.own j=none from this]at hx;cases hx)];exact hx
  ·exact .inr ⟨_,n,(Fl hb (hb.own i b n hx)).trans hx⟩
theorem zn(ho:aM G c)(hb:lN c c1 ab h){x:DV}{v:Value}(hv:VD c1.bad c1.w x v):VD (c.take c1 ab h).bad (c.take c1 ab h).w x v :=
 hv.mono fun b _ hn=>⟨fun h=>hn ((Kp ho hb b).1 h),rfl⟩
theorem Kq(ho:aM G c)(hb:lN c c1 ab h){x:AV}{v:Value}(hv:VR c1 x v):VR (c.take c1 ab h) (la ab h x) v:=by
 have hp:∀ {i:Nat} {b:af},c1.heap[i]?=some b->(c.take c1 ab h).heap[gm ab h i]?=some (mA ab h (ou ab h i) b):=fun k=>BT hb k;have hw:∀ {i:Nat} {b:af},c1.heap[i]?=some b->(c.take c1 ab h).own (gm ab h i)=c1.own i:=fun k=>Fl hb (aX k);unfold la;split
 ·rename_i i g;cases hv with
  |own _ _ ts l blk cap k1 k2=>exact .own _ _ ts l blk cap (hp k1) ((hw k1).trans k2)
  |iH _ _ ts k1 k2=>exact .iH _ _ ts (hp k1) ((hw k1).trans k2)
  |kQ _ _ g2 ts l _ k1 k2 k3=>exact .kQ _ _ _ ts l _ (hp k1) (by omega) k3
  |jY _ _ _ k1 k3=>exact .jY _ _ _ (hp k1) k3
  |mZ _ _ cs blk cap m k1 k2 k3=>exact .mZ _ _ _ blk cap m (hp k1) ((hw k1).trans k2) (by simpa using k3)
 ·rename_i i off;cases hv with
  |ptr _ _ cs blk cap k1 k2=>exact .ptr _ _ _ blk cap (hp k1) ((hw k1).trans k2)
  |iI _ _ _ k1 k3=>exact .iI _ _ _ (hp k1) k3
 ·rename_i i g k off;cases hv with
  |cX _ _ _ _ ts l blk cap k1 k2 k3=>exact .cX _ _ _ _ ts l blk cap (hp k1) ((hw k1).trans k2) k3
  |mc _ _ g2 _ _ ts l _ k1 k2 k3=>exact .mc _ _ _ _ _ ts l _ (hp k1) (by omega) k3
  |me _ _ _ _ _ k1 k3=>exact .me _ _ _ _ _ (hp k1) k3
 ·rename_i i g k qq;cases hv with
  |cut _ _ _ _ ts l blk cap o k1 k2 k3 k4 k5=>exact .cut _ _ _ _ ts l blk cap o (hp k1) ((hw k1).trans k2) k3 k4 k5
  |nY _ _ g2 _ _ ts l _ k1 k2 k3=>exact .nY _ _ _ _ _ ts l _ (hp k1) (by omega) k3
  |nZ _ _ _ _ _ k1 k3=>exact .nZ _ _ _ _ _ (hp k1) k3
 ·rename_i i;cases hv with
  |map _ es blk cap k1 k2=>exact .map _ es blk cap (hp k1) ((hw k1).trans k2)
  |n0 _ _ k1 k3=>exact .n0 _ _ (hp k1) k3
 ·cases hv with|d _ _ hx=>exact .d _ _ (zn ho hb hx)
 ·cases hv with
  |bQ _ _ blk o f k1 k2 k3 k4=>exact .bQ _ _ blk o f (fun h=>k1 ((Kp ho hb _).1 h)) k2 k3 (fun j x hx=>zn ho hb (k4 j x hx))
 ·exact .any _
theorem sO{c c':Cx}{f:AV->AV}(hf:∀ {x:AV} {v:Value},VR c x v->VR c' (f x) v){l:List AV}{vs:List Value}(hv:VL c l vs):VL c' (l.map f) vs :=
 ⟨by simpa using hv.1,fun j x v hx hu=>by
  rw[ad1]at hx;cases hy:l[j]? with
  |none=>rw[hy]at hx;cases hx
  |some y=>rw[hy]at hx;cases hx;exact hf (hv.2 j y v hy hu)⟩
theorem Kr(ho:aM G c)(hb:lN c c1 ab h){x:AV}{v:Value}(hv:VR c1 x v):VR (c.take c1 ab h) (xb ab h x) v:=by
 have hA:∀ {x:AV} {v:Value},VR c1 x v->VR (c.take c1 ab h) (la ab h x) v:=fun h=>Kq ho hb h;unfold xb;split
 ·obtain⟨vs,rfl,h1⟩:=pG hv;exact wE (sO hA h1)
 ·obtain⟨vs,rfl,h1⟩:=zi hv;exact zj (sO hA h1)
 ·obtain⟨v1,v2,rfl,h1,h2⟩:=mr hv;exact Fj (sO hA h1) (sO hA h2)
 ·exact hA hv
theorem Fm(ho:aM G c)(hb:lN c c1 ab h){x:AV}{v:Value}(hv:VR c1 x v):VR (c.take c1 ab h) (jd ab h x) v:=by
 unfold jd;split
 ·obtain⟨vs,rfl,h1⟩:=zi hv;exact zj (sO (fun h=>Kr ho hb h) h1)
 ·exact Kr ho hb hv
theorem ka.take(ho:aM G c)(hb:lN c c1 ab h){i g:Nat}{b:af}(hi:i<c1.heap.length)(dx:ka c1 i b):ka (c.take c1 ab h) (gm ab h i) (mA ab h g b):=by
 have bH:=Fl hb hi;cases b with
 |cells cs =>
  obtain⟨blk,cap,vs,ty,k1,k2,k3,k4⟩:=dx;have:VL (c.take c1 ab h) (cs.map (la ab h)) vs.toList:=sO (fun h=>Kq ho hb h) ⟨by simpa using k3.symm,fun j x v hx hv=>k4 j x v hx (by simpa using hv)⟩;exact⟨blk,cap,vs,ty,bH.trans k1,k2,by simpa using this.1.symm,fun j x v hx hv=>this.2 j x v hx (by simpa using hv)⟩
 |arr g ts l =>
  obtain⟨q0,q1,q2⟩:=dx;refine⟨q0,q1,?_⟩;rcases q2 with⟨q2,q3⟩|⟨blk,cap,vs,q2,q3,q4,q5,q6,q7⟩
  ·exact .inl ⟨bH.trans q2,q3⟩
  ·refine .inr ⟨blk,cap,vs,bH.trans q2,q3,q4,q5,q6,fun i j e x he hx=>?_⟩;obtain⟨v,r1,r2,r3⟩:=q7 i j e x he hx;exact⟨v,r1,r2,zn ho hb r3⟩
 |map es =>
  obtain⟨blk,cap,en,ck,k1,k2,k3,k4⟩:=dx;exact⟨blk,cap,en,ck,bH.trans k1,k2,k3,fun j k x m hx hm=>⟨zn ho hb (k4 j k x m hx hm).1,zn ho hb (k4 j k x m hx hm).2⟩⟩
 |gone=>exact bH.trans dx
 |hole=>exact bH.trans dx
theorem Fp{i b n:Nat}(hi:(c.eM ab).own i=some (b,n)):∃ k,ab[i]?=some k/\c.own k=some (b,n):=by
 simp only[Cx.eM]at hi;split at hi
 ·rename_i k hs;exact⟨k,hs,hi⟩
 ·cases hi
theorem BU(ho:aM G c)(hb:lN c c1 ab h):Step c (c.take c1 ab h) where
 aE:=rfl
 bS:=ho.bS
 os:=hb.rel.os
 tape:=hb.rel.tape
 output:=hb.rel.output
 size:=hb.rel.size
 keep:=fun b ah hn=>hb.rel.keep b ah (fun i n hi=>by obtain⟨k,-,hk⟩:=Fp hi;exact hn k n hk)
 dB:=fun j b n hj ah=>by
  rcases xe hb hj with⟨i,rfl,-,hi⟩|⟨-,-,h3⟩
  ·obtain⟨m,hk⟩:=hb.rel.dB i b n hi ah;obtain⟨k,hs,hk⟩:=Fp hk;exact⟨m,by simpa only[gm,eC,hs]using hk⟩
  ·exact⟨n,h3⟩
 boxes:=fun j bx hj=>by
  cases hx:dn ab j with
  |none =>
   by_cases hm:j∈dQ ab h c1.heap
   ·rw[hb.new j hm]at hj;cases hj;exact⟨_,qQ.trans (by rw[hb.new j hm];rfl)⟩
   have h':(c.take c1 ab h).heap[j]?=some bx:=(Ko hx hb.nodup hm).trans hj;have cW:=Fk (c:=c) (c1:=c1) hx hm;cases bx with
   |cells cs=>exact .inl ⟨cs,h',cW,rfl⟩
   |arr g sz l=>exact .inl ⟨g,l,h',.inr ⟨rfl,rfl,cW⟩⟩
   |map es=>exact .inl ⟨es,h',cW⟩
   |gone=>exact h'
   |hole=>exact⟨_,h'⟩
  |some i =>
   have hi:=kl hx;have Sw:=hb.same j (afh hi);have h1:=hb.rel.boxes i _ (sM hi hj);have cW:=Km (c:=c) (c1:=c1) (h:=h) hb.nodup hi;have uF:=sN (c:=c) hi;have fh:c1.heap[i]?=some .gone->(c.take c1 ab h).heap[j]?=some .gone:=fun h=>xd hb hi h;cases bx with
   |cells cs =>
    rcases h1 with⟨cs',h1,h2,h3⟩|h1
    ·exact .inl ⟨_,xd hb hi h1,cW.trans (h2.trans uF),by simpa [oZ]using h3⟩
    ·exact .inr (fh h1)
   |arr g ts l =>
    rcases h1 with⟨g',l',h1,h2⟩|h1
    ·have aC:nn h j=g:=by simp only[nn,eC,<- Sw,hj]
     have h3:=xd hb hi h1;simp only[mA,aC]at h3;refine .inl ⟨g+g',l',h3,?_⟩;rcases h2 with h2|⟨h2,h4,h5⟩
     ·left;omega
     ·exact .inr ⟨by omega,h4,cW.trans (h5.trans uF)⟩
    ·exact .inr (fh h1)
   |map es =>
    rcases h1 with⟨ee,h1,h2⟩|h1
    ·exact .inl ⟨ee,xd hb hi h1,cW.trans (h2.trans uF)⟩
    ·exact .inr (fh h1)
   |gone=>exact fh h1
   |hole=>obtain⟨b,h1⟩:=h1;exact⟨_,xd hb hi h1⟩
theorem aM.take(ho:aM G c)(zo:aM G c1)(hb:lN c c1 ab h):aM G (c.take c1 ab h):=by
 refine ho.next (BU ho hb) (fun j b n hj=>?_) (fun j j' b n m hj eU=>?_) (fun j bx hj=>?_)
 ·rcases xe hb hj with⟨i,rfl,h2,hi⟩|⟨-,-,h3⟩
  ·exact⟨(zo.bB i b n hi).1,aX (BT hb (afo h2))⟩
  ·exact⟨ad4 (ho.bB j b n h3).1 hb.rel.size,by show j<(gp _ _ _).length;rw[Kh];exact(ho.bB j b n h3).2⟩
 ·have Ks:∀ j i n m,dn ab j=none->c.own j=some (b,n)->c1.own i=some (b,m)->False:=fun j i n m hx hj hi=>by
   refine zo.sep i b m hi ?_;rw[hb.rel.aE];exact .inr ⟨j,n,Ff hx hb.nodup,hj⟩
  rcases xe hb hj with⟨i,rfl,-,hi⟩|⟨hx,-,Kt⟩
  ·rcases xe hb eU with⟨i',rfl,-,cj⟩|⟨eh,-,Fq⟩
   ·rw[zo.inj i i' b n m hi cj]
   ·exact(Ks j' i m n eh Fq hi).elim
  ·rcases xe hb eU with⟨i',rfl,-,cj⟩|⟨eh,-,Fq⟩
   ·exact(Ks j i' n m hx Kt cj).elim
   ·exact ho.inj j j' b n m Kt Fq
 ·cases hx:dn ab j with
  |none =>
   by_cases hm:j∈dQ ab h c1.heap
   ·right;have zm:=o0.1 hm;have hl:ab.length+(j-h.length)<c1.heap.length:=by omega
    have qR:gm ab h (ab.length+(j-h.length))=j:=by
     have:ab[ab.length+(j-h.length)]?=none:=adW (by omega);simp only[gm,eC,this];omega
    have h2:=BT hb (afo hl);rw[qR,hj]at h2;cases h2;have:=(zo.box _ _ (afo hl)).take (g:=ou ab h (ab.length+(j-h.length))) ho hb hl
    rwa [qR]at this
   ·left;rw[Ko hx hb.nodup hm]at hj;refine⟨hj,Fk hx hm,fun b n cw=>hb.rel.keep b (ho.bB j b n cw).1 (fun i m hi=>?_)⟩;obtain⟨k,hs,hk⟩:=Fp hi;have:=ho.inj j k b n m cw hk;subst this;rw[uE hb.nodup hs]at hx;cases hx
  |some i =>
   right;have hi:=kl hx;have hl:=hb.lt j (afh hi);obtain⟨b1,np⟩:∃ b1,c1.heap[i]?=some b1:=by
    have nr:c.heap[j]?=some h[j]:=(hb.same j (afh hi)).trans (afo hl);have sP:=hb.rel.boxes i _ (sM hi nr);generalize oZ ab c.heap h[j]=bb at sP;cases bb with
    |cells cs=>rcases sP with⟨_,h,_⟩|h<;>exact⟨_,h⟩
    |arr g ts l=>rcases sP with⟨_,_,h,_⟩|h<;>exact⟨_,h⟩
    |map es=>rcases sP with⟨_,h,_⟩|h<;>exact⟨_,h⟩
    |gone=>exact⟨_,sP⟩
    |hole=>exact sP
   rw[xd hb hi np]at hj;cases hj;have:=(zo.box i b1 np).take (g:=nn h j) ho hb (aX np)
   rwa [show gm ab h i=j by simp only[gm,eC,hi]]at this
theorem Ku{H:List af}(hs:∀ j∈ab,H[j]?=h[j]?)(x:AV):gR ab H x=gR ab h x:=by
 have e:∀ {j i:Nat},dn ab j=some i->dJ H j=dJ h j:=fun hi=>by rw[eC,eC];exact hs _ (afh (kl hi))
 cases x<;>simp only[gR];all_goals
  split
  ·rename_i hi;rw[e hi]
  ·rfl
theorem Kv{H:List af}(hs:∀ j∈ab,H[j]?=h[j]?)(x:AV):gj ab H x=gj ab h x:=by
 have e:gR ab H=gR ab h:=funext (Ku hs);unfold gj;rw[e]
theorem Fs{H:List af}(hs:∀ j∈ab,H[j]?=h[j]?):eF ab H=eF ab h:=by
 have e:gR ab H=gR ab h:=funext (Ku hs);refine List.map_congr_left fun j hj=>?_;rw[eC,eC,hs j hj];split
 ·unfold oZ;rw[e]
 ·rfl
theorem aw.Sx{E:Env}{f:FuncId}{args:List AV}{Q:AV->List af->Prop}(H:aw E f (eF ab h) (args.map (gj ab h)) Q)(hn:ab.Nodup)(ah:∀ j∈ab,j<h.length)(hs:∀ j∈ab,c.heap[j]?=h[j]?)
  (hr:∀ r h1,Q r h1->h.length+(h1.length-ab.length)<=c.heap.length/\∀ j∈dQ ab h h1,c.heap[j]?=some .hole) (ho:aM E.G c) {vs:List Value} (hv:VL c args vs) :
  Calls E.P f vs.toArray c.w fun e w'=>∃ (c':Cx) (r:AV) (h1:List af) (v:Value),e=.returned v/\c'.w=w'/\Q r h1/\c'.heap=gp (ab++dQ ab h h1) (fk ab h h1) c.heap/\VR c' (jd ab h r) v/\aM E.G c'/\Step c c':=by
 unfold aw at H;have eK:=Kk (ab:=ab) hv;rw[show gj ab c.heap=gj ab h from funext (Kv hs)]at eK;refine(H.2.2 (c.eM ab) vs (Fs hs) (ho.eM hn) eK).mono fun e w' ⟨c1,r,v,k1,k2,k3,k4,k5,k6⟩=>?_;obtain⟨h1,h2⟩:=hr _ _ k3;have hb:lN c c1 ab h:=⟨hn,ah,h1,hs,h2,k6,fun i b n hi=>(k5.bB i b n hi).2⟩;exact⟨c.take c1 ab h,r,c1.heap,v,k1,k2,k3,rfl,Fm ho hb k4,ho.take k5 hb,BU ho hb⟩
def Cx.pad(c:Cx)(k:Nat):Cx:={ c with heap:=c.heap++List.replicate k .hole }
theorem BV{k i:Nat}{bx:af}(hi:c.heap[i]?=some bx):(c.pad k).heap[i]?=some bx:=(ael (aX hi)).trans hi
theorem Ft{k i:Nat}(h1:c.heap.length<=i)(h2:i<c.heap.length+k):(c.pad k).heap[i]?=some .hole:=by
 show(c.heap++_)[i]?=_;rw[ae9 h1,List.getElem?_replicate,if_pos (by omega)]
theorem BW(ho:aM G c)(k:Nat):Step c (c.pad k):=⟨rfl,ho.bS,rfl,rfl,rfl,aed _,fun _ _ _=>rfl,fun i b n h _=>⟨n,h⟩,fun i bx hi=>by
  have h':=BV (k:=k) hi;cases bx with
  |cells cs=>exact .inl ⟨cs,h',rfl,rfl⟩
  |arr g sz l=>exact .inl ⟨g,l,h',.inr ⟨rfl,rfl,rfl⟩⟩
  |map es=>exact .inl ⟨es,h',rfl⟩
  |gone=>exact h'
  |hole=>exact⟨_,h'⟩⟩
theorem aM.pad(ho:aM G c)(k:Nat):aM G (c.pad k):=by
 refine ho.next (BW ho k) (fun i b n hi=>⟨(ho.bB i b n hi).1,?_⟩) ho.inj fun i bx hi=>?_
 ·have:=(ho.bB i b n hi).2;show i<(c.heap++_).length;rw[aey];omega
 ·rcases adV i c.heap.length with hl|hl
  ·exact .inl ⟨by rw[<- hi,BV (afo hl)];exact afo hl,rfl,fun _ _ _=>rfl⟩
  ·have h2:=aX hi;rw[show(c.pad k).heap.length=c.heap.length+k by simp[Cx.pad]]at h2;rw[Ft hl h2]at hi;cases hi;right;show c.own i=none;cases hx:c.own i with
   |none=>rfl
   |some p=>have:=(ho.bB i p.1 p.2 hx).2;omega
theorem aw.at{E:Env}{f:FuncId}{args:List AV}{Q:AV->List af->Prop}(H:aw E f (eF ab h) (args.map (gj ab h)) Q)(hn:ab.Nodup)(ah:∀ j∈ab,j<h.length)(hh:c.heap=h)(ho:aM E.G c){vs:List Value}(hv:VL c args vs) :
  Calls E.P f vs.toArray c.w fun e w'=>∃ (c':Cx) (r:AV) (h1:List af) (v:Value),e=.returned v/\c'.w=w'/\Q r h1/\c'.heap=fk ab h h1/\VR c' (jd ab h r) v/\aM E.G c'/\Step c c':=by
 subst hh;unfold aw at H;refine(H.2.2 (c.eM ab) vs rfl (ho.eM hn) (Kk hv)).mono fun e w' ⟨c1,r,v,k1,k2,k3,k4,k5,k6⟩=>?_;have hs:∀ j∈ab,(c.pad (c1.heap.length-ab.length)).heap[j]?=c.heap[j]? := fun j hj=>ael (ah j hj);have hg:(c.pad (c1.heap.length-ab.length)).eM ab=c.eM ab:=by
  simp only[Cx.eM,Fs hs];rfl
 have hb:lN (c.pad (c1.heap.length-ab.length)) c1 ab c.heap:=⟨hn,ah,by simp[Cx.pad],hs,fun j hj=>have hj:=o0.1 hj;Ft hj.1 hj.2,by rw[hg];exact k6,fun i b n hi=>(k5.bB i b n hi).2⟩;have zp:=ho.pad (c1.heap.length-ab.length);refine⟨(c.pad (c1.heap.length-ab.length)).take c1 ab c.heap,r,c1.heap,v,k1,k2,k3,?_,Fm zp hb k4,zp.take k5 hb,(BW ho _).trans (BU zp hb)⟩;refine List.ext_getElem? fun j=>?_;show(gp _ _ _)[j]?=_;by_cases hm:j∈ab++dQ ab c.heap c1.heap
 ·have hl:j<c.heap.length+(c1.heap.length-ab.length):=(aeI.1 hm).elim (fun h=>by have:=ah j h;omega) fun h=>(o0.1 h).2;obtain⟨b,hr⟩:∃ b,(fk ab c.heap c1.heap)[j]?=some b:=⟨_,afo (by rw[sL];exact hl)⟩;rw[zf hm (by show j<(c.heap++_).length;rw[aey,afi];exact hl) hr,hr]
 ·rw[pO hm];have lb:dn ab j=none:=by
   cases hx:dn ab j with
   |none=>rfl
   |some i=>exact absurd (agc _ (afh (kl hx))) hm
  rcases adV j c.heap.length with hl|hl
  ·rw[Fh hl lb,BV (afo hl),afo hl]
  ·have:¬ j<c.heap.length+(c1.heap.length-ab.length):=fun h=>hm (agd _ (o0.2 ⟨hl,h⟩));rw[adW (by show(c.heap++_).length<=j;rw[aey,afi];omega),adW (by rw[sL];omega)]
end
end Go.aA
end
section
namespace Go.aA
open Go Go.RowKit
universe u
section Ee
variable {α:Sort u} {β γ:Type}
def jI(f:β->(γ->α)->α):List β->(List γ->α)->α
 |[],k=>k []
 |a::l,k=>f a fun b=>jI f l fun l'=>k (b::l')
theorem pP{f:β->(γ->α)->α}{g:β->γ}(h:∀ x k,f x k=k (g x)):∀ (l:List β) (k:List γ->α),jI f l k=k (l.map g)
 |[],_=>rfl
 |a::l,k=>by simp only[jI,h,pP h l,ad0]
def sQ:List β->List β->(List β->α)->α
 |[],m,k=>k m
 |a::l,m,k=>sQ l m fun l'=>k (a::l')
theorem xf:∀ (l m:List β) (k:List β->α),sQ l m k=k (l++m)
 |[],_,_=>rfl
 |a::l,m,k=>by simp only[sQ,xf l,List.cons_append]
def o3:List β->Nat->(Nat->α)->α
 |[],n,k=>k n
 |_::l,n,k=>o3 l (n+1) k
theorem uG:∀ (l:List β) (n:Nat) (k:Nat->α),o3 l n k=k (n+l.length)
 |[],_,_=>rfl
 |_::l,n,k=>by rw[o3,uG l,List.length_cons];congr 1;omega
def qS:List Nat->Nat->Nat->α->(Nat->α)->α
 |[],_,_,no,_=>no
 |a::l,j,n,no,k=>match adY a j with
  |true=>k n
  |false=>qS l j (n+1) no k
theorem Fu:∀ (l:List Nat) (j n:Nat) (no:α) (k:Nat->α),qS l j n no k=match dn l j with
  |some i=>k (n+i)
  |none=>no
 |[],_,_,_,_=>rfl
 |a::l,j,n,no,k=>by
  simp only[qS,dn];cases adY a j with
  |true=>rfl
  |false =>
   rw[Fu l];cases dn l j with
   |none=>rfl
   |some i=>simp only[aeT];congr 1;omega
theorem xg{l:List β}{i:Nat}{no:α}{k:β->α}:aZ l i no k=match dJ l i with
  |some x=>k x
  |none=>no:=by
 rw[eC];cases h:l[i]? with
 |none=>exact Jl h no k
 |some x=>exact Bn h no k
def sR(ab:List Nat)(h:List af)(x:AV)(k:AV->α):α :=
 match x with
 | .own j g=>qS ab j 0 (k .any) fun i=>aZ h j (k .any) fun
  | .arr g' _ _=>match adY g g' with
   |true=>k (.own i 0)
   |false=>k .any
  |_=>k .any
 | .ptr j off=>qS ab j 0 (k .any) fun i=>aZ h j (k .any) fun
  | .cells _=>k (.ptr i off)
  |_=>k .any
 | .cX j g n off=>qS ab j 0 (k .any) fun i=>aZ h j (k .any) fun
  | .arr g' _ _=>match adY g g' with
   |true=>k (.cX i 0 n off)
   |false=>k .any
  |_=>k .any
 | .cut j g n q=>qS ab j 0 (k .any) fun i=>aZ h j (k .any) fun
  | .arr g' _ _=>match adY g g' with
   |true=>k (.cut i 0 n q)
   |false=>k .any
  |_=>k .any
 | .map j=>qS ab j 0 (k .any) fun i=>aZ h j (k .any) fun
  | .map _=>k (.map i)
  |_=>k .any
 | .d x=>k (.d x)
 | .bQ e off=>k (.bQ e off)
 |_=>k .any
theorem Fv(ab:List Nat)(h:List af)(x:AV)(k:AV->α):sR ab h x k=k (gR ab h x):=by
 unfold sR gR;simp only[Fu,xg,ad5];cases x with
 |own j g =>
  dsimp only;generalize dn ab j=a;generalize dJ h j=o;cases a with
  |none=>rfl
  |some i=>cases o with
   |none=>rfl
   |some b=>cases b with
    |arr g' _ _=>dsimp only;cases adY g g'<;>rfl
    |_=>rfl
 |ptr j off =>
  dsimp only;generalize dn ab j=a;generalize dJ h j=o;cases a with
  |none=>rfl
  |some i=>cases o with
   |none=>rfl
   |some b=>cases b<;>rfl
 |cut j g n q =>
  dsimp only;generalize dn ab j=a;generalize dJ h j=o;cases a with
  |none=>rfl
  |some i=>cases o with
   |none=>rfl
   |some b=>cases b with
    |arr g' _ _=>dsimp only;cases adY g g'<;>rfl
    |_=>rfl
 |cX j g n off =>
  dsimp only;generalize dn ab j=a;generalize dJ h j=o;cases a with
  |none=>rfl
  |some i=>cases o with
   |none=>rfl
   |some b=>cases b with
    |arr g' _ _=>dsimp only;cases adY g g'<;>rfl
    |_=>rfl
 |map j =>
  dsimp only;generalize dn ab j=a;generalize dJ h j=o;cases a with
  |none=>rfl
  |some i=>cases o with
   |none=>rfl
   |some b=>cases b<;>rfl
 |_=>rfl
def zq(ab:List Nat)(h:List af)(x:AV)(k:AV->α):α :=
 match x with
 | .agg l=>jI (sR ab h) l fun l'=>k (.agg l')
 | .aF l=>jI (sR ab h) l fun l'=>k (.aF l')
 | .fn f a b=>jI (sR ab h) a fun a'=>jI (sR ab h) b fun b'=>k (.fn f a' b')
 |x=>sR ab h x k
theorem Fw(ab:List Nat)(h:List af)(x:AV)(k:AV->α):zq ab h x k=k (gj ab h x):=by
 unfold zq gj;cases x<;>simp only[pP (Fv ab h),Fv]
def Fx(ab:List Nat)(h:List af)(b:af)(k:af->α):α :=
 match b with
 | .arr _ ts l=>k (.arr 0 ts l)
 | .cells cs=>jI (sR ab h) cs fun cs'=>k (.cells cs')
 | .map es=>k (.map es)
 | .gone=>k .gone
 | .hole=>k .hole
theorem Sy(ab:List Nat)(h:List af)(b:af)(k:af->α):Fx ab h b k=k (oZ ab h b):=by
 unfold Fx oZ;cases b<;>simp only[pP (Fv ab h)]
def Fy(ab:List Nat)(h:List af)(j:Nat)(k:af->α):α:=aZ h j (k .gone) fun b=>Fx ab h b k
theorem Sz(ab:List Nat)(h:List af)(j:Nat)(k:af->α):Fy ab h j k=k (match dJ h j with|some b=>oZ ab h b|none => .gone):=by
 unfold Fy;rw[xg];generalize dJ h j=o;cases o with
 |none=>rfl
 |some b=>exact Sy ab h b k
def zr(ab:List Nat)(h:List af)(k:List af->α):α:=jI (Fy ab h) ab k
theorem Fz(ab:List Nat)(h:List af)(k:List af->α):zr ab h k=k (eF ab h):=by
 unfold zr eF;rw[pP (Sz ab h)];all_goals rfl
def uH(ab:List Nat)(h:List af)(i:Nat)(k:Nat->α):α:=aZ ab i (o3 h 0 fun n=>o3 ab 0 fun m=>k (n+(i-m))) k
theorem SA(ab:List Nat)(h:List af)(i:Nat)(k:Nat->α):uH ab h i k=k (gm ab h i):=by
 unfold uH gm;rw[xg];simp only[uG,ad5];generalize dJ ab i=o;cases o<;>rfl
def BX(h:List af)(j:Nat)(k:Nat->α):α:=aZ h j (k 0) fun
 | .arr g _ _=>k g
 |_=>k 0
theorem Kw(h:List af)(j:Nat)(k:Nat->α):BX h j k=k (nn h j):=by
 unfold BX nn;rw[xg];generalize dJ h j=o;cases o with
 |none=>rfl
 |some b=>cases b<;>rfl
def zt(ab:List Nat)(h:List af)(i:Nat)(k:Nat->α):α:=aZ ab i (k 0) fun j=>BX h j k
theorem SB(ab:List Nat)(h:List af)(i:Nat)(k:Nat->α):zt ab h i k=k (ou ab h i):=by
 unfold zt ou;rw[xg];generalize dJ ab i=o;cases o with
 |none=>rfl
 |some b=>exact Kw h b k
def sS(ab:List Nat)(h:List af)(x:AV)(k:AV->α):α :=
 match x with
 | .own i g=>uH ab h i fun j=>zt ab h i fun g0=>k (.own j (g0+g))
 | .ptr i off=>uH ab h i fun j=>k (.ptr j off)
 | .cX i g n off=>uH ab h i fun j=>zt ab h i fun g0=>k (.cX j (g0+g) n off)
 | .cut i g n q=>uH ab h i fun j=>zt ab h i fun g0=>k (.cut j (g0+g) n q)
 | .map i=>uH ab h i fun j=>k (.map j)
 | .d x=>k (.d x)
 | .bQ e off=>k (.bQ e off)
 |_=>k .any
theorem FA(ab:List Nat)(h:List af)(x:AV)(k:AV->α):sS ab h x k=k (la ab h x):=by
 unfold sS la;cases x<;>simp only[SA,SB]
def BY(ab:List Nat)(h:List af)(x:AV)(k:AV->α):α :=
 match x with
 | .agg l=>jI (sS ab h) l fun l'=>k (.agg l')
 | .aF l=>jI (sS ab h) l fun l'=>k (.aF l')
 | .fn f a b=>jI (sS ab h) a fun a'=>jI (sS ab h) b fun b'=>k (.fn f a' b')
 |x=>sS ab h x k
theorem Kx(ab:List Nat)(h:List af)(x:AV)(k:AV->α):BY ab h x k=k (xb ab h x):=by
 unfold BY xb;cases x<;>simp only[pP (FA ab h),FA]
def fI(ab:List Nat)(h:List af)(x:AV)(k:AV->α):α :=
 match x with
 | .aF l=>jI (BY ab h) l fun l'=>k (.aF l')
 |x=>BY ab h x k
theorem nt(ab:List Nat)(h:List af)(x:AV)(k:AV->α):fI ab h x k=k (jd ab h x):=by
 unfold fI jd;cases x<;>simp only[pP (Kx ab h),Kx]
def BZ(ab:List Nat)(h:List af)(g0:Nat)(b:af)(k:af->α):α :=
 match b with
 | .arr g ts l=>k (.arr (g0+g) ts l)
 | .cells cs=>jI (sS ab h) cs fun cs'=>k (.cells cs')
 | .map es=>k (.map es)
 | .gone=>k .gone
 | .hole=>k .hole
theorem Ky(ab:List Nat)(h:List af)(g0:Nat)(b:af)(k:af->α):BZ ab h g0 b k=k (mA ab h g0 b):=by
 unfold BZ mA;cases b<;>simp only[pP (FA ab h)]
def xh(ab:List Nat)(h h1:List af):Nat->List af->(List af->α)->α
 |_,[],k=>k []
 |j,b::r,k=>qS ab j 0 (xh ab h h1 (j+1) r fun r'=>k (b::r')) fun i=>aZ h1 i (xh ab h h1 (j+1) r fun r'=>k (.gone::r')) fun b1=>BX h j fun g=>BZ ab h g b1 fun b2=>xh ab h h1 (j+1) r fun r'=>k (b2::r')
theorem Kz(ab:List Nat)(h h1:List af):∀ (j:Nat) (r:List af) (k:List af->α),xh ab h h1 j r k=k (pN ab h h1 j r)
 |_,[],_=>rfl
 |j,b::r,k=>by
  simp only[xh,Fu,xg,Kw,Ky,Kz ab h h1 (j+1) r,ad5,pN];generalize dn ab j=a;cases a with
  |none=>rfl
  |some i =>
   dsimp only;generalize dJ h1 i=o;cases o<;>rfl
def jJ(ab:List Nat)(h h1:List af)(k:List af->α):α:=xh ab h h1 0 h fun a=>o3 ab 0 fun n=>ua n h1 fun h2=>jI (BZ ab h 0) h2 fun b=>sQ a b k
theorem qT(ab:List Nat)(h h1:List af)(k:List af->α):jJ ab h h1 k=k (fk ab h h1):=by
 unfold jJ fk;simp only[Kz,uG,ad5,Ef,pP (Ky ab h 0),xf]
def uI(d:Nat):List Nat->Bool
 |[]=>false
 |a::l=>match adY a d with
  |true=>true
  |false=>uI d l
def uJ(j:Nat)(ab:List Nat)(k:List Nat->α):α:=match uI j ab with
 |true=>k ab
 |false=>sQ ab [j] k
def B0(h:List af)(x:AV)(ab:List Nat)(k:List Nat->α):α :=
 match x with
 | .own j g=>aZ h j (k ab) fun
  | .arr g' _ _=>match adY g g' with
   |true=>uJ j ab k
   |false=>k ab
  |_=>k ab
 | .ptr j _=>aZ h j (k ab) fun
  | .cells _=>uJ j ab k
  |_=>k ab
 | .cX j g _ _=>aZ h j (k ab) fun
  | .arr g' _ _=>match adY g g' with
   |true=>uJ j ab k
   |false=>k ab
  |_=>k ab
 | .cut j g _ _=>aZ h j (k ab) fun
  | .arr g' _ _=>match adY g g' with
   |true=>uJ j ab k
   |false=>k ab
  |_=>k ab
 | .map j=>aZ h j (k ab) fun
  | .map _=>uJ j ab k
  |_=>k ab
 |_=>k ab
def sU(h:List af):List AV->List Nat->(List Nat->α)->α
 |[],ab,k=>k ab
 |x::l,ab,k=>B0 h x ab fun nu=>sU h l nu k
def qU(h:List af):List AV->List Nat->(List Nat->α)->α
 |[],ab,k=>k ab
 |x::l,ab,k=>match x with
  | .agg c=>sU h c ab fun nu=>qU h l nu k
  | .aF c=>sU h c ab fun nu=>qU h l nu k
  | .fn _ a b=>sU h a ab fun nu=>sU h b nu fun SC=>qU h l SC k
  |x=>B0 h x ab fun nu=>qU h l nu k
def sV(h:List af):Nat->Nat->List Nat->(List Nat->α)->α
 |0,_,ab,k=>k ab
 |n+1,p,ab,k=>aZ ab p (k ab) fun j=>aZ h j (sV h n (p+1) ab k) fun
  | .cells cs=>sU h cs ab fun nu=>sV h n (p+1) nu k
  |_=>sV h n (p+1) ab k
def xi(n:Nat):List Nat->Bool
 |[]=>true
 |j::l=>match uI j l,adZ j n with
  |false,true=>xi n l
  |_,_=>false
end Ee
theorem B1{d:Nat}:∀ {l:List Nat},uI d l=true↔d∈l
 |[]=>by simp[uI]
 |a::l=>by
  simp only[uI];split
  ·rename_i q;simp[adX q]
  ·rename_i q;have aJ:d≠a:=fun e=>by rw[e,Nat.beq_refl]at q;cases q
   rw[B1 (l:=l)];simp[aJ]
theorem B2{n:Nat}:∀ {l:List Nat},xi n l=true->l.Nodup/\∀ j∈l,j<n
 |[],_=>⟨.nil,fun j hj=>by simp at hj⟩
 |j::l,H=>by
  simp only[xi]at H;split at H
  ·rename_i q1 q2;obtain⟨h1,h2⟩:=B2 H;refine⟨agb.2 ⟨fun hm=>?_,h1⟩,fun i hi=>?_⟩
   ·rw[B1.2 hm]at q1;cases q1
   ·rcases afu.1 hi with rfl|hi
    ·exact ad3 q2
    ·exact h2 i hi
  ·cases H
@[irreducible] def xj (E : Env) (f : FuncId) (h0 : List af) (args : List AV) (K : AV -> List af -> Prop) : Prop := ∃ Q, aw E f h0 args Q /\ ∀ r h1, Q r h1 -> K r h1
theorem jK{E:Env}{f:FuncId}{h0:List af}{args:List AV}{K Q:AV->List af->Prop}(H:aw E f h0 args Q)(hk:∀ r h1,Q r h1->K r h1):xj E f h0 args K:=by unfold xj;exact⟨Q,H,hk⟩
theorem aS{E:Env}{f:FuncId}{h0:List af}{args:List AV}{K:AV->List af->Prop}{r:AV}{h1:List af}(H:aw E f h0 args (fun a b=>a=r/\b=h1))(hk:K r h1):xj E f h0 args K:=jK H fun _ _ ⟨e1,e2⟩=>by subst e1;subst e2;exact hk
def B3(E:Env)(f:FuncId)(im:List AV)(h:List af)(stop:Prop)(k:AV->List af->Prop):Prop :=
 qU h im [] fun zu=>sV h 20 0 zu fun ab=>o3 h 0 fun n=>match xi n ab with
  |true=>zr ab h fun h0=>jI (zq ab h) im fun FB=>xj E f h0 FB fun r h1=>fI ab h r fun v=>jJ ab h h1 fun h'=>k v h'
  |false=>stop
theorem KA{h:List af}{x:AV}{ab:List Nat}{k:List Nat->Prop}(H:B0 h x ab k):∃ l,k l:=by
 have B4:∀ {j:Nat},uJ j ab k->∃ l,k l:=fun{j} H=>by
  unfold uJ at H;split at H
  ·exact⟨_,H⟩
  ·rw[xf]at H;exact⟨_,H⟩
 unfold B0 at H;split at H;all_goals first
  |exact⟨_,H⟩
  |(rcases bp H with H|⟨_, _, H⟩
    · exact⟨_, H⟩
    split at H
    · first
      |exact B4 H
      |(split at H
        · exact B4 H
        · exact⟨_, H⟩)
    · exact⟨_, H⟩)
theorem xk{h:List af}:∀ {l:List AV} {ab:List Nat} {k:List Nat->Prop},sU h l ab k->∃ l,k l
 |[],_,_,H=>⟨_,H⟩
 |_::_,_,_,H=>by
  simp only[sU]at H;obtain⟨_,H⟩:=KA H;exact xk H
theorem uK{h:List af}:∀ {l:List AV} {ab:List Nat} {k:List Nat->Prop},qU h l ab k->∃ l,k l
 |[],_,_,H=>⟨_,H⟩
 |x::_,_,_,H=>by
  simp only[qU]at H;split at H
  ·obtain⟨_,H⟩:=xk H;exact uK H
  ·obtain⟨_,H⟩:=xk H;exact uK H
  ·obtain⟨_,H⟩:=xk H;obtain⟨_,H⟩:=xk H;exact uK H
  ·obtain⟨_,H⟩:=KA H;exact uK H
theorem xl{h:List af}:∀ {n p:Nat} {ab:List Nat} {k:List Nat->Prop},sV h n p ab k->∃ l,k l
 |0,_,_,_,H=>⟨_,H⟩
 |n+1,p,ab,k,H=>by
  simp only[sV]at H;rcases bp H with H|⟨j,_,H⟩
  ·exact⟨_,H⟩
  rcases bp H with H|⟨b,_,H⟩
  ·exact xl H
  split at H
  ·obtain⟨_,H⟩:=xk H;exact xl H
  ·exact xl H
theorem SD{E:Env}{f:FuncId}{im:List AV}{h:List af}{stop:Prop}{k:AV->List af->Prop}(H:B3 E f im h stop k):stop\/∃ (ab:List Nat) (Q:AV->List af->Prop),
  aw E f (eF ab h) (im.map (gj ab h)) Q/\ab.Nodup/\(∀ j∈ab,j<h.length)/\∀ r h1,Q r h1->k (jd ab h r) (fk ab h h1):=by
 unfold B3 at H;obtain⟨s0,H⟩:=uK H;obtain⟨ab,H⟩:=xl H;rw[uG,ad5]at H;split at H
 ·rename_i q;obtain⟨h1,h2⟩:=B2 q;rw[Fz,pP (Fw ab h)]at H;unfold xj at H;obtain⟨Q,h3,h4⟩:=H;refine .inr ⟨ab,Q,h3,h1,h2,fun r h1 hq=>?_⟩;have:=h4 r h1 hq;dsimp only at this;rw[nt,qT]at this;exact this
 ·exact .inl H
section
variable {E:Env} {f0:FuncId} {aj:iZ} {k:List aT} {s:List AV} {cls:List ca} {h:List af} {R:cF}
theorem AW.KB{ops:Array Oper}{o:Oper}{l:List Oper}{fx:Operand}{args:Array Operand}{ts:Array TypeId}{f:FuncId}{a1 a2 av:List AV}{ab:List Nat}{Q:AV->List af->Prop}(hw:ig ops o s true)(ho:o.op=.call { callee := .value fx,args:=args,argTypes:=ts })
  (hf:bh E.G s fx (.fn (.func f) a1 a2)) (ha:jC E.G s args.toList av) (hc:aw E f (eF ab h) ((a1++av++a2).map (gj ab h)) Q) (hn:ab.Nodup) (ah:∀ j∈ab,j<h.length)
  (H:∀ r h1,Q r h1->AW E f0 ⟨aj,.bw ops l::k,b8 s o.dst (jd ab h r)⟩ cls (fk ab h h1) R):AW E f0 ⟨aj,.bw ops (o::l)::k,s⟩ cls h R:=by
 unfold AW at H ⊢;intro c0 c t ts h0 h1 h2 h3 hr br h4 h5 cs;obtain⟨i,hi,eo,aP⟩:=nf (h1 _ (List.mem_cons_self ..));obtain⟨v1,v2,e1,e2,e3⟩:=mr (hf c ⟨t,marks aj.aN⟩ h3 h4);have e4:=ha c ⟨t,marks aj.aN⟩ h3 h4;have e5:=(e2.append e4).append e3;have hb:lH E.P f:=by unfold aw at hc;exact hc.1
 obtain⟨e,w',fr,⟨c',r,hp,v,rfl,rfl,hQ,B5,hv,cW,bg⟩,EI,EJ,EK⟩:=hc.at (c:=c) hn ah h2 h3 e5 ((bf aj).atR ⟨t,marks aj.aN⟩ (.inRegion ops (i::(aeU ops.size).drop (ops.size-l.length))::k.map aT.bK)::(eV cls ts++cs));have ke:VS c' (b8 s o.dst (jd ab h r)) ((⟨t,marks aj.aN⟩:Act).put o.dst v).tmps:=VS.b8 (a:=⟨t,marks aj.aN⟩) (bg.vs h4) o.dst hv;obtain⟨c2,uu,r2,u2,q1,q2,q3,uv,q4,q5,q6⟩:=H r hp hQ c0 c' _ ts h0 (gP aP (ek h1)) B5 cW (hr.step bg) (br.step h3 bg) ke (bg.cr h5) cs;refine⟨c2,uu,r2,u2,q1,q2,q3,uv,?_,q5,q6⟩;have cK:=yO (P:=E.P) (w:=c.w) (a:=⟨t,marks aj.aN⟩) ho e1 hb;have kf:(v1.toArray++args.map (⟨t,marks aj.aN⟩:Act).eval++v2.toArray)=(v1++args.toList.map (⟨t,marks aj.aN⟩:Act).eval++v2).toArray:=by
  apply Array.ext';simp
 rw[kf]at cK;have s1:=EG (P:=E.P) (b:=bf aj) (k:=k.map aT.bK) (cs:=eV cls ts++cs) (rest:=(aeU ops.size).drop (ops.size-l.length)) hi (hw c t h4) cK;have s2:=step_leave_returned (c:=(bf aj).atR ⟨t,marks aj.aN⟩ (.inRegion ops (i::(aeU ops.size).drop (ops.size-l.length))::k.map aT.bK)) (cs:=eV cls ts++cs) EK;rw[Frame.finish_atR,hi]at s2;have EL:(⟨aj,.bw ops (o::l)::k,s⟩:ca).bK t=(bf aj).atR ⟨t,marks aj.aN⟩ (.inRegion ops (i::(aeU ops.size).drop (ops.size-l.length))::k.map aT.bK):=by
  simp only[ca.bK,ad0,eo]
 rw[EL];refine .head s1 (Steps.trans EI (.head s2 ?_));have aG:(bf aj).atR ((⟨t,marks aj.aN⟩:Act).put ((some o).bind (·.dst)) v) (.inRegion ops ((aeU ops.size).drop (ops.size-l.length))::k.map aT.bK)=(⟨aj,.bw ops l::k,b8 s o.dst (jd ab h r)⟩:ca).bK ((⟨t,marks aj.aN⟩:Act).put o.dst v).tmps:=by
  simp only[ca.bK,ad0,aT.bK,Option.bind_some];rw[put_defers]
 rw[aG];exact q4
end
end Go.aA
end
section
namespace Go.aA
open Go Go.RowKit
@[irreducible] def nv (b : Bool) (A B : Prop) : Prop := (b = true -> A) /\ (b = false -> B)
theorem ai{b:Bool}{A B:Prop}(h1:b=true->A)(h2:b=false->B):nv b A B:=by unfold nv;exact⟨h1,h2⟩
theorem a8{A B:Prop}(h:A):nv true A B:=ai (fun _=>h) (fun h=>by cases h)
theorem aR{A B:Prop}(h:B):nv false A B:=ai (fun h=>by cases h) (fun _=>h)
theorem aY{b:Bool}{A B:Prop}(hb:b=true)(h:A):nv b A B:=by subst hb;exact a8 h
theorem aU{b:Bool}{A B:Prop}(hb:b=false)(h:B):nv b A B:=by subst hb;exact aR h
theorem FC{b:Bool}{A B C:Prop}(h:nv b A B)(h1:b=true->A->C)(h2:b=false->B->C):C:=by
 unfold nv at h;cases hb:b
 ·exact h2 hb (h.2 hb)
 ·exact h1 hb (h.1 hb)
@[irreducible] def qV (E : Env) (f : FuncId) (ds : List DV) (h : List af) (K : AV -> List af -> Prop) : Prop :=
 (∃ R1,ar E f ds R1/\∀ r,R1 r->K (.d r) h)\/∃ Q,aw E f [] (ds.map .d) Q/\∀ r h1,Q r h1->K (jd [] h r) (fk [] h h1)
theorem xm{E:Env}{f:FuncId}{ds:List DV}{h:List af}{K:AV->List af->Prop}{R1:DV->Prop}(hc:ar E f ds R1)(hk:∀ r,R1 r->K (.d r) h):qV E f ds h K:=by unfold qV;exact .inl ⟨R1,hc,hk⟩
theorem aq{E:Env}{f:FuncId}{ds:List DV}{h:List af}{K:AV->List af->Prop}{r:DV}(hc:ar E f ds (· = r))(hk:K (.d r) h):qV E f ds h K:=xm hc fun _ e=>e ▸ hk
theorem KC{E:Env}{f:FuncId}{ds:List DV}{h:List af}{K:AV->List af->Prop}{Q:AV->List af->Prop}(hc:aw E f [] (ds.map .d) Q)(hk:∀ r h1,Q r h1->fI [] h r fun v=>jJ [] h h1 fun h'=>K v h'):qV E f ds h K:=by
 unfold qV;refine .inr ⟨Q,hc,fun r h1 hq=>?_⟩;have:=hk r h1 hq;rw[nt,qT]at this;exact this
theorem xn{E:Env}{f:FuncId}{ds:List DV}{h:List af}{K:AV->List af->Prop}{r:AV}{h1:List af}{args:List AV}(hc:aw E f [] args (fun a b=>a=r/\b=h1))(ha:args=ds.map .d)(hk:fI [] h r fun v=>jJ [] h h1 fun h'=>K v h'):qV E f ds h K :=
 KC (ha ▸ hc) fun _ _ ⟨e1,e2⟩=>by subst e1;subst e2;exact hk
def km(d:Nat):List Nat->Bool
 |[]=>false
 |a::l=>match adY a d with
  |true=>true
  |false=>km d l
def zw(G:List (Nat × DV))(s:List AV)(o:Oper)(stop:Prop)(k:FuncId->List AV->Prop):Prop :=
 match o.op with
 | .call { callee := .value fx,args:=args,.. }=>cd G s fx stop fun
  | .fn (.func f) a1 a2=>uc G s args.toList stop fun av=>sQ a1 av fun a3=>sQ a3 a2 fun a4=>k f a4
  | .d (.fn (.func f))=>uc G s args.toList stop fun av=>k f av
  |_=>stop
 |_=>stop
def FD(inl:List FuncId)(E:Env)(s:List AV)(h:List af)(o:Oper)(stop:Prop)(k:AV->List af->Prop):Prop :=
 zw E.G s o stop fun f im=>match km f inl with
  |true=>stop
  |false=>qz im (B3 E f im h stop k) fun ds=>qV E f ds h k
theorem KD{G:List (Nat × DV)}{s:List AV}{o:Oper}{stop:Prop}{k:FuncId->List AV->Prop}(H:zw G s o stop k):stop\/∃ (fx:Operand) (args:Array Operand) (ts:Array TypeId) (f:FuncId) (a1 av a2:List AV),
  o.op=.call { callee := .value fx,args:=args,argTypes:=ts }/\bh G s fx (.fn (.func f) a1 a2)/\jC G s args.toList av/\k f (a1++av++a2):=by
 unfold zw at H;split at H
 ·rename_i fx args ts cn;rcases cu H with H|⟨v,hv,H⟩
  ·exact .inl H
  split at H
  ·rename_i f a1 a2;rcases yH H with H|⟨av,ov,H⟩
   ·exact .inl H
   rw[xf,xf]at H;exact .inr ⟨fx,args,ts,f,a1,av,a2,cn,hv,ov,H⟩
  ·rename_i f;rcases yH H with H|⟨av,ov,H⟩
   ·exact .inl H
   refine .inr ⟨fx,args,ts,f,[],av,[],cn,fun c a h1 h2=>?_,ov,by simpa using H⟩;have:=hv c a h1 h2;generalize a.eval fx=u at this;cases this with
   |d _ _ hx =>
    cases hx;exact .fn _ _ _ _ _ rfl rfl (fun j x v hx=>by simp at hx) (fun j x v hx=>by simp at hx)
  ·exact .inl H
 ·exact .inl H
def B6(ops:Array Oper)(g:Option (Nat × Bool))(no stop:Prop)(k:Nat->Bool->Prop):Prop :=
 match g with
 |none=>no
 |some (j,b)=>aZ ops.toList j stop fun o=>match o.dst with
  |some d=>k d b
  |none=>stop
def KE:Bool->Bool->Bool
 |true,true=>true
 |false,false=>true
 |_,_=>false
def zx(id:Nat):List aT->(stop:Prop)->(List aT->Prop)->Prop
 | .inBlock i::r,stop,k=>match adY i id with
  |true=>k r
  |false=>zx id r stop k
 |_::r,stop,k=>zx id r stop k
 |[],stop,_=>stop
theorem uL{id:Nat}{stop:Prop}{k:List aT->Prop}:∀ {l:List aT},zx id l stop k->stop\/∃ r,nd id l=some r/\k r
 |[],H => .inl H
 | .inBlock i::l,H=>by
  simp only[zx]at H;split at H
  ·rename_i q;exact .inr ⟨l,by simp only[nd,q],H⟩
  ·rename_i q;rcases uL H with h|⟨r,hr,h⟩
   ·exact .inl h
   ·exact .inr ⟨r,by simp only[nd,q];exact hr,h⟩
 | .code c::l,H=>uL (l:=l) H
 | .inLoop c::l,H=>uL (l:=l) H
 | .pI c::l,H=>uL (l:=l) H
 | .qF::l,H=>uL (l:=l) H
 | .bw ops q::l,H=>uL (l:=l) H
@[irreducible] def J (E : Env) (aj : FuncId) (R : cF) (SE : List Nat) (td : List aT) (s : List AV) (h : List af) : Prop := AW E R.fx.f0 ⟨⟨aj, R.fx.cA, R.fx.aN⟩, td, s⟩ R.fx.cls h R
theorem J.of{E:Env}{aj:FuncId}{R:cF}{lits:List Nat}{td:List aT}{s:List AV}{h:List af}(H:AW E R.fx.f0 ⟨⟨aj,R.fx.cA,R.fx.aN⟩,td,s⟩ R.fx.cls h R):J E aj R lits td s h:=by unfold J;exact H
theorem J.to{E:Env}{aj:FuncId}{R:cF}{lits:List Nat}{td:List aT}{s:List AV}{h:List af}(H:J E aj R lits td s h):AW E R.fx.f0 ⟨⟨aj,R.fx.cA,R.fx.aN⟩,td,s⟩ R.fx.cls h R:=by unfold J at H;exact H
def zy(aj:FuncId)(x:FX):Bool:=match x.cA,x.aN,x.cls with
 |none,[],[]=>adY x.f0 aj
 |_,_,_=>false
theorem SF{aj:FuncId}{x:FX}(h:zy aj x=true):x.cA=none/\x.aN=[]/\x.cls=[]/\x.f0=aj:=by
 unfold zy at h;split at h
 ·rename_i a b c;exact⟨a,b,c,adX h⟩
 ·cases h
def runK(E:Env)(aj:FuncId)(rs:List ResultVar)(R:cF):Nat->List Nat->List aT->List AV->List af->Prop
 |0,lits,td,s,h=>J E aj R lits td s h
 |n+1,lits,td,s,h =>
  match td with
  |[]=>match zy aj R.fx with
   |true=>oh E.T s h rs (J E aj R lits td s h) R.Q
   |false=>J E aj R lits td s h
  | .inBlock _::r=>runK E aj rs R n lits r s h
  | .inLoop _::_=>J E aj R lits td s h
  | .pI _::_=>J E aj R lits td s h
  | .qF::_=>J E aj R lits td s h
  | .code c::r=>match c with
   | .skip=>runK E aj rs R n lits r s h
   | .seq a b=>runK E aj rs R n lits (.code a :: .code b::r) s h
   | .block id b=>runK E aj rs R n lits (.code b :: .inBlock id::r) s h
   | .exit id=>zx id r (J E aj R lits td s h) fun r'=>runK E aj rs R n lits r' s h
   | .region _ ops false=>runK E aj rs R n lits (.bw ops ops.toList::r) s h
   | .ret=>match zy aj R.fx with
    |true=>oh E.T s h rs (J E aj R lits td s h) R.Q
    |false=>J E aj R lits td s h
   | .cond x a b=>cd E.G s x (J E aj R lits td s h) fun
    | .d (.bool t)=>nv t (J E aj R lits (.code a::r) s h) (J E aj R lits (.code b::r) s h)
    |_=>J E aj R lits td s h
   |_=>J E aj R lits td s h
  | .bw _ []::r=>runK E aj rs R n lits r s h
  | .bw ops (o::l)::r =>
   let go:Prop:=jZ E.T E.G o.op s h (y5 E o.op s h (ot E o.op s h (FD R.fx.inl E s h o (J E aj R lits td s h) fun v h'=>cg s o.dst v fun s'=>J E aj R lits (.bw ops l::r) s' h')
     fun v h'=>cg s o.dst v fun s'=>J E aj R lits (.bw ops l::r) s' h')
     fun v h'=>cg s o.dst v fun s'=>runK E aj rs R n lits (.bw ops l::r) s' h')
    fun v h'=>cg s o.dst v fun s'=>runK E aj rs R n lits (.bw ops l::r) s' h'
   B6 ops o.guard go (J E aj R lits td s h) fun d b=>aZ s d (J E aj R lits td s h) fun
    | .d (.bool t)=>match km d lits with
     |false=>nv t (fG s d (.d (.bool true)) fun s'=>J E aj R (d::lits) td s' h) (fG s d (.d (.bool false)) fun s'=>J E aj R (d::lits) td s' h)
     |true=>match KE t b with
      |true=>go
      |false=>cg s o.dst (.d .undef) fun s'=>runK E aj rs R n lits (.bw ops l::r) s' h
    | .d .undef=>cg s o.dst (.d .undef) fun s'=>runK E aj rs R n lits (.bw ops l::r) s' h
    |_=>J E aj R lits td s h
section
variable {E:Env} {aj:FuncId} {R:cF}
theorem zz{β:Type}:∀ {l:List β} {d:Nat} {x:β},l[d]?=some x->l.set d x=l
 |[],_,_,h=>by simp at h
 |a::l,0,x,h=>by simp at h;subst h;rfl
 |a::l,d+1,x,h=>by simp only[List.set_cons_succ];rw[zz (by simpa using h)]
theorem FE(hE:E.OK){fn:Func}(hf:E.P.funcs[aj]?=some fn):∀ (n:Nat) (lits:List Nat) (td:List aT) (s:List AV) (h:List af),
  runK E aj fn.results.toList R n lits td s h->AW E R.fx.f0 ⟨⟨aj,R.fx.cA,R.fx.aN⟩,td,s⟩ R.fx.cls h R:=by
 have ret:∀ (lits:List Nat) (td:List aT) (s:List AV) (h:List af),(td=[]\/∃ r,td=.code .ret::r)->(match zy aj R.fx with|true=>oh E.T s h fn.results.toList (J E aj R lits td s h) R.Q|false=>J E aj R lits td s h)->AW E R.fx.f0 ⟨⟨aj,R.fx.cA,R.fx.aN⟩,td,s⟩ R.fx.cls h R:=by
  intro lits td s h om H;split at H
  ·rename_i q;by_cases hA:J E aj R lits td s h
   ·exact hA.to
   ·rw[eq_false hA]at H;obtain⟨q1,q2,q3,q4⟩:=SF q;rw[q1,q2,q3,q4];rcases om with rfl|⟨r,rfl⟩
    ·exact .Rq hE hf H
    ·exact .ret hE hf H
  ·exact H.to
 intro n
 induction n with
 |zero=>intro lits td s h H;exact J.to H
 |succ n ih =>
  intro lits td s h H;unfold runK at H;split at H
  ·exact ret _ _ s h (.inl rfl) H
  ·exact .inBlock (ih _ _ _ _ H)
  ·exact J.to H
  ·exact J.to H
  ·exact J.to H
  ·rename_i c r;split at H
   ·exact .skip (ih _ _ _ _ H)
   ·exact .seq (ih _ _ _ _ H)
   ·exact .block (ih _ _ _ _ H)
   ·rcases uL H with h'|⟨r',hr,H⟩
    ·exact h'.to
    ·exact .exit hr (ih _ _ _ _ H)
   ·exact .region (ih _ _ _ _ H)
   ·exact ret _ _ s h (.inr ⟨_,rfl⟩) H
   ·rcases cu H with h'|⟨v,hv,H⟩
    ·exact h'.to
    split at H
    ·rename_i t;refine FC H (fun e H2=>?_) (fun e H2=>?_)
     ·subst e;exact .cond hv (by simpa using H2.to)
     ·subst e;exact .cond hv (by simpa using H2.to)
    ·exact J.to H
   ·exact J.to H
  ·exact .Ri (ih _ _ _ _ H)
  ·rename_i ops o l r
   have go : ig ops o s true -> (jZ E.T E.G o.op s h (y5 E o.op s h (ot E o.op s h (FD R.fx.inl E s h o (J E aj R lits (.bw ops (o :: l) :: r) s h) fun v h' => cg s o.dst v fun s' => J E aj R lits (.bw ops l :: r) s' h')
         fun v h' => cg s o.dst v fun s' => J E aj R lits (.bw ops l :: r) s' h')
         fun v h' => cg s o.dst v fun s' => runK E aj fn.results.toList R n lits (.bw ops l :: r) s' h')
     fun v h'=>cg s o.dst v fun s'=>runK E aj fn.results.toList R n lits (.bw ops l::r) s' h')->AW E R.fx.f0 ⟨⟨aj,R.fx.cA,R.fx.aN⟩,.bw ops (o::l)::r,s⟩ R.fx.cls h R:=by
    intro hw H;rcases BC hE H with H|⟨v,h',H,ho⟩
    ·rcases J7 hE H with H|⟨v,h',H,ho⟩
     case inr =>
      rw[dX]at H;exact .op hw ho (ih _ _ _ _ H)
     rcases ze hE H with H|⟨v,h',H,ho⟩
     case inr =>
      rw[dX]at H;exact .op hw ho H.to
     unfold FD at H;rcases KD H with H|⟨fx,args,ts,f,a1,av,a2,cn,hv,ov,H⟩
     ·exact J.to H
     split at H
     ·exact J.to H
     rcases yB (a1++av++a2) (B3 E f (a1++av++a2) h (J E aj R lits (.bw ops (o::l)::r) s h) fun v h'=>cg s o.dst v fun s'=>J E aj R lits (.bw ops l::r) s' h') (fun ds=>qV E f ds h fun v h'=>cg s o.dst v fun s'=>J E aj R lits (.bw ops l::r) s' h')with⟨ds,e1,e2⟩|e2
     ·rw[e2]at H;unfold qV at H;rcases H with⟨R1,hc,hk⟩|⟨Q,hc,hk⟩
      ·refine .call hw cn hv ov e1 hc fun u hu=>?_;have:=hk u hu;simp only[dX]at this;exact this.to
      ·refine .KB (ab:=[]) hw cn hv ov (Q:=Q) ?_ List.nodup_nil (fun j hj=>by simp at hj) fun u h1 hu=>?_
       ·have e3:(a1++av++a2).map (gj [] h)=ds.map .d:=by rw[e1,List.map_map];rfl
        rw[e3];exact hc
       ·have:=hk u h1 hu;simp only[dX]at this;exact this.to
     ·rw[e2]at H;rcases SD H with H|⟨ab,Q,hc,hn,ah,hk⟩
      ·exact J.to H
      refine .KB hw cn hv ov hc hn ah fun u h1 hu=>?_;have:=hk u h1 hu;simp only[dX]at this;exact this.to
    ·rw[dX]at H;exact .op hw ho (ih _ _ _ _ H)
   dsimp only at H;unfold B6 at H;split at H
   ·rename_i hg;exact go (gb hg) H
   ·rename_i j b hg;rcases bp H with H|⟨oj,xo,H⟩
    ·exact J.to H
    split at H
    ·rename_i d hd;rcases bp H with H|⟨x,hx,H⟩
     ·exact J.to H
     split at H
     ·rename_i t;split at H
      ·refine FC H (fun e H2=>?_) (fun e H2=>?_)
       ·subst e;rw[gF,zz hx]at H2;exact J.to H2
       ·subst e;rw[gF,zz hx]at H2;exact J.to H2
      ·have hw:=wR hg xo hd hx;split at H
       ·rename_i q;have:(t==b)=true:=by cases t<;>cases b<;>first|rfl|cases q
        rw[this]at hw;exact go hw H
       ·rename_i q;have:(t==b)=false:=by cases t<;>cases b<;>first|rfl|cases q
        rw[this]at hw;rw[dX]at H;exact .JC hw (ih _ _ _ _ H)
     ·rw[dX]at H;exact .JC (JB hg xo hd hx) (ih _ _ _ _ H)
     ·exact J.to H
    ·exact J.to H
theorem J.run(hE:E.OK){fn:Func}(hf:E.P.funcs[aj]?=some fn)(n:Nat){lits:List Nat}{td:List aT}{s:List AV}{h:List af}(H:runK E aj fn.results.toList R n lits td s h):J E aj R lits td s h := .of (FE hE hf n lits td s h H)
theorem ar.run (hE : E.OK) {fn : Func} (hf : E.P.funcs[aj]? = some fn) {body : Code} (hb : fn.body = some body) (hn : (fn.name == "runtime.NumGoroutine") = false) (n : Nat) {args : List DV} {R : DV -> Prop}
  (H:oS .d args fun a=>runK E aj fn.results.toList ⟨0,ux R,[],⟨aj,none,[],[],[],[]⟩⟩ n [] [.code body] (og a fn.ntmps) []):ar E aj args R:=by
 rw[ub]at H;exact .Rp (.JD hf hb hn (fun i g ts l h=>by simp at h) (FE hE hf n _ _ _ _ H))
def pQ:List af->Bool
 |[]=>true
 | .arr g _ _::l=>match adY g 0 with
  |true=>pQ l
  |false=>false
 |_::l=>pQ l
theorem kn:∀ {h:List af},pQ h=true->wO h
 |[],_=>fun i g ts l h=>by simp at h
 |b::r,H=>by
  have hr:pQ r=true:=by
   unfold pQ at H;split at H
   ·rename_i e;cases e
   ·rename_i e;cases e;split at H
    ·exact H
    ·cases H
   ·rename_i e;cases e;exact H
  intro i g ts l h;cases i with
  |zero =>
   simp at h;subst h;simp only[pQ]at H;split at H
   ·rename_i q;exact adX q
   ·cases H
  |succ i=>exact kn hr i g ts l (by simpa using h)
theorem aw.run (hE : E.OK) {fn : Func} (hf : E.P.funcs[aj]? = some fn) {body : Code} (hb : fn.body = some body) (hn : (fn.name == "runtime.NumGoroutine") = false) (n : Nat) {h : List af} (mq : pQ h = true) {args : List AV} {Q : AV -> List af -> Prop}
  (H:runK E aj fn.results.toList ⟨h.length,Q,[],⟨aj,none,[],[],[],[]⟩⟩ n [] [.code body] (og args fn.ntmps) h):aw E aj h args Q :=
 .JD hf hb hn (kn mq) (FE hE hf n _ _ _ _ H)
end
end Go.aA
end
section
namespace Go.aA
open Go Go.RowKit
def xp(h h':List af)(x y:AV)(K:Prop):Prop :=
 match y with
 | .any=>K
 | .d b=>match x with
  | .d a=>a=b/\K
  |_=>False
 | .own b' g'=>match x with
  | .own b g=>match adY b b' with
   |true=>aZ h b False fun
    | .arr g0 _ _=>aZ h' b False fun
     | .arr g1 _ _=>match adY g g0,adY g' g1 with
      |true,true=>K
      |_,_=>False
     |_=>False
    |_=>False
   |false=>False
  |_=>False
 | .ptr b' FF=>match x with
  | .ptr b off=>match adY b b',adY off FF with
   |true,true=>aZ h b False fun
    | .cells _=>aZ h' b False fun
     | .cells _=>K
     |_=>False
    |_=>False
   |_,_=>False
  |_=>False
 | .bQ e' FF=>match x with
  | .bQ e off=>match adY off FF with
   |true=>e=e'/\K
   |false=>False
  |_=>False
 | .map b'=>match x with
  | .map b=>match adY b b' with
   |true=>aZ h b False fun
    | .map _=>aZ h' b False fun
     | .map _=>K
     |_=>False
    |_=>False
   |false=>False
  |_=>False
 | .cut b' g' k' q'=>match x with
  | .cut b g k q=>match adY b b' with
   |true=>aZ h b False fun
    | .arr g0 _ _=>aZ h' b False fun
     | .arr g1 _ _=>match adY g g0,adY g' g1 with
      |true,true=>k=k'/\q=q'/\K
      |_,_=>False
     |_=>False
    |_=>False
   |false=>False
  |_=>False
 |_=>False
def sW(h h':List af):List AV->List AV->Prop->Prop
 |[],[],K=>K
 |x::l,y::l',K=>xp h h' x y (sW h h' l l' K)
 |_,_,_=>False
def zA(h h':List af)(x y:AV)(K:Prop):Prop :=
 match y with
 | .agg l'=>match x with
  | .agg l=>sW h h' l l' K
  |_=>False
 | .aF l'=>match x with
  | .aF l=>sW h h' l l' K
  |_=>False
 | .fn f' a' b'=>match x with
  | .fn f a b=>f=f'/\sW h h' a a' (sW h h' b b' K)
  |_=>False
 |y=>xp h h' x y K
def uM(h h':List af):List AV->List AV->Prop->Prop
 |[],[],K=>K
 |x::l,y::l',K=>zA h h' x y (uM h h' l l' K)
 |_,_,_=>False
def KF(g g':Nat):Bool:=match adY g' 0 with
 |true=>adY g 0
 |false=>true
theorem SG{g g':Nat}(h:KF g g'=true):g'=0->g=0:=fun e=>by
 subst e;exact adX h
def B7(h h':List af)(x y:af)(K:Prop):Prop :=
 match y with
 | .gone=>K
 | .cells l'=>match x with
  | .cells l=>uM h h' l l' K
  |_=>False
 | .arr g' eD l'=>match x with
  | .arr g ts l=>match KF g g' with
   |true=>ts=eD/\l=l'/\K
   |false=>False
  |_=>False
 | .map ee=>match x with
  | .map es=>es=ee/\K
  |_=>False
 | .hole=>False
def sX(h h':List af):List af->List af->Prop->Prop
 |_,[],K=>K
 |x::l,y::l',K=>B7 h h' x y (sX h h' l l' K)
 |_,_,_=>False
def B8(own:Nat->Option (Nat × Nat))(h':List af)(i:Nat):Option (Nat × Nat):=match h'[i]? with
 |none=>none
 |some .gone=>none
 |some _=>own i
def Cx.cut(c:Cx)(h':List af):Cx:={ c with own:=B8 c.own h',heap:=h' }
def KG(x y:af):Prop:=match y with
 | .gone=>True
 | .cells l'=>∃ l,x=.cells l/\l.length=l'.length
 | .arr g' eD l'=>∃ g,x=.arr g eD l'/\(g'=0->g=0)
 | .map ee=>x=.map ee
 | .hole=>False
def HSub(h h':List af):Prop:=∀ (i:Nat) (y:af),h'[i]?=some y->∃ x,h[i]?=some x/\KG x y
theorem lO{c:Cx}{h':List af}{i:Nat}{y:af}(hy:h'[i]?=some y)(hg:y ≠ .gone):(c.cut h').own i=c.own i:=by
 simp only[Cx.cut,B8,hy]
theorem qW{c:Cx}{h':List af}{i:Nat}{p:Nat × Nat}(hi:(c.cut h').own i=some p):c.own i=some p/\∃ y,h'[i]?=some y/\y ≠ .gone:=by
 simp only[Cx.cut,B8]at hi;split at hi
 ·cases hi
 ·cases hi
 ·rename_i y aJ hy;exact⟨hi,y,hy,fun e=>aJ (by rw[<- e])⟩
theorem pR{c:Cx}{h':List af}{x:DV}{v:Value}(hv:VD c.bad c.w x v):VD (c.cut h').bad (c.cut h').w x v :=
 hv.mono fun _ _ hn=>⟨fun hb=>hn (hb.elim .inl fun⟨i,n,hi⟩ => .inr ⟨i,n,(qW hi).1⟩),rfl⟩
theorem KI{h h':List af}{x y:AV}{K:Prop}(H:xp h h' x y K)(hs:HSub h h'):K/\∀ (c:Cx) (v:Value),c.heap=h->VR c x v->VR (c.cut h') y v:=by
 unfold xp at H;split at H
 ·exact⟨H,fun c v _ _ => .any v⟩
 ·split at H
  ·obtain⟨rfl,H⟩:=H;exact⟨H,fun c v _ hv=>by cases hv with|d _ _ hv=>exact .d _ _ (pR hv)⟩
  ·exact H.elim
 ·rename_i b' g';split at H
  ·rename_i b g;split at H
   ·rename_i q;have:=adX q;subst this;rcases bp H with H1|⟨bx,hb,H1⟩
    ·exact H1.elim
    clear H;split at H1
    ·rename_i g0 ts l;rcases bp H1 with H2|⟨FG,cw,H2⟩
     ·exact H2.elim
     clear H1;split at H2
     ·rename_i g1 eD l';split at H2
      ·rename_i q1 q2;have q1:=adX q1;have q2:=adX q2;subst q1;subst q2;refine⟨H2,fun c v hc hv=>?_⟩;obtain⟨x0,k1,gx,k2,-⟩:=hs b _ cw;rw[hb]at k1;cases k1;cases k2;subst hc;have ho:=lO (c:=c) cw (by simp);rcases kW hb hv with⟨blk,cap,r1,rfl⟩|⟨rfl,rfl,r1⟩
       ·exact .own b _ _ _ blk cap cw (ho.trans r1)
       ·exact .iH b _ _ cw (ho.trans r1)
      ·exact H2.elim
     ·exact H2.elim
    ·exact H1.elim
   ·exact H.elim
  ·exact H.elim
 ·split at H
  ·split at H
   ·rename_i q1 q2;have q1:=adX q1;have q2:=adX q2;subst q1;subst q2;rcases bp H with H|⟨bx,hb,H⟩
    ·exact H.elim
    split at H
    ·rcases bp H with H|⟨FG,cw,H⟩
     ·exact H.elim
     split at H
     ·refine⟨H,fun c v hc hv=>?_⟩;subst hc;have ho:=lO (c:=c) cw (by simp);cases hv with
      |ptr _ _ cs blk cap k1 k2=>exact .ptr _ _ _ blk cap cw (ho.trans k2)
      |iI _ _ _ k1 _=>rw[hb]at k1;cases k1
     ·exact H.elim
    ·exact H.elim
   ·exact H.elim
  ·exact H.elim
 ·split at H
  ·split at H
   ·rename_i q;have:=adX q;subst this;obtain⟨rfl,H⟩:=H;refine⟨H,fun c v hc hv=>?_⟩;cases hv with
    |bQ _ _ blk o f k1 k2 k3 k4=>exact .bQ _ _ blk o f (fun hb=>k1 (hb.elim .inl fun⟨i,n,hi⟩ => .inr ⟨i,n,(qW hi).1⟩)) k2 k3 (fun j x hx=>pR (k4 j x hx))
   ·exact H.elim
  ·exact H.elim
 ·split at H
  ·split at H
   ·rename_i q1;have q1:=adX q1;subst q1;rcases bp H with H|⟨bx,hb,H⟩
    ·exact H.elim
    split at H
    ·rcases bp H with H|⟨FG,cw,H⟩
     ·exact H.elim
     split at H
     ·refine⟨H,fun c v hc hv=>?_⟩;subst hc;have ho:=lO (c:=c) cw (by simp);cases hv with
      |map _ es blk cap k1 k2=>exact .map _ _ blk cap cw (ho.trans k2)
      |n0 _ _ k1 _=>rw[hb]at k1;cases k1
     ·exact H.elim
    ·exact H.elim
   ·exact H.elim
  ·exact H.elim
 ·rename_i b' g' k' q';split at H
  ·rename_i b g k qq;split at H
   ·rename_i q;have:=adX q;subst this;rcases bp H with H1|⟨bx,hb,H1⟩
    ·exact H1.elim
    clear H;split at H1
    ·rename_i g0 ts l;rcases bp H1 with H2|⟨FG,cw,H2⟩
     ·exact H2.elim
     clear H1;split at H2
     ·rename_i g1 eD l';split at H2
      ·rename_i q1 q2;have q1:=adX q1;have q2:=adX q2;subst q1;subst q2;obtain⟨rfl,rfl,H2⟩:=H2;refine⟨H2,fun c v hc hv=>?_⟩;obtain⟨x0,k1,gx,k2,-⟩:=hs b _ cw;rw[hb]at k1;cases k1;cases k2;subst hc;have ho:=lO (c:=c) cw (by simp);cases hv with
       |cut _ _ _ _ _ l2 blk cap o r1 r2 r3 r4 r5=>rw[hb]at r1;cases r1;exact .cut b _ k _ _ _ blk cap o cw (ho.trans r2) r3 r4 r5
       |nY _ _ g2 _ _ _ _ _ r1 r2 _=>rw[hb]at r1;cases r1;omega
       |nZ _ _ _ _ _ r1 _=>rw[hb]at r1;cases r1
      ·exact H2.elim
     ·exact H2.elim
    ·exact H1.elim
   ·exact H.elim
  ·exact H.elim
 ·exact H.elim
theorem zB{h h':List af}{K:Prop}(hs:HSub h h'):∀ {l l':List AV},sW h h' l l' K->K/\l.length=l'.length/\∀ (c:Cx) (vs:List Value),c.heap=h->VL c l vs->VL (c.cut h') l' vs
 |[],[],H=>⟨H,rfl,fun c vs _ hv=>⟨hv.1,fun j x v hx=>by simp at hx⟩⟩
 |x::l,y::l',H=>by
  simp only[sW]at H;obtain⟨H,h1⟩:=KI H hs;obtain⟨H,h2,h3⟩:=zB hs H;refine⟨H,by simp[h2],fun c vs hc hv=>?_⟩;cases vs with
  |nil=>have:=hv.1;simp at this
  |cons v vs=>exact .cons (h1 c v hc hv.head.1) (h3 c vs hc hv.head.2)
 |[],_::_,H=>H.elim
 |_::_,[],H=>H.elim
theorem SH{h h':List af}{x y:AV}{K:Prop}(H:zA h h' x y K)(hs:HSub h h'):K/\∀ (c:Cx) (v:Value),c.heap=h->VR c x v->VR (c.cut h') y v:=by
 unfold zA at H;split at H
 ·split at H
  ·obtain⟨H,-,h1⟩:=zB hs H;refine⟨H,fun c v hc hv=>?_⟩;obtain⟨vs,rfl,iL⟩:=pG hv;exact wE (h1 c vs hc iL)
  ·exact H.elim
 ·split at H
  ·obtain⟨H,-,h1⟩:=zB hs H;refine⟨H,fun c v hc hv=>?_⟩;cases hv with
   |aF _ vs hl bG =>
    have:=h1 c vs.toList hc ⟨by simpa using hl,fun j x v hx hv=>bG j x v hx (by simpa using hv)⟩;exact .aF _ vs (by simpa using this.1) (fun j x v hx hv=>this.2 j x v hx (by simpa using hv))
  ·exact H.elim
 ·split at H
  ·obtain⟨rfl,H⟩:=H;obtain⟨H,-,h1⟩:=zB hs H;obtain⟨H,-,h2⟩:=zB hs H;refine⟨H,fun c v hc hv=>?_⟩;obtain⟨v1,v2,rfl,r1,r2⟩:=mr hv;have r1:=h1 c v1 hc r1;have r2:=h2 c v2 hc r2;exact .fn _ _ _ _ _ (by simpa using r1.1) (by simpa using r2.1) (fun j x v hx hv=>r1.2 j x v hx (by simpa using hv)) (fun j x v hx hv=>r2.2 j x v hx (by simpa using hv))
  ·exact H.elim
 ·exact KI H hs
theorem FH{h h':List af}{K:Prop}(hs:HSub h h'):∀ {l l':List AV},uM h h' l l' K->K/\∀ (c:Cx) (vs:List Value),c.heap=h->VL c l vs->VL (c.cut h') l' vs
 |[],[],H=>⟨H,fun c vs _ hv=>⟨hv.1,fun j x v hx=>by simp at hx⟩⟩
 |x::l,y::l',H=>by
  simp only[uM]at H;obtain⟨H,h1⟩:=SH H hs;obtain⟨H,h3⟩:=FH hs H;refine⟨H,fun c vs hc hv=>?_⟩;cases vs with
  |nil=>have:=hv.1;simp at this
  |cons v vs=>exact .cons (h1 c v hc hv.head.1) (h3 c vs hc hv.head.2)
 |[],_::_,H=>H.elim
 |_::_,[],H=>H.elim
theorem KJ{h h':List af}{x y:AV}{Q:Prop}(H:xp h h' x y Q):Q:=by
 unfold xp at H;repeat' split at H
 all_goals first
  |exact H
  |exact H.elim
  |exact H.2
  |(rcases bp H with H|⟨_, _, H⟩
    · exact H.elim
    split at H
    · rcases bp H with H|⟨_, _, H⟩
      · exact H.elim
      repeat' split at H
      all_goals first|exact H|exact H.elim|exact H.2.2|exact H.2
    all_goals exact H.elim)
theorem B9{h h':List af}{K:Prop}:∀ {l l':List AV},sW h h' l l' K->K
 |[],[],H=>H
 |_::_,_::_,H=>B9 (KJ H)
 |[],_::_,H=>H.elim
 |_::_,[],H=>H.elim
theorem FI{h h':List af}{K:Prop}:∀ {l l':List AV},uM h h' l l' K->l.length=l'.length/\K
 |[],[],H=>⟨rfl,H⟩
 |x::l,y::l',H=>by
  have hK:∀ {Q:Prop},zA h h' x y Q->Q:=fun{Q} H=>by
   unfold zA at H;repeat' split at H
   all_goals first
    |exact H.elim
    |exact B9 H
    |exact B9 (B9 H.2)
    |exact KJ H
  simp only[uM]at H;obtain⟨h1,h2⟩:=FI (hK H);exact⟨by simp[h1],h2⟩
 |[],_::_,H=>H.elim
 |_::_,[],H=>H.elim
theorem KK{h h':List af}{K:Prop}:∀ {l l':List af},sX h h' l l' K->HSub l l'/\K
 |[],[],H=>⟨fun i y hy=>by simp at hy,H⟩
 |_::_,[],H=>⟨fun i y hy=>by simp at hy,H⟩
 |x::l,y::l',H=>by
  simp only[sX]at H;have key:KG x y/\sX h h' l l' K:=by
   unfold B7 at H;split at H
   ·exact⟨trivial,H⟩
   ·split at H
    ·obtain⟨h1,h2⟩:=FI H;exact⟨⟨_,rfl,h1⟩,h2⟩
    ·exact H.elim
   ·split at H
    ·split at H
     ·rename_i q;obtain⟨rfl,rfl,H⟩:=H;exact⟨⟨_,rfl,SG q⟩,H⟩
     ·exact H.elim
    ·exact H.elim
   ·split at H
    ·obtain⟨rfl,H⟩:=H;exact⟨rfl,H⟩
    ·exact H.elim
   ·exact H.elim
  obtain⟨h1,h2⟩:=KK key.2;refine⟨fun i z hz=>?_,h2⟩;cases i with
  |zero=>simp at hz;subst hz;exact⟨x,rfl,key.1⟩
  |succ i=>obtain⟨w,k1,k2⟩:=h1 i z (by simpa using hz);exact⟨w,by simpa using k1,k2⟩
 |[],_::_,H=>H.elim
theorem KL{h h':List af}{K:Prop}(hs:HSub h h'):∀ {l l':List af},sX h h' l l' K->∀ (i:Nat) (cs:List AV),l'[i]?=some (.cells cs)->∃ pS,l[i]?=some (.cells pS)/\∀ (c:Cx) (vs:List Value),c.heap=h->VL c pS vs->VL (c.cut h') cs vs
 |_,[],H=>fun i y hy=>by simp at hy
 |x::l,y::l',H=>by
  simp only[sX]at H;intro i cs hi;cases i with
  |zero =>
   simp at hi;subst hi;simp only[B7]at H;split at H
   ·obtain⟨-,h3⟩:=FH hs H;exact⟨_,rfl,h3⟩
   ·exact H.elim
  |succ i =>
   have uD:sX h h' l l' K:=by
    unfold B7 at H;split at H
    ·exact H
    ·split at H
     ·exact(FI H).2
     ·exact H.elim
    ·split at H
     ·split at H
      ·exact H.2.2
      ·exact H.elim
     ·exact H.elim
    ·split at H
     ·exact H.2
     ·exact H.elim
    ·exact H.elim
   obtain⟨pS,k1,k2⟩:=KL hs uD i cs (by simpa using hi);exact⟨pS,by simpa using k1,k2⟩
 |[],_::_,H=>H.elim
theorem aM.cut{G:List (Nat × DV)}{c:Cx}(ho:aM G c){h':List af}(hs:HSub c.heap h')(wL:∀ (i:Nat) (cs:List AV),h'[i]?=some (.cells cs)->∃ pS,c.heap[i]?=some (.cells pS)/\∀ (vs:List Value),VL c pS vs->VL (c.cut h') cs vs):aM G (c.cut h') where
 bS:=ho.bS
 bB:=fun i b n hi=>by
  obtain⟨h1,y,h2,-⟩:=qW hi;exact⟨(ho.bB i b n h1).1,aX h2⟩
 inj:=fun i j b n m hi hj=>ho.inj i j b n m (qW hi).1 (qW hj).1
 sep:=fun i b n hi=>ho.sep i b n (qW hi).1
 box:=fun i bx hi=>by
  have cj:h'[i]?=some bx:=hi;obtain⟨x,hx,hb⟩:=hs i bx cj;cases bx with
  |gone=>show(c.cut h').own i=none;simp only[Cx.cut,B8,cj]
  |hole=>exact hb.elim
  |cells cs =>
   obtain⟨pS,k1,k2⟩:=wL i cs cj;obtain⟨blk,cap,vs,ty,g1,g2,g3⟩:=ho.cells k1;have:=k2 vs.toList g3;exact⟨blk,cap,vs,ty,(lO cj (by simp)).trans g1,g2,by simpa using this.1.symm,fun j x v hx hv=>this.2 j x v hx (by simpa using hv)⟩
  |arr g ts l =>
   obtain⟨g0,rfl,-⟩:=hb;obtain⟨q0,q1,q2⟩:=ho.box i _ hx;refine⟨q0,q1,?_⟩;have cW:=lO (c:=c) cj (by simp);rcases q2 with⟨q2,q3⟩|⟨blk,cap,vs,q2,q3,q4,q5,q6,q7⟩
   ·exact .inl ⟨cW.trans q2,q3⟩
   ·refine .inr ⟨blk,cap,vs,cW.trans q2,q3,q4,q5,q6,fun i j e x he hx=>?_⟩;obtain⟨v,r1,r2,r3⟩:=q7 i j e x he hx;exact⟨v,r1,r2,pR r3⟩
  |map es =>
   obtain rfl:x=.map es:=hb;obtain⟨blk,cap,en,ck,k1,k2,k3,k4⟩:=ho.box i _ hx;exact⟨blk,cap,en,ck,(lO cj (by simp)).trans k1,k2,k3,fun j k x m hx hm=>⟨pR (k4 j k x m hx hm).1,pR (k4 j k x m hx hm).2⟩⟩
 fS:=fun g e hg=>by
  have hp:∀ p,VR c (.bQ e 0) p->VR (c.cut h') (.bQ e 0) p:=fun p hp=>by
   cases hp with
   |bQ _ _ blk o' fv k1 k2 k3 k4=>exact .bQ _ _ blk o' fv (fun hb=>k1 (hb.elim .inl fun⟨i,n,hi⟩ => .inr ⟨i,n,(qW hi).1⟩)) k2 k3 (fun j x hx=>pR (k4 j x hx))
  exact hp _ (ho.fS g e hg)
def xq(n:Nat)(h:List af)(s:List AV)(h':List af)(s':List AV):Prop:=match aeg n h'.length with
 |true=>sX h h' h h' (uM h h' s s' True)
 |false=>False
theorem dc.cut{c0 c:Cx}(hr:dc c0 c){h':List af}(hn:c0.heap.length<=h'.length)(hs:HSub c.heap h'):dc c0 (c.cut h') where
 lim:=hr.lim
 mj:=hr.mj
 aE:=hr.aE
 nb:=hr.nb
 os:=hr.os
 tape:=hr.tape
 output:=hr.output
 size:=hr.size
 keep:=hr.keep
 dB:=fun i b n hi hb=>hr.dB i b n (qW hi).1 hb
 boxes:=fun i bx hi=>by
  have ah:i<h'.length:=ad4 (aX hi) hn;obtain⟨y,hy⟩:∃ y,h'[i]?=some y:=⟨h'[i],by simp[ah]⟩;obtain⟨x,hx,hb⟩:=hs i y hy;have gd:(c.cut h').heap[i]?=some y:=hy;have h1:=hr.boxes i bx hi;have fh:y=.gone->yM c0 (c.cut h') i bx:=fun e=>by
   subst e;cases bx with
   |cells cs=>exact .inr gd
   |arr g sz l=>exact .inr gd
   |map es=>exact .inr gd
   |gone=>exact gd
   |hole=>exact⟨_,gd⟩
  cases y with
  |gone=>exact fh rfl
  |hole=>exact hb.elim
  |cells cs' =>
   obtain⟨cs1,rfl,hl⟩:=hb;have ho:=lO (c:=c) hy (by simp);cases bx with
   |cells cs =>
    rcases h1 with⟨SI,h1,h2,h3⟩|h1
    ·rw[hx]at h1;cases h1;exact .inl ⟨cs',gd,ho.trans h2,by omega⟩
    ·rw[hx]at h1;cases h1
   |arr g sz l =>
    rcases h1 with⟨_,_,h1,_⟩|h1<;>(rw[hx]at h1;cases h1)
   |map es=>rcases h1 with⟨_,h1,_⟩|h1<;>(rw[hx]at h1;cases h1)
   |gone=>have h1:c.heap[i]?=some .gone:=h1;rw[hx]at h1;cases h1
   |hole=>exact⟨_,gd⟩
  |arr g' eD l' =>
   obtain⟨g1,rfl,hl⟩:=hb;have ho:=lO (c:=c) hy (by simp);cases bx with
   |cells cs=>rcases h1 with⟨_,h1,_⟩|h1<;>(rw[hx]at h1;cases h1)
   |arr g sz l =>
    rcases h1 with⟨g2,l2,h1,h2⟩|h1
    ·rw[hx]at h1;cases h1;refine .inl ⟨g',l',gd,?_⟩;by_cases hz:g'=0
     ·have:=hl hz;rcases h2 with h2|⟨h2,h3,h4⟩
      ·omega
      ·exact .inr ⟨hz,h3,ho.trans h4⟩
     ·left;omega
    ·rw[hx]at h1;cases h1
   |map es=>rcases h1 with⟨_,h1,_⟩|h1<;>(rw[hx]at h1;cases h1)
   |gone=>have h1:c.heap[i]?=some .gone:=h1;rw[hx]at h1;cases h1
   |hole=>exact⟨_,gd⟩
  |map ee =>
   obtain rfl:x=.map ee:=hb;have ho:=lO (c:=c) hy (by simp);cases bx with
   |cells cs=>rcases h1 with⟨_,h1,_⟩|h1<;>(rw[hx]at h1;cases h1)
   |arr g sz l=>rcases h1 with⟨_,_,h1,_⟩|h1<;>(rw[hx]at h1;cases h1)
   |map es =>
    rcases h1 with⟨es2,h1,h2⟩|h1
    ·rw[hx]at h1;cases h1;exact .inl ⟨ee,gd,ho.trans h2⟩
    ·rw[hx]at h1;cases h1
   |gone=>have h1:c.heap[i]?=some .gone:=h1;rw[hx]at h1;cases h1
   |hole=>exact⟨_,gd⟩
def xr(h h':List af)(x:AV)(K:Prop):Prop :=
 match x with
 | .any=>K
 | .d _=>K
 | .own b g=>aZ h' b False fun
  | .gone=>K
  | .arr g1 _ _=>aZ h b False fun
   | .arr g0 _ _=>match adZ g g1 with
    |true=>match aeg g g0 with
     |true=>K
     |false=>False
    |false=>match adY g g0,adY g g1 with
     |true,true=>K
     |_,_=>False
   |_=>False
  |_=>False
 | .ptr b _=>aZ h' b False fun
  | .gone=>K
  | .cells _=>aZ h b False fun
   | .cells _=>K
   |_=>False
  |_=>False
 | .bQ _ _=>K
 | .map b=>aZ h' b False fun
  | .gone=>K
  | .map _=>aZ h b False fun
   | .map _=>K
   |_=>False
  |_=>False
 | .cut b g _ _=>aZ h' b False fun
  | .gone=>K
  | .arr g1 _ _=>aZ h b False fun
   | .arr g0 _ _=>match adZ g g1 with
    |true=>match aeg g g0 with
     |true=>K
     |false=>False
    |false=>match adY g g0,adY g g1 with
     |true,true=>K
     |_,_=>False
   |_=>False
  |_=>False
 | .cX b g _ _=>aZ h' b False fun
  | .gone=>K
  | .arr g1 _ _=>aZ h b False fun
   | .arr g0 _ _=>match adZ g g1 with
    |true=>match aeg g g0 with
     |true=>K
     |false=>False
    |false=>match adY g g0,adY g g1 with
     |true,true=>K
     |_,_=>False
   |_=>False
  |_=>False
 |_=>False
def uN(h h':List af):List AV->Prop->Prop
 |[],K=>K
 |x::l,K=>xr h h' x (uN h h' l K)
def zC(h h':List af)(x:AV)(K:Prop):Prop :=
 match x with
 | .agg l=>uN h h' l K
 | .aF l=>uN h h' l K
 | .fn _ a b=>uN h h' a (uN h h' b K)
 |x=>xr h h' x K
def zD(h h':List af):List AV->Prop->Prop
 |[],K=>K
 |x::l,K=>zC h h' x (zD h h' l K)
def B'(h h':List af):List ca->Prop->Prop
 |[],K=>K
 |f::l,K=>zD h h' f.iP (B' h h' l K)
def uO(h h':List af):List bo->Prop->Prop
 |[],K=>K
 | .loop i::l,K=>zD h h' i.iP (uO h h' l K)
 | .mark _::l,K=>uO h h' l K
 |_::_,_=>False
def xt(h h':List af)(x:FX)(K:Prop):Prop:=B' h h' x.cls (uO h h' x.loops K)
theorem xu{β:Type}{l:List β}{i:Nat}{k:β->Prop}{K:Prop}(hk:∀ x,k x->K)(H:aZ l i False k):K:=by
 rcases bp H with H|⟨x,_,H⟩
 ·exact H.elim
 ·exact hk x H
theorem KM{h h':List af}{x:AV}{K:Prop}(H:xr h h' x K):K:=by
 have arr:∀ (b g:Nat),(aZ h' b False fun
  | .gone=>K
  | .arr g1 _ _=>aZ h b False fun
   | .arr g0 _ _=>match adZ g g1 with
    |true=>match aeg g g0 with
     |true=>K
     |false=>False
    |false=>match adY g g0,adY g g1 with
     |true,true=>K
     |_,_=>False
   |_=>False
  |_=>False)->K:=fun b g H=>xu (fun y H=>by
   split at H
   ·exact H
   ·refine xu (fun z H=>?_) H;split at H
    ·split at H
     ·split at H
      ·exact H
      ·exact H.elim
     ·split at H
      ·exact H
      ·exact H.elim
    ·exact H.elim
   ·exact H.elim) H
 cases x with
 |own b g=>exact arr b g H
 |cX b g i off=>exact arr b g H
 |cut b g k q=>exact arr b g H
 |ptr b off =>
  exact xu (fun y H=>by
   split at H
   ·exact H
   ·refine xu (fun z H=>?_) H;split at H
    ·exact H
    ·exact H.elim
   ·exact H.elim) H
 |map b =>
  exact xu (fun y H=>by
   split at H
   ·exact H
   ·refine xu (fun z H=>?_) H;split at H
    ·exact H
    ·exact H.elim
   ·exact H.elim) H
 |any=>exact H
 |d x=>exact H
 |bQ e off=>exact H
 |agg l=>exact H.elim
 |aF l=>exact H.elim
 |fn f a b=>exact H.elim
theorem zE{h h':List af}:∀ {l:List AV} {K:Prop},uN h h' l K->K
 |[],_,H=>H
 |_::_,_,H=>zE (KM H)
theorem SJ{h h':List af}{x:AV}{K:Prop}(H:zC h h' x K):K:=by
 unfold zC at H;split at H
 ·exact zE H
 ·exact zE H
 ·exact zE (zE H)
 ·exact KM H
theorem FJ{h h':List af}:∀ {l:List AV} {K:Prop},zD h h' l K->K
 |[],_,H=>H
 |_::_,_,H=>FJ (SJ H)
theorem KN{h h':List af}:∀ {l:List ca} {K:Prop},B' h h' l K->K
 |[],_,H=>H
 |_::_,_,H=>KN (FJ H)
theorem FK{h h':List af}:∀ {l:List bo} {K:Prop},uO h h' l K->K
 |[],_,H=>H
 | .loop _::_,_,H=>FK (FJ H)
 | .mark _::l,_,H=>FK (l:=l) H
 | .row _::_,_,H=>H.elim
 | .iter _::_,_,H=>H.elim
theorem KO{h h':List af}(hs:HSub h h'){x:AV}{K:Prop}(H:xr h h' x K):K/\∀ (c:Cx),c.heap=h->∀ v,VR c x v->VR (c.cut h') x v:=by
 have own:∀ (b g:Nat) (K:Prop),(aZ h' b False fun
  | .gone=>K
  | .arr g1 _ _=>aZ h b False fun
   | .arr g0 _ _=>match adZ g g1 with
    |true=>match aeg g g0 with
     |true=>K
     |false=>False
    |false=>match adY g g0,adY g g1 with
     |true,true=>K
     |_,_=>False
   |_=>False
  |_=>False)->K/\(h'[b]?=some .gone\/∃ g0 g1 ts l,h[b]?=some (.arr g0 ts l)/\h'[b]?=some (.arr g1 ts l)/\(g<g1\/g=g0/\g=g1)):=fun b g K H=>by
  rcases bp H with H|⟨y,hy,H⟩
  ·exact H.elim
  split at H
  ·exact⟨H,.inl hy⟩
  ·rename_i g1 ts1 l1;rcases bp H with H|⟨x,hx,H⟩
   ·exact H.elim
   split at H
   ·rename_i g0 ts0 l0;obtain⟨x',eh,q⟩:=hs b _ hy;rw[hx]at eh;cases eh;obtain⟨g2,q,-⟩:=q;cases q;split at H
    ·rename_i q1;split at H
     ·exact⟨H,.inr ⟨_,_,_,_,hx,hy,.inl (ad3 q1)⟩⟩
     ·exact H.elim
    ·split at H
     ·rename_i q1 q2;exact⟨H,.inr ⟨_,_,_,_,hx,hy,.inr ⟨adX q1,adX q2⟩⟩⟩
     ·exact H.elim
   ·exact H.elim
  ·exact H.elim
 cases x with
 |any=>exact⟨H,fun c _ v _ => .any v⟩
 |d x=>exact⟨H,fun c _ v hv=>by cases hv with|d _ _ hv=>exact .d _ _ (pR hv)⟩
 |bQ e off=>exact⟨H,fun c _ v hv=>by cases hv with|bQ _ _ blk o f k1 k2 k3 k4=>exact .bQ _ _ blk o f (fun hb=>k1 (hb.elim .inl fun⟨i,n,hi⟩ => .inr ⟨i,n,(qW hi).1⟩)) k2 k3 (fun j x hx=>pR (k4 j x hx))⟩
 |own b g =>
  obtain⟨hK,hq⟩:=own b g K H;refine⟨hK,fun c hc v hv=>?_⟩;subst hc;rcases hq with hq|⟨g0,g1,ts,l,q1,q2,q3⟩
  ·have bZ:v.oneCell'=true:=by cases hv<;>first|rfl|assumption
   exact .jY b g v hq bZ
  ·have ho:=lO (c:=c) q2 (by simp);rcases q3 with q3|⟨rfl,rfl⟩
   ·have bZ:v.oneCell'=true:=by cases hv<;>first|rfl|assumption
    exact .kQ b g g1 ts l v q2 q3 bZ
   ·cases hv with
    |own _ _ sz l' blk cap hb cW=>rw[q1]at hb;cases hb;exact .own b g ts l blk cap q2 (ho.trans cW)
    |iH _ _ sz hb cW=>rw[q1]at hb;cases hb;exact .iH b g ts q2 (ho.trans cW)
    |kQ _ _ g' sz l' v hb hg hv=>rw[q1]at hb;cases hb;omega
    |jY _ _ v hb hv=>rw[q1]at hb;cases hb
    |mZ _ _ _ _ _ _ hb _ _=>rw[q1]at hb;cases hb
 |cut b g k qq =>
  obtain⟨hK,hq⟩:=own b g K H;refine⟨hK,fun c hc v hv=>?_⟩;subst hc;rcases hq with hq|⟨g0,g1,ts,l,q1,q2,q3⟩
  ·have bZ:v.oneCell'=true:=by cases hv<;>first|rfl|assumption
   exact .nZ b g k qq v hq bZ
  ·have ho:=lO (c:=c) q2 (by simp);rcases q3 with q3|⟨rfl,rfl⟩
   ·have bZ:v.oneCell'=true:=by cases hv<;>first|rfl|assumption
    exact .nY b g g1 k qq ts l v q2 q3 bZ
   ·cases hv with
    |cut _ _ _ _ sz l' blk cap o hb cW hk Bl SK=>rw[q1]at hb;cases hb;exact .cut b g k qq ts l blk cap o q2 (ho.trans cW) hk Bl SK
    |nY _ _ g' _ _ sz l' v hb hg hv=>rw[q1]at hb;cases hb;omega
    |nZ _ _ _ _ v hb hv=>rw[q1]at hb;cases hb
 |cX b g i off =>
  obtain⟨hK,hq⟩:=own b g K H;refine⟨hK,fun c hc v hv=>?_⟩;subst hc;rcases hq with hq|⟨g0,g1,ts,l,q1,q2,q3⟩
  ·have bZ:v.oneCell'=true:=by cases hv<;>first|rfl|assumption
   exact .me b g i off v hq bZ
  ·have ho:=lO (c:=c) q2 (by simp);rcases q3 with q3|⟨rfl,rfl⟩
   ·have bZ:v.oneCell'=true:=by cases hv<;>first|rfl|assumption
    exact .mc b g g1 i off ts l v q2 q3 bZ
   ·cases hv with
    |cX _ _ _ _ sz l' blk cap hb cW hi=>rw[q1]at hb;cases hb;exact .cX b g i off ts l blk cap q2 (ho.trans cW) hi
    |mc _ _ g' _ _ sz l' v hb hg hv=>rw[q1]at hb;cases hb;omega
    |me _ _ _ _ v hb hv=>rw[q1]at hb;cases hb
 |ptr b off =>
  simp only[xr]at H;rcases bp H with H|⟨y,hy,H⟩
  ·exact H.elim
  split at H
  ·refine⟨H,fun c _ v hv=>?_⟩;have bZ:v.oneCell'=true:=by cases hv<;>first|rfl|assumption
   exact .iI b off v hy bZ
  ·rcases bp H with H|⟨x,hx,H⟩
   ·exact H.elim
   split at H
   ·refine⟨H,fun c hc v hv=>?_⟩;subst hc;have ho:=lO (c:=c) hy (by simp);cases hv with
    |ptr _ _ cs blk cap hb cW=>exact .ptr b off _ blk cap hy (ho.trans cW)
    |iI _ _ v hb hv=>rw[hx]at hb;cases hb
   ·exact H.elim
  ·exact H.elim
 |map b =>
  simp only[xr]at H;rcases bp H with H|⟨y,hy,H⟩
  ·exact H.elim
  split at H
  ·refine⟨H,fun c _ v hv=>?_⟩;have bZ:v.oneCell'=true:=by cases hv<;>first|rfl|assumption
   exact .n0 b v hy bZ
  ·rcases bp H with H|⟨x,hx,H⟩
   ·exact H.elim
   split at H
   ·refine⟨H,fun c hc v hv=>?_⟩;subst hc;have ho:=lO (c:=c) hy (by simp);cases hv with
    |map _ es blk cap hb cW=>exact .map b _ blk cap hy (ho.trans cW)
    |n0 _ v hb hv=>rw[hx]at hb;cases hb
   ·exact H.elim
  ·exact H.elim
 |agg l=>exact H.elim
 |aF l=>exact H.elim
 |fn f a b=>exact H.elim
theorem zF{h h':List af}(hs:HSub h h'):∀ {l:List AV} {K:Prop},uN h h' l K->K/\∀ (c:Cx),c.heap=h->∀ (j:Nat) x v,l[j]?=some x->VR c x v->VR (c.cut h') x v
 |[],K,H=>⟨H,fun c _ j x v hx=>by simp at hx⟩
 |y::l,K,H=>by
  obtain⟨H,h1⟩:=KO hs H;obtain⟨H,h2⟩:=zF hs H;refine⟨H,fun c hc j x v hx hv=>?_⟩;cases j with
  |zero=>simp at hx;subst hx;exact h1 c hc v hv
  |succ j=>exact h2 c hc j x v (by simpa using hx) hv
theorem SL{h h':List af}(hs:HSub h h'){x:AV}{K:Prop}(H:zC h h' x K):K/\∀ (c:Cx),c.heap=h->∀ v,VR c x v->VR (c.cut h') x v:=by
 unfold zC at H;split at H
 ·obtain⟨H,h1⟩:=zF hs H;exact⟨H,fun c hc v hv=>by cases hv with|agg _ vs hl bG=>exact .agg _ vs hl fun j x v hx hu=>h1 c hc j x v hx (bG j x v hx hu)⟩
 ·obtain⟨H,h1⟩:=zF hs H;exact⟨H,fun c hc v hv=>by cases hv with|aF _ vs hl bG=>exact .aF _ vs hl fun j x v hx hu=>h1 c hc j x v hx (bG j x v hx hu)⟩
 ·obtain⟨H,h1⟩:=zF hs H;obtain⟨H,h2⟩:=zF hs H;exact⟨H,fun c hc v hv=>by cases hv with|fn _ _ _ v1 v2 k1 k2 k3 k4=>exact .fn _ _ _ v1 v2 k1 k2 (fun j x v hx hu=>h1 c hc j x v hx (k3 j x v hx hu)) (fun j x v hx hu=>h2 c hc j x v hx (k4 j x v hx hu))⟩
 ·exact KO hs H
theorem FL{h h':List af}(hs:HSub h h'):∀ {l:List AV} {K:Prop},zD h h' l K->K/\∀ (c:Cx),c.heap=h->∀ t,VS c l t->VS (c.cut h') l t
 |[],K,H=>⟨H,fun c _ t ht=>⟨ht.1,fun j x v hx=>by simp at hx⟩⟩
 |y::l,K,H=>by
  obtain⟨H,h1⟩:=SL hs H;obtain⟨H,h2⟩:=FL hs H;refine⟨H,fun c hc t ht=>⟨ht.1,fun j x v hx hv=>?_⟩⟩;cases j with
  |zero=>simp at hx;subst hx;exact h1 c hc v (ht.2 0 _ v rfl hv)
  |succ j =>
   have eK:(t.extract 1)[j]?=some v:=by
    rw[age];have:=(Array.getElem?_eq_some_iff.1 hv).1;rw[if_pos (by omega),aep];exact hv
   have:=h2 c hc (t.extract 1) ⟨by have:=ht.1;simp at this ⊢;omega,fun i x v hx hv=>ht.2 (i+1) x v (by simpa using hx) (by
    rw[age]at hv;split at hv
    ·rw[aep]at hv;exact hv
    ·cases hv)⟩
   exact this.2 j x v (by simpa using hx) eK
theorem KP{h h':List af}(hs:HSub h h'):∀ {l:List ca} {K:Prop},B' h h' l K->K/\∀ (c:Cx),c.heap=h->∀ ts,CR c l ts->CR (c.cut h') l ts
 |[],K,H=>⟨H,fun c _ ts ht=>by cases ts with|nil=>trivial|cons t ts=>exact ht.elim⟩
 |f::l,K,H=>by
  obtain⟨H,h1⟩:=FL hs H;obtain⟨H,h2⟩:=KP hs H;refine⟨H,fun c hc ts ht=>?_⟩;cases ts with
  |nil=>exact ht.elim
  |cons t ts=>exact⟨h1 c hc t ht.1,ht.2.1,h2 c hc ts ht.2.2⟩
theorem FM{h h':List af}(hs:HSub h h'):∀ {l:List bo} {K:Prop},uO h h' l K->K/\∀ (lim:Nat) (c:Cx),c.heap=h->∀ g∈l,ja lim c g->ja lim (c.cut h') g
 |[],K,H=>⟨H,fun lim c _ g hg=>by simp at hg⟩
 | .loop i::l,K,H=>by
  obtain⟨H,h1⟩:=FL hs H;obtain⟨H,h2⟩:=FM hs H;refine⟨H,fun lim c hc g hg hk=>?_⟩;rcases afu.1 hg with rfl|hg
  ·obtain⟨k1,k2,k3,k4⟩:=(show oe lim c i from hk);exact(show oe lim (c.cut h') i from ⟨k1,k2,k3,h1 c hc _ k4⟩)
  ·exact h2 lim c hc g hg hk
 | .mark d::l,K,H=>by
  obtain⟨H,h2⟩:=FM (l:=l) hs H;refine⟨H,fun lim c hc g hg hk=>?_⟩;rcases afu.1 hg with rfl|hg
  ·obtain⟨k1,k2,k3⟩:=(show sA lim c d from hk);exact(show sA lim (c.cut h') d from ⟨k1,k2,k3⟩)
  ·exact h2 lim c hc g hg hk
 | .row _::_,_,H=>H.elim
 | .iter _::_,_,H=>H.elim
theorem ja.SM{lim:Nat}{c:Cx}{h':List af}:∀ {g:bo},ja lim c g->g.flat->ja lim (c.cut h') g
 | .row r,h,_=>mn.gen (c:=c) h (mn.aE (c:=c) h) rfl (fun _ _=>pR)
 | .iter i,h,_=>mo.gen (c:=c) h (mo.EC (c:=c) h) (mo.yN (c:=c) h) rfl rfl (fun _ _=>pR)
 | .loop _,_,h=>h.elim
 | .mark d,h,_=>by obtain⟨k1,k2,k3⟩:=(show sA lim c d from h);exact(show sA lim (c.cut h') d from ⟨k1,k2,k3⟩)
section
variable {E:Env} {aj:FuncId} {R:cF} {td:List aT} {s s':List AV} {h h':List af}
theorem cT.cut{lim:Nat}{c:Cx}{rows loops:List bo}(h:cT lim c rows loops){h':List af}(hl:∀ g∈loops,ja lim c g->ja lim (c.cut h') g):cT lim (c.cut h') rows loops :=
 ⟨⟨fun g hg=>(aeI.1 hg).elim (fun s6=>(h.all.each g hg).SM (h.flat g s6)) (fun s6=>hl g s6 (h.all.each g hg)),h.all.nodup⟩,h.flat⟩
theorem AW.weaken{f0:FuncId}{fd:iZ}(hs:xt h h' R.fx (xq R.n h s h' s'))(H:AW E f0 ⟨fd,td,s'⟩ R.fx.cls h' R):AW E f0 ⟨fd,td,s⟩ R.fx.cls h R:=by
 unfold AW at H ⊢;intro c0 c t ts h0 h1 h2 h3 hr br h4 h5 cs;subst h2;unfold xt at hs;have s7:=hs;replace hs:=FK (KN hs);unfold xq at hs;split at hs
 case h_2=>exact hs.elim
 rename_i q;have hn:=ad3 q;obtain⟨k1,k2⟩:=KK hs;have k3:=KL k1 hs;obtain⟨-,k4⟩:=FH k1 k2;obtain⟨pT,f1⟩:=KP k1 s7;obtain⟨-,f2⟩:=FM k1 pT;have hv:=k4 c t.toList rfl ⟨by simpa using h4.1,fun j x v hx hv=>h4.2 j x v hx (by simpa using hv)⟩;have aP:=h3.cut k1 (fun i cs hi=>by obtain⟨pS,r1,r2⟩:=k3 i cs hi;exact⟨pS,r1,fun vs hv=>r2 c vs rfl hv⟩);exact H c0 (c.cut h') t ts h0 h1 rfl aP (hr.cut (by omega) k1) (br.cut fun g hg=>f2 _ c rfl g hg) ⟨by simpa using hv.1,fun j x v hx hu=>hv.2 j x v hx (by simpa using hu)⟩ (f1 c rfl ts h5) cs
def anyS:List Nat->List AV->List AV
 |[],s=>s
 |d::l,s=>anyS l (s.set d .any)
def lP:List (Nat × AV)->List AV->List AV
 |[],s=>s
 |(d,v)::l,s=>lP l (s.set d v)
def lQ:List (Nat × af)->List af->List af
 |[],h=>h
 |(d,v)::l,h=>lQ l (h.set d v)
def Ca{α:Sort _}:List Nat->List AV->(List AV->α)->α
 |[],s,k=>k s
 |d::l,s,k=>fG s d .any fun s'=>Ca l s' k
theorem KQ{α:Sort _}:∀ (l:List Nat) (s:List AV) (k:List AV->α),Ca l s k=k (anyS l s)
 |[],_,_=>rfl
 |d::l,s,k=>by simp only[Ca,gF,anyS,KQ l]
def uP{α:Sort _}{β:Type}:List (Nat × β)->List β->(List β->α)->α
 |[],s,k=>k s
 |(d,v)::l,s,k=>fG s d v fun s'=>uP l s' k
theorem KR{α:Sort _}:∀ (l:List (Nat × AV)) (s:List AV) (k:List AV->α),uP l s k=k (lP l s)
 |[],_,_=>rfl
 |(d,v)::l,s,k=>by simp only[uP,gF,lP,KR l]
theorem KS{α:Sort _}:∀ (l:List (Nat × af)) (s:List af) (k:List af->α),uP l s k=k (lQ l s)
 |[],_,_=>rfl
 |(d,v)::l,s,k=>by simp only[uP,gF,lQ,KS l]
def zG(ks:List Nat):AV->Bool
 | .own j _=>km j ks
 | .cut j _ _ _=>km j ks
 | .cX j _ _ _=>km j ks
 |_=>false
def KT(ks:List Nat):AV->Bool
 | .agg l=>l.any (zG ks)
 | .aF l=>l.any (zG ks)
 | .fn _ a b=>a.any (zG ks)||b.any (zG ks)
 |x=>zG ks x
def lR(ks:List Nat):List AV->List AV
 |[]=>[]
 |x::s=>(match KT ks x with|true => .any|false=>x)::lR ks s
def zH{α:Sort _}(ks:List Nat):List AV->(List AV->α)->α
 |[],k=>k []
 |x::s,k=>match KT ks x with
  |true=>zH ks s fun s'=>k (.any::s')
  |false=>zH ks s fun s'=>k (x::s')
theorem KU{α:Sort _}(ks:List Nat):∀ (s:List AV) (k:List AV->α),zH ks s k=k (lR ks s)
 |[],_=>rfl
 |x::s,k=>by
  simp only[zH,lR];split<;>rename_i q<;>rw[KU ks s]<;>simp only[q]
def nw:List (Nat × af)->List Nat
 |[]=>[]
 |p::l=>p.1::nw l
def uQ{α:Sort _}(gq ks:List Nat)(vars:List (Nat × AV))(boxes:List (Nat × af))(s:List AV)(h:List af)(k:List AV->List af->α):α :=
 zH ks s fun s0=>Ca gq s0 fun s1=>uP vars s1 fun s2=>uP boxes h fun h2=>k s2 h2
theorem zI{α:Sort _}(gq ks:List Nat)(vars:List (Nat × AV))(boxes:List (Nat × af))(s:List AV)(h:List af)(k:List AV->List af->α):uQ gq ks vars boxes s h k=k (lP vars (anyS gq (lR ks s))) (lQ boxes h):=by
 simp only[uQ,KU,KQ,KR,KS]
theorem J.loop{lits:List Nat}{b:Code}{k:List aT}{κ:Type}(gq:List Nat)(vars:κ->List (Nat × AV))(boxes:κ->List (Nat × af))(Φ:κ->Prop)(μ:κ->Nat)(x0:κ)(h0:Φ x0)
  (o4:uQ gq (nw (boxes x0)) (vars x0) (boxes x0) s h fun s' h'=>xt h h' R.fx (xq R.n h s h' s'))
  (s8:∀ x,Φ x->(∀ y,Φ y->μ y<μ x->J E aj R [] (.inLoop b::k) (lP (vars y) (anyS gq (lR (nw (boxes x0)) s))) (lQ (boxes y) h))->J E aj R [] (.code b :: .inLoop b::k) (lP (vars x) (anyS gq (lR (nw (boxes x0)) s))) (lQ (boxes x) h)) :
  J E aj R lits (.code (.loop b)::k) s h:=by
 have main:∀ n x,μ x<n->Φ x->J E aj R [] (.inLoop b::k) (lP (vars x) (anyS gq (lR (nw (boxes x0)) s))) (lQ (boxes x) h):=by
  intro n
  induction n with
  |zero=>intro x hx;omega
  |succ n ih=>intro x hx hP;exact .of (.inLoop (s8 x hP fun y hy hm=>ih y (by omega) hy).to)
 rw[zI]at o4;exact .of (.loop (.weaken o4 (s8 x0 h0 fun y hy _=>main (μ y+1) y (by omega) hy).to))
theorem J.head(hE:E.OK){fn:Func}(hf:E.P.funcs[aj]?=some fn)(n:Nat){lits gq ks:List Nat}{vars:List (Nat × AV)}{boxes:List (Nat × af)}{s0:List AV}{h0:List af}
  (H:uQ gq ks vars boxes s0 h0 fun s' h'=>runK E aj fn.results.toList R n lits td s' h'):J E aj R lits td (lP vars (anyS gq (lR ks s0))) (lQ boxes h0):=by
 rw[zI]at H;exact .run hE hf n H
theorem J.back{lits SN gq ks:List Nat}{vars:List (Nat × AV)}{boxes:List (Nat × af)}{s0:List AV}{h0:List af}(H:J E aj R lits td (lP vars (anyS gq (lR ks s0))) (lQ boxes h0))
  (hs:uQ gq ks vars boxes s0 h0 fun s' h'=>xt h h' R.fx (xq R.n h s h' s')):J E aj R SN td s h:=by
 rw[zI]at hs;exact .of (.weaken hs H.to)
theorem J.wX{lits:List Nat}(d:Nat)(ts:Nat × Nat)(jb:0<ts.2)(hd:s[d]?=some (.d .aI))(H:J E aj R lits td (s.set d (.own h.length 0)) (h++[.arr 0 ts []])):J E aj R lits td s h:=by
 replace H:=H.to;refine .of (.kU (fun c t eD h1 h2 h3 h4 h5=>?_) H);subst h2
 let c':Cx:={ c with heap:=c.heap++[.arr 0 ts []] }
 have bI:c.own c.heap.length=none:=by
  cases ho:c.own c.heap.length with
  |none=>rfl
  |some p=>have:=(h3.bB _ p.1 p.2 ho).2;omega
 have bg:Step c c':=⟨rfl,h3.bS,rfl,rfl,rfl,aed _,fun _ _ _=>rfl,fun i b n hi _=>⟨n,hi⟩,fun i bx hi=>by
  have h':c'.heap[i]?=some bx:=by show(c.heap++_)[i]?=_;rw[ael (aX hi)];exact hi
  cases bx with
  |cells cs=>exact .inl ⟨cs,h',rfl,rfl⟩
  |arr g sz l=>exact .inl ⟨g,l,h',.inr ⟨rfl,rfl,rfl⟩⟩
  |map es=>exact .inl ⟨es,h',rfl⟩
  |gone=>exact h'
  |hole=>exact⟨_,h'⟩⟩
 have dF:c'.heap[c.heap.length]?=some (.arr 0 ts []):=by show(c.heap++_)[_]?=_;simp
 have aP:aM E.G c':=h3.next bg (fun i b n hi=>⟨(h3.bB i b n hi).1,by have:=(h3.bB i b n hi).2;show i<(c.heap++_).length;simp;omega⟩) h3.inj (fun i bx hi=>by
  by_cases ga:i=c.heap.length
  ·subst ga;rw[dF]at hi;cases hi;exact .inr ⟨jb,fun i e he=>by simp at he,.inl ⟨bI,rfl⟩⟩
  ·have ah : i < c.heap.length := by have := aX hi;have h2 : c'.heap.length=c.heap.length+1 := by show(c.heap ++ _).length=_;simp
                                     omega
   have cj:(c.heap++[.arr 0 ts []])[i]?=some bx:=hi;rw[ael ah]at cj
   exact .inl ⟨cj,rfl,fun _ _ _=>rfl⟩)
 refine⟨c',t,eD,h1,rfl,aP,?_,bg.cr h5,bg,fun _ => .refl _ _⟩;have ik:d<t.size:=by rw[<- h4.1];exact aX hd
 have hv:t[d]=.slice none 0 0:=by
  have:=h4.2 d _ t[d] hd (by simp[ik]);generalize t[d]=u at this;cases this with
  |d _ _ hv=>cases hv;rfl
 have:=VS.put (bg.vs h4) d (x := .own c.heap.length 0) (v:=t[d]) (by rw[hv];exact .iH _ _ ts dF bI)
 simpa [Array.setIfInBounds,ik]using this
end
end Go.aA
end
section
namespace Go.aA
open Go Go.RowKit
section
variable {α:Sort _}
def Cb(b g:Nat)(l:List DV)(x:AV)(k:AV->α):α:=match x with
 | .own j g'=>match adY j b,adY g' g with
  |true,true=>k (.d (.sl l))
  |_,_=>k (.own j g')
 |x=>k x
def uR(b g:Nat)(l:List DV):List AV->(List AV->α)->α
 |[],k=>k []
 |x::r,k=>Cb b g l x fun y=>uR b g l r fun r'=>k (y::r')
def FN(b g:Nat)(l:List DV)(x:AV)(k:AV->α):α:=match x with
 | .agg c=>uR b g l c fun c'=>wB c' k
 | .aF c=>uR b g l c fun c'=>k (.aF c')
 | .fn f a1 a2=>uR b g l a1 fun KV=>uR b g l a2 fun KW=>k (.fn f KV KW)
 |x=>Cb b g l x k
def FO(b g:Nat)(l:List DV):List AV->(List AV->α)->α
 |[],k=>k []
 |x::r,k=>FN b g l x fun y=>FO b g l r fun r'=>k (y::r')
def zJ(b g:Nat)(l:List DV):List af->(List af->α)->α
 |[],k=>k []
 |x::r,k=>match x with
  | .cells c=>uR b g l c fun c'=>zJ b g l r fun r'=>k (.cells c'::r')
  |x=>zJ b g l r fun r'=>k (x::r')
end
def KX(b:Nat)(s:List AV)(h:List af)(k:List AV->List af->Prop):Prop:=aZ h b False fun
 | .arr g _ l=>FO b g l s fun s'=>zJ b g l h fun h'=>fG h' b .gone fun qC=>k s' qC
 |_=>False
structure xv(b g:Nat)(l:List DV)(c c':Cx):Prop where
 step:Step c c'
 own:∀ v,VR c (.own b g) v->VR c' (.d (.sl l)) v
section
variable {b g:Nat} {l:List DV}
theorem KY{x:AV}{k:AV->Prop}(H:Cb b g l x k):∃ y,k y/\∀ c c',xv b g l c c'->∀ v,VR c x v->VR c' y v:=by
 unfold Cb at H;split at H
 ·split at H
  ·rename_i q1 q2;have q1:=adX q1;have q2:=adX q2;subst q1;subst q2;exact⟨_,H,fun c c' hf v hv=>hf.own v hv⟩
  ·exact⟨_,H,fun c c' hf v hv=>hf.step.vr hv⟩
 ·exact⟨_,H,fun c c' hf v hv=>hf.step.vr hv⟩
theorem xw:∀ {r:List AV} {k:List AV->Prop},uR b g l r k->∃ r',k r'/\r'.length=r.length/\∀ c c',xv b g l c c'->∀ vs,VL c r vs->VL c' r' vs
 |[],_,H=>⟨[],H,rfl,fun _ _ _ _ hv=>⟨hv.1,fun j x v hx=>by simp at hx⟩⟩
 |x::r,k,H=>by
  obtain⟨y,H,hy⟩:=KY H;obtain⟨r',H,hl,hr⟩:=xw H;refine⟨y::r',H,by simp[hl],fun c c' hf vs hv=>?_⟩;cases vs with
  |nil=>have:=hv.1;simp at this
  |cons v vs=>exact .cons (hy c c' hf v hv.head.1) (hr c c' hf vs hv.head.2)
theorem SO{x:AV}{k:AV->Prop}(H:FN b g l x k):∃ y,k y/\∀ c c',xv b g l c c'->∀ v,VR c x v->VR c' y v:=by
 unfold FN at H;split at H
 ·obtain⟨r',H,-,hr⟩:=xw H;obtain⟨y,H,hy⟩:=yD H;refine⟨y,H,fun c c' hf v hv=>?_⟩;obtain⟨vs,rfl,iL⟩:=pG hv;exact hy c' vs (hr c c' hf vs iL)
 ·obtain⟨r',H,-,hr⟩:=xw H;refine⟨_,H,fun c c' hf v hv=>?_⟩;cases hv with
  |aF _ vs hl bG =>
   have:=hr c c' hf vs.toList ⟨by simpa using hl,fun j x v hx hv=>bG j x v hx (by simpa using hv)⟩;exact .aF _ vs (by simpa using this.1) (fun j x v hx hv=>this.2 j x v hx (by simpa using hv))
 ·obtain⟨KV,H,-,h1⟩:=xw H;obtain⟨KW,H,-,h2⟩:=xw H;refine⟨_,H,fun c c' hf v hv=>?_⟩;obtain⟨v1,v2,rfl,r1,r2⟩:=mr hv;have r1:=h1 c c' hf v1 r1;have r2:=h2 c c' hf v2 r2;exact .fn _ _ _ _ _ (by simpa using r1.1) (by simpa using r2.1) (fun j x v hx hv=>r1.2 j x v hx (by simpa using hv)) (fun j x v hx hv=>r2.2 j x v hx (by simpa using hv))
 ·exact KY H
theorem KZ:∀ {r:List AV} {k:List AV->Prop},FO b g l r k->∃ r',k r'/\∀ c c',xv b g l c c'->∀ vs,VL c r vs->VL c' r' vs
 |[],_,H=>⟨[],H,fun _ _ _ _ hv=>⟨hv.1,fun j x v hx=>by simp at hx⟩⟩
 |x::r,k,H=>by
  obtain⟨y,H,hy⟩:=SO H;obtain⟨r',H,hr⟩:=KZ H;refine⟨y::r',H,fun c c' hf vs hv=>?_⟩;cases vs with
  |nil=>have:=hv.1;simp at this
  |cons v vs=>exact .cons (hy c c' hf v hv.head.1) (hr c c' hf vs hv.head.2)
def Cc(b g:Nat)(l:List DV)(x y:af):Prop:=match x with
 | .cells cs=>∃ cs',y=.cells cs'/\cs'.length=cs.length/\∀ c c',xv b g l c c'->∀ vs,VL c cs vs->VL c' cs' vs
 |x=>y=x
theorem FP:∀ {r:List af} {k:List af->Prop},zJ b g l r k->∃ r',k r'/\r'.length=r.length/\∀ (i:Nat) (x:af),r[i]?=some x->∃ y,r'[i]?=some y/\Cc b g l x y
 |[],_,H=>⟨[],H,rfl,fun i x hx=>by simp at hx⟩
 |x::r,k,H=>by
  unfold zJ at H;have fin:∀ {y:af} {r':List af},Cc b g l x y->(∀ (i:Nat) (x:af),r[i]?=some x->∃ y,r'[i]?=some y/\Cc b g l x y)->∀ (i:Nat) (z:af),(x::r)[i]?=some z->∃ y',(y::r')[i]?=some y'/\Cc b g l z y':=fun{y r'} h1 h2 i z hz=>by
   cases i with
   |zero=>simp at hz;subst hz;exact⟨y,rfl,h1⟩
   |succ i=>obtain⟨y',k1,k2⟩:=h2 i z (by simpa using hz);exact⟨y',by simpa using k1,k2⟩
  split at H
  ·obtain⟨c',H,hl,hr⟩:=xw H;obtain⟨r',H,o5,ur⟩:=FP H;exact⟨_,H,by simp[o5],fin ⟨c',rfl,hl,hr⟩ ur⟩
  ·rename_i aJ;obtain⟨r',H,o5,ur⟩:=FP H;refine⟨_,H,by simp[o5],fin ?_ ur⟩;cases x with
   |cells c=>exact absurd rfl (aJ c)
   |arr _ _ _=>rfl
   |map _=>rfl
   |gone=>rfl
   |hole=>rfl
end
section
variable {E:Env} {aj:FuncId} {R:cF} {td:List aT} {s:List AV} {h:List af}
theorem J.freeze{lits:List Nat}(b:Nat)(H:KX b s h fun s' h'=>J E aj R lits td s' h'):J E aj R lits td s h:=by
 unfold KX at H;rcases bp H with H|⟨bx,hb,H⟩
 ·exact H.elim
 split at H
 case h_2=>exact H.elim
 rename_i g ts l;obtain⟨s',H,SP⟩:=KZ H;obtain⟨h',H,hlen,B5⟩:=FP H;rw[gF]at H;refine .of (.kU (fun c t eD h1 h2 h3 h4 h5=>?_) H.to);subst h2;have eS:=aX hb
 let c':Cx:={ c with own:=fun i=>if i=b then none else c.own i,heap:=h'.set b .gone }
 have fh:c'.heap[b]?=some .gone:=by show(h'.set b .gone)[b]?=_;rw[List.getElem?_set_self (by omega)]
 have ki:∀ i,i≠b->c'.heap[i]?=h'[i]? := fun i hi=>by show(h'.set b .gone)[i]?=_;rw[List.getElem?_set_ne (Ne.symm hi)]
 have bH:∀ i,i≠b->c'.own i=c.own i:=fun i hi=>by simp only[c',if_neg hi]
 have jH:∀ i p,c'.own i=some p->i≠b/\c.own i=some p:=fun i p hp=>by
  simp only[c']at hp;split at hp
  ·cases hp
  ·rename_i q;exact⟨q,hp⟩
 have bg:Step c c':=⟨rfl,h3.bS,rfl,rfl,rfl,aed _,fun _ _ _=>rfl,fun i x n hi _=>⟨n,(jH i _ hi).2⟩,fun i bx hi=>by
  by_cases bF:i=b
  ·subst bF;cases bx with
   |cells cs=>exact .inr fh
   |arr g sz l=>exact .inr fh
   |map es=>exact .inr fh
   |gone=>exact fh
   |hole=>exact⟨_,fh⟩
  ·obtain⟨y,k1,k2⟩:=B5 i bx hi;rw[<- ki i bF]at k1;cases bx with
   |cells cs=>obtain⟨cs',rfl,e,-⟩:=k2;exact .inl ⟨cs',k1,bH i bF,e⟩
   |arr g sz l=>obtain rfl:y=_:=k2;exact .inl ⟨g,l,k1,.inr ⟨rfl,rfl,bH i bF⟩⟩
   |map es=>obtain rfl:y=_:=k2;exact .inl ⟨es,k1,bH i bF⟩
   |gone=>obtain rfl:y=_:=k2;exact k1
   |hole=>obtain rfl:y=_:=k2;exact⟨_,k1⟩⟩
 have oR:∀ x,c'.bad x->c.bad x:=fun x hx=>hx.elim .inl fun⟨i,n,hi⟩ => .inr ⟨i,n,(jH i _ hi).2⟩
 have Cd:xv b g l c c':=⟨bg,fun v hv=>by
  obtain⟨q0,q1,q2⟩:=h3.box b _ hb;rcases kW hb hv with⟨blk,cap,r1,rfl⟩|⟨rfl,rfl,r1⟩
  ·rcases q2 with⟨q2,-⟩|⟨iX,gZ,vs,q2,q3,q4,q5,q6,q7⟩
   ·rw[r1]at q2;cases q2
   rw[r1]at q2;cases q2;refine .d _ _ (.sl l blk 0 cap ts.2 (fun i j=>(vs[i*ts.2+j]?).getD undef) (fun _ fo=>?_) q0 q5 (fun i e he=>q1 i e he) (fun i j e x he hx=>?_) (fun i j e x he hx=>?_) (fun i j e x he hx=>?_))
   ·rcases fo with fo|⟨i,n,hi⟩
    ·exact h3.sep b blk cap r1 fo
    ·obtain⟨k1,k2⟩:=jH i _ hi;exact k1 (h3.inj i b blk n cap k2 r1)
   ·obtain⟨v,p1,p2,p3⟩:=q7 i j e x he hx;rw[p1,aeB];exact mf q3 _ v (by simpa using p1)
   ·obtain⟨v,p1,p2,p3⟩:=q7 i j e x he hx;simp only[p1,aeB];exact bg.vd p3
   ·obtain⟨v,p1,p2,p3⟩:=q7 i j e x he hx;simp only[p1,aeB];exact p2
  ·exact .d _ _ .slnil⟩
 have aP:aM E.G c':=by
  refine h3.next bg (fun i x n hi=>?_) (fun i j x n m hi hj=>h3.inj i j x n m (jH i _ hi).2 (jH j _ hj).2) (fun i bx hi=>?_)
  ·have:=h3.bB i x n (jH i _ hi).2;refine⟨this.1,?_⟩;show i<(h'.set b .gone).length;rw[List.length_set,hlen];exact this.2
  ·right;by_cases bF:i=b
   ·subst bF;rw[fh]at hi;cases hi;show c'.own i=none;simp[c']
   ·rw[ki i bF]at hi;have ga:i<c.heap.length:=by rw[<- hlen];exact aX hi
    obtain⟨y,k1,k2⟩:=B5 i c.heap[i] (by simp[ga]);rw[hi]at k1;cases k1;have iY:c.heap[i]?=some c.heap[i]:=by simp[ga]
    generalize c.heap[i]=x at k2 iY;cases x with
    |cells cs =>
     obtain⟨cs',rfl,e,hv⟩:=k2;obtain⟨blk,cap,vs,ty,g1,g2,g3⟩:=h3.cells iY;have:=hv c c' Cd vs.toList g3;exact⟨blk,cap,vs,ty,(bH i bF).trans g1,g2,by simpa using this.1.symm,fun j x v hx hv=>this.2 j x v hx (by simpa using hv)⟩
    |arr _ _ _=>obtain rfl:bx=_:=k2;exact(h3.box i _ iY).keep bg (bH i bF) (fun _ _ _=>rfl)
    |map _=>obtain rfl:bx=_:=k2;exact(h3.box i _ iY).keep bg (bH i bF) (fun _ _ _=>rfl)
    |gone=>obtain rfl:bx=_:=k2;exact(h3.box i _ iY).keep bg (bH i bF) (fun _ _ _=>rfl)
    |hole=>obtain rfl:bx=_:=k2;exact(h3.box i _ iY).keep bg (bH i bF) (fun _ _ _=>rfl)
 have hv:=SP c c' Cd t.toList ⟨by simpa using h4.1,fun j x v hx hv=>h4.2 j x v hx (by simpa using hv)⟩;exact⟨c',t,eD,h1,rfl,aP,⟨by simpa using hv.1,fun j x v hx hu=>hv.2 j x v hx (by simpa using hu)⟩,bg.cr h5,bg,fun _ => .refl _ _⟩
theorem J.mB{lits:List Nat}{b:Code}{k:List aT}(H:J E aj R [] (.code b :: .inLoop b::k) s h):J E aj R lits (.code (.loop b)::k) s h := .of (.loop H.to)
theorem J.again{lits:List Nat}{b:Code}{k:List aT}(H:J E aj R [] (.code b :: .inLoop b::k) s h):J E aj R lits (.inLoop b::k) s h := .of (.inLoop H.to)
end
def Ce:DV->Bool
 | .int _ _=>true
 | .bool _=>true
 | .str _=>true
 | .undef=>true
 | .aI=>true
 |_=>false
def Cf:DV->Bool
 | .aF c=>c.all Ce
 | .agg c=>c.all Ce
 |x=>Ce x
theorem K0{x:DV}(hx:Ce x=true){bad wx:Nat->Prop}{w w':World}{v:Value}(hv:VD bad w x v):VD wx w' x v:=by
 cases hv<;>first|(cases hx;done)|(constructor;done)
theorem K3{x:DV}(hx:Cf x=true){bad wx:Nat->Prop}{w w':World}{v:Value}(hv:VD bad w x v):VD wx w' x v:=by
 cases hv with
 |agg c vs hl bG=>exact .agg c vs hl fun j x v h1 h2=>K0 (ad'.1 hx x (afh h1)) (bG j x v h1 h2)
 |aF c vs hl bG=>exact .aF c vs hl fun j x v h1 h2=>K0 (ad'.1 hx x (afh h1)) (bG j x v h1 h2)
 |_=>first|(cases hx;done)|(constructor;done)
def pU(h:List af):List AV->Option (List DV)
 |[]=>some []
 | .d x::l=>match pU h l with
  |some r=>some (x::r)
  |none=>none
 | .own b _::l=>match dJ h b with
  |some (.arr _ _ m)=>match pU h l with
   |some r=>some (.sl m::r)
   |none=>none
  |_=>none
 |_::_=>none
def uS:List AV->Bool
 |[]=>true
 | .own _ g::l=>match adY g 0 with
  |true=>uS l
  |false=>false
 |_::l=>uS l
theorem Cg{G:List (Nat × DV)}{c:Cx}(ho:aM G c)(hf:wO c.heap):∀ {args:List AV} {ds:List DV} {vs:List Value},pU c.heap args=some ds->uS args=true->VL c args vs->jE c.aE c.w ds vs
 |[],ds,vs,h,_,hv=>by cases h;exact⟨hv.1,fun j x v hx=>by simp at hx⟩
 |x::l,ds,vs,h,hg,hv=>by
  cases vs with
  |nil=>have:=hv.1;simp at this
  |cons v vs =>
   obtain⟨lg,mC⟩:=hv.head
   have fin:∀ {d:DV} {r:List DV},VD c.aE c.w d v->jE c.aE c.w r vs->jE c.aE c.w (d::r) (v::vs):=fun{d r} h1 h2=>⟨by simp[h2.1],fun j x u hx hu=>by
    cases j with
    |zero=>simp at hx hu;subst hx;subst hu;exact h1
    |succ j=>exact h2.2 j x u (by simpa using hx) (by simpa using hu)⟩
   have less:∀ {d:DV} {u:Value},VD c.bad c.w d u->VD c.aE c.w d u:=fun hd=>hd.mono fun b _ hn=>⟨fun hb=>hn (.inl hb),rfl⟩;cases x with
   |d x =>
    simp only[pU]at h;cases hr:pU c.heap l with
    |none=>rw[hr]at h;cases h
    |some r =>
     rw[hr]at h;cases h;cases lg with
     |d _ _ hd=>exact fin (less hd) (Cg ho hf hr hg mC)
   |own b g =>
    simp only[pU,eC]at h;simp only[uS]at hg;split at hg
    case h_2=>cases hg
    rename_i q;have q:=adX q;subst q;split at h
    case h_2=>cases h
    rename_i g' ts m hb;obtain rfl:=hf b g' ts m hb;cases hr:pU c.heap l with
    |none=>rw[hr]at h;cases h
    |some r =>
     rw[hr]at h;cases h;refine fin ?_ (Cg ho hf hr hg mC);obtain⟨q0,q1,q2⟩:=ho.box b _ hb;rcases kW hb lg with⟨blk,cap,r1,rfl⟩|⟨rfl,rfl,r1⟩
     ·rcases q2 with⟨q2,-⟩|⟨iX,gZ,vs',q2,q3,q4,q5,q6,q7⟩
      ·rw[r1]at q2;cases q2
      rw[r1]at q2;cases q2;refine .sl m blk 0 cap ts.2 (fun i j=>(vs'[i*ts.2+j]?).getD undef) (fun _ fo=>ho.sep b blk cap r1 fo) q0 q5 (fun i e he=>q1 i e he) (fun i j e x he hx=>?_) (fun i j e x he hx=>?_) (fun i j e x he hx=>?_)
      ·obtain⟨v,p1,p2,p3⟩:=q7 i j e x he hx;rw[p1,aeB];exact mf q3 _ v (by simpa using p1)
      ·obtain⟨v,p1,p2,p3⟩:=q7 i j e x he hx;simp only[p1,aeB];exact less p3
      ·obtain⟨v,p1,p2,p3⟩:=q7 i j e x he hx;simp only[p1,aeB];exact p2
     ·exact .slnil
   |_=>cases h
theorem ar.cL{E:Env}{f:FuncId}{ds:List DV}{h:List af}{args:List AV}{R:DV->Prop}(H:ar E f ds R)(mq:pQ h=true)(hd:pU h args=some ds)(hg:uS args=true)(hr:∀ r,R r->Cf r=true):aw E f h args (fun a b=>∃ r,R r/\a=.d r/\b=h):=by
 unfold ar at H;unfold aw;refine⟨H.1,kn mq,fun c vs h1 h2 h3=>?_⟩;subst h1;have iS:uq E.G c.aE c.w:=fun g e aC=>by
  have hp:∀ p,VR c (.bQ e 0) p->VR ⟨fun _=>none,[],c.aE,c.w⟩ (.bQ e 0) p:=fun p hp=>by
   cases hp with
   |bQ _ _ blk o' fv k1 k2 k3 k4=>exact .bQ _ _ blk o' fv (fun hb=>k1 (.inl (wS.1 hb))) k2 k3 (fun j x hx=>wT ((k4 j x hx).mono fun b _ hn=>⟨fun hb=>hn (.inl hb),rfl⟩))
  exact hp _ (h2.fS g e aC)
 refine(H.2 c.aE c.w vs h2.bS iS (Cg h2 (kn mq) hd hg h3)).mono fun e w' ⟨v,r,k1,k2,k3,k4⟩=>?_;obtain⟨q1,q2⟩:=h2.grow k4;exact⟨c.eB w',.d r,v,k1,rfl,⟨r,k2,rfl,rfl⟩,.d _ _ (K3 (hr r k2) k3),q1,(Rel.refl c (kn mq)).step q2⟩
theorem SQ{E:Env}{f:FuncId}{h0:List af}{args:List AV}{ds:List DV}{r:DV}{K:AV->List af->Prop}(H:ar E f ds (· = r))(hd:pU h0 args=some ds)(hr:Cf r=true)(hg:uS args=true)(mq:pQ h0=true)(hk:K (.d r) h0):xj E f h0 args K :=
 jK (H.cL mq hd hg (fun _ e=>e ▸ hr)) fun a b ⟨r',e1,e2,e3⟩=>by subst e1;subst e2;subst e3;exact hk
end Go.aA
end
