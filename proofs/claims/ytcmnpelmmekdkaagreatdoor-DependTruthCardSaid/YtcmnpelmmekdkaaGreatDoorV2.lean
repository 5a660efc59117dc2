/- Lemmas of mine. Conditions: as stated. -/
import Derived.Test.YtcmnpelmmekdkaaGreatDoorV1
import Derived.Orders
set_option linter.unusedVariables false
set_option linter.unusedSimpArgs false
section
namespace Go.aA
open Go Go.RowKit
def eb:List Nat->Nat->Option Nat
 |[],_=>none
 |a::l,j=>match Nat.beq a j with
  |true=>some 0
  |false=>(eb l j).map (· + 1)
theorem nP:∀ {l:List Nat} {j i:Nat},eb l j=some i->l[i]?=some j
 |a::l,j,i,h=>by
  simp only[eb]at h;split at h
  ·rename_i q;cases h;simp[Nat.eq_of_beq_eq_true q]
  ·cases hx:eb l j with
   |none=>rw[hx]at h;cases h
   |some k=>rw[hx]at h;cases h;simpa using nP hx
theorem uI:∀ {l:List Nat} {j i:Nat},l.Nodup->l[i]?=some j->eb l j=some i
 |[],_,_,_,h=>by simp at h
 |a::l,j,0,_,h=>by simp at h;subst h;simp[eb]
 |a::l,j,i+1,hn,h=>by
  have hl:l[i]?=some j:=by simpa using h
  have aM:(Nat.beq a j)=false:=by
   cases hb:Nat.beq a j with
   |false=>rfl
   |true =>
    have:=Nat.eq_of_beq_eq_true hb;subst this;exact absurd (List.mem_of_getElem? hl) (List.nodup_cons.1 hn).1
  simp only[eb,aM,uI (List.nodup_cons.1 hn).2 hl];rfl
theorem KI{l:List Nat}{j:Nat}(h:eb l j=none)(hn:l.Nodup):j ∉ l:=fun hm=>by
 obtain⟨i,hi,he⟩:=List.getElem_of_mem hm;rw[uI hn (i:=i) (by simp[hi,he])]at h;cases h
def qV(h:List af)(j:Nat):Nat:=match eu h j with
 |some (.arr g _ _)=>g
 |_=>0
section
variable (ah:List Nat) (h:List af)
def oG:AV->AV
 | .own j g=>match eb ah j with
  |some i=>match eu h j with
   |some (.arr g' _ _)=>match Nat.beq g g' with
    |true => .own i 0
    |false => .any
   |_ => .any
  |none => .any
 | .ptr j off=>match eb ah j with
  |some i=>match eu h j with
   |some (.cells _) => .ptr i off
   |_ => .any
  |none => .any
 | .cO j g k off=>match eb ah j with
  |some i=>match eu h j with
   |some (.arr g' _ _)=>match Nat.beq g g' with
    |true => .cO i 0 k off
    |false => .any
   |_ => .any
  |none => .any
 | .cut j g k q=>match eb ah j with
  |some i=>match eu h j with
   |some (.arr g' _ _)=>match Nat.beq g g' with
    |true => .cut i 0 k q
    |false => .any
   |_ => .any
  |none => .any
 | .map j=>match eb ah j with
  |some i=>match eu h j with
   |some (.map _) => .map i
   |_ => .any
  |none => .any
 | .d x => .d x
 | .b9 e off => .b9 e off
 |_ => .any
def lC:AV->AV
 | .agg l => .agg (l.map (oG ah h))
 | .aK l => .aK (l.map (oG ah h))
 | .fn f a b => .fn f (a.map (oG ah h)) (b.map (oG ah h))
 |x=>oG ah h x
def qW:af->af
 | .arr _ ts l => .arr 0 ts l
 | .cells cs => .cells (cs.map (oG ah h))
 |b=>b
def ka:List af:=ah.map fun j=>match eu h j with
 |some b=>qW ah h b
 |none => .gone
def ia(i:Nat):Nat:=match eu ah i with
 |some j=>j
 |none=>h.length+(i-ah.length)
def uJ(i:Nat):Nat:=match eu ah i with
 |some j=>qV h j
 |none=>0
def nQ:AV->AV
 | .own i g => .own (ia ah h i) (uJ ah h i+g)
 | .ptr i off => .ptr (ia ah h i) off
 | .cO i g k off => .cO (ia ah h i) (uJ ah h i+g) k off
 | .cut i g k q => .cut (ia ah h i) (uJ ah h i+g) k q
 | .map i => .map (ia ah h i)
 | .d x => .d x
 | .b9 e off => .b9 e off
 |_ => .any
def wR:AV->AV
 | .agg l => .agg (l.map (nQ ah h))
 | .aK l => .aK (l.map (nQ ah h))
 | .fn f a b => .fn f (a.map (nQ ah h)) (b.map (nQ ah h))
 |x=>nQ ah h x
def kb:AV->AV
 | .aK l => .aK (l.map (wR ah h))
 |x=>wR ah h x
def pH(g0:Nat):af->af
 | .arr g ts l => .arr (g0+g) ts l
 | .cells cs => .cells (cs.map (nQ ah h))
 |b=>b
def pI(h1:List af):Nat->List af->List af
 |_,[]=>[]
 |j,b::r=>(match eb ah j with
  |some i=>match eu h1 i with
   |some b1=>pH ah h (qV h j) b1
   |none => .gone
  |none=>b)::pI h1 (j+1) r
def fS(h1:List af):List af:=pI ah h h1 0 h++(h1.drop ah.length).map (pH ah h 0)
end
section
variable {ah:List Nat} {h:List af}
theorem wS(h1:List af):∀ (j:Nat) (r:List af),(pI ah h h1 j r).length=r.length
 |_,[]=>rfl
 |j,b::r=>by simp[pI,wS h1 (j+1) r]
theorem Fz(h1:List af):∀ (j k:Nat) (r:List af),(pI ah h h1 j r)[k]?=(r[k]?).map fun b=>match eb ah (j+k)with
  |some i=>match eu h1 i with
   |some b1=>pH ah h (qV h (j+k)) b1
   |none => .gone
  |none=>b
 |_,_,[]=>by simp[pI]
 |j,0,b::r=>by simp[pI]
 |j,k+1,b::r=>by
  simp only[pI,List.getElem?_cons_succ];rw[Fz h1 (j+1) k r,show j+1+k=j+(k+1) by omega]
theorem Ty(h1:List af):(fS ah h h1).length=h.length+(h1.length-ah.length):=by simp[fS,wS]
theorem KJ{h1:List af}{j:Nat}(hj:j<h.length)(hn:eb ah j=none):(fS ah h h1)[j]?=h[j]? := by
 rw[fS,List.getElem?_append_left (by rw[wS];exact hj),Fz,Nat.zero_add,hn];simp
theorem wT{h1:List af}{i j:Nat}(hj:j<h.length)(hi:eb ah j=some i){b:af}(hb:h1[i]?=some b):(fS ah h h1)[j]?=some (pH ah h (qV h j) b):=by
 rw[fS,List.getElem?_append_left (by rw[wS];exact hj),Fz,Nat.zero_add,hi];simp[gg,hb,hj]
theorem KK{h1:List af}{k:Nat}:(fS ah h h1)[h.length+k]?=(h1[ah.length+k]?).map (pH ah h 0):=by
 rw[fS,List.getElem?_append_right (by rw[wS];omega),wS];simp
def Cx.gv(c:Cx)(ah:List Nat):Cx:=⟨fun i=>match ah[i]? with|some j=>c.own j|none=>none,ka ah c.heap,fun b=>c.ak b\/∃ j n,j ∉ ah/\c.own j=some (b,n),c.w⟩
def Cx.take(c c1:Cx)(ah:List Nat):Cx:=⟨fun j=>match eb ah j with|some i=>c1.own i|none=>if j<c.heap.length then c.own j else c1.own (ah.length+(j-c.heap.length)),fS ah c.heap c1.heap,c.ak,c1.w⟩
variable {c c1:Cx} {G:List (Nat × DV)}
theorem KL(b:Nat):(c.gv ah).bad b↔c.bad b:=by
 constructor
 ·rintro((hb|⟨j,n,-,hj⟩)|⟨i,n,hi⟩)
  ·exact .inl hb
  ·exact .inr ⟨j,n,hj⟩
  ·simp only[Cx.gv]at hi;split at hi
   ·exact .inr ⟨_,n,hi⟩
   ·cases hi
 ·rintro(hb|⟨j,n,hj⟩)
  ·exact .inl (.inl hb)
  ·by_cases hm:j∈ah
   ·obtain⟨i,hi,he⟩:=List.getElem_of_mem hm;refine .inr ⟨i,n,?_⟩;simp only[Cx.gv];rw[show ah[i]?=some j by simp[hi,he]];exact hj
   ·exact .inl (.inr ⟨j,n,hm,hj⟩)
theorem zm{x:DV}{v:Value}(hv:VD c.bad c.w x v):VD (c.gv ah).bad (c.gv ah).w x v:=hv.mono fun b _ hn=>⟨fun hb=>hn ((KL b).1 hb),rfl⟩
theorem uK{i j:Nat}{b:af}(hi:ah[i]?=some j)(hb:h[j]?=some b):(ka ah h)[i]?=some (qW ah h b):=by
 simp[ka,hi,gg,hb]
theorem sG{i j:Nat}(hi:ah[i]?=some j):(c.gv ah).own i=c.own j:=by simp only[Cx.gv,hi]
theorem FA{x:AV}{v:Value}(hv:VR c x v):VR (c.gv ah) (oG ah c.heap x) v:=by
 unfold oG;split
 ·rename_i j g;split
  ·rename_i i hi;have hi:=nP hi;rw[gg];split
   ·rename_i g' ts l hb;split
    ·rename_i q;have q:=Nat.eq_of_beq_eq_true q;subst q;have cU:=uK hi hb;cases hv with
     |own _ _ _ l' blk cap k1 k2=>rw[hb]at k1;cases k1;exact .own i 0 ts l blk cap cU ((sG hi).trans k2)
     |iY _ _ _ k1 k2=>rw[hb]at k1;cases k1;exact .iY i 0 ts cU ((sG hi).trans k2)
     |kB _ _ g2 _ _ _ k1 k2 _=>rw[hb]at k1;cases k1;omega
     |jR _ _ _ k1 _=>rw[hb]at k1;cases k1
     |mF _ _ _ _ _ _ k1 _ _=>rw[hb]at k1;cases k1
    ·exact .any _
   ·exact .any _
  ·exact .any _
 ·rename_i j off;split
  ·rename_i i hi;have hi:=nP hi;rw[gg];split
   ·rename_i cs hb;have cU:=uK hi hb;cases hv with
    |ptr _ _ cs' blk cap k1 k2=>exact .ptr i off _ blk cap cU ((sG hi).trans k2)
    |jq _ _ _ k1 _=>rw[hb]at k1;cases k1
   ·exact .any _
  ·exact .any _
 ·rename_i j g k off;split
  ·rename_i i hi;have hi:=nP hi;rw[gg];split
   ·rename_i g' ts l hb;split
    ·rename_i q;have q:=Nat.eq_of_beq_eq_true q;subst q;have cU:=uK hi hb;cases hv with
     |cO _ _ _ _ _ l' blk cap k1 k2 k3=>rw[hb]at k1;cases k1;exact .cO i 0 k off ts l blk cap cU ((sG hi).trans k2) k3
     |lW _ _ g2 _ _ _ _ _ k1 k2 _=>rw[hb]at k1;cases k1;omega
     |lX _ _ _ _ _ k1 _=>rw[hb]at k1;cases k1
    ·exact .any _
   ·exact .any _
  ·exact .any _
 ·rename_i j g k qq;split
  ·rename_i i hi;have hi:=nP hi;rw[gg];split
   ·rename_i g' ts l hb;split
    ·rename_i q;have q:=Nat.eq_of_beq_eq_true q;subst q;have cU:=uK hi hb;cases hv with
     |cut _ _ _ _ _ l' blk cap o k1 k2 k3 k4 k5=>rw[hb]at k1;cases k1;exact .cut i 0 k qq ts l blk cap o cU ((sG hi).trans k2) k3 k4 k5
     |mG _ _ g2 _ _ _ _ _ k1 k2 _=>rw[hb]at k1;cases k1;omega
     |mH _ _ _ _ _ k1 _=>rw[hb]at k1;cases k1
    ·exact .any _
   ·exact .any _
  ·exact .any _
 ·rename_i j;split
  ·rename_i i hi;have hi:=nP hi;rw[gg];split
   ·rename_i es hb;have cU:=uK hi hb;cases hv with
    |map _ eC blk cap k1 k2=>exact .map i _ blk cap cU ((sG hi).trans k2)
    |nA _ _ k1 _=>rw[hb]at k1;cases k1
   ·exact .any _
  ·exact .any _
 ·cases hv with|d _ _ hx=>exact .d _ _ (zm hx)
 ·cases hv with
  |b9 _ _ blk o f k1 k2 k3 k4=>exact .b9 _ _ blk o f (fun hb=>k1 ((KL _).1 hb)) k2 k3 (fun j x hx=>zm (k4 j x hx))
 ·exact .any _
theorem zn{l:List AV}{vs:List Value}(hv:VL c l vs):VL (c.gv ah) (l.map (oG ah c.heap)) vs :=
 ⟨by simpa using hv.1,fun j x v hx hu=>by
  rw[List.getElem?_map]at hx;cases hy:l[j]? with
  |none=>rw[hy]at hx;cases hx
  |some y=>rw[hy]at hx;cases hx;exact FA (hv.2 j y v hy hu)⟩
theorem B4{l:List AV}{v:Value}(h:VR c (.aK l) v):∃ vs:List Value,v=.tuple vs.toArray/\VL c l vs:=by
 cases h with
 |aK _ vs hl hv=>exact⟨vs.toList,by simp,by simpa using hl,fun j x v hx hu=>hv j x v hx (by simpa using hu)⟩
theorem B5{l:List AV}{vs:List Value}(h:VL c l vs):VR c (.aK l) (.tuple vs.toArray) :=
 .aK l vs.toArray (by simpa using h.1) (fun j x v hx hv=>h.2 j x v hx (by simpa using hv))
theorem FB{f:Fn}{a b:List AV}{v1 v2:List Value}(h1:VL c a v1)(h2:VL c b v2):VR c (.fn f a b) (.func f v1.toArray v2.toArray) :=
 .fn _ _ _ _ _ (by simpa using h1.1) (by simpa using h2.1) (fun j x v hx hv=>h1.2 j x v hx (by simpa using hv)) (fun j x v hx hv=>h2.2 j x v hx (by simpa using hv))
theorem Tz{x:AV}{v:Value}(hv:VR c x v):VR (c.gv ah) (lC ah c.heap x) v:=by
 unfold lC;split
 ·obtain⟨vs,rfl,h1⟩:=sr hv;exact yA (zn h1)
 ·obtain⟨vs,rfl,h1⟩:=B4 hv;exact B5 (zn h1)
 ·obtain⟨v1,v2,rfl,h1,h2⟩:=l8 hv;exact FB (zn h1) (zn h2)
 ·exact FA hv
theorem TA{l:List AV}{vs:List Value}(hv:VL c l vs):VL (c.gv ah) (l.map (lC ah c.heap)) vs :=
 ⟨by simpa using hv.1,fun j x v hx hu=>by
  rw[List.getElem?_map]at hx;cases hy:l[j]? with
  |none=>rw[hy]at hx;cases hx
  |some y=>rw[hy]at hx;cases hx;exact Tz (hv.2 j y v hy hu)⟩
theorem FC{l:List Nat}(hn:l.Nodup){i j a:Nat}(hi:l[i]?=some a)(hj:l[j]?=some a):i=j:=by
 have h1:=uI hn hi;have h2:=uI hn hj;rw[h1]at h2;cases h2;rfl
theorem aE.gv(ho:aE G c)(hn:ah.Nodup):aE G (c.gv ah) where
 bE:=fun b hb=>hb.elim (ho.bE b) fun⟨j,n,_,hj⟩=>(ho.bI j b n hj).1
 bI:=fun i b n hi=>by
  simp only[Cx.gv]at hi;split at hi
  ·rename_i j hj;exact⟨(ho.bI j b n hi).1,by show i<(ka ah c.heap).length;simp only[ka,List.length_map];exact a7 hj⟩
  ·cases hi
 inj:=fun i j b n m hi hj=>by
  simp only[Cx.gv]at hi hj;split at hi
  ·rename_i a ha;split at hj
   ·rename_i a' zo;have:=ho.inj a a' b n m hi hj;subst this;exact FC hn ha zo
   ·cases hj
  ·cases hi
 sep:=fun i b n hi hb=>by
  simp only[Cx.gv]at hi;split at hi
  ·rename_i a ha;rcases hb with hb|⟨j,m,hj,hb⟩
   ·exact ho.sep a b n hi hb
   ·have:=ho.inj a j b n m hi hb;subst this;exact hj (List.mem_of_getElem? ha)
  ·cases hi
 box:=fun i bx hi=>by
  have cT:(ka ah c.heap)[i]?=some bx:=hi;simp only[ka,List.getElem?_map]at cT;cases hs:ah[i]? with
  |none=>rw[hs]at cT;cases cT
  |some j =>
   rw[hs]at cT;simp only[Option.map_some,Option.some.injEq,gg]at cT;have bJ:=sG (c:=c) hs;cases hb:c.heap[j]? with
   |none =>
    rw[hb]at cT;subst cT;show(c.gv ah).own i=none;rw[bJ];cases hx:c.own j with
    |none=>rfl
    |some p=>have:=(ho.bI j p.1 p.2 hx).2;rw[List.getElem?_eq_none_iff]at hb;omega
   |some b =>
    rw[hb]at cT;subst cT;have dZ:=ho.box j b hb;cases b with
    |cells cs =>
     obtain⟨blk,cap,vs,ty,k1,k2,k3⟩:=ho.cells hb;have:=zn (ah:=ah) k3;exact⟨blk,cap,vs,ty,bJ.trans k1,k2,by simpa using this.1.symm,fun j x v hx hv=>this.2 j x v hx (by simpa using hv)⟩
    |arr g ts l =>
     obtain⟨q0,q1,q2⟩:=dZ;refine⟨q0,q1,?_⟩;rcases q2 with⟨q2,q3⟩|⟨blk,cap,vs,q2,q3,q4,q5,q6,q7⟩
     ·exact .inl ⟨bJ.trans q2,q3⟩
     ·refine .inr ⟨blk,cap,vs,bJ.trans q2,q3,q4,q5,q6,fun i j e x he hx=>?_⟩;obtain⟨v,r1,r2,r3⟩:=q7 i j e x he hx;exact⟨v,r1,r2,zm r3⟩
    |map es =>
     obtain⟨blk,cap,en,ck,k1,k2,k3,k4⟩:=dZ;exact⟨blk,cap,en,ck,bJ.trans k1,k2,k3,fun j k x m hx hm=>⟨zm (k4 j k x m hx hm).1,zm (k4 j k x m hx hm).2⟩⟩
    |gone=>exact bJ.trans dZ
 fB:=fun g e hg=>by
  have:=FA (ah:=ah) (ho.fB g e hg);exact this
structure qX(c c1:Cx)(ah:List Nat):Prop where
 nodup:ah.Nodup
 lt:∀ j∈ah,j<c.heap.length
 rel:Rel (c.gv ah) c1
theorem KM{i j:Nat}(hn:ah.Nodup)(hi:ah[i]?=some j):(c.take c1 ah).own j=c1.own i:=by
 simp only[Cx.take,uI hn hi]
theorem TB{k:Nat}(ai:∀ j∈ah,j<c.heap.length):(c.take c1 ah).own (c.heap.length+k)=c1.own (ah.length+k):=by
 have:eb ah (c.heap.length+k)=none:=by
  cases hx:eb ah (c.heap.length+k)with
  |none=>rfl
  |some i=>have:=ai _ (List.mem_of_getElem? (nP hx));omega
 simp only[Cx.take,this];rw[if_neg (by omega),Nat.add_sub_cancel_left]
theorem FD{j:Nat}(hj:j<c.heap.length)(hn:eb ah j=none):(c.take c1 ah).own j=c.own j:=by
 simp only[Cx.take,hn,if_pos hj]
theorem qY(hn:ah.Nodup)(ai:∀ j∈ah,j<c.heap.length)(i:Nat):(c.take c1 ah).own (ia ah c.heap i)=c1.own i:=by
 unfold ia;rw[gg];split
 ·rename_i j hj;exact KM hn hj
 ·rename_i hj;rw[List.getElem?_eq_none_iff]at hj;rw[TB ai,show ah.length+(i-ah.length)=i by omega]
theorem kH(hn:ah.Nodup)(ai:∀ j∈ah,j<c.heap.length){i:Nat}{b:af}(hb:c1.heap[i]?=some b):(c.take c1 ah).heap[ia ah c.heap i]?=some (pH ah c.heap (uJ ah c.heap i) b):=by
 unfold ia uJ;rw[gg];show(fS ah c.heap c1.heap)[_]?=_;split
 ·rename_i j hj;exact wT (ai j (List.mem_of_getElem? hj)) (uI hn hj) hb
 ·rename_i hj;rw[List.getElem?_eq_none_iff]at hj;rw[KK,show ah.length+(i-ah.length)=i by omega,hb];rfl
theorem KN(ho:aE G c)(hb:qX c c1 ah)(b:Nat):(c.take c1 ah).bad b↔c1.bad b:=by
 obtain⟨hn,ai,hr⟩:=hb;constructor
 ·rintro(h|⟨j,n,h⟩)
  ·refine .inl ?_;rw[hr.ak];exact .inl h
  ·simp only[Cx.take]at h;split at h
   ·exact .inr ⟨_,n,h⟩
   ·rename_i hx;split at h
    ·refine .inl ?_;rw[hr.ak];exact .inr ⟨j,n,KI hx hn,h⟩
    ·exact .inr ⟨_,n,h⟩
 ·rintro(h|⟨i,n,h⟩)
  ·rw[hr.ak]at h;rcases h with h|⟨j,n,hj,h⟩
   ·exact .inl h
   ·refine .inr ⟨j,n,?_⟩;have hx:eb ah j=none:=by
     cases hx:eb ah j with
     |none=>rfl
     |some i=>exact absurd (List.mem_of_getElem? (nP hx)) hj
    rw[FD (ho.bI j b n h).2 hx];exact h
  ·exact .inr ⟨_,n,(qY hn ai i).trans h⟩
theorem zp(ho:aE G c)(hb:qX c c1 ah){x:DV}{v:Value}(hv:VD c1.bad c1.w x v):VD (c.take c1 ah).bad (c.take c1 ah).w x v :=
 hv.mono fun b _ hn=>⟨fun h=>hn ((KN ho hb b).1 h),rfl⟩
theorem KO(ho:aE G c)(hb:qX c c1 ah){x:AV}{v:Value}(hv:VR c1 x v):VR (c.take c1 ah) (nQ ah c.heap x) v:=by
 have hn:=hb.nodup;have ai:=hb.lt;unfold nQ;split
 ·rename_i i g;cases hv with
  |own _ _ ts l blk cap k1 k2=>exact .own _ _ ts l blk cap (kH hn ai k1) ((qY hn ai i).trans k2)
  |iY _ _ ts k1 k2=>exact .iY _ _ ts (kH hn ai k1) ((qY hn ai i).trans k2)
  |kB _ _ g2 ts l _ k1 k2 k3=>exact .kB _ _ _ ts l _ (kH hn ai k1) (by omega) k3
  |jR _ _ _ k1 k3=>exact .jR _ _ _ (kH hn ai k1) k3
  |mF _ _ cs blk cap m k1 k2 k3=>exact .mF _ _ _ blk cap m (kH hn ai k1) ((qY hn ai i).trans k2) (by simpa using k3)
 ·rename_i i off;cases hv with
  |ptr _ _ cs blk cap k1 k2=>exact .ptr _ _ _ blk cap (kH hn ai k1) ((qY hn ai i).trans k2)
  |jq _ _ _ k1 k3=>exact .jq _ _ _ (kH hn ai k1) k3
 ·rename_i i g k off;cases hv with
  |cO _ _ _ _ ts l blk cap k1 k2 k3=>exact .cO _ _ _ _ ts l blk cap (kH hn ai k1) ((qY hn ai i).trans k2) k3
  |lW _ _ g2 _ _ ts l _ k1 k2 k3=>exact .lW _ _ _ _ _ ts l _ (kH hn ai k1) (by omega) k3
  |lX _ _ _ _ _ k1 k3=>exact .lX _ _ _ _ _ (kH hn ai k1) k3
 ·rename_i i g k qq;cases hv with
  |cut _ _ _ _ ts l blk cap o k1 k2 k3 k4 k5=>exact .cut _ _ _ _ ts l blk cap o (kH hn ai k1) ((qY hn ai i).trans k2) k3 k4 k5
  |mG _ _ g2 _ _ ts l _ k1 k2 k3=>exact .mG _ _ _ _ _ ts l _ (kH hn ai k1) (by omega) k3
  |mH _ _ _ _ _ k1 k3=>exact .mH _ _ _ _ _ (kH hn ai k1) k3
 ·rename_i i;cases hv with
  |map _ es blk cap k1 k2=>exact .map _ es blk cap (kH hn ai k1) ((qY hn ai i).trans k2)
  |nA _ _ k1 k3=>exact .nA _ _ (kH hn ai k1) k3
 ·cases hv with|d _ _ hx=>exact .d _ _ (zp ho hb hx)
 ·cases hv with
  |b9 _ _ blk o f k1 k2 k3 k4=>exact .b9 _ _ blk o f (fun h=>k1 ((KN ho hb _).1 h)) k2 k3 (fun j x hx=>zp ho hb (k4 j x hx))
 ·exact .any _
theorem wU{c c':Cx}{f:AV->AV}(hf:∀ {x:AV} {v:Value},VR c x v->VR c' (f x) v){l:List AV}{vs:List Value}(hv:VL c l vs):VL c' (l.map f) vs :=
 ⟨by simpa using hv.1,fun j x v hx hu=>by
  rw[List.getElem?_map]at hx;cases hy:l[j]? with
  |none=>rw[hy]at hx;cases hx
  |some y=>rw[hy]at hx;cases hx;exact hf (hv.2 j y v hy hu)⟩
theorem KP(ho:aE G c)(hb:qX c c1 ah){x:AV}{v:Value}(hv:VR c1 x v):VR (c.take c1 ah) (wR ah c.heap x) v:=by
 have hA:∀ {x:AV} {v:Value},VR c1 x v->VR (c.take c1 ah) (nQ ah c.heap x) v:=fun h=>KO ho hb h;unfold wR;split
 ·obtain⟨vs,rfl,h1⟩:=sr hv;exact yA (wU hA h1)
 ·obtain⟨vs,rfl,h1⟩:=B4 hv;exact B5 (wU hA h1)
 ·obtain⟨v1,v2,rfl,h1,h2⟩:=l8 hv;exact FB (wU hA h1) (wU hA h2)
 ·exact hA hv
theorem TC(ho:aE G c)(hb:qX c c1 ah){x:AV}{v:Value}(hv:VR c1 x v):VR (c.take c1 ah) (kb ah c.heap x) v:=by
 unfold kb;split
 ·obtain⟨vs,rfl,h1⟩:=B4 hv;exact B5 (wU (fun h=>KP ho hb h) h1)
 ·exact KP ho hb hv
theorem jr.take(ho:aE G c)(hb:qX c c1 ah){i g:Nat}{b:af}(dZ:jr c1 i b):jr (c.take c1 ah) (ia ah c.heap i) (pH ah c.heap g b):=by
 have bJ:=qY (c1:=c1) hb.nodup hb.lt i;cases b with
 |cells cs =>
  obtain⟨blk,cap,vs,ty,k1,k2,k3,k4⟩:=dZ;have:VL (c.take c1 ah) (cs.map (nQ ah c.heap)) vs.toList:=wU (fun h=>KO ho hb h) ⟨by simpa using k3.symm,fun j x v hx hv=>k4 j x v hx (by simpa using hv)⟩;exact⟨blk,cap,vs,ty,bJ.trans k1,k2,by simpa using this.1.symm,fun j x v hx hv=>this.2 j x v hx (by simpa using hv)⟩
 |arr g ts l =>
  obtain⟨q0,q1,q2⟩:=dZ;refine⟨q0,q1,?_⟩;rcases q2 with⟨q2,q3⟩|⟨blk,cap,vs,q2,q3,q4,q5,q6,q7⟩
  ·exact .inl ⟨bJ.trans q2,q3⟩
  ·refine .inr ⟨blk,cap,vs,bJ.trans q2,q3,q4,q5,q6,fun i j e x he hx=>?_⟩;obtain⟨v,r1,r2,r3⟩:=q7 i j e x he hx;exact⟨v,r1,r2,zp ho hb r3⟩
 |map es =>
  obtain⟨blk,cap,en,ck,k1,k2,k3,k4⟩:=dZ;exact⟨blk,cap,en,ck,bJ.trans k1,k2,k3,fun j k x m hx hm=>⟨zp ho hb (k4 j k x m hx hm).1,zp ho hb (k4 j k x m hx hm).2⟩⟩
 |gone=>exact bJ.trans dZ
theorem KQ(ho:aE G c)(hb:qX c c1 ah):Step c (c.take c1 ah) where
 ak:=rfl
 bE:=ho.bE
 os:=hb.rel.os
 tape:=hb.rel.tape
 output:=hb.rel.output
 size:=hb.rel.size
 keep:=fun b ai hn=>hb.rel.keep b ai (fun i n hi=>by
  simp only[Cx.gv]at hi;split at hi
  ·exact hn _ n hi
  ·cases hi)
 dw:=fun j b n hj ai=>by
  have key:∀ i,c1.own i=some (b,n)->∃ k m,ah[i]?=some k/\c.own k=some (b,m):=fun i hi=>by
   obtain⟨m,hk⟩:=hb.rel.dw i b n hi ai;simp only[Cx.gv]at hk;split at hk
   ·rename_i k hs;exact⟨k,m,hs,hk⟩
   ·cases hk
  simp only[Cx.take]at hj;split at hj
  ·rename_i i hi;obtain⟨k,m,hs,hk⟩:=key _ hj;rw[nP hi]at hs;cases hs;exact⟨m,hk⟩
  ·split at hj
   ·exact⟨n,hj⟩
   ·obtain⟨k,m,hs,hk⟩:=key _ hj;rw[List.getElem?_eq_none (by omega)]at hs;cases hs
 boxes:=fun j bx hj=>by
  cases hx:eb ah j with
  |none =>
   have ai:=a7 hj;have h':(c.take c1 ah).heap[j]?=some bx:=(KJ ai hx).trans hj;have cV:=FD (c1:=c1) ai hx;cases bx with
   |cells cs=>exact .inl ⟨cs,h',cV,rfl⟩
   |arr g sz l=>exact .inl ⟨g,l,h',.inr ⟨rfl,rfl,cV⟩⟩
   |map es=>exact .inl ⟨es,h',cV⟩
   |gone=>exact h'
  |some i =>
   have hi:=nP hx;have ai:=a7 hj;have hg:(c.gv ah).heap[i]?=some (qW ah c.heap bx):=uK hi hj;have h1:=hb.rel.boxes i _ hg;have cV:=KM (c:=c) (c1:=c1) hb.nodup hi;have pJ:=sG (c:=c) hi;have fK:c1.heap[i]?=some .gone->(c.take c1 ah).heap[j]?=some .gone:=fun h=>wT ai hx h;cases bx with
   |cells cs =>
    rcases h1 with⟨cs',h1,h2,h3⟩|h1
    ·exact .inl ⟨_,wT ai hx h1,cV.trans (h2.trans pJ),by simpa [qW]using h3⟩
    ·exact .inr (fK h1)
   |arr g ts l =>
    rcases h1 with⟨g',l',h1,h2⟩|h1
    ·have aL:qV c.heap j=g:=by simp only[qV,gg,hj]
     have h3:=wT (h:=c.heap) ai hx h1;simp only[pH,aL]at h3;refine .inl ⟨g+g',l',h3,?_⟩;rcases h2 with h2|⟨h2,h4,h5⟩
     ·left;omega
     ·exact .inr ⟨by omega,h4,cV.trans (h5.trans pJ)⟩
    ·exact .inr (fK h1)
   |map es =>
    rcases h1 with⟨eC,h1,h2⟩|h1
    ·exact .inl ⟨eC,wT ai hx h1,cV.trans (h2.trans pJ)⟩
    ·exact .inr (fK h1)
   |gone=>exact fK h1
theorem aE.take(ho:aE G c)(sH:aE G c1)(hb:qX c c1 ah):aE G (c.take c1 ah):=by
 have aT:=KQ ho hb;have hn:=hb.nodup;have ai:=hb.lt;have B6:∀ j b n,(c.take c1 ah).own j=some (b,n)->(∃ i,j=ia ah c.heap i/\c1.own i=some (b,n))\/(j<c.heap.length/\eb ah j=none/\c.own j=some (b,n)):=by
  intro j b n hj;simp only[Cx.take]at hj;split at hj
  ·rename_i i hi;exact .inl ⟨i,by simp only[ia,gg,nP hi],hj⟩
  ·rename_i hx;split at hj
   ·rename_i hl;exact .inr ⟨hl,hx,hj⟩
   ·rename_i hl;refine .inl ⟨_,?_,hj⟩;have:ah[ah.length+(j-c.heap.length)]?=none:=List.getElem?_eq_none (by omega);simp only[ia,gg,this];omega
 have adi:∀ i i',i<c1.heap.length->i'<c1.heap.length->ia ah c.heap i=ia ah c.heap i'->i=i':=by
  intro i i' _ _ he;simp only[ia,gg]at he;split at he
  ·rename_i j hj;split at he
   ·rename_i j' dL;subst he;exact FC hn hj dL
   ·have:=ai j (List.mem_of_getElem? hj);omega
  ·rename_i hj;split at he
   ·rename_i j' dL;have:=ai j' (List.mem_of_getElem? dL);omega
   ·rename_i dL;rw[List.getElem?_eq_none_iff]at hj dL;omega
 refine ho.next aT (fun j b n hj=>?_) (fun j j' b n m hj dL=>?_) (fun j bx hj=>?_)
 ·rcases B6 j b n hj with⟨i,rfl,hi⟩|⟨hl,hx,dL⟩
  ·obtain⟨h1,h2⟩:=sH.bI i b n hi;refine⟨h1,?_⟩;have:(c.take c1 ah).heap[ia ah c.heap i]?=some _:=kH hn ai (List.getElem?_eq_getElem h2);exact a7 this
  ·exact⟨Nat.lt_of_lt_of_le (ho.bI j b n dL).1 hb.rel.size,by show j<(fS ah c.heap c1.heap).length;rw[Ty];omega⟩
 ·have KR:∀ j i n m,eb ah j=none->c.own j=some (b,n)->c1.own i=some (b,m)->False:=fun j i n m hx hj hi=>by
   refine sH.sep i b m hi ?_;rw[hb.rel.ak];exact .inr ⟨j,n,KI hx hn,hj⟩
  rcases B6 j b n hj with⟨i,rfl,hi⟩|⟨hl,hx,gU⟩
  ·rcases B6 j' b m dL with⟨i',rfl,cT⟩|⟨zq,eS,FE⟩
   ·rw[sH.inj i i' b n m hi cT]
   ·exact(KR j' i m n eS FE hi).elim
  ·rcases B6 j' b m dL with⟨i',rfl,cT⟩|⟨zq,eS,FE⟩
   ·exact(KR j i' n m hx gU cT).elim
   ·exact ho.inj j j' b n m gU FE
 ·by_cases hl:j<c.heap.length
  ·cases hx:eb ah j with
   |none =>
    left;have dL:(fS ah c.heap c1.heap)[j]?=some bx:=hj;rw[KJ hl hx]at dL;refine⟨dL,FD hl hx,fun b n cU=>hb.rel.keep b (ho.bI j b n cU).1 (fun i m hi=>?_)⟩;simp only[Cx.gv]at hi;split at hi
    ·rename_i a ha;have:=ho.inj j a b n m cU hi;subst this;rw[uI hn ha]at hx;cases hx
    ·cases hi
   |some i =>
    right;have hi:=nP hx;have dL:(fS ah c.heap c1.heap)[j]?=some bx:=hj;have fQ:(c.gv ah).heap[i]?=some (qW ah c.heap c.heap[j]):=uK hi (List.getElem?_eq_getElem hl);have uL:=hb.rel.boxes i _ fQ;obtain⟨b1,iO⟩:∃ b1,c1.heap[i]?=some b1:=by
     generalize qW ah c.heap c.heap[j]=bb at uL;cases bb with
     |cells cs=>rcases uL with⟨_,h,_⟩|h<;>exact⟨_,h⟩
     |arr g ts l=>rcases uL with⟨_,_,h,_⟩|h<;>exact⟨_,h⟩
     |map es=>rcases uL with⟨_,h,_⟩|h<;>exact⟨_,h⟩
     |gone=>exact⟨_,uL⟩
    rw[wT hl hx iO]at dL;cases dL;have:=(sH.box i b1 iO).take (g:=qV c.heap j) ho hb;have FF:ia ah c.heap i=j:=by simp only[ia,gg,hi]
    rw[FF]at this;exact this
  ·right;have dL:(fS ah c.heap c1.heap)[j]?=some bx:=hj;rw[show j=c.heap.length+(j-c.heap.length) by omega,KK]at dL;cases iO:c1.heap[ah.length+(j-c.heap.length)]? with
   |none=>rw[iO]at dL;cases dL
   |some b1 =>
    rw[iO]at dL;cases dL;have:=(sH.box _ b1 iO).take (g:=0) ho hb;have FF:ia ah c.heap (ah.length+(j-c.heap.length))=j:=by
     have:ah[ah.length+(j-c.heap.length)]?=none:=List.getElem?_eq_none (by omega);simp only[ia,gg,this];omega
    rw[FF]at this;exact this
theorem aB.at{E:Env}{f:FuncId}{args:List AV}{Q:AV->List af->Prop}(H:aB E f (ka ah h) (args.map (lC ah h)) Q)(hn:ah.Nodup)(ai:∀ j∈ah,j<h.length)(hh:c.heap=h)(ho:aE E.G c){vs:List Value}(hv:VL c args vs) :
  Calls E.P f vs.toArray c.w fun e w'=>∃ (c':Cx) (r:AV) (h1:List af) (v:Value),e=.returned v/\c'.w=w'/\Q r h1/\c'.heap=fS ah h h1/\VR c' (kb ah h r) v/\aE E.G c'/\Step c c':=by
 subst hh;unfold aB at H;refine(H.2.2 (c.gv ah) vs rfl (ho.gv hn) (TA hv)).mono fun e w' ⟨c1,r,v,k1,k2,k3,k4,k5,k6⟩=>?_;have hb:qX c c1 ah:=⟨hn,ai,k6⟩;exact⟨c.take c1 ah,r,c1.heap,v,k1,k2,k3,rfl,TC ho hb k4,ho.take k5 hb,KQ ho hb⟩
end
end Go.aA
end
section
namespace Go.aA
open Go Go.RowKit
universe u
section Ev
variable {α:Sort u} {β γ:Type}
def jy(f:β->(γ->α)->α):List β->(List γ->α)->α
 |[],k=>k []
 |a::l,k=>f a fun b=>jy f l fun l'=>k (b::l')
theorem pK{f:β->(γ->α)->α}{g:β->γ}(h:∀ x k,f x k=k (g x)):∀ (l:List β) (k:List γ->α),jy f l k=k (l.map g)
 |[],_=>rfl
 |a::l,k=>by simp only[jy,h,pK h l,List.map_cons]
def uM:List β->List β->(List β->α)->α
 |[],m,k=>k m
 |a::l,m,k=>uM l m fun l'=>k (a::l')
theorem zr:∀ (l m:List β) (k:List β->α),uM l m k=k (l++m)
 |[],_,_=>rfl
 |a::l,m,k=>by simp only[uM,zr l,List.cons_append]
def qZ:List β->Nat->(Nat->α)->α
 |[],n,k=>k n
 |_::l,n,k=>qZ l (n+1) k
theorem wV:∀ (l:List β) (n:Nat) (k:Nat->α),qZ l n k=k (n+l.length)
 |[],_,_=>rfl
 |_::l,n,k=>by rw[qZ,wV l,List.length_cons];congr 1;omega
def ra:List Nat->Nat->Nat->α->(Nat->α)->α
 |[],_,_,no,_=>no
 |a::l,j,n,no,k=>match Nat.beq a j with
  |true=>k n
  |false=>ra l j (n+1) no k
theorem FG:∀ (l:List Nat) (j n:Nat) (no:α) (k:Nat->α),ra l j n no k=match eb l j with
  |some i=>k (n+i)
  |none=>no
 |[],_,_,_,_=>rfl
 |a::l,j,n,no,k=>by
  simp only[ra,eb];cases Nat.beq a j with
  |true=>rfl
  |false =>
   rw[FG l];cases eb l j with
   |none=>rfl
   |some i=>simp only[Option.map_some];congr 1;omega
theorem wW{l:List β}{i:Nat}{no:α}{k:β->α}:aY l i no k=match eu l i with
  |some x=>k x
  |none=>no:=by
 rw[gg];cases h:l[i]? with
 |none=>exact JJ h no k
 |some x=>exact By h no k
def sJ(ah:List Nat)(h:List af)(x:AV)(k:AV->α):α :=
 match x with
 | .own j g=>ra ah j 0 (k .any) fun i=>aY h j (k .any) fun
  | .arr g' _ _=>match Nat.beq g g' with
   |true=>k (.own i 0)
   |false=>k .any
  |_=>k .any
 | .ptr j off=>ra ah j 0 (k .any) fun i=>aY h j (k .any) fun
  | .cells _=>k (.ptr i off)
  |_=>k .any
 | .cO j g n off=>ra ah j 0 (k .any) fun i=>aY h j (k .any) fun
  | .arr g' _ _=>match Nat.beq g g' with
   |true=>k (.cO i 0 n off)
   |false=>k .any
  |_=>k .any
 | .cut j g n q=>ra ah j 0 (k .any) fun i=>aY h j (k .any) fun
  | .arr g' _ _=>match Nat.beq g g' with
   |true=>k (.cut i 0 n q)
   |false=>k .any
  |_=>k .any
 | .map j=>ra ah j 0 (k .any) fun i=>aY h j (k .any) fun
  | .map _=>k (.map i)
  |_=>k .any
 | .d x=>k (.d x)
 | .b9 e off=>k (.b9 e off)
 |_=>k .any
theorem FH(ah:List Nat)(h:List af)(x:AV)(k:AV->α):sJ ah h x k=k (oG ah h x):=by
 unfold sJ oG;simp only[FG,wW,Nat.zero_add];cases x with
 |own j g =>
  dsimp only;generalize eb ah j=a;generalize eu h j=o;cases a with
  |none=>rfl
  |some i=>cases o with
   |none=>rfl
   |some b=>cases b with
    |arr g' _ _=>dsimp only;cases Nat.beq g g'<;>rfl
    |_=>rfl
 |ptr j off =>
  dsimp only;generalize eb ah j=a;generalize eu h j=o;cases a with
  |none=>rfl
  |some i=>cases o with
   |none=>rfl
   |some b=>cases b<;>rfl
 |cut j g n q =>
  dsimp only;generalize eb ah j=a;generalize eu h j=o;cases a with
  |none=>rfl
  |some i=>cases o with
   |none=>rfl
   |some b=>cases b with
    |arr g' _ _=>dsimp only;cases Nat.beq g g'<;>rfl
    |_=>rfl
 |cO j g n off =>
  dsimp only;generalize eb ah j=a;generalize eu h j=o;cases a with
  |none=>rfl
  |some i=>cases o with
   |none=>rfl
   |some b=>cases b with
    |arr g' _ _=>dsimp only;cases Nat.beq g g'<;>rfl
    |_=>rfl
 |map j =>
  dsimp only;generalize eb ah j=a;generalize eu h j=o;cases a with
  |none=>rfl
  |some i=>cases o with
   |none=>rfl
   |some b=>cases b<;>rfl
 |_=>rfl
def B7(ah:List Nat)(h:List af)(x:AV)(k:AV->α):α :=
 match x with
 | .agg l=>jy (sJ ah h) l fun l'=>k (.agg l')
 | .aK l=>jy (sJ ah h) l fun l'=>k (.aK l')
 | .fn f a b=>jy (sJ ah h) a fun a'=>jy (sJ ah h) b fun b'=>k (.fn f a' b')
 |x=>sJ ah h x k
theorem KS(ah:List Nat)(h:List af)(x:AV)(k:AV->α):B7 ah h x k=k (lC ah h x):=by
 unfold B7 lC;cases x<;>simp only[pK (FH ah h),FH]
def FI(ah:List Nat)(h:List af)(b:af)(k:af->α):α :=
 match b with
 | .arr _ ts l=>k (.arr 0 ts l)
 | .cells cs=>jy (sJ ah h) cs fun cs'=>k (.cells cs')
 | .map es=>k (.map es)
 | .gone=>k .gone
theorem TD(ah:List Nat)(h:List af)(b:af)(k:af->α):FI ah h b k=k (qW ah h b):=by
 unfold FI qW;cases b<;>simp only[pK (FH ah h)]
def FJ(ah:List Nat)(h:List af)(j:Nat)(k:af->α):α:=aY h j (k .gone) fun b=>FI ah h b k
theorem TE(ah:List Nat)(h:List af)(j:Nat)(k:af->α):FJ ah h j k=k (match eu h j with|some b=>qW ah h b|none => .gone):=by
 unfold FJ;rw[wW];generalize eu h j=o;cases o with
 |none=>rfl
 |some b=>exact TD ah h b k
def B8(ah:List Nat)(h:List af)(k:List af->α):α:=jy (FJ ah h) ah k
theorem KT(ah:List Nat)(h:List af)(k:List af->α):B8 ah h k=k (ka ah h):=by
 unfold B8 ka;rw[pK (TE ah h)];all_goals rfl
def uN(ah:List Nat)(h:List af)(i:Nat)(k:Nat->α):α:=aY ah i (qZ h 0 fun n=>qZ ah 0 fun m=>k (n+(i-m))) k
theorem TF(ah:List Nat)(h:List af)(i:Nat)(k:Nat->α):uN ah h i k=k (ia ah h i):=by
 unfold uN ia;rw[wW];simp only[wV,Nat.zero_add];generalize eu ah i=o;cases o<;>rfl
def B9(h:List af)(j:Nat)(k:Nat->α):α:=aY h j (k 0) fun
 | .arr g _ _=>k g
 |_=>k 0
theorem KU(h:List af)(j:Nat)(k:Nat->α):B9 h j k=k (qV h j):=by
 unfold B9 qV;rw[wW];generalize eu h j=o;cases o with
 |none=>rfl
 |some b=>cases b<;>rfl
def zt(ah:List Nat)(h:List af)(i:Nat)(k:Nat->α):α:=aY ah i (k 0) fun j=>B9 h j k
theorem TG(ah:List Nat)(h:List af)(i:Nat)(k:Nat->α):zt ah h i k=k (uJ ah h i):=by
 unfold zt uJ;rw[wW];generalize eu ah i=o;cases o with
 |none=>rfl
 |some b=>exact KU h b k
def sK(ah:List Nat)(h:List af)(x:AV)(k:AV->α):α :=
 match x with
 | .own i g=>uN ah h i fun j=>zt ah h i fun g0=>k (.own j (g0+g))
 | .ptr i off=>uN ah h i fun j=>k (.ptr j off)
 | .cO i g n off=>uN ah h i fun j=>zt ah h i fun g0=>k (.cO j (g0+g) n off)
 | .cut i g n q=>uN ah h i fun j=>zt ah h i fun g0=>k (.cut j (g0+g) n q)
 | .map i=>uN ah h i fun j=>k (.map j)
 | .d x=>k (.d x)
 | .b9 e off=>k (.b9 e off)
 |_=>k .any
theorem FK(ah:List Nat)(h:List af)(x:AV)(k:AV->α):sK ah h x k=k (nQ ah h x):=by
 unfold sK nQ;cases x<;>simp only[TF,TG]
def Ca(ah:List Nat)(h:List af)(x:AV)(k:AV->α):α :=
 match x with
 | .agg l=>jy (sK ah h) l fun l'=>k (.agg l')
 | .aK l=>jy (sK ah h) l fun l'=>k (.aK l')
 | .fn f a b=>jy (sK ah h) a fun a'=>jy (sK ah h) b fun b'=>k (.fn f a' b')
 |x=>sK ah h x k
theorem KV(ah:List Nat)(h:List af)(x:AV)(k:AV->α):Ca ah h x k=k (wR ah h x):=by
 unfold Ca wR;cases x<;>simp only[pK (FK ah h),FK]
def uO(ah:List Nat)(h:List af)(x:AV)(k:AV->α):α :=
 match x with
 | .aK l=>jy (Ca ah h) l fun l'=>k (.aK l')
 |x=>Ca ah h x k
theorem Cb(ah:List Nat)(h:List af)(x:AV)(k:AV->α):uO ah h x k=k (kb ah h x):=by
 unfold uO kb;cases x<;>simp only[pK (KV ah h),KV]
def Cc(ah:List Nat)(h:List af)(g0:Nat)(b:af)(k:af->α):α :=
 match b with
 | .arr g ts l=>k (.arr (g0+g) ts l)
 | .cells cs=>jy (sK ah h) cs fun cs'=>k (.cells cs')
 | .map es=>k (.map es)
 | .gone=>k .gone
theorem KW(ah:List Nat)(h:List af)(g0:Nat)(b:af)(k:af->α):Cc ah h g0 b k=k (pH ah h g0 b):=by
 unfold Cc pH;cases b<;>simp only[pK (FK ah h)]
def wX(ah:List Nat)(h h1:List af):Nat->List af->(List af->α)->α
 |_,[],k=>k []
 |j,b::r,k=>ra ah j 0 (wX ah h h1 (j+1) r fun r'=>k (b::r')) fun i=>aY h1 i (wX ah h h1 (j+1) r fun r'=>k (.gone::r')) fun b1=>B9 h j fun g=>Cc ah h g b1 fun b2=>wX ah h h1 (j+1) r fun r'=>k (b2::r')
theorem KX(ah:List Nat)(h h1:List af):∀ (j:Nat) (r:List af) (k:List af->α),wX ah h h1 j r k=k (pI ah h h1 j r)
 |_,[],_=>rfl
 |j,b::r,k=>by
  simp only[wX,FG,wW,KU,KW,KX ah h h1 (j+1) r,Nat.zero_add,pI];generalize eb ah j=a;cases a with
  |none=>rfl
  |some i =>
   dsimp only;generalize eu h1 i=o;cases o<;>rfl
def uP(ah:List Nat)(h h1:List af)(k:List af->α):α:=wX ah h h1 0 h fun a=>qZ ah 0 fun n=>qD n h1 fun h2=>jy (Cc ah h 0) h2 fun b=>uM a b k
theorem Cd(ah:List Nat)(h h1:List af)(k:List af->α):uP ah h h1 k=k (fS ah h h1):=by
 unfold uP fS;simp only[KX,wV,Nat.zero_add,yy,pK (KW ah h 0),zr]
def wY(d:Nat):List Nat->Bool
 |[]=>false
 |a::l=>match Nat.beq a d with
  |true=>true
  |false=>wY d l
def uQ(j:Nat)(ah:List Nat)(k:List Nat->α):α:=match wY j ah with
 |true=>k ah
 |false=>uM ah [j] k
def Ce(h:List af)(x:AV)(ah:List Nat)(k:List Nat->α):α :=
 match x with
 | .own j g=>aY h j (k ah) fun
  | .arr g' _ _=>match Nat.beq g g' with
   |true=>uQ j ah k
   |false=>k ah
  |_=>k ah
 | .ptr j _=>aY h j (k ah) fun
  | .cells _=>uQ j ah k
  |_=>k ah
 | .cO j g _ _=>aY h j (k ah) fun
  | .arr g' _ _=>match Nat.beq g g' with
   |true=>uQ j ah k
   |false=>k ah
  |_=>k ah
 | .cut j g _ _=>aY h j (k ah) fun
  | .arr g' _ _=>match Nat.beq g g' with
   |true=>uQ j ah k
   |false=>k ah
  |_=>k ah
 | .map j=>aY h j (k ah) fun
  | .map _=>uQ j ah k
  |_=>k ah
 |_=>k ah
def sL(h:List af):List AV->List Nat->(List Nat->α)->α
 |[],ah,k=>k ah
 |x::l,ah,k=>Ce h x ah fun oH=>sL h l oH k
def sM(h:List af):List AV->List Nat->(List Nat->α)->α
 |[],ah,k=>k ah
 |x::l,ah,k=>match x with
  | .agg c=>sL h c ah fun oH=>sM h l oH k
  | .aK c=>sL h c ah fun oH=>sM h l oH k
  | .fn _ a b=>sL h a ah fun oH=>sL h b oH fun TH=>sM h l TH k
  |x=>Ce h x ah fun oH=>sM h l oH k
def uR(h:List af):Nat->Nat->List Nat->(List Nat->α)->α
 |0,_,ah,k=>k ah
 |n+1,p,ah,k=>aY ah p (k ah) fun j=>aY h j (uR h n (p+1) ah k) fun
  | .cells cs=>sL h cs ah fun oH=>uR h n (p+1) oH k
  |_=>uR h n (p+1) ah k
def zu(n:Nat):List Nat->Bool
 |[]=>true
 |j::l=>match wY j l,Nat.blt j n with
  |false,true=>zu n l
  |_,_=>false
end Ev
theorem KY{d:Nat}:∀ {l:List Nat},wY d l=true↔d∈l
 |[]=>by simp[wY]
 |a::l=>by
  simp only[wY];split
  ·rename_i q;simp[Nat.eq_of_beq_eq_true q]
  ·rename_i q;have aM:d≠a:=fun e=>by rw[e,Nat.beq_refl]at q;cases q
   rw[KY (l:=l)];simp[aM]
theorem FL{n:Nat}:∀ {l:List Nat},zu n l=true->l.Nodup/\∀ j∈l,j<n
 |[],_=>⟨.nil,fun j hj=>by simp at hj⟩
 |j::l,H=>by
  simp only[zu]at H;split at H
  ·rename_i q1 q2;obtain⟨h1,h2⟩:=FL H;refine⟨List.nodup_cons.2 ⟨fun hm=>?_,h1⟩,fun i hi=>?_⟩
   ·rw[KY.2 hm]at q1;cases q1
   ·rcases List.mem_cons.1 hi with rfl|hi
    ·exact Nat.le_of_ble_eq_true q2
    ·exact h2 i hi
  ·cases H
@[irreducible] def wZ (E : Env) (f : FuncId) (h0 : List af) (args : List AV) (K : AV -> List af -> Prop) : Prop := ∃ Q, aB E f h0 args Q /\ ∀ r h1, Q r h1 -> K r h1
theorem sN{E:Env}{f:FuncId}{h0:List af}{args:List AV}{K Q:AV->List af->Prop}(H:aB E f h0 args Q)(hk:∀ r h1,Q r h1->K r h1):wZ E f h0 args K:=by unfold wZ;exact⟨Q,H,hk⟩
theorem bG{E:Env}{f:FuncId}{h0:List af}{args:List AV}{K:AV->List af->Prop}{r:AV}{h1:List af}(H:aB E f h0 args (fun a b=>a=r/\b=h1))(hk:K r h1):wZ E f h0 args K:=sN H fun _ _ ⟨e1,e2⟩=>by subst e1;subst e2;exact hk
def Cf(E:Env)(f:FuncId)(fe:List AV)(h:List af)(stop:Prop)(k:AV->List af->Prop):Prop :=
 sM h fe [] fun FM=>uR h 20 0 FM fun ah=>qZ h 0 fun n=>match zu n ah with
  |true=>B8 ah h fun h0=>jy (B7 ah h) fe fun FN=>wZ E f h0 FN fun r h1=>uO ah h r fun v=>uP ah h h1 fun h'=>k v h'
  |false=>stop
theorem KZ{h:List af}{x:AV}{ah:List Nat}{k:List Nat->Prop}(H:Ce h x ah k):∃ l,k l:=by
 have Cg:∀ {j:Nat},uQ j ah k->∃ l,k l:=fun{j} H=>by
  unfold uQ at H;split at H
  ·exact⟨_,H⟩
  ·rw[zr]at H;exact⟨_,H⟩
 unfold Ce at H;split at H;all_goals first
  |exact⟨_,H⟩
  |(rcases bp H with H|⟨_, _, H⟩
    · exact⟨_, H⟩
    split at H
    · first
      |exact Cg H
      |(split at H
        · exact Cg H
        · exact⟨_, H⟩)
    · exact⟨_, H⟩)
theorem w5{h:List af}:∀ {l:List AV} {ah:List Nat} {k:List Nat->Prop},sL h l ah k->∃ l,k l
 |[],_,_,H=>⟨_,H⟩
 |_::_,_,_,H=>by
  simp only[sL]at H;obtain⟨_,H⟩:=KZ H;exact w5 H
theorem w6{h:List af}:∀ {l:List AV} {ah:List Nat} {k:List Nat->Prop},sM h l ah k->∃ l,k l
 |[],_,_,H=>⟨_,H⟩
 |x::_,_,_,H=>by
  simp only[sM]at H;split at H
  ·obtain⟨_,H⟩:=w5 H;exact w6 H
  ·obtain⟨_,H⟩:=w5 H;exact w6 H
  ·obtain⟨_,H⟩:=w5 H;obtain⟨_,H⟩:=w5 H;exact w6 H
  ·obtain⟨_,H⟩:=KZ H;exact w6 H
theorem zw{h:List af}:∀ {n p:Nat} {ah:List Nat} {k:List Nat->Prop},uR h n p ah k->∃ l,k l
 |0,_,_,_,H=>⟨_,H⟩
 |n+1,p,ah,k,H=>by
  simp only[uR]at H;rcases bp H with H|⟨j,_,H⟩
  ·exact⟨_,H⟩
  rcases bp H with H|⟨b,_,H⟩
  ·exact zw H
  split at H
  ·obtain⟨_,H⟩:=w5 H;exact zw H
  ·exact zw H
theorem TI{E:Env}{f:FuncId}{fe:List AV}{h:List af}{stop:Prop}{k:AV->List af->Prop}(H:Cf E f fe h stop k):stop\/∃ (ah:List Nat) (Q:AV->List af->Prop),
  aB E f (ka ah h) (fe.map (lC ah h)) Q/\ah.Nodup/\(∀ j∈ah,j<h.length)/\∀ r h1,Q r h1->k (kb ah h r) (fS ah h h1):=by
 unfold Cf at H;obtain⟨s0,H⟩:=w6 H;obtain⟨ah,H⟩:=zw H;rw[wV,Nat.zero_add]at H;split at H
 ·rename_i q;obtain⟨h1,h2⟩:=FL q;rw[KT,pK (KS ah h)]at H;unfold wZ at H;obtain⟨Q,h3,h4⟩:=H;refine .inr ⟨ah,Q,h3,h1,h2,fun r h1 hq=>?_⟩;have:=h4 r h1 hq;dsimp only at this;rw[Cb,Cd]at this;exact this
 ·exact .inl H
section
variable {E:Env} {f0:FuncId} {ae:iE} {k:List aI} {s:List AV} {cls:List cu} {h:List af} {R:bZ}
theorem AW.oI{ops:Array Oper}{o:Oper}{l:List Oper}{fx:Operand}{args:Array Operand}{ts:Array TypeId}{f:FuncId}{a1 a2 av:List AV}{ah:List Nat}{Q:AV->List af->Prop}(hw:iF ops o s true)(ho:o.op=.call { callee := .value fx,args:=args,argTypes:=ts })
  (hf:bh E.G s fx (.fn (.func f) a1 a2)) (ha:iw E.G s args.toList av) (hc:aB E f (ka ah h) ((a1++av++a2).map (lC ah h)) Q) (hn:ah.Nodup) (ai:∀ j∈ah,j<h.length)
  (H:∀ r h1,Q r h1->AW E f0 ⟨ae,.bF ops l::k,bM s o.dst (kb ah h r)⟩ cls (fS ah h h1) R):AW E f0 ⟨ae,.bF ops (o::l)::k,s⟩ cls h R:=by
 unfold AW at H ⊢;intro c0 c t ts h0 h1 h2 h3 hr cb h4 h5 cs;obtain⟨i,hi,dW,aO⟩:=mP (h1 _ (List.mem_cons_self ..));obtain⟨v1,v2,e1,e2,e3⟩:=l8 (hf c ⟨t,marks ae.aN⟩ h3 h4);have e4:=ha c ⟨t,marks ae.aN⟩ h3 h4;have e5:=(e2.append e4).append e3;have hb:qN E.P f:=by unfold aB at hc;exact hc.1
 obtain⟨e,w',fr,⟨c',r,hp,v,rfl,rfl,hQ,Ch,hv,cV,aT⟩,EY,yV,EZ⟩:=hc.at (c:=c) hn ai h2 h3 e5 ((bf ae).atR ⟨t,marks ae.aN⟩ (.inRegion ops (i::(List.range ops.size).drop (ops.size-l.length))::k.map aI.bS)::(fq cls ts++cs));have uu:VS c' (bM s o.dst (kb ah h r)) ((⟨t,marks ae.aN⟩:Act).put o.dst v).tmps:=VS.bM (a:=⟨t,marks ae.aN⟩) (aT.vs h4) o.dst hv;obtain⟨c2,uv,r2,u2,q1,q2,q3,uw,q4,q5,q6⟩:=H r hp hQ c0 c' _ ts h0 (gP aO (ee h1)) Ch cV (hr.step aT) (cb.step h3 aT) uu (aT.cr h5) cs;refine⟨c2,uv,r2,u2,q1,q2,q3,uw,?_,q5,q6⟩;have cW:=yT (P:=E.P) (w:=c.w) (a:=⟨t,marks ae.aN⟩) ho e1 hb;have jZ:(v1.toArray++args.map (⟨t,marks ae.aN⟩:Act).eval++v2.toArray)=(v1++args.toList.map (⟨t,marks ae.aN⟩:Act).eval++v2).toArray:=by
  apply Array.ext';simp
 rw[jZ]at cW;have s1:=EX (P:=E.P) (b:=bf ae) (k:=k.map aI.bS) (cs:=fq cls ts++cs) (rest:=(List.range ops.size).drop (ops.size-l.length)) hi (hw c t h4) cW;have s2:=step_leave_returned (c:=(bf ae).atR ⟨t,marks ae.aN⟩ (.inRegion ops (i::(List.range ops.size).drop (ops.size-l.length))::k.map aI.bS)) (cs:=fq cls ts++cs) EZ;rw[Frame.finish_atR,hi]at s2;have E2:(⟨ae,.bF ops (o::l)::k,s⟩:cu).bS t=(bf ae).atR ⟨t,marks ae.aN⟩ (.inRegion ops (i::(List.range ops.size).drop (ops.size-l.length))::k.map aI.bS):=by
  simp only[cu.bS,List.map_cons,dW]
 rw[E2];refine .head s1 (Steps.trans EY (.head s2 ?_));have bc:(bf ae).atR ((⟨t,marks ae.aN⟩:Act).put ((some o).bind (·.dst)) v) (.inRegion ops ((List.range ops.size).drop (ops.size-l.length))::k.map aI.bS)=(⟨ae,.bF ops l::k,bM s o.dst (kb ah h r)⟩:cu).bS ((⟨t,marks ae.aN⟩:Act).put o.dst v).tmps:=by
  simp only[cu.bS,List.map_cons,aI.bS,Option.bind_some];rw[put_defers]
 rw[bc];exact q4
end
end Go.aA
end
section
namespace Go.aA
open Go Go.RowKit
@[irreducible] def lD (b : Bool) (A B : Prop) : Prop := (b = true -> A) /\ (b = false -> B)
theorem ar{b:Bool}{A B:Prop}(h1:b=true->A)(h2:b=false->B):lD b A B:=by unfold lD;exact⟨h1,h2⟩
theorem bq{A B:Prop}(h:A):lD true A B:=ar (fun _=>h) (fun h=>by cases h)
theorem aV{A B:Prop}(h:B):lD false A B:=ar (fun h=>by cases h) (fun _=>h)
theorem aJ{b:Bool}{A B:Prop}(hb:b=true)(h:A):lD b A B:=by subst hb;exact bq h
theorem aP{b:Bool}{A B:Prop}(hb:b=false)(h:B):lD b A B:=by subst hb;exact aV h
theorem zA{b:Bool}{A B C:Prop}(h:lD b A B)(h1:b=true->A->C)(h2:b=false->B->C):C:=by
 unfold lD at h;cases hb:b
 ·exact h2 hb (h.2 hb)
 ·exact h1 hb (h.1 hb)
@[irreducible] def rb (E : Env) (f : FuncId) (ds : List DV) (h : List af) (K : AV -> List af -> Prop) : Prop :=
 (∃ R1,az E f ds R1/\∀ r,R1 r->K (.d r) h)\/∃ Q,aB E f [] (ds.map .d) Q/\∀ r h1,Q r h1->K (kb [] h r) (fS [] h h1)
theorem uS{E:Env}{f:FuncId}{ds:List DV}{h:List af}{K:AV->List af->Prop}{R1:DV->Prop}(hc:az E f ds R1)(hk:∀ r,R1 r->K (.d r) h):rb E f ds h K:=by unfold rb;exact .inl ⟨R1,hc,hk⟩
theorem aj{E:Env}{f:FuncId}{ds:List DV}{h:List af}{K:AV->List af->Prop}{r:DV}(hc:az E f ds (· = r))(hk:K (.d r) h):rb E f ds h K:=uS hc fun _ e=>e ▸ hk
theorem w7{E:Env}{f:FuncId}{ds:List DV}{h:List af}{K:AV->List af->Prop}{Q:AV->List af->Prop}(hc:aB E f [] (ds.map .d) Q)(hk:∀ r h1,Q r h1->uO [] h r fun v=>uP [] h h1 fun h'=>K v h'):rb E f ds h K:=by
 unfold rb;refine .inr ⟨Q,hc,fun r h1 hq=>?_⟩;have:=hk r h1 hq;rw[Cb,Cd]at this;exact this
theorem kI{E:Env}{f:FuncId}{ds:List DV}{h:List af}{K:AV->List af->Prop}{r:AV}{h1:List af}{args:List AV}(hc:aB E f [] args (fun a b=>a=r/\b=h1))(ha:args=ds.map .d)(hk:uO [] h r fun v=>uP [] h h1 fun h'=>K v h'):rb E f ds h K :=
 w7 (ha ▸ hc) fun _ _ ⟨e1,e2⟩=>by subst e1;subst e2;exact hk
def bW(d:Nat):List Nat->Bool
 |[]=>false
 |a::l=>match Nat.beq a d with
  |true=>true
  |false=>bW d l
def jz(G:List (Nat × DV))(s:List AV)(o:Oper)(stop:Prop)(k:FuncId->List AV->Prop):Prop :=
 match o.op with
 | .call { callee := .value fx,args:=args,.. }=>cK G s fx stop fun
  | .fn (.func f) a1 a2=>tW G s args.toList stop fun av=>uM a1 av fun a3=>uM a3 a2 fun a4=>k f a4
  | .d (.fn (.func f))=>tW G s args.toList stop fun av=>k f av
  |_=>stop
 |_=>stop
def FO(inl:List FuncId)(E:Env)(s:List AV)(h:List af)(o:Oper)(stop:Prop)(k:AV->List af->Prop):Prop :=
 jz E.G s o stop fun f fe=>match bW f inl with
  |true=>stop
  |false=>mI fe (Cf E f fe h stop k) fun ds=>rb E f ds h k
theorem Ci{G:List (Nat × DV)}{s:List AV}{o:Oper}{stop:Prop}{k:FuncId->List AV->Prop}(H:jz G s o stop k):stop\/∃ (fx:Operand) (args:Array Operand) (ts:Array TypeId) (f:FuncId) (a1 av a2:List AV),
  o.op=.call { callee := .value fx,args:=args,argTypes:=ts }/\bh G s fx (.fn (.func f) a1 a2)/\iw G s args.toList av/\k f (a1++av++a2):=by
 unfold jz at H;split at H
 ·rename_i fx args ts bX;rcases cL H with H|⟨v,hv,H⟩
  ·exact .inl H
  split at H
  ·rename_i f a1 a2;rcases yI H with H|⟨av,kJ,H⟩
   ·exact .inl H
   rw[zr,zr]at H;exact .inr ⟨fx,args,ts,f,a1,av,a2,bX,hv,kJ,H⟩
  ·rename_i f;rcases yI H with H|⟨av,kJ,H⟩
   ·exact .inl H
   refine .inr ⟨fx,args,ts,f,[],av,[],bX,fun c a h1 h2=>?_,kJ,by simpa using H⟩;have:=hv c a h1 h2;generalize a.eval fx=u at this;cases this with
   |d _ _ hx =>
    cases hx;exact .fn _ _ _ _ _ rfl rfl (fun j x v hx=>by simp at hx) (fun j x v hx=>by simp at hx)
  ·exact .inl H
 ·exact .inl H
def sO(ops:Array Oper)(g:Option (Nat × Bool))(no stop:Prop)(k:Nat->Bool->Prop):Prop :=
 match g with
 |none=>no
 |some (j,b)=>aY ops.toList j stop fun o=>match o.dst with
  |some d=>k d b
  |none=>stop
def Cj:Bool->Bool->Bool
 |true,true=>true
 |false,false=>true
 |_,_=>false
def zB(id:Nat):List aI->(stop:Prop)->(List aI->Prop)->Prop
 | .inBlock i::r,stop,k=>match Nat.beq i id with
  |true=>k r
  |false=>zB id r stop k
 |_::r,stop,k=>zB id r stop k
 |[],stop,_=>stop
theorem uT{id:Nat}{stop:Prop}{k:List aI->Prop}:∀ {l:List aI},zB id l stop k->stop\/∃ r,pC id l=some r/\k r
 |[],H => .inl H
 | .inBlock i::l,H=>by
  simp only[zB]at H;split at H
  ·rename_i q;exact .inr ⟨l,by simp only[pC,q],H⟩
  ·rename_i q;rcases uT H with h|⟨r,hr,h⟩
   ·exact .inl h
   ·exact .inr ⟨r,by simp only[pC,q];exact hr,h⟩
 | .code c::l,H=>uT (l:=l) H
 | .inLoop c::l,H=>uT (l:=l) H
 | .qJ c::l,H=>uT (l:=l) H
 | .ui::l,H=>uT (l:=l) H
 | .bF ops q::l,H=>uT (l:=l) H
@[irreducible] def aa (E : Env) (ae : FuncId) (R : bZ) (FP : List Nat) (td : List aI) (s : List AV) (h : List af) : Prop := AW E R.fx.f0 ⟨⟨ae, R.fx.cG, R.fx.aN⟩, td, s⟩ R.fx.cls h R
theorem aa.of{E:Env}{ae:FuncId}{R:bZ}{lits:List Nat}{td:List aI}{s:List AV}{h:List af}(H:AW E R.fx.f0 ⟨⟨ae,R.fx.cG,R.fx.aN⟩,td,s⟩ R.fx.cls h R):aa E ae R lits td s h:=by unfold aa;exact H
theorem aa.to{E:Env}{ae:FuncId}{R:bZ}{lits:List Nat}{td:List aI}{s:List AV}{h:List af}(H:aa E ae R lits td s h):AW E R.fx.f0 ⟨⟨ae,R.fx.cG,R.fx.aN⟩,td,s⟩ R.fx.cls h R:=by unfold aa at H;exact H
def zC(ae:FuncId)(x:FX):Bool:=match x.cG,x.aN,x.cls with
 |none,[],[]=>Nat.beq x.f0 ae
 |_,_,_=>false
theorem TJ{ae:FuncId}{x:FX}(h:zC ae x=true):x.cG=none/\x.aN=[]/\x.cls=[]/\x.f0=ae:=by
 unfold zC at h;split at h
 ·rename_i a b c;exact⟨a,b,c,Nat.eq_of_beq_eq_true h⟩
 ·cases h
def runK(E:Env)(ae:FuncId)(rs:List ResultVar)(R:bZ):Nat->List Nat->List aI->List AV->List af->Prop
 |0,lits,td,s,h=>aa E ae R lits td s h
 |n+1,lits,td,s,h =>
  match td with
  |[]=>match zC ae R.fx with
   |true=>nE E.T s h rs (aa E ae R lits td s h) R.Q
   |false=>aa E ae R lits td s h
  | .inBlock _::r=>runK E ae rs R n lits r s h
  | .inLoop _::_=>aa E ae R lits td s h
  | .qJ _::_=>aa E ae R lits td s h
  | .ui::_=>aa E ae R lits td s h
  | .code c::r=>match c with
   | .skip=>runK E ae rs R n lits r s h
   | .seq a b=>runK E ae rs R n lits (.code a :: .code b::r) s h
   | .block id b=>runK E ae rs R n lits (.code b :: .inBlock id::r) s h
   | .exit id=>zB id r (aa E ae R lits td s h) fun r'=>runK E ae rs R n lits r' s h
   | .region _ ops false=>runK E ae rs R n lits (.bF ops ops.toList::r) s h
   | .ret=>match zC ae R.fx with
    |true=>nE E.T s h rs (aa E ae R lits td s h) R.Q
    |false=>aa E ae R lits td s h
   | .cond x a b=>cK E.G s x (aa E ae R lits td s h) fun
    | .d (.bool t)=>lD t (aa E ae R lits (.code a::r) s h) (aa E ae R lits (.code b::r) s h)
    |_=>aa E ae R lits td s h
   |_=>aa E ae R lits td s h
  | .bF _ []::r=>runK E ae rs R n lits r s h
  | .bF ops (o::l)::r =>
   let go:Prop:=fo E.T E.G o.op s h (oE E o.op s h (gu E o.op s h (FO R.fx.inl E s h o (aa E ae R lits td s h) fun v h'=>bL s o.dst v fun s'=>aa E ae R lits (.bF ops l::r) s' h')
     fun v h'=>bL s o.dst v fun s'=>aa E ae R lits (.bF ops l::r) s' h')
     fun v h'=>bL s o.dst v fun s'=>runK E ae rs R n lits (.bF ops l::r) s' h')
    fun v h'=>bL s o.dst v fun s'=>runK E ae rs R n lits (.bF ops l::r) s' h'
   sO ops o.guard go (aa E ae R lits td s h) fun d b=>aY s d (aa E ae R lits td s h) fun
    | .d (.bool t)=>match bW d lits with
     |false=>lD t (fI s d (.d (.bool true)) fun s'=>aa E ae R (d::lits) td s' h) (fI s d (.d (.bool false)) fun s'=>aa E ae R (d::lits) td s' h)
     |true=>match Cj t b with
      |true=>go
      |false=>bL s o.dst (.d .undef) fun s'=>runK E ae rs R n lits (.bF ops l::r) s' h
    | .d .undef=>bL s o.dst (.d .undef) fun s'=>runK E ae rs R n lits (.bF ops l::r) s' h
    |_=>aa E ae R lits td s h
section
variable {E:Env} {ae:FuncId} {R:bZ}
theorem lE{β:Type}:∀ {l:List β} {d:Nat} {x:β},l[d]?=some x->l.set d x=l
 |[],_,_,h=>by simp at h
 |a::l,0,x,h=>by simp at h;subst h;rfl
 |a::l,d+1,x,h=>by simp only[List.set_cons_succ];rw[lE (by simpa using h)]
theorem FQ(hE:E.OK){fn:Func}(hf:E.P.funcs[ae]?=some fn):∀ (n:Nat) (lits:List Nat) (td:List aI) (s:List AV) (h:List af),
  runK E ae fn.results.toList R n lits td s h->AW E R.fx.f0 ⟨⟨ae,R.fx.cG,R.fx.aN⟩,td,s⟩ R.fx.cls h R:=by
 have ret:∀ (lits:List Nat) (td:List aI) (s:List AV) (h:List af),(td=[]\/∃ r,td=.code .ret::r)->(match zC ae R.fx with|true=>nE E.T s h fn.results.toList (aa E ae R lits td s h) R.Q|false=>aa E ae R lits td s h)->AW E R.fx.f0 ⟨⟨ae,R.fx.cG,R.fx.aN⟩,td,s⟩ R.fx.cls h R:=by
  intro lits td s h oA H;split at H
  ·rename_i q;by_cases hA:aa E ae R lits td s h
   ·exact hA.to
   ·rw[eq_false hA]at H;obtain⟨q1,q2,q3,q4⟩:=TJ q;rw[q1,q2,q3,q4];rcases oA with rfl|⟨r,rfl⟩
    ·exact .St hE hf H
    ·exact .ret hE hf H
  ·exact H.to
 intro n
 induction n with
 |zero=>intro lits td s h H;exact aa.to H
 |succ n ih =>
  intro lits td s h H;unfold runK at H;split at H
  ·exact ret _ _ s h (.inl rfl) H
  ·exact .inBlock (ih _ _ _ _ H)
  ·exact aa.to H
  ·exact aa.to H
  ·exact aa.to H
  ·rename_i c r;split at H
   ·exact .skip (ih _ _ _ _ H)
   ·exact .seq (ih _ _ _ _ H)
   ·exact .block (ih _ _ _ _ H)
   ·rcases uT H with h'|⟨r',hr,H⟩
    ·exact h'.to
    ·exact .exit hr (ih _ _ _ _ H)
   ·exact .region (ih _ _ _ _ H)
   ·exact ret _ _ s h (.inr ⟨_,rfl⟩) H
   ·rcases cL H with h'|⟨v,hv,H⟩
    ·exact h'.to
    split at H
    ·rename_i t;refine zA H (fun e H2=>?_) (fun e H2=>?_)
     ·subst e;exact .cond hv (by simpa using H2.to)
     ·subst e;exact .cond hv (by simpa using H2.to)
    ·exact aa.to H
   ·exact aa.to H
  ·exact .Sj (ih _ _ _ _ H)
  ·rename_i ops o l r
   have go : iF ops o s true -> (fo E.T E.G o.op s h (oE E o.op s h (gu E o.op s h (FO R.fx.inl E s h o (aa E ae R lits (.bF ops (o :: l) :: r) s h) fun v h' => bL s o.dst v fun s' => aa E ae R lits (.bF ops l :: r) s' h')
         fun v h' => bL s o.dst v fun s' => aa E ae R lits (.bF ops l :: r) s' h')
         fun v h' => bL s o.dst v fun s' => runK E ae fn.results.toList R n lits (.bF ops l :: r) s' h')
     fun v h'=>bL s o.dst v fun s'=>runK E ae fn.results.toList R n lits (.bF ops l::r) s' h')->AW E R.fx.f0 ⟨⟨ae,R.fx.cG,R.fx.aN⟩,.bF ops (o::l)::r,s⟩ R.fx.cls h R:=by
    intro hw H;rcases uh hE H with H|⟨v,h',H,ho⟩
    ·rcases zb hE H with H|⟨v,h',H,ho⟩
     case inr =>
      rw[df]at H;exact .op hw ho (ih _ _ _ _ H)
     rcases uH hE H with H|⟨v,h',H,ho⟩
     case inr =>
      rw[df]at H;exact .op hw ho H.to
     unfold FO at H;rcases Ci H with H|⟨fx,args,ts,f,a1,av,a2,bX,hv,kJ,H⟩
     ·exact aa.to H
     split at H
     ·exact aa.to H
     rcases tV (a1++av++a2) (Cf E f (a1++av++a2) h (aa E ae R lits (.bF ops (o::l)::r) s h) fun v h'=>bL s o.dst v fun s'=>aa E ae R lits (.bF ops l::r) s' h') (fun ds=>rb E f ds h fun v h'=>bL s o.dst v fun s'=>aa E ae R lits (.bF ops l::r) s' h')with⟨ds,e1,e2⟩|e2
     ·rw[e2]at H;unfold rb at H;rcases H with⟨R1,hc,hk⟩|⟨Q,hc,hk⟩
      ·refine .call hw bX hv kJ e1 hc fun u hu=>?_;have:=hk u hu;simp only[df]at this;exact this.to
      ·refine .oI (ah:=[]) hw bX hv kJ (Q:=Q) ?_ List.nodup_nil (fun j hj=>by simp at hj) fun u h1 hu=>?_
       ·have e3:(a1++av++a2).map (lC [] h)=ds.map .d:=by rw[e1,List.map_map];rfl
        rw[e3];exact hc
       ·have:=hk u h1 hu;simp only[df]at this;exact this.to
     ·rw[e2]at H;rcases TI H with H|⟨ah,Q,hc,hn,ai,hk⟩
      ·exact aa.to H
      refine .oI hw bX hv kJ hc hn ai fun u h1 hu=>?_;have:=hk u h1 hu;simp only[df]at this;exact this.to
    ·rw[df]at H;exact .op hw ho (ih _ _ _ _ H)
   dsimp only at H;unfold sO at H;split at H
   ·rename_i hg;exact go (eK hg) H
   ·rename_i j b hg;rcases bp H with H|⟨oj,kK,H⟩
    ·exact aa.to H
    split at H
    ·rename_i d hd;rcases bp H with H|⟨x,hx,H⟩
     ·exact aa.to H
     split at H
     ·rename_i t;split at H
      ·refine zA H (fun e H2=>?_) (fun e H2=>?_)
       ·subst e;rw[gJ,lE hx]at H2;exact aa.to H2
       ·subst e;rw[gJ,lE hx]at H2;exact aa.to H2
      ·have hw:=BN hg kK hd hx;split at H
       ·rename_i q;have:(t==b)=true:=by cases t<;>cases b<;>first|rfl|cases q
        rw[this]at hw;exact go hw H
       ·rename_i q;have:(t==b)=false:=by cases t<;>cases b<;>first|rfl|cases q
        rw[this]at hw;rw[df]at H;exact .J5 hw (ih _ _ _ _ H)
     ·rw[df]at H;exact .J5 (yS hg kK hd hx) (ih _ _ _ _ H)
     ·exact aa.to H
    ·exact aa.to H
theorem aa.run(hE:E.OK){fn:Func}(hf:E.P.funcs[ae]?=some fn)(n:Nat){lits:List Nat}{td:List aI}{s:List AV}{h:List af}(H:runK E ae fn.results.toList R n lits td s h):aa E ae R lits td s h := .of (FQ hE hf n lits td s h H)
theorem az.run (hE : E.OK) {fn : Func} (hf : E.P.funcs[ae]? = some fn) {body : Code} (hb : fn.body = some body) (hn : (fn.name == "runtime.NumGoroutine") = false) (n : Nat) {args : List DV} {R : DV -> Prop}
  (H:oq .d args fun a=>runK E ae fn.results.toList ⟨0,yX R,[],⟨ae,none,[],[],[],[]⟩⟩ n [] [.code body] (nC a fn.ntmps) []):az E ae args R:=by
 rw[qE]at H;exact .Ss (.J6 hf hb hn (fun i g ts l h=>by simp at h) (FQ hE hf n _ _ _ _ H))
def rf:List af->Bool
 |[]=>true
 | .arr g _ _::l=>match Nat.beq g 0 with
  |true=>rf l
  |false=>false
 |_::l=>rf l
theorem oK:∀ {h:List af},rf h=true->yQ h
 |[],_=>fun i g ts l h=>by simp at h
 |b::r,H=>by
  have hr:rf r=true:=by
   unfold rf at H;split at H
   ·rename_i e;cases e
   ·rename_i e;cases e;split at H
    ·exact H
    ·cases H
   ·rename_i e;cases e;exact H
  intro i g ts l h;cases i with
  |zero =>
   simp at h;subst h;simp only[rf]at H;split at H
   ·rename_i q;exact Nat.eq_of_beq_eq_true q
   ·cases H
  |succ i=>exact oK hr i g ts l (by simpa using h)
theorem aB.run (hE : E.OK) {fn : Func} (hf : E.P.funcs[ae]? = some fn) {body : Code} (hb : fn.body = some body) (hn : (fn.name == "runtime.NumGoroutine") = false) (n : Nat) {h : List af} (nD : rf h = true) {args : List AV} {Q : AV -> List af -> Prop}
  (H:runK E ae fn.results.toList ⟨h.length,Q,[],⟨ae,none,[],[],[],[]⟩⟩ n [] [.code body] (nC args fn.ntmps) h):aB E ae h args Q :=
 .J6 hf hb hn (oK nD) (FQ hE hf n _ _ _ _ H)
end
def w8(h h':List af)(x y:AV)(K:Prop):Prop :=
 match y with
 | .any=>K
 | .d b=>match x with
  | .d a=>a=b/\K
  |_=>False
 | .own b' g'=>match x with
  | .own b g=>match Nat.beq b b' with
   |true=>aY h b False fun
    | .arr g0 _ _=>aY h' b False fun
     | .arr g1 _ _=>match Nat.beq g g0,Nat.beq g' g1 with
      |true,true=>K
      |_,_=>False
     |_=>False
    |_=>False
   |false=>False
  |_=>False
 | .ptr b' FT=>match x with
  | .ptr b off=>match Nat.beq b b',Nat.beq off FT with
   |true,true=>aY h b False fun
    | .cells _=>aY h' b False fun
     | .cells _=>K
     |_=>False
    |_=>False
   |_,_=>False
  |_=>False
 | .b9 e' FT=>match x with
  | .b9 e off=>match Nat.beq off FT with
   |true=>e=e'/\K
   |false=>False
  |_=>False
 | .map b'=>match x with
  | .map b=>match Nat.beq b b' with
   |true=>aY h b False fun
    | .map _=>aY h' b False fun
     | .map _=>K
     |_=>False
    |_=>False
   |false=>False
  |_=>False
 | .cut b' g' k' q'=>match x with
  | .cut b g k q=>match Nat.beq b b' with
   |true=>aY h b False fun
    | .arr g0 _ _=>aY h' b False fun
     | .arr g1 _ _=>match Nat.beq g g0,Nat.beq g' g1 with
      |true,true=>k=k'/\q=q'/\K
      |_,_=>False
     |_=>False
    |_=>False
   |false=>False
  |_=>False
 |_=>False
def pL(h h':List af):List AV->List AV->Prop->Prop
 |[],[],K=>K
 |x::l,y::l',K=>w8 h h' x y (pL h h' l l' K)
 |_,_,_=>False
def FU(h h':List af)(x y:AV)(K:Prop):Prop :=
 match y with
 | .agg l'=>match x with
  | .agg l=>pL h h' l l' K
  |_=>False
 | .aK l'=>match x with
  | .aK l=>pL h h' l l' K
  |_=>False
 | .fn f' a' b'=>match x with
  | .fn f a b=>f=f'/\pL h h' a a' (pL h h' b b' K)
  |_=>False
 |y=>w8 h h' x y K
def Ck(h h':List af):List AV->List AV->Prop->Prop
 |[],[],K=>K
 |x::l,y::l',K=>FU h h' x y (Ck h h' l l' K)
 |_,_,_=>False
def K0(g g':Nat):Bool:=match Nat.beq g' 0 with
 |true=>Nat.beq g 0
 |false=>true
theorem TL{g g':Nat}(h:K0 g g'=true):g'=0->g=0:=fun e=>by
 subst e;exact Nat.eq_of_beq_eq_true h
def Cl(h h':List af)(x y:af)(K:Prop):Prop :=
 match y with
 | .gone=>K
 | .cells l'=>match x with
  | .cells l=>pL h h' l l' K
  |_=>False
 | .arr g' ec l'=>match x with
  | .arr g ts l=>match K0 g g' with
   |true=>ts=ec/\l=l'/\K
   |false=>False
  |_=>False
 | .map eC=>match x with
  | .map es=>es=eC/\K
  |_=>False
def sP(h h':List af):List af->List af->Prop->Prop
 |_,[],K=>K
 |x::l,y::l',K=>Cl h h' x y (sP h h' l l' K)
 |_,_,_=>False
def Cm(own:Nat->Option (Nat × Nat))(h':List af)(i:Nat):Option (Nat × Nat):=match h'[i]? with
 |none=>none
 |some .gone=>none
 |some _=>own i
def Cx.cut(c:Cx)(h':List af):Cx:={ c with own:=Cm c.own h',heap:=h' }
def K3(x y:af):Prop:=match y with
 | .gone=>True
 | .cells l'=>∃ l,x=.cells l/\l.length=l'.length
 | .arr g' ec l'=>∃ g,x=.arr g ec l'/\(g'=0->g=0)
 | .map eC=>x=.map eC
def HSub(h h':List af):Prop:=∀ (i:Nat) (y:af),h'[i]?=some y->∃ x,h[i]?=some x/\K3 x y
theorem lF{c:Cx}{h':List af}{i:Nat}{y:af}(hy:h'[i]?=some y)(hg:y ≠ .gone):(c.cut h').own i=c.own i:=by
 simp only[Cx.cut,Cm,hy]
theorem rh{c:Cx}{h':List af}{i:Nat}{p:Nat × Nat}(hi:(c.cut h').own i=some p):c.own i=some p/\∃ y,h'[i]?=some y/\y ≠ .gone:=by
 simp only[Cx.cut,Cm]at hi;split at hi
 ·cases hi
 ·cases hi
 ·rename_i y aM hy;exact⟨hi,y,hy,fun e=>aM (by rw[<- e])⟩
theorem pM{c:Cx}{h':List af}{x:DV}{v:Value}(hv:VD c.bad c.w x v):VD (c.cut h').bad (c.cut h').w x v :=
 hv.mono fun _ _ hn=>⟨fun hb=>hn (hb.elim .inl fun⟨i,n,hi⟩ => .inr ⟨i,n,(rh hi).1⟩),rfl⟩
theorem K4{h h':List af}{x y:AV}{K:Prop}(H:w8 h h' x y K)(hs:HSub h h'):K/\∀ (c:Cx) (v:Value),c.heap=h->VR c x v->VR (c.cut h') y v:=by
 unfold w8 at H;split at H
 ·exact⟨H,fun c v _ _ => .any v⟩
 ·split at H
  ·obtain⟨rfl,H⟩:=H;exact⟨H,fun c v _ hv=>by cases hv with|d _ _ hv=>exact .d _ _ (pM hv)⟩
  ·exact H.elim
 ·rename_i b' g';split at H
  ·rename_i b g;split at H
   ·rename_i q;have:=Nat.eq_of_beq_eq_true q;subst this;rcases bp H with H1|⟨bx,hb,H1⟩
    ·exact H1.elim
    clear H;split at H1
    ·rename_i g0 ts l;rcases bp H1 with H2|⟨FV,cU,H2⟩
     ·exact H2.elim
     clear H1;split at H2
     ·rename_i g1 ec l';split at H2
      ·rename_i q1 q2;have q1:=Nat.eq_of_beq_eq_true q1;have q2:=Nat.eq_of_beq_eq_true q2;subst q1;subst q2;refine⟨H2,fun c v hc hv=>?_⟩;obtain⟨x0,k1,gx,k2,-⟩:=hs b _ cU;rw[hb]at k1;cases k1;cases k2;subst hc;have ho:=lF (c:=c) cU (by simp);rcases nI hb hv with⟨blk,cap,r1,rfl⟩|⟨rfl,rfl,r1⟩
       ·exact .own b _ _ _ blk cap cU (ho.trans r1)
       ·exact .iY b _ _ cU (ho.trans r1)
      ·exact H2.elim
     ·exact H2.elim
    ·exact H1.elim
   ·exact H.elim
  ·exact H.elim
 ·split at H
  ·split at H
   ·rename_i q1 q2;have q1:=Nat.eq_of_beq_eq_true q1;have q2:=Nat.eq_of_beq_eq_true q2;subst q1;subst q2;rcases bp H with H|⟨bx,hb,H⟩
    ·exact H.elim
    split at H
    ·rcases bp H with H|⟨FV,cU,H⟩
     ·exact H.elim
     split at H
     ·refine⟨H,fun c v hc hv=>?_⟩;subst hc;have ho:=lF (c:=c) cU (by simp);cases hv with
      |ptr _ _ cs blk cap k1 k2=>exact .ptr _ _ _ blk cap cU (ho.trans k2)
      |jq _ _ _ k1 _=>rw[hb]at k1;cases k1
     ·exact H.elim
    ·exact H.elim
   ·exact H.elim
  ·exact H.elim
 ·split at H
  ·split at H
   ·rename_i q;have:=Nat.eq_of_beq_eq_true q;subst this;obtain⟨rfl,H⟩:=H;refine⟨H,fun c v hc hv=>?_⟩;cases hv with
    |b9 _ _ blk o f k1 k2 k3 k4=>exact .b9 _ _ blk o f (fun hb=>k1 (hb.elim .inl fun⟨i,n,hi⟩ => .inr ⟨i,n,(rh hi).1⟩)) k2 k3 (fun j x hx=>pM (k4 j x hx))
   ·exact H.elim
  ·exact H.elim
 ·split at H
  ·split at H
   ·rename_i q1;have q1:=Nat.eq_of_beq_eq_true q1;subst q1;rcases bp H with H|⟨bx,hb,H⟩
    ·exact H.elim
    split at H
    ·rcases bp H with H|⟨FV,cU,H⟩
     ·exact H.elim
     split at H
     ·refine⟨H,fun c v hc hv=>?_⟩;subst hc;have ho:=lF (c:=c) cU (by simp);cases hv with
      |map _ es blk cap k1 k2=>exact .map _ _ blk cap cU (ho.trans k2)
      |nA _ _ k1 _=>rw[hb]at k1;cases k1
     ·exact H.elim
    ·exact H.elim
   ·exact H.elim
  ·exact H.elim
 ·rename_i b' g' k' q';split at H
  ·rename_i b g k qq;split at H
   ·rename_i q;have:=Nat.eq_of_beq_eq_true q;subst this;rcases bp H with H1|⟨bx,hb,H1⟩
    ·exact H1.elim
    clear H;split at H1
    ·rename_i g0 ts l;rcases bp H1 with H2|⟨FV,cU,H2⟩
     ·exact H2.elim
     clear H1;split at H2
     ·rename_i g1 ec l';split at H2
      ·rename_i q1 q2;have q1:=Nat.eq_of_beq_eq_true q1;have q2:=Nat.eq_of_beq_eq_true q2;subst q1;subst q2;obtain⟨rfl,rfl,H2⟩:=H2;refine⟨H2,fun c v hc hv=>?_⟩;obtain⟨x0,k1,gx,k2,-⟩:=hs b _ cU;rw[hb]at k1;cases k1;cases k2;subst hc;have ho:=lF (c:=c) cU (by simp);cases hv with
       |cut _ _ _ _ _ l2 blk cap o r1 r2 r3 r4 r5=>rw[hb]at r1;cases r1;exact .cut b _ k _ _ _ blk cap o cU (ho.trans r2) r3 r4 r5
       |mG _ _ g2 _ _ _ _ _ r1 r2 _=>rw[hb]at r1;cases r1;omega
       |mH _ _ _ _ _ r1 _=>rw[hb]at r1;cases r1
      ·exact H2.elim
     ·exact H2.elim
    ·exact H1.elim
   ·exact H.elim
  ·exact H.elim
 ·exact H.elim
theorem w9{h h':List af}{K:Prop}(hs:HSub h h'):∀ {l l':List AV},pL h h' l l' K->K/\l.length=l'.length/\∀ (c:Cx) (vs:List Value),c.heap=h->VL c l vs->VL (c.cut h') l' vs
 |[],[],H=>⟨H,rfl,fun c vs _ hv=>⟨hv.1,fun j x v hx=>by simp at hx⟩⟩
 |x::l,y::l',H=>by
  simp only[pL]at H;obtain⟨H,h1⟩:=K4 H hs;obtain⟨H,h2,h3⟩:=w9 hs H;refine⟨H,by simp[h2],fun c vs hc hv=>?_⟩;cases vs with
  |nil=>have:=hv.1;simp at this
  |cons v vs=>exact .cons (h1 c v hc hv.head.1) (h3 c vs hc hv.head.2)
 |[],_::_,H=>H.elim
 |_::_,[],H=>H.elim
theorem TM{h h':List af}{x y:AV}{K:Prop}(H:FU h h' x y K)(hs:HSub h h'):K/\∀ (c:Cx) (v:Value),c.heap=h->VR c x v->VR (c.cut h') y v:=by
 unfold FU at H;split at H
 ·split at H
  ·obtain⟨H,-,h1⟩:=w9 hs H;refine⟨H,fun c v hc hv=>?_⟩;obtain⟨vs,rfl,gd⟩:=sr hv;exact yA (h1 c vs hc gd)
  ·exact H.elim
 ·split at H
  ·obtain⟨H,-,h1⟩:=w9 hs H;refine⟨H,fun c v hc hv=>?_⟩;cases hv with
   |aK _ vs hl bQ =>
    have:=h1 c vs.toList hc ⟨by simpa using hl,fun j x v hx hv=>bQ j x v hx (by simpa using hv)⟩;exact .aK _ vs (by simpa using this.1) (fun j x v hx hv=>this.2 j x v hx (by simpa using hv))
  ·exact H.elim
 ·split at H
  ·obtain⟨rfl,H⟩:=H;obtain⟨H,-,h1⟩:=w9 hs H;obtain⟨H,-,h2⟩:=w9 hs H;refine⟨H,fun c v hc hv=>?_⟩;obtain⟨v1,v2,rfl,r1,r2⟩:=l8 hv;have r1:=h1 c v1 hc r1;have r2:=h2 c v2 hc r2;exact .fn _ _ _ _ _ (by simpa using r1.1) (by simpa using r2.1) (fun j x v hx hv=>r1.2 j x v hx (by simpa using hv)) (fun j x v hx hv=>r2.2 j x v hx (by simpa using hv))
  ·exact H.elim
 ·exact K4 H hs
theorem K5{h h':List af}{K:Prop}(hs:HSub h h'):∀ {l l':List AV},Ck h h' l l' K->K/\∀ (c:Cx) (vs:List Value),c.heap=h->VL c l vs->VL (c.cut h') l' vs
 |[],[],H=>⟨H,fun c vs _ hv=>⟨hv.1,fun j x v hx=>by simp at hx⟩⟩
 |x::l,y::l',H=>by
  simp only[Ck]at H;obtain⟨H,h1⟩:=TM H hs;obtain⟨H,h3⟩:=K5 hs H;refine⟨H,fun c vs hc hv=>?_⟩;cases vs with
  |nil=>have:=hv.1;simp at this
  |cons v vs=>exact .cons (h1 c v hc hv.head.1) (h3 c vs hc hv.head.2)
 |[],_::_,H=>H.elim
 |_::_,[],H=>H.elim
theorem FW{h h':List af}{K:Prop}:∀ {l l':List AV},pL h h' l l' K->l.length=l'.length/\K
 |[],[],H=>⟨rfl,H⟩
 |x::l,y::l',H=>by
  have hK:∀ {Q:Prop},w8 h h' x y Q->Q:=fun{Q} H=>by
   unfold w8 at H;repeat' split at H
   all_goals first
    |exact H
    |exact H.elim
    |exact H.2
    |(rcases bp H with H|⟨_, _, H⟩
      · exact H.elim
      split at H
      · rcases bp H with H|⟨_, _, H⟩
        · exact H.elim
        repeat' split at H
        all_goals first|exact H|exact H.elim|exact H.2.2|exact H.2
      all_goals exact H.elim)
  simp only[pL]at H;obtain⟨h1,h2⟩:=FW (hK H);exact⟨by simp[h1],h2⟩
 |[],_::_,H=>H.elim
 |_::_,[],H=>H.elim
theorem K6{h h':List af}{K:Prop}:∀ {l l':List af},sP h h' l l' K->HSub l l'/\K
 |[],[],H=>⟨fun i y hy=>by simp at hy,H⟩
 |_::_,[],H=>⟨fun i y hy=>by simp at hy,H⟩
 |x::l,y::l',H=>by
  simp only[sP]at H;have key:K3 x y/\sP h h' l l' K:=by
   unfold Cl at H;split at H
   ·exact⟨trivial,H⟩
   ·split at H
    ·obtain⟨h1,h2⟩:=FW H;exact⟨⟨_,rfl,h1⟩,h2⟩
    ·exact H.elim
   ·split at H
    ·split at H
     ·rename_i q;obtain⟨rfl,rfl,H⟩:=H;exact⟨⟨_,rfl,TL q⟩,H⟩
     ·exact H.elim
    ·exact H.elim
   ·split at H
    ·obtain⟨rfl,H⟩:=H;exact⟨rfl,H⟩
    ·exact H.elim
  obtain⟨h1,h2⟩:=K6 key.2;refine⟨fun i z hz=>?_,h2⟩;cases i with
  |zero=>simp at hz;subst hz;exact⟨x,rfl,key.1⟩
  |succ i=>obtain⟨w,k1,k2⟩:=h1 i z (by simpa using hz);exact⟨w,by simpa using k1,k2⟩
 |[],_::_,H=>H.elim
theorem K7{h h':List af}{K:Prop}(hs:HSub h h'):∀ {l l':List af},sP h h' l l' K->∀ (i:Nat) (cs:List AV),l'[i]?=some (.cells cs)->∃ pN,l[i]?=some (.cells pN)/\∀ (c:Cx) (vs:List Value),c.heap=h->VL c pN vs->VL (c.cut h') cs vs
 |_,[],H=>fun i y hy=>by simp at hy
 |x::l,y::l',H=>by
  simp only[sP]at H;intro i cs hi;cases i with
  |zero =>
   simp at hi;subst hi;simp only[Cl]at H;split at H
   ·obtain⟨-,-,h3⟩:=w9 hs H;exact⟨_,rfl,h3⟩
   ·exact H.elim
  |succ i =>
   have uF:sP h h' l l' K:=by
    unfold Cl at H;split at H
    ·exact H
    ·split at H
     ·exact(FW H).2
     ·exact H.elim
    ·split at H
     ·split at H
      ·exact H.2.2
      ·exact H.elim
     ·exact H.elim
    ·split at H
     ·exact H.2
     ·exact H.elim
   obtain⟨pN,k1,k2⟩:=K7 hs uF i cs (by simpa using hi);exact⟨pN,by simpa using k1,k2⟩
 |[],_::_,H=>H.elim
theorem aE.cut{G:List (Nat × DV)}{c:Cx}(ho:aE G c){h':List af}(hs:HSub c.heap h')(wD:∀ (i:Nat) (cs:List AV),h'[i]?=some (.cells cs)->∃ pN,c.heap[i]?=some (.cells pN)/\∀ (vs:List Value),VL c pN vs->VL (c.cut h') cs vs):aE G (c.cut h') where
 bE:=ho.bE
 bI:=fun i b n hi=>by
  obtain⟨h1,y,h2,-⟩:=rh hi;exact⟨(ho.bI i b n h1).1,a7 h2⟩
 inj:=fun i j b n m hi hj=>ho.inj i j b n m (rh hi).1 (rh hj).1
 sep:=fun i b n hi=>ho.sep i b n (rh hi).1
 box:=fun i bx hi=>by
  have cT:h'[i]?=some bx:=hi;obtain⟨x,hx,hb⟩:=hs i bx cT;cases bx with
  |gone=>show(c.cut h').own i=none;simp only[Cx.cut,Cm,cT]
  |cells cs =>
   obtain⟨pN,k1,k2⟩:=wD i cs cT;obtain⟨blk,cap,vs,ty,g1,g2,g3⟩:=ho.cells k1;have:=k2 vs.toList g3;exact⟨blk,cap,vs,ty,(lF cT (by simp)).trans g1,g2,by simpa using this.1.symm,fun j x v hx hv=>this.2 j x v hx (by simpa using hv)⟩
  |arr g ts l =>
   obtain⟨g0,rfl,-⟩:=hb;obtain⟨q0,q1,q2⟩:=ho.box i _ hx;refine⟨q0,q1,?_⟩;have cV:=lF (c:=c) cT (by simp);rcases q2 with⟨q2,q3⟩|⟨blk,cap,vs,q2,q3,q4,q5,q6,q7⟩
   ·exact .inl ⟨cV.trans q2,q3⟩
   ·refine .inr ⟨blk,cap,vs,cV.trans q2,q3,q4,q5,q6,fun i j e x he hx=>?_⟩;obtain⟨v,r1,r2,r3⟩:=q7 i j e x he hx;exact⟨v,r1,r2,pM r3⟩
  |map es =>
   obtain rfl:x=.map es:=hb;obtain⟨blk,cap,en,ck,k1,k2,k3,k4⟩:=ho.box i _ hx;exact⟨blk,cap,en,ck,(lF cT (by simp)).trans k1,k2,k3,fun j k x m hx hm=>⟨pM (k4 j k x m hx hm).1,pM (k4 j k x m hx hm).2⟩⟩
 fB:=fun g e hg=>by
  have hp:∀ p,VR c (.b9 e 0) p->VR (c.cut h') (.b9 e 0) p:=fun p hp=>by
   cases hp with
   |b9 _ _ blk o' fv k1 k2 k3 k4=>exact .b9 _ _ blk o' fv (fun hb=>k1 (hb.elim .inl fun⟨i,n,hi⟩ => .inr ⟨i,n,(rh hi).1⟩)) k2 k3 (fun j x hx=>pM (k4 j x hx))
  exact hp _ (ho.fB g e hg)
def uU(n:Nat)(h:List af)(s:List AV)(h':List af)(s':List AV):Prop:=match Nat.ble n h'.length with
 |true=>sP h h' h h' (Ck h h' s s' True)
 |false=>False
theorem eZ.cut{c0 c:Cx}(hr:eZ c0 c){h':List af}(hn:c0.heap.length<=h'.length)(hs:HSub c.heap h'):eZ c0 (c.cut h') where
 lim:=hr.lim
 l5:=hr.l5
 ak:=hr.ak
 ow:=hr.ow
 os:=hr.os
 tape:=hr.tape
 output:=hr.output
 size:=hr.size
 keep:=hr.keep
 dw:=fun i b n hi hb=>hr.dw i b n (rh hi).1 hb
 boxes:=fun i bx hi=>by
  have ai:i<h'.length:=Nat.lt_of_lt_of_le (a7 hi) hn;obtain⟨y,hy⟩:∃ y,h'[i]?=some y:=⟨h'[i],by simp[ai]⟩;obtain⟨x,hx,hb⟩:=hs i y hy;have gq:(c.cut h').heap[i]?=some y:=hy;have h1:=hr.boxes i bx hi;have fK:y=.gone->yP c0 (c.cut h') i bx:=fun e=>by
   subst e;cases bx with
   |cells cs=>exact .inr gq
   |arr g sz l=>exact .inr gq
   |map es=>exact .inr gq
   |gone=>exact gq
  cases y with
  |gone=>exact fK rfl
  |cells cs' =>
   obtain⟨cs1,rfl,hl⟩:=hb;have ho:=lF (c:=c) hy (by simp);cases bx with
   |cells cs =>
    rcases h1 with⟨cs2,h1,h2,h3⟩|h1
    ·rw[hx]at h1;cases h1;exact .inl ⟨cs',gq,ho.trans h2,by omega⟩
    ·rw[hx]at h1;cases h1
   |arr g sz l =>
    rcases h1 with⟨_,_,h1,_⟩|h1<;>(rw[hx]at h1;cases h1)
   |map es=>rcases h1 with⟨_,h1,_⟩|h1<;>(rw[hx]at h1;cases h1)
   |gone=>have h1:c.heap[i]?=some .gone:=h1;rw[hx]at h1;cases h1
  |arr g' ec l' =>
   obtain⟨g1,rfl,hl⟩:=hb;have ho:=lF (c:=c) hy (by simp);cases bx with
   |cells cs=>rcases h1 with⟨_,h1,_⟩|h1<;>(rw[hx]at h1;cases h1)
   |arr g sz l =>
    rcases h1 with⟨g2,l2,h1,h2⟩|h1
    ·rw[hx]at h1;cases h1;refine .inl ⟨g',l',gq,?_⟩;by_cases hz:g'=0
     ·have:=hl hz;rcases h2 with h2|⟨h2,h3,h4⟩
      ·omega
      ·exact .inr ⟨hz,h3,ho.trans h4⟩
     ·left;omega
    ·rw[hx]at h1;cases h1
   |map es=>rcases h1 with⟨_,h1,_⟩|h1<;>(rw[hx]at h1;cases h1)
   |gone=>have h1:c.heap[i]?=some .gone:=h1;rw[hx]at h1;cases h1
  |map eC =>
   obtain rfl:x=.map eC:=hb;have ho:=lF (c:=c) hy (by simp);cases bx with
   |cells cs=>rcases h1 with⟨_,h1,_⟩|h1<;>(rw[hx]at h1;cases h1)
   |arr g sz l=>rcases h1 with⟨_,_,h1,_⟩|h1<;>(rw[hx]at h1;cases h1)
   |map es =>
    rcases h1 with⟨K8,h1,h2⟩|h1
    ·rw[hx]at h1;cases h1;exact .inl ⟨eC,gq,ho.trans h2⟩
    ·rw[hx]at h1;cases h1
   |gone=>have h1:c.heap[i]?=some .gone:=h1;rw[hx]at h1;cases h1
def xa(h h':List af)(x:AV)(K:Prop):Prop :=
 match x with
 | .any=>K
 | .d _=>K
 | .own b g=>aY h' b False fun
  | .gone=>K
  | .arr g1 _ _=>aY h b False fun
   | .arr g0 _ _=>match Nat.blt g g1 with
    |true=>match Nat.ble g g0 with
     |true=>K
     |false=>False
    |false=>match Nat.beq g g0,Nat.beq g g1 with
     |true,true=>K
     |_,_=>False
   |_=>False
  |_=>False
 | .ptr b _=>aY h' b False fun
  | .gone=>K
  | .cells _=>aY h b False fun
   | .cells _=>K
   |_=>False
  |_=>False
 | .b9 _ _=>K
 | .map b=>aY h' b False fun
  | .gone=>K
  | .map _=>aY h b False fun
   | .map _=>K
   |_=>False
  |_=>False
 | .cut b g _ _=>aY h' b False fun
  | .gone=>K
  | .arr g1 _ _=>aY h b False fun
   | .arr g0 _ _=>match Nat.blt g g1 with
    |true=>match Nat.ble g g0 with
     |true=>K
     |false=>False
    |false=>match Nat.beq g g0,Nat.beq g g1 with
     |true,true=>K
     |_,_=>False
   |_=>False
  |_=>False
 | .cO b g _ _=>aY h' b False fun
  | .gone=>K
  | .arr g1 _ _=>aY h b False fun
   | .arr g0 _ _=>match Nat.blt g g1 with
    |true=>match Nat.ble g g0 with
     |true=>K
     |false=>False
    |false=>match Nat.beq g g0,Nat.beq g g1 with
     |true,true=>K
     |_,_=>False
   |_=>False
  |_=>False
 |_=>False
def uV(h h':List af):List AV->Prop->Prop
 |[],K=>K
 |x::l,K=>xa h h' x (uV h h' l K)
def zD(h h':List af)(x:AV)(K:Prop):Prop :=
 match x with
 | .agg l=>uV h h' l K
 | .aK l=>uV h h' l K
 | .fn _ a b=>uV h h' a (uV h h' b K)
 |x=>xa h h' x K
def zE(h h':List af):List AV->Prop->Prop
 |[],K=>K
 |x::l,K=>zD h h' x (zE h h' l K)
def Cn(h h':List af):List cu->Prop->Prop
 |[],K=>K
 |f::l,K=>zE h h' f.jv (Cn h h' l K)
def xb(h h':List af):List bV->Prop->Prop
 |[],K=>K
 | .loop i::l,K=>zE h h' i.jv (xb h h' l K)
 | .mark _::l,K=>xb h h' l K
 |_::_,_=>False
def xc(h h':List af)(x:FX)(K:Prop):Prop:=Cn h h' x.cls (xb h h' x.loops K)
theorem xd{β:Type}{l:List β}{i:Nat}{k:β->Prop}{K:Prop}(hk:∀ x,k x->K)(H:aY l i False k):K:=by
 rcases bp H with H|⟨x,_,H⟩
 ·exact H.elim
 ·exact hk x H
theorem K9{h h':List af}{x:AV}{K:Prop}(H:xa h h' x K):K:=by
 have arr:∀ (b g:Nat),(aY h' b False fun
  | .gone=>K
  | .arr g1 _ _=>aY h b False fun
   | .arr g0 _ _=>match Nat.blt g g1 with
    |true=>match Nat.ble g g0 with
     |true=>K
     |false=>False
    |false=>match Nat.beq g g0,Nat.beq g g1 with
     |true,true=>K
     |_,_=>False
   |_=>False
  |_=>False)->K:=fun b g H=>xd (fun y H=>by
   split at H
   ·exact H
   ·refine xd (fun z H=>?_) H;split at H
    ·split at H
     ·split at H
      ·exact H
      ·exact H.elim
     ·split at H
      ·exact H
      ·exact H.elim
    ·exact H.elim
   ·exact H.elim) H
 cases x with
 |own b g=>exact arr b g H
 |cO b g i off=>exact arr b g H
 |cut b g k q=>exact arr b g H
 |ptr b off =>
  exact xd (fun y H=>by
   split at H
   ·exact H
   ·refine xd (fun z H=>?_) H;split at H
    ·exact H
    ·exact H.elim
   ·exact H.elim) H
 |map b =>
  exact xd (fun y H=>by
   split at H
   ·exact H
   ·refine xd (fun z H=>?_) H;split at H
    ·exact H
    ·exact H.elim
   ·exact H.elim) H
 |any=>exact H
 |d x=>exact H
 |b9 e off=>exact H
 |agg l=>exact H.elim
 |aK l=>exact H.elim
 |fn f a b=>exact H.elim
theorem zF{h h':List af}:∀ {l:List AV} {K:Prop},uV h h' l K->K
 |[],_,H=>H
 |_::_,_,H=>zF (K9 H)
theorem TN{h h':List af}{x:AV}{K:Prop}(H:zD h h' x K):K:=by
 unfold zD at H;split at H
 ·exact zF H
 ·exact zF H
 ·exact zF (zF H)
 ·exact K9 H
theorem FY{h h':List af}:∀ {l:List AV} {K:Prop},zE h h' l K->K
 |[],_,H=>H
 |_::_,_,H=>FY (TN H)
theorem La{h h':List af}:∀ {l:List cu} {K:Prop},Cn h h' l K->K
 |[],_,H=>H
 |_::_,_,H=>La (FY H)
theorem FZ{h h':List af}:∀ {l:List bV} {K:Prop},xb h h' l K->K
 |[],_,H=>H
 | .loop _::_,_,H=>FZ (FY H)
 | .mark _::l,_,H=>FZ (l:=l) H
 | .row _::_,_,H=>H.elim
 | .iter _::_,_,H=>H.elim
theorem Lb{h h':List af}(hs:HSub h h'){x:AV}{K:Prop}(H:xa h h' x K):K/\∀ (c:Cx),c.heap=h->∀ v,VR c x v->VR (c.cut h') x v:=by
 have own:∀ (b g:Nat) (K:Prop),(aY h' b False fun
  | .gone=>K
  | .arr g1 _ _=>aY h b False fun
   | .arr g0 _ _=>match Nat.blt g g1 with
    |true=>match Nat.ble g g0 with
     |true=>K
     |false=>False
    |false=>match Nat.beq g g0,Nat.beq g g1 with
     |true,true=>K
     |_,_=>False
   |_=>False
  |_=>False)->K/\(h'[b]?=some .gone\/∃ g0 g1 ts l,h[b]?=some (.arr g0 ts l)/\h'[b]?=some (.arr g1 ts l)/\(g<g1\/g=g0/\g=g1)):=fun b g K H=>by
  rcases bp H with H|⟨y,hy,H⟩
  ·exact H.elim
  split at H
  ·exact⟨H,.inl hy⟩
  ·rename_i g1 ts1 l1;rcases bp H with H|⟨x,hx,H⟩
   ·exact H.elim
   split at H
   ·rename_i g0 ts0 l0;obtain⟨x',eS,q⟩:=hs b _ hy;rw[hx]at eS;cases eS;obtain⟨g2,q,-⟩:=q;cases q;split at H
    ·rename_i q1;split at H
     ·exact⟨H,.inr ⟨_,_,_,_,hx,hy,.inl (Nat.le_of_ble_eq_true q1)⟩⟩
     ·exact H.elim
    ·split at H
     ·rename_i q1 q2;exact⟨H,.inr ⟨_,_,_,_,hx,hy,.inr ⟨Nat.eq_of_beq_eq_true q1,Nat.eq_of_beq_eq_true q2⟩⟩⟩
     ·exact H.elim
   ·exact H.elim
  ·exact H.elim
 cases x with
 |any=>exact⟨H,fun c _ v _ => .any v⟩
 |d x=>exact⟨H,fun c _ v hv=>by cases hv with|d _ _ hv=>exact .d _ _ (pM hv)⟩
 |b9 e off=>exact⟨H,fun c _ v hv=>by cases hv with|b9 _ _ blk o f k1 k2 k3 k4=>exact .b9 _ _ blk o f (fun hb=>k1 (hb.elim .inl fun⟨i,n,hi⟩ => .inr ⟨i,n,(rh hi).1⟩)) k2 k3 (fun j x hx=>pM (k4 j x hx))⟩
 |own b g =>
  obtain⟨hK,hq⟩:=own b g K H;refine⟨hK,fun c hc v hv=>?_⟩;subst hc;rcases hq with hq|⟨g0,g1,ts,l,q1,q2,q3⟩
  ·have cj:v.oneCell'=true:=by cases hv<;>first|rfl|assumption
   exact .jR b g v hq cj
  ·have ho:=lF (c:=c) q2 (by simp);rcases q3 with q3|⟨rfl,rfl⟩
   ·have cj:v.oneCell'=true:=by cases hv<;>first|rfl|assumption
    exact .kB b g g1 ts l v q2 q3 cj
   ·cases hv with
    |own _ _ sz l' blk cap hb cV=>rw[q1]at hb;cases hb;exact .own b g ts l blk cap q2 (ho.trans cV)
    |iY _ _ sz hb cV=>rw[q1]at hb;cases hb;exact .iY b g ts q2 (ho.trans cV)
    |kB _ _ g' sz l' v hb hg hv=>rw[q1]at hb;cases hb;omega
    |jR _ _ v hb hv=>rw[q1]at hb;cases hb
    |mF _ _ _ _ _ _ hb _ _=>rw[q1]at hb;cases hb
 |cut b g k qq =>
  obtain⟨hK,hq⟩:=own b g K H;refine⟨hK,fun c hc v hv=>?_⟩;subst hc;rcases hq with hq|⟨g0,g1,ts,l,q1,q2,q3⟩
  ·have cj:v.oneCell'=true:=by cases hv<;>first|rfl|assumption
   exact .mH b g k qq v hq cj
  ·have ho:=lF (c:=c) q2 (by simp);rcases q3 with q3|⟨rfl,rfl⟩
   ·have cj:v.oneCell'=true:=by cases hv<;>first|rfl|assumption
    exact .mG b g g1 k qq ts l v q2 q3 cj
   ·cases hv with
    |cut _ _ _ _ sz l' blk cap o hb cV hk tS TO=>rw[q1]at hb;cases hb;exact .cut b g k qq ts l blk cap o q2 (ho.trans cV) hk tS TO
    |mG _ _ g' _ _ sz l' v hb hg hv=>rw[q1]at hb;cases hb;omega
    |mH _ _ _ _ v hb hv=>rw[q1]at hb;cases hb
 |cO b g i off =>
  obtain⟨hK,hq⟩:=own b g K H;refine⟨hK,fun c hc v hv=>?_⟩;subst hc;rcases hq with hq|⟨g0,g1,ts,l,q1,q2,q3⟩
  ·have cj:v.oneCell'=true:=by cases hv<;>first|rfl|assumption
   exact .lX b g i off v hq cj
  ·have ho:=lF (c:=c) q2 (by simp);rcases q3 with q3|⟨rfl,rfl⟩
   ·have cj:v.oneCell'=true:=by cases hv<;>first|rfl|assumption
    exact .lW b g g1 i off ts l v q2 q3 cj
   ·cases hv with
    |cO _ _ _ _ sz l' blk cap hb cV hi=>rw[q1]at hb;cases hb;exact .cO b g i off ts l blk cap q2 (ho.trans cV) hi
    |lW _ _ g' _ _ sz l' v hb hg hv=>rw[q1]at hb;cases hb;omega
    |lX _ _ _ _ v hb hv=>rw[q1]at hb;cases hb
 |ptr b off =>
  simp only[xa]at H;rcases bp H with H|⟨y,hy,H⟩
  ·exact H.elim
  split at H
  ·refine⟨H,fun c _ v hv=>?_⟩;have cj:v.oneCell'=true:=by cases hv<;>first|rfl|assumption
   exact .jq b off v hy cj
  ·rcases bp H with H|⟨x,hx,H⟩
   ·exact H.elim
   split at H
   ·refine⟨H,fun c hc v hv=>?_⟩;subst hc;have ho:=lF (c:=c) hy (by simp);cases hv with
    |ptr _ _ cs blk cap hb cV=>exact .ptr b off _ blk cap hy (ho.trans cV)
    |jq _ _ v hb hv=>rw[hx]at hb;cases hb
   ·exact H.elim
  ·exact H.elim
 |map b =>
  simp only[xa]at H;rcases bp H with H|⟨y,hy,H⟩
  ·exact H.elim
  split at H
  ·refine⟨H,fun c _ v hv=>?_⟩;have cj:v.oneCell'=true:=by cases hv<;>first|rfl|assumption
   exact .nA b v hy cj
  ·rcases bp H with H|⟨x,hx,H⟩
   ·exact H.elim
   split at H
   ·refine⟨H,fun c hc v hv=>?_⟩;subst hc;have ho:=lF (c:=c) hy (by simp);cases hv with
    |map _ es blk cap hb cV=>exact .map b _ blk cap hy (ho.trans cV)
    |nA _ v hb hv=>rw[hx]at hb;cases hb
   ·exact H.elim
  ·exact H.elim
 |agg l=>exact H.elim
 |aK l=>exact H.elim
 |fn f a b=>exact H.elim
theorem zG{h h':List af}(hs:HSub h h'):∀ {l:List AV} {K:Prop},uV h h' l K->K/\∀ (c:Cx),c.heap=h->∀ (j:Nat) x v,l[j]?=some x->VR c x v->VR (c.cut h') x v
 |[],K,H=>⟨H,fun c _ j x v hx=>by simp at hx⟩
 |y::l,K,H=>by
  obtain⟨H,h1⟩:=Lb hs H;obtain⟨H,h2⟩:=zG hs H;refine⟨H,fun c hc j x v hx hv=>?_⟩;cases j with
  |zero=>simp at hx;subst hx;exact h1 c hc v hv
  |succ j=>exact h2 c hc j x v (by simpa using hx) hv
theorem TP{h h':List af}(hs:HSub h h'){x:AV}{K:Prop}(H:zD h h' x K):K/\∀ (c:Cx),c.heap=h->∀ v,VR c x v->VR (c.cut h') x v:=by
 unfold zD at H;split at H
 ·obtain⟨H,h1⟩:=zG hs H;exact⟨H,fun c hc v hv=>by cases hv with|agg _ vs hl bQ=>exact .agg _ vs hl fun j x v hx hu=>h1 c hc j x v hx (bQ j x v hx hu)⟩
 ·obtain⟨H,h1⟩:=zG hs H;exact⟨H,fun c hc v hv=>by cases hv with|aK _ vs hl bQ=>exact .aK _ vs hl fun j x v hx hu=>h1 c hc j x v hx (bQ j x v hx hu)⟩
 ·obtain⟨H,h1⟩:=zG hs H;obtain⟨H,h2⟩:=zG hs H;exact⟨H,fun c hc v hv=>by cases hv with|fn _ _ _ v1 v2 k1 k2 k3 k4=>exact .fn _ _ _ v1 v2 k1 k2 (fun j x v hx hu=>h1 c hc j x v hx (k3 j x v hx hu)) (fun j x v hx hu=>h2 c hc j x v hx (k4 j x v hx hu))⟩
 ·exact Lb hs H
theorem F0{h h':List af}(hs:HSub h h'):∀ {l:List AV} {K:Prop},zE h h' l K->K/\∀ (c:Cx),c.heap=h->∀ t,VS c l t->VS (c.cut h') l t
 |[],K,H=>⟨H,fun c _ t ht=>⟨ht.1,fun j x v hx=>by simp at hx⟩⟩
 |y::l,K,H=>by
  obtain⟨H,h1⟩:=TP hs H;obtain⟨H,h2⟩:=F0 hs H;refine⟨H,fun c hc t ht=>⟨ht.1,fun j x v hx hv=>?_⟩⟩;cases j with
  |zero=>simp at hx;subst hx;exact h1 c hc v (ht.2 0 _ v rfl hv)
  |succ j =>
   have ir:(t.extract 1)[j]?=some v:=by
    rw[Array.getElem?_extract];have:=(Array.getElem?_eq_some_iff.1 hv).1;rw[if_pos (by omega),Nat.add_comm];exact hv
   have:=h2 c hc (t.extract 1) ⟨by have:=ht.1;simp at this ⊢;omega,fun i x v hx hv=>ht.2 (i+1) x v (by simpa using hx) (by
    rw[Array.getElem?_extract]at hv;split at hv
    ·rw[Nat.add_comm]at hv;exact hv
    ·cases hv)⟩
   exact this.2 j x v (by simpa using hx) ir
theorem Lc{h h':List af}(hs:HSub h h'):∀ {l:List cu} {K:Prop},Cn h h' l K->K/\∀ (c:Cx),c.heap=h->∀ ts,CR c l ts->CR (c.cut h') l ts
 |[],K,H=>⟨H,fun c _ ts ht=>by cases ts with|nil=>trivial|cons t ts=>exact ht.elim⟩
 |f::l,K,H=>by
  obtain⟨H,h1⟩:=F0 hs H;obtain⟨H,h2⟩:=Lc hs H;refine⟨H,fun c hc ts ht=>?_⟩;cases ts with
  |nil=>exact ht.elim
  |cons t ts=>exact⟨h1 c hc t ht.1,ht.2.1,h2 c hc ts ht.2.2⟩
theorem F1{h h':List af}(hs:HSub h h'):∀ {l:List bV} {K:Prop},xb h h' l K->K/\∀ (lim:Nat) (c:Cx),c.heap=h->∀ g∈l,ja lim c g->ja lim (c.cut h') g
 |[],K,H=>⟨H,fun lim c _ g hg=>by simp at hg⟩
 | .loop i::l,K,H=>by
  obtain⟨H,h1⟩:=F0 hs H;obtain⟨H,h2⟩:=F1 hs H;refine⟨H,fun lim c hc g hg hk=>?_⟩;rcases List.mem_cons.1 hg with rfl|hg
  ·obtain⟨k1,k2,k3,k4⟩:=(show oz lim c i from hk);exact(show oz lim (c.cut h') i from ⟨k1,k2,k3,h1 c hc _ k4⟩)
  ·exact h2 lim c hc g hg hk
 | .mark d::l,K,H=>by
  obtain⟨H,h2⟩:=F1 (l:=l) hs H;refine⟨H,fun lim c hc g hg hk=>?_⟩;rcases List.mem_cons.1 hg with rfl|hg
  ·obtain⟨k1,k2,k3⟩:=(show sy lim c d from hk);exact(show sy lim (c.cut h') d from ⟨k1,k2,k3⟩)
  ·exact h2 lim c hc g hg hk
 | .row _::_,_,H=>H.elim
 | .iter _::_,_,H=>H.elim
theorem ja.TQ{lim:Nat}{c:Cx}{h':List af}:∀ {g:bV},ja lim c g->g.flat->ja lim (c.cut h') g
 | .row r,h,_=>qL.gen (c:=c) h (qL.ak (c:=c) h) rfl (fun _ _=>pM)
 | .iter i,h,_=>l7.gen (c:=c) h (l7.ET (c:=c) h) (l7.yR (c:=c) h) rfl rfl (fun _ _=>pM)
 | .loop _,_,h=>h.elim
 | .mark d,h,_=>by obtain⟨k1,k2,k3⟩:=(show sy lim c d from h);exact(show sy lim (c.cut h') d from ⟨k1,k2,k3⟩)
section
variable {E:Env} {ae:FuncId} {R:bZ} {td:List aI} {s s':List AV} {h h':List af}
theorem ev.cut{lim:Nat}{c:Cx}{rows loops:List bV}(h:ev lim c rows loops){h':List af}(hl:∀ g∈loops,ja lim c g->ja lim (c.cut h') g):ev lim (c.cut h') rows loops :=
 ⟨⟨fun g hg=>(List.mem_append.1 hg).elim (fun mT=>(h.all.each g hg).TQ (h.flat g mT)) (fun mT=>hl g mT (h.all.each g hg)),h.all.nodup⟩,h.flat⟩
theorem AW.weaken{f0:FuncId}{fd:iE}(hs:xc h h' R.fx (uU R.n h s h' s'))(H:AW E f0 ⟨fd,td,s'⟩ R.fx.cls h' R):AW E f0 ⟨fd,td,s⟩ R.fx.cls h R:=by
 unfold AW at H ⊢;intro c0 c t ts h0 h1 h2 h3 hr cb h4 h5 cs;subst h2;unfold xc at hs;have ri:=hs;replace hs:=FZ (La hs);unfold uU at hs;split at hs
 case h_2=>exact hs.elim
 rename_i q;have hn:=Nat.le_of_ble_eq_true q;obtain⟨k1,k2⟩:=K6 hs;have k3:=K7 k1 hs;obtain⟨-,k4⟩:=K5 k1 k2;obtain⟨uW,f1⟩:=Lc k1 ri;obtain⟨-,f2⟩:=F1 k1 uW;have hv:=k4 c t.toList rfl ⟨by simpa using h4.1,fun j x v hx hv=>h4.2 j x v hx (by simpa using hv)⟩;have aO:=h3.cut k1 (fun i cs hi=>by obtain⟨pN,r1,r2⟩:=k3 i cs hi;exact⟨pN,r1,fun vs hv=>r2 c vs rfl hv⟩);exact H c0 (c.cut h') t ts h0 h1 rfl aO (hr.cut (by omega) k1) (cb.cut fun g hg=>f2 _ c rfl g hg) ⟨by simpa using hv.1,fun j x v hx hu=>hv.2 j x v hx (by simpa using hu)⟩ (f1 c rfl ts h5) cs
def anyS:List Nat->List AV->List AV
 |[],s=>s
 |d::l,s=>anyS l (s.set d .any)
def lG:List (Nat × AV)->List AV->List AV
 |[],s=>s
 |(d,v)::l,s=>lG l (s.set d v)
def lH:List (Nat × af)->List af->List af
 |[],h=>h
 |(d,v)::l,h=>lH l (h.set d v)
def Co{α:Sort _}:List Nat->List AV->(List AV->α)->α
 |[],s,k=>k s
 |d::l,s,k=>fI s d .any fun s'=>Co l s' k
theorem Ld{α:Sort _}:∀ (l:List Nat) (s:List AV) (k:List AV->α),Co l s k=k (anyS l s)
 |[],_,_=>rfl
 |d::l,s,k=>by simp only[Co,gJ,anyS,Ld l]
def uX{α:Sort _}{β:Type}:List (Nat × β)->List β->(List β->α)->α
 |[],s,k=>k s
 |(d,v)::l,s,k=>fI s d v fun s'=>uX l s' k
theorem Le{α:Sort _}:∀ (l:List (Nat × AV)) (s:List AV) (k:List AV->α),uX l s k=k (lG l s)
 |[],_,_=>rfl
 |(d,v)::l,s,k=>by simp only[uX,gJ,lG,Le l]
theorem Lf{α:Sort _}:∀ (l:List (Nat × af)) (s:List af) (k:List af->α),uX l s k=k (lH l s)
 |[],_,_=>rfl
 |(d,v)::l,s,k=>by simp only[uX,gJ,lH,Lf l]
def zH(ks:List Nat):AV->Bool
 | .own j _=>bW j ks
 | .cut j _ _ _=>bW j ks
 | .cO j _ _ _=>bW j ks
 |_=>false
def Lg(ks:List Nat):AV->Bool
 | .agg l=>l.any (zH ks)
 | .aK l=>l.any (zH ks)
 | .fn _ a b=>a.any (zH ks)||b.any (zH ks)
 |x=>zH ks x
def lI(ks:List Nat):List AV->List AV
 |[]=>[]
 |x::s=>(match Lg ks x with|true => .any|false=>x)::lI ks s
def zI{α:Sort _}(ks:List Nat):List AV->(List AV->α)->α
 |[],k=>k []
 |x::s,k=>match Lg ks x with
  |true=>zI ks s fun s'=>k (.any::s')
  |false=>zI ks s fun s'=>k (x::s')
theorem Lh{α:Sort _}(ks:List Nat):∀ (s:List AV) (k:List AV->α),zI ks s k=k (lI ks s)
 |[],_=>rfl
 |x::s,k=>by
  simp only[zI,lI];split<;>rename_i q<;>rw[Lh ks s]<;>simp only[q]
def mU:List (Nat × af)->List Nat
 |[]=>[]
 |p::l=>p.1::mU l
def rj{α:Sort _}(fD ks:List Nat)(vars:List (Nat × AV))(boxes:List (Nat × af))(s:List AV)(h:List af)(k:List AV->List af->α):α :=
 zI ks s fun s0=>Co fD s0 fun s1=>uX vars s1 fun s2=>uX boxes h fun h2=>k s2 h2
theorem xe{α:Sort _}(fD ks:List Nat)(vars:List (Nat × AV))(boxes:List (Nat × af))(s:List AV)(h:List af)(k:List AV->List af->α):rj fD ks vars boxes s h k=k (lG vars (anyS fD (lI ks s))) (lH boxes h):=by
 simp only[rj,Lh,Ld,Le,Lf]
theorem aa.loop{lits:List Nat}{b:Code}{k:List aI}{κ:Type}(fD:List Nat)(vars:κ->List (Nat × AV))(boxes:κ->List (Nat × af))(Φ:κ->Prop)(μ:κ->Nat)(x0:κ)(h0:Φ x0)
  (sQ:rj fD (mU (boxes x0)) (vars x0) (boxes x0) s h fun s' h'=>xc h h' R.fx (uU R.n h s h' s'))
  (sR:∀ x,Φ x->(∀ y,Φ y->μ y<μ x->aa E ae R [] (.inLoop b::k) (lG (vars y) (anyS fD (lI (mU (boxes x0)) s))) (lH (boxes y) h))->aa E ae R [] (.code b :: .inLoop b::k) (lG (vars x) (anyS fD (lI (mU (boxes x0)) s))) (lH (boxes x) h)) :
  aa E ae R lits (.code (.loop b)::k) s h:=by
 have main:∀ n x,μ x<n->Φ x->aa E ae R [] (.inLoop b::k) (lG (vars x) (anyS fD (lI (mU (boxes x0)) s))) (lH (boxes x) h):=by
  intro n
  induction n with
  |zero=>intro x hx;omega
  |succ n ih=>intro x hx hP;exact .of (.inLoop (sR x hP fun y hy hm=>ih y (by omega) hy).to)
 rw[xe]at sQ;exact .of (.loop (.weaken sQ (sR x0 h0 fun y hy _=>main (μ y+1) y (by omega) hy).to))
theorem aa.head(hE:E.OK){fn:Func}(hf:E.P.funcs[ae]?=some fn)(n:Nat){lits fD ks:List Nat}{vars:List (Nat × AV)}{boxes:List (Nat × af)}{s0:List AV}{h0:List af}
  (H:rj fD ks vars boxes s0 h0 fun s' h'=>runK E ae fn.results.toList R n lits td s' h'):aa E ae R lits td (lG vars (anyS fD (lI ks s0))) (lH boxes h0):=by
 rw[xe]at H;exact .run hE hf n H
theorem aa.back{lits TR fD ks:List Nat}{vars:List (Nat × AV)}{boxes:List (Nat × af)}{s0:List AV}{h0:List af}(H:aa E ae R lits td (lG vars (anyS fD (lI ks s0))) (lH boxes h0))
  (hs:rj fD ks vars boxes s0 h0 fun s' h'=>xc h h' R.fx (uU R.n h s h' s')):aa E ae R TR td s h:=by
 rw[xe]at hs;exact .of (.weaken hs H.to)
theorem aa.l9{lits:List Nat}(d:Nat)(ts:Nat × Nat)(mR:0<ts.2)(hd:s[d]?=some (.d .aW))(H:aa E ae R lits td (s.set d (.own h.length 0)) (h++[.arr 0 ts []])):aa E ae R lits td s h:=by
 replace H:=H.to;refine .of (.jX (fun c t ec h1 h2 h3 h4 h5=>?_) H);subst h2
 let c':Cx:={ c with heap:=c.heap++[.arr 0 ts []] }
 have dR:c.own c.heap.length=none:=by
  cases ho:c.own c.heap.length with
  |none=>rfl
  |some p=>have:=(h3.bI _ p.1 p.2 ho).2;omega
 have aT:Step c c':=⟨rfl,h3.bE,rfl,rfl,rfl,Nat.le_refl _,fun _ _ _=>rfl,fun i b n hi _=>⟨n,hi⟩,fun i bx hi=>by
  have h':c'.heap[i]?=some bx:=by show(c.heap++_)[i]?=_;rw[List.getElem?_append_left (a7 hi)];exact hi
  cases bx with
  |cells cs=>exact .inl ⟨cs,h',rfl,rfl⟩
  |arr g sz l=>exact .inl ⟨g,l,h',.inr ⟨rfl,rfl,rfl⟩⟩
  |map es=>exact .inl ⟨es,h',rfl⟩
  |gone=>exact h'⟩
 have mS:c'.heap[c.heap.length]?=some (.arr 0 ts []):=by show(c.heap++_)[_]?=_;simp
 have aO:aE E.G c':=h3.next aT (fun i b n hi=>⟨(h3.bI i b n hi).1,by have:=(h3.bI i b n hi).2;show i<(c.heap++_).length;simp;omega⟩) h3.inj (fun i bx hi=>by
  by_cases iZ:i=c.heap.length
  ·subst iZ;rw[mS]at hi;cases hi;exact .inr ⟨mR,fun i e he=>by simp at he,.inl ⟨dR,rfl⟩⟩
  ·have ai : i < c.heap.length := by have := a7 hi;have h2 : c'.heap.length=c.heap.length+1 := by show(c.heap ++ _).length=_;simp
                                     omega
   have cT:(c.heap++[.arr 0 ts []])[i]?=some bx:=hi;rw[List.getElem?_append_left ai]at cT
   exact .inl ⟨cT,rfl,fun _ _ _=>rfl⟩)
 refine⟨c',t,ec,h1,rfl,aO,?_,aT.cr h5,aT,fun _ => .refl _ _⟩;have eE:d<t.size:=by rw[<- h4.1];exact a7 hd
 have hv:t[d]=.slice none 0 0:=by
  have:=h4.2 d _ t[d] hd (by simp[eE]);generalize t[d]=u at this;cases this with
  |d _ _ hv=>cases hv;rfl
 have:=VS.put (aT.vs h4) d (x := .own c.heap.length 0) (v:=t[d]) (by rw[hv];exact .iY _ _ ts mS dR)
 simpa [Array.setIfInBounds,eE]using this
end
section
variable {α:Sort _}
def Cp(b g:Nat)(l:List DV)(x:AV)(k:AV->α):α:=match x with
 | .own j g'=>match Nat.beq j b,Nat.beq g' g with
  |true,true=>k (.d (.sl l))
  |_,_=>k (.own j g')
 |x=>k x
def uY(b g:Nat)(l:List DV):List AV->(List AV->α)->α
 |[],k=>k []
 |x::r,k=>Cp b g l x fun y=>uY b g l r fun r'=>k (y::r')
def F2(b g:Nat)(l:List DV)(x:AV)(k:AV->α):α:=match x with
 | .agg c=>uY b g l c fun c'=>wq c' k
 | .aK c=>uY b g l c fun c'=>k (.aK c')
 | .fn f a1 a2=>uY b g l a1 fun Li=>uY b g l a2 fun Lj=>k (.fn f Li Lj)
 |x=>Cp b g l x k
def F3(b g:Nat)(l:List DV):List AV->(List AV->α)->α
 |[],k=>k []
 |x::r,k=>F2 b g l x fun y=>F3 b g l r fun r'=>k (y::r')
def zJ(b g:Nat)(l:List DV):List af->(List af->α)->α
 |[],k=>k []
 |x::r,k=>match x with
  | .cells c=>uY b g l c fun c'=>zJ b g l r fun r'=>k (.cells c'::r')
  |x=>zJ b g l r fun r'=>k (x::r')
end
def Lk(b:Nat)(s:List AV)(h:List af)(k:List AV->List af->Prop):Prop:=aY h b False fun
 | .arr g _ l=>F3 b g l s fun s'=>zJ b g l h fun h'=>fI h' b .gone fun qG=>k s' qG
 |_=>False
structure xf(b g:Nat)(l:List DV)(c c':Cx):Prop where
 step:Step c c'
 own:∀ v,VR c (.own b g) v->VR c' (.d (.sl l)) v
section
variable {b g:Nat} {l:List DV}
theorem Ll{x:AV}{k:AV->Prop}(H:Cp b g l x k):∃ y,k y/\∀ c c',xf b g l c c'->∀ v,VR c x v->VR c' y v:=by
 unfold Cp at H;split at H
 ·split at H
  ·rename_i q1 q2;have q1:=Nat.eq_of_beq_eq_true q1;have q2:=Nat.eq_of_beq_eq_true q2;subst q1;subst q2;exact⟨_,H,fun c c' hf v hv=>hf.own v hv⟩
  ·exact⟨_,H,fun c c' hf v hv=>hf.step.vr hv⟩
 ·exact⟨_,H,fun c c' hf v hv=>hf.step.vr hv⟩
theorem xg:∀ {r:List AV} {k:List AV->Prop},uY b g l r k->∃ r',k r'/\r'.length=r.length/\∀ c c',xf b g l c c'->∀ vs,VL c r vs->VL c' r' vs
 |[],_,H=>⟨[],H,rfl,fun _ _ _ _ hv=>⟨hv.1,fun j x v hx=>by simp at hx⟩⟩
 |x::r,k,H=>by
  obtain⟨y,H,hy⟩:=Ll H;obtain⟨r',H,hl,hr⟩:=xg H;refine⟨y::r',H,by simp[hl],fun c c' hf vs hv=>?_⟩;cases vs with
  |nil=>have:=hv.1;simp at this
  |cons v vs=>exact .cons (hy c c' hf v hv.head.1) (hr c c' hf vs hv.head.2)
theorem TS{x:AV}{k:AV->Prop}(H:F2 b g l x k):∃ y,k y/\∀ c c',xf b g l c c'->∀ v,VR c x v->VR c' y v:=by
 unfold F2 at H;split at H
 ·obtain⟨r',H,-,hr⟩:=xg H;obtain⟨y,H,hy⟩:=yB H;refine⟨y,H,fun c c' hf v hv=>?_⟩;obtain⟨vs,rfl,gd⟩:=sr hv;exact hy c' vs (hr c c' hf vs gd)
 ·obtain⟨r',H,-,hr⟩:=xg H;refine⟨_,H,fun c c' hf v hv=>?_⟩;cases hv with
  |aK _ vs hl bQ =>
   have:=hr c c' hf vs.toList ⟨by simpa using hl,fun j x v hx hv=>bQ j x v hx (by simpa using hv)⟩;exact .aK _ vs (by simpa using this.1) (fun j x v hx hv=>this.2 j x v hx (by simpa using hv))
 ·obtain⟨Li,H,-,h1⟩:=xg H;obtain⟨Lj,H,-,h2⟩:=xg H;refine⟨_,H,fun c c' hf v hv=>?_⟩;obtain⟨v1,v2,rfl,r1,r2⟩:=l8 hv;have r1:=h1 c c' hf v1 r1;have r2:=h2 c c' hf v2 r2;exact .fn _ _ _ _ _ (by simpa using r1.1) (by simpa using r2.1) (fun j x v hx hv=>r1.2 j x v hx (by simpa using hv)) (fun j x v hx hv=>r2.2 j x v hx (by simpa using hv))
 ·exact Ll H
theorem Lm:∀ {r:List AV} {k:List AV->Prop},F3 b g l r k->∃ r',k r'/\∀ c c',xf b g l c c'->∀ vs,VL c r vs->VL c' r' vs
 |[],_,H=>⟨[],H,fun _ _ _ _ hv=>⟨hv.1,fun j x v hx=>by simp at hx⟩⟩
 |x::r,k,H=>by
  obtain⟨y,H,hy⟩:=TS H;obtain⟨r',H,hr⟩:=Lm H;refine⟨y::r',H,fun c c' hf vs hv=>?_⟩;cases vs with
  |nil=>have:=hv.1;simp at this
  |cons v vs=>exact .cons (hy c c' hf v hv.head.1) (hr c c' hf vs hv.head.2)
def Cq(b g:Nat)(l:List DV)(x y:af):Prop:=match x with
 | .cells cs=>∃ cs',y=.cells cs'/\cs'.length=cs.length/\∀ c c',xf b g l c c'->∀ vs,VL c cs vs->VL c' cs' vs
 |x=>y=x
theorem F4:∀ {r:List af} {k:List af->Prop},zJ b g l r k->∃ r',k r'/\r'.length=r.length/\∀ (i:Nat) (x:af),r[i]?=some x->∃ y,r'[i]?=some y/\Cq b g l x y
 |[],_,H=>⟨[],H,rfl,fun i x hx=>by simp at hx⟩
 |x::r,k,H=>by
  unfold zJ at H;have fin:∀ {y:af} {r':List af},Cq b g l x y->(∀ (i:Nat) (x:af),r[i]?=some x->∃ y,r'[i]?=some y/\Cq b g l x y)->∀ (i:Nat) (z:af),(x::r)[i]?=some z->∃ y',(y::r')[i]?=some y'/\Cq b g l z y':=fun{y r'} h1 h2 i z hz=>by
   cases i with
   |zero=>simp at hz;subst hz;exact⟨y,rfl,h1⟩
   |succ i=>obtain⟨y',k1,k2⟩:=h2 i z (by simpa using hz);exact⟨y',by simpa using k1,k2⟩
  split at H
  ·obtain⟨c',H,hl,hr⟩:=xg H;obtain⟨r',H,zq,ur⟩:=F4 H;exact⟨_,H,by simp[zq],fin ⟨c',rfl,hl,hr⟩ ur⟩
  ·rename_i aM;obtain⟨r',H,zq,ur⟩:=F4 H;refine⟨_,H,by simp[zq],fin ?_ ur⟩;cases x with
   |cells c=>exact absurd rfl (aM c)
   |arr _ _ _=>rfl
   |map _=>rfl
   |gone=>rfl
end
section
variable {E:Env} {ae:FuncId} {R:bZ} {td:List aI} {s:List AV} {h:List af}
theorem aa.freeze{lits:List Nat}(b:Nat)(H:Lk b s h fun s' h'=>aa E ae R lits td s' h'):aa E ae R lits td s h:=by
 unfold Lk at H;rcases bp H with H|⟨bx,hb,H⟩
 ·exact H.elim
 split at H
 case h_2=>exact H.elim
 rename_i g ts l;obtain⟨s',H,Cr⟩:=Lm H;obtain⟨h',H,hlen,Ch⟩:=F4 H;rw[gJ]at H;refine .of (.jX (fun c t ec h1 h2 h3 h4 h5=>?_) H.to);subst h2;have eD:=a7 hb
 let c':Cx:={ c with own:=fun i=>if i=b then none else c.own i,heap:=h'.set b .gone }
 have fK:c'.heap[b]?=some .gone:=by show(h'.set b .gone)[b]?=_;rw[List.getElem?_set_self (by omega)]
 have oD:∀ i,i≠b->c'.heap[i]?=h'[i]? := fun i hi=>by show(h'.set b .gone)[i]?=_;rw[List.getElem?_set_ne (Ne.symm hi)]
 have bJ:∀ i,i≠b->c'.own i=c.own i:=fun i hi=>by simp only[c',if_neg hi]
 have jw:∀ i p,c'.own i=some p->i≠b/\c.own i=some p:=fun i p hp=>by
  simp only[c']at hp;split at hp
  ·cases hp
  ·rename_i q;exact⟨q,hp⟩
 have aT:Step c c':=⟨rfl,h3.bE,rfl,rfl,rfl,Nat.le_refl _,fun _ _ _=>rfl,fun i x n hi _=>⟨n,(jw i _ hi).2⟩,fun i bx hi=>by
  by_cases bR:i=b
  ·subst bR;cases bx with
   |cells cs=>exact .inr fK
   |arr g sz l=>exact .inr fK
   |map es=>exact .inr fK
   |gone=>exact fK
  ·obtain⟨y,k1,k2⟩:=Ch i bx hi;rw[<- oD i bR]at k1;cases bx with
   |cells cs=>obtain⟨cs',rfl,e,-⟩:=k2;exact .inl ⟨cs',k1,bJ i bR,e⟩
   |arr g sz l=>obtain rfl:y=_:=k2;exact .inl ⟨g,l,k1,.inr ⟨rfl,rfl,bJ i bR⟩⟩
   |map es=>obtain rfl:y=_:=k2;exact .inl ⟨es,k1,bJ i bR⟩
   |gone=>obtain rfl:y=_:=k2;exact k1⟩
 have iq:∀ x,c'.bad x->c.bad x:=fun x hx=>hx.elim .inl fun⟨i,n,hi⟩ => .inr ⟨i,n,(jw i _ hi).2⟩
 have Cs:xf b g l c c':=⟨aT,fun v hv=>by
  obtain⟨q0,q1,q2⟩:=h3.box b _ hb;rcases nI hb hv with⟨blk,cap,r1,rfl⟩|⟨rfl,rfl,r1⟩
  ·rcases q2 with⟨q2,-⟩|⟨lk,jS,vs,q2,q3,q4,q5,q6,q7⟩
   ·rw[r1]at q2;cases q2
   rw[r1]at q2;cases q2;refine .d _ _ (.sl l blk 0 cap ts.2 (fun i j=>(vs[i*ts.2+j]?).getD undef) (fun _ gZ=>?_) q0 q5 (fun i e he=>q1 i e he) (fun i j e x he hx=>?_) (fun i j e x he hx=>?_) (fun i j e x he hx=>?_))
   ·rcases gZ with gZ|⟨i,n,hi⟩
    ·exact h3.sep b blk cap r1 gZ
    ·obtain⟨k1,k2⟩:=jw i _ hi;exact k1 (h3.inj i b blk n cap k2 r1)
   ·obtain⟨v,p1,p2,p3⟩:=q7 i j e x he hx;rw[p1,Option.getD_some];exact mJ q3 _ v (by simpa using p1)
   ·obtain⟨v,p1,p2,p3⟩:=q7 i j e x he hx;simp only[p1,Option.getD_some];exact aT.vd p3
   ·obtain⟨v,p1,p2,p3⟩:=q7 i j e x he hx;simp only[p1,Option.getD_some];exact p2
  ·exact .d _ _ .slnil⟩
 have aO:aE E.G c':=by
  refine h3.next aT (fun i x n hi=>?_) (fun i j x n m hi hj=>h3.inj i j x n m (jw i _ hi).2 (jw j _ hj).2) (fun i bx hi=>?_)
  ·have:=h3.bI i x n (jw i _ hi).2;refine⟨this.1,?_⟩;show i<(h'.set b .gone).length;rw[List.length_set,hlen];exact this.2
  ·right;by_cases bR:i=b
   ·subst bR;rw[fK]at hi;cases hi;show c'.own i=none;simp[c']
   ·rw[oD i bR]at hi;have iZ:i<c.heap.length:=by rw[<- hlen];exact a7 hi
    obtain⟨y,k1,k2⟩:=Ch i c.heap[i] (by simp[iZ]);rw[hi]at k1;cases k1;have iu:c.heap[i]?=some c.heap[i]:=by simp[iZ]
    generalize c.heap[i]=x at k2 iu;cases x with
    |cells cs =>
     obtain⟨cs',rfl,e,hv⟩:=k2;obtain⟨blk,cap,vs,ty,g1,g2,g3⟩:=h3.cells iu;have:=hv c c' Cs vs.toList g3;exact⟨blk,cap,vs,ty,(bJ i bR).trans g1,g2,by simpa using this.1.symm,fun j x v hx hv=>this.2 j x v hx (by simpa using hv)⟩
    |arr _ _ _=>obtain rfl:bx=_:=k2;exact(h3.box i _ iu).keep aT (bJ i bR) (fun _ _ _=>rfl)
    |map _=>obtain rfl:bx=_:=k2;exact(h3.box i _ iu).keep aT (bJ i bR) (fun _ _ _=>rfl)
    |gone=>obtain rfl:bx=_:=k2;exact(h3.box i _ iu).keep aT (bJ i bR) (fun _ _ _=>rfl)
 have hv:=Cr c c' Cs t.toList ⟨by simpa using h4.1,fun j x v hx hv=>h4.2 j x v hx (by simpa using hv)⟩;exact⟨c',t,ec,h1,rfl,aO,⟨by simpa using hv.1,fun j x v hx hu=>hv.2 j x v hx (by simpa using hu)⟩,aT.cr h5,aT,fun _ => .refl _ _⟩
theorem aa.uZ{lits:List Nat}{b:Code}{k:List aI}(H:aa E ae R [] (.code b :: .inLoop b::k) s h):aa E ae R lits (.code (.loop b)::k) s h := .of (.loop H.to)
theorem aa.again{lits:List Nat}{b:Code}{k:List aI}(H:aa E ae R [] (.code b :: .inLoop b::k) s h):aa E ae R lits (.inLoop b::k) s h := .of (.inLoop H.to)
end
def Ct:DV->Bool
 | .int _ _=>true
 | .bool _=>true
 | .str _=>true
 | .undef=>true
 | .aW=>true
 |_=>false
def F5:DV->Bool
 | .aK c=>c.all Ct
 | .agg c=>c.all Ct
 |x=>Ct x
theorem Ln{x:DV}(hx:Ct x=true){bad wk:Nat->Prop}{w w':World}{v:Value}(hv:VD bad w x v):VD wk w' x v:=by
 cases hv<;>first|(cases hx;done)|(constructor;done)
theorem TT{x:DV}(hx:F5 x=true){bad wk:Nat->Prop}{w w':World}{v:Value}(hv:VD bad w x v):VD wk w' x v:=by
 cases hv with
 |agg c vs hl bQ=>exact .agg c vs hl fun j x v h1 h2=>Ln (List.all_eq_true.1 hx x (List.mem_of_getElem? h1)) (bQ j x v h1 h2)
 |aK c vs hl bQ=>exact .aK c vs hl fun j x v h1 h2=>Ln (List.all_eq_true.1 hx x (List.mem_of_getElem? h1)) (bQ j x v h1 h2)
 |_=>first|(cases hx;done)|(constructor;done)
def rk(h:List af):List AV->Option (List DV)
 |[]=>some []
 | .d x::l=>match rk h l with
  |some r=>some (x::r)
  |none=>none
 | .own b _::l=>match eu h b with
  |some (.arr _ _ m)=>match rk h l with
   |some r=>some (.sl m::r)
   |none=>none
  |_=>none
 |_::_=>none
def xh:List AV->Bool
 |[]=>true
 | .own _ g::l=>match Nat.beq g 0 with
  |true=>xh l
  |false=>false
 |_::l=>xh l
theorem F6{G:List (Nat × DV)}{c:Cx}(ho:aE G c)(hf:yQ c.heap):∀ {args:List AV} {ds:List DV} {vs:List Value},rk c.heap args=some ds->xh args=true->VL c args vs->jY c.ak c.w ds vs
 |[],ds,vs,h,_,hv=>by cases h;exact⟨hv.1,fun j x v hx=>by simp at hx⟩
 |x::l,ds,vs,h,hg,hv=>by
  cases vs with
  |nil=>have:=hv.1;simp at this
  |cons v vs =>
   obtain⟨iP,va⟩:=hv.head
   have fin:∀ {d:DV} {r:List DV},VD c.ak c.w d v->jY c.ak c.w r vs->jY c.ak c.w (d::r) (v::vs):=fun{d r} h1 h2=>⟨by simp[h2.1],fun j x u hx hu=>by
    cases j with
    |zero=>simp at hx hu;subst hx;subst hu;exact h1
    |succ j=>exact h2.2 j x u (by simpa using hx) (by simpa using hu)⟩
   have less:∀ {d:DV} {u:Value},VD c.bad c.w d u->VD c.ak c.w d u:=fun hd=>hd.mono fun b _ hn=>⟨fun hb=>hn (.inl hb),rfl⟩;cases x with
   |d x =>
    simp only[rk]at h;cases hr:rk c.heap l with
    |none=>rw[hr]at h;cases h
    |some r =>
     rw[hr]at h;cases h;cases iP with
     |d _ _ hd=>exact fin (less hd) (F6 ho hf hr hg va)
   |own b g =>
    simp only[rk,gg]at h;simp only[xh]at hg;split at hg
    case h_2=>cases hg
    rename_i q;have q:=Nat.eq_of_beq_eq_true q;subst q;split at h
    case h_2=>cases h
    rename_i g' ts m hb;obtain rfl:=hf b g' ts m hb;cases hr:rk c.heap l with
    |none=>rw[hr]at h;cases h
    |some r =>
     rw[hr]at h;cases h;refine fin ?_ (F6 ho hf hr hg va);obtain⟨q0,q1,q2⟩:=ho.box b _ hb;rcases nI hb iP with⟨blk,cap,r1,rfl⟩|⟨rfl,rfl,r1⟩
     ·rcases q2 with⟨q2,-⟩|⟨lk,jS,cQ,q2,q3,q4,q5,q6,q7⟩
      ·rw[r1]at q2;cases q2
      rw[r1]at q2;cases q2;refine .sl m blk 0 cap ts.2 (fun i j=>(cQ[i*ts.2+j]?).getD undef) (fun _ gZ=>ho.sep b blk cap r1 gZ) q0 q5 (fun i e he=>q1 i e he) (fun i j e x he hx=>?_) (fun i j e x he hx=>?_) (fun i j e x he hx=>?_)
      ·obtain⟨v,p1,p2,p3⟩:=q7 i j e x he hx;rw[p1,Option.getD_some];exact mJ q3 _ v (by simpa using p1)
      ·obtain⟨v,p1,p2,p3⟩:=q7 i j e x he hx;simp only[p1,Option.getD_some];exact less p3
      ·obtain⟨v,p1,p2,p3⟩:=q7 i j e x he hx;simp only[p1,Option.getD_some];exact p2
     ·exact .slnil
   |_=>cases h
theorem az.ff{E:Env}{f:FuncId}{ds:List DV}{h:List af}{args:List AV}{R:DV->Prop}(H:az E f ds R)(nD:rf h=true)(hd:rk h args=some ds)(hg:xh args=true)(hr:∀ r,R r->F5 r=true):aB E f h args (fun a b=>∃ r,R r/\a=.d r/\b=h):=by
 unfold az at H;unfold aB;refine⟨H.1,oK nD,fun c vs h1 h2 h3=>?_⟩;subst h1;have iQ:uq E.G c.ak c.w:=fun g e aL=>by
  have hp:∀ p,VR c (.b9 e 0) p->VR ⟨fun _=>none,[],c.ak,c.w⟩ (.b9 e 0) p:=fun p hp=>by
   cases hp with
   |b9 _ _ blk o' fv k1 k2 k3 k4=>exact .b9 _ _ blk o' fv (fun hb=>k1 (.inl (wF.1 hb))) k2 k3 (fun j x hx=>wG ((k4 j x hx).mono fun b _ hn=>⟨fun hb=>hn (.inl hb),rfl⟩))
  exact hp _ (h2.fB g e aL)
 refine(H.2 c.ak c.w vs h2.bE iQ (F6 h2 (oK nD) hd hg h3)).mono fun e w' ⟨v,r,k1,k2,k3,k4⟩=>?_;obtain⟨q1,q2⟩:=h2.grow k4;exact⟨c.dI w',.d r,v,k1,rfl,⟨r,k2,rfl,rfl⟩,.d _ _ (TT (hr r k2) k3),q1,(Rel.refl c (oK nD)).step q2⟩
theorem TU{E:Env}{f:FuncId}{h0:List af}{args:List AV}{ds:List DV}{r:DV}{K:AV->List af->Prop}(H:az E f ds (· = r))(hd:rk h0 args=some ds)(hr:F5 r=true)(hg:xh args=true)(nD:rf h0=true)(hk:K (.d r) h0):wZ E f h0 args K :=
 sN (H.ff nD hd hg (fun _ e=>e ▸ hr)) fun a b ⟨r',e1,e2,e3⟩=>by subst e1;subst e2;subst e3;exact hk
end Go.aA
end
section
section
namespace Go.aA
open Go Go.RowKit
inductive kL (ops:Array Oper):Nat->Nat->Prop
 |one {j:Nat} {o:Oper} {e:Edge} (hj:ops[j]?=some o) (he:e∈o.after) (hb:Region.binds .any e=true):kL ops e.on j
 |step {i j:Nat} {o:Oper} {e:Edge} (h:kL ops i e.on) (hj:ops[j]?=some o) (he:e∈o.after) (hb:Region.binds .any e=true):kL ops i j
def F7(acc:List Nat)(o:Oper):Nat:=o.after.toList.foldl (fun m e=>if Region.binds .any e then m ||| 2 ^ e.on ||| acc.getD e.on 0 else m) 0
def bits:List Oper->List Nat->List Nat
 |[],acc=>acc
 |o::l,acc=>bits l (acc++[F7 acc o])
theorem TV{acc:List Nat}{o:Oper}{i:Nat}(h:(F7 acc o).testBit i=true):∃ e∈o.after,Region.binds .any e=true/\(i=e.on\/(acc.getD e.on 0).testBit i=true):=by
 have gen:∀ (l:List Edge) (m:Nat),(l.foldl (fun m e=>if Region.binds .any e then m ||| 2 ^ e.on ||| acc.getD e.on 0 else m) m).testBit i=true->m.testBit i=true\/∃ e∈l,Region.binds .any e=true/\(i=e.on\/(acc.getD e.on 0).testBit i=true):=by
  intro l
  induction l with
  |nil=>intro m h;exact .inl h
  |cons e l ih =>
   intro m h;rw[List.foldl_cons]at h;rcases ih _ h with h|⟨e',wM,hb⟩
   ·split at h
    ·rename_i hb;simp only[Nat.testBit_or,Bool.or_eq_true,Nat.testBit_two_pow,decide_eq_true_eq]at h;rcases h with(h|h)|h
     ·exact .inl h
     ·exact .inr ⟨e,List.mem_cons_self ..,hb,.inl h.symm⟩
     ·exact .inr ⟨e,List.mem_cons_self ..,hb,.inr h⟩
    ·exact .inl h
   ·exact .inr ⟨e',List.mem_cons_of_mem _ wM,hb⟩
 rcases gen _ _ h with h|⟨e,he,hb⟩
 ·simp at h
 ·exact⟨e,by simpa using he,hb⟩
theorem zK(ops:Array Oper):∀ (l:List Oper) (acc:List Nat),ops.toList.drop acc.length=l->(∀ j i,(acc.getD j 0).testBit i=true->kL ops i j)->∀ j i,((bits l acc).getD j 0).testBit i=true->kL ops i j
 |[],acc,_,ha=>ha
 |o::l,acc,hl,ha=>by
  have ho:ops[acc.length]?=some o:=by
   have:=congrArg (·[0]?) hl
   simpa using this
  refine zK ops l (acc++[F7 acc o]) (by rw[List.length_append,List.length_singleton,<- List.drop_drop,hl];rfl) (fun j i h=>?_);rcases Nat.lt_trichotomy j acc.length with hj|hj|hj
  ·rw[List.getD,List.getElem?_append_left hj]at h;exact ha j i h
  ·subst hj;rw[List.getD,List.getElem?_append_right (Nat.le_refl _),Nat.sub_self]at h;obtain⟨e,he,hb,h|h⟩:=TV (by simpa using h)
   ·subst h;exact .one ho he hb
   ·exact .step (ha _ _ h) ho he hb
  ·rw[List.getD,List.getElem?_eq_none (by simp;omega)]at h;simp at h
def tmpsOf(o:Op):List Nat:=o.operands.toList.filterMap fun | .tmp t=>some t|_=>none
def TW(ops:Array Oper):Option (Nat × Bool)->List Nat
 |none=>[]
 |some (j,_)=>match (ops[j]?).bind (·.dst)with
  |some d=>[d]
  |none=>[]
def ca(ops:Array Oper)(o:Oper):List Nat:=tmpsOf o.op++TW ops o.guard
def jA(ops:Array Oper)(a b:Oper):Bool:=(match a.dst with|some d=>bW d (b.dst.toList++ca ops b)|none=>false)||(match b.dst with|some d=>bW d (ca ops a)|none=>false)
def pO(ops:Array Oper)(m:Nat):Bool :=
 let bs:=bits ops.toList []
 (List.range ops.size).all fun j=>match ops[j]? with
  |none=>true
  |some oj=>(oj.after.toList.all fun e => !Region.binds .any e||decide (e.on<j))&&(List.range j).all fun i=>match ops[i]? with
   |none=>true
   |some oi=>(bs.getD j 0).testBit i||(decide (j<m) && !jA ops oi oj)
theorem Cu{d:Nat}:∀ {l:List Nat},bW d l=true↔d∈l
 |[]=>by simp[bW]
 |a::l=>by
  simp only[bW];split
  ·rename_i q;simp[Nat.eq_of_beq_eq_true q]
  ·rename_i q;have aM:d≠a:=fun e=>by rw[e,Nat.beq_refl]at q;cases q
   rw[Cu (l:=l)];simp[aM]
structure xi(ops:Array Oper)(m:Nat):Prop where
 low:∀ j o e,ops[j]?=some o->e∈o.after->Region.binds .any e=true->e.on<j
 pair:∀ i j oi oj,i<j->ops[i]?=some oi->ops[j]?=some oj->jA ops oi oj=true->kL ops i j
 ba:∀ i j oi oj,i<j->m<=j->ops[i]?=some oi->ops[j]?=some oj->kL ops i j
theorem TX{ops:Array Oper}{m:Nat}(h:pO ops m=true):xi ops m:=by
 have hb:=zK ops ops.toList [] rfl (fun j i h=>by simp at h);have aX:∀ j oj,ops[j]?=some oj->(oj.after.toList.all fun e => !Region.binds .any e||decide (e.on<j))=true/\∀ i oi,i<j->ops[i]?=some oi->((bits ops.toList []).getD j 0).testBit i=true\/(j<m/\jA ops oi oj=false):=fun j oj hj=>by
  have ai:j<ops.size:=(Array.getElem?_eq_some_iff.1 hj).1;have h1:=List.all_eq_true.1 h j (List.mem_range.2 ai);simp only[hj,Bool.and_eq_true]at h1;refine⟨h1.1,fun i oi hi ef=>?_⟩;have h2:=List.all_eq_true.1 h1.2 i (List.mem_range.2 hi);simp only[ef,Bool.or_eq_true,Bool.and_eq_true,decide_eq_true_eq,Bool.not_eq_true']at h2;exact h2
 refine⟨fun j o e hj he gZ=>?_,fun i j oi oj dA hi hj hc=>?_,fun i j oi oj dA hm hi hj=>?_⟩
 ·have:=List.all_eq_true.1 (aX j o hj).1 e (by simpa using he)
  simpa [gZ]using this
 ·rcases(aX j oj hj).2 i oi dA hi with h|⟨-,h⟩
  ·exact hb j i h
  ·rw[hc]at h;cases h
 ·rcases(aX j oj hj).2 i oi dA hi with h|⟨h,-⟩
  ·exact hb j i h
  ·omega
def cur:List (Oper × AV)->(Nat->Bool)->Nat->List AV->List AV
 |[],_,_,s=>s
 |(o,v)::l,L,i,s=>cur l L (i+1) (if L i then bM s o.dst v else s)
theorem mc:∀ (pl:List (Oper × AV)) (L:Nat->Bool) (i:Nat) (s:List AV),(cur pl L i s).length=s.length
 |[],_,_,_=>rfl
 |(o,v)::l,L,i,s=>by
  rw[cur,mc l];split
  ·cases o.dst<;>simp[bM]
  ·rfl
theorem F'{s:List AV}{d:Option Nat}{v:AV}{t:Nat}(h:d≠some t):(bM s d v)[t]?=s[t]? := by
 cases d with
 |none=>rfl
 |some d=>exact List.getElem?_set_ne (fun e=>h (by rw[e]))
theorem Lo{s s':List AV}{d:Option Nat}{v:AV}{t:Nat}(hl:s.length=s'.length)(h:s[t]?=s'[t]?):(bM s d v)[t]?=(bM s' d v)[t]? := by
 cases d with
 |none=>exact h
 |some d =>
  by_cases hd:d=t
  ·subst hd;simp only[bM,List.getElem?_set,hl,if_true]
  ·simp only[bM,List.getElem?_set_ne hd,h]
theorem rl{t:Nat}:∀ (pl:List (Oper × AV)) (L L':Nat->Bool) (i:Nat) (s s':List AV),s.length=s'.length->s[t]?=s'[t]? -> (∀ k o v,pl[k]?=some (o,v)->o.dst=some t->L (i+k)=L' (i+k))->(cur pl L i s)[t]?=(cur pl L' i s')[t]?
 |[],_,_,_,_,_,_,hs,_=>hs
 |(o,v)::l,L,L',i,s,s',hl,hs,hw=>by
  rw[cur,cur];have hlen:∀ (b:Bool) (q:List AV),(if b then bM q o.dst v else q).length=q.length:=fun b q=>by cases b<;>cases o.dst<;>simp[bM]
  refine rl l L L' (i+1) _ _ (by rw[hlen,hlen,hl]) ?_ (fun k o' v' hk hd=>by have:=hw (k+1) o' v' (by simpa using hk) hd;rwa [show i+(k+1)=i+1+k by omega]at this);by_cases hd:o.dst=some t
  ·have:=hw 0 o v rfl hd;rw[Nat.add_zero]at this;rw[this];split
   ·exact Lo hl hs
   ·exact hs
  ·split<;>split<;>simp only[F' hd,hs]
theorem kc:∀ (pl:List (Oper × AV)) (i:Nat) (s:List AV) (L:Nat->Bool),(∀ k,k<pl.length->L (i+k)=false)->cur pl L i s=s
 |[],_,_,_,_=>rfl
 |(o,v)::l,i,s,L,h=>by
  have h0:=h 0 (by simp);rw[Nat.add_zero]at h0;rw[cur,h0];exact kc l (i+1) s L (fun k hk=>by have:=h (k+1) (by simpa using hk);rwa [show i+(k+1)=i+1+k by omega]at this)
theorem Cv:∀ (pl:List (Oper × AV)) (i j:Nat) (s:List AV) (o:Oper) (v:AV),pl[j]?=some (o,v)->cur pl (fun k=>decide (k<i+j+1)) i s=bM (cur pl (fun k=>decide (k<i+j)) i s) o.dst v
 |[],_,_,_,_,_,h=>by simp at h
 |(o',v')::l,i,0,s,o,v,h=>by
  simp at h;obtain⟨rfl,rfl⟩:=h;rw[cur,cur];simp only[Nat.add_zero,Nat.lt_irrefl,decide_false,Bool.false_eq_true,if_false,Nat.lt_succ_self,decide_true,if_true];rw[kc l (i+1) _ _ (fun k _=>decide_eq_false (by omega)),kc l (i+1) s _ (fun k _=>decide_eq_false (by omega))]
 |(o',v')::l,i,j+1,s,o,v,h=>by
  rw[cur,cur];have e1:(decide (i<i+(j+1)+1))=true:=decide_eq_true (by omega);have e2:(decide (i<i+(j+1)))=true:=by simp
  simp only[e1,e2,if_true];have:=Cv l (i+1) j (bM s o'.dst v') o v (by simpa using h);rw[show i+(j+1)+1=i+1+j+1 by omega,show i+(j+1)=i+1+j by omega];exact this
def bY(keep:List Nat):Nat->List AV->List AV
 |_,[]=>[]
 |i,x::s=>(match bW i keep with|true=>x|false => .any)::bY keep (i+1) s
theorem Cw(keep:List Nat):∀ (i:Nat) (s:List AV),(bY keep i s).length=s.length
 |_,[]=>rfl
 |i,_::s=>by simp[bY,Cw keep (i+1) s]
theorem vb(keep:List Nat):∀ (i t:Nat) (s:List AV) (x:AV),(bY keep i s)[t]?=some x->x=.any\/(i+t∈keep/\s[t]?=some x)
 |_,_,[],_,h=>by simp[bY]at h
 |i,0,y::s,x,h=>by
  simp only[bY,List.getElem?_cons_zero,Option.some.injEq]at h;split at h
  ·rename_i q;subst h;exact .inr ⟨by simpa using Cu.1 q,rfl⟩
  ·exact .inl h.symm
 |i,t+1,y::s,x,h=>by
  simp only[bY,List.getElem?_cons_succ]at h;rcases vb keep (i+1) t s x h with h|⟨h1,h2⟩
  ·exact .inl h
  ·exact .inr ⟨by rwa [show i+(t+1)=i+1+t by omega],by simpa using h2⟩
theorem VS.mask{c:Cx}{s:List AV}{t:Array Value}(h:VS c s t){keep:List Nat}:VS c (bY keep 0 s) t:=by
 refine⟨by rw[Cw];exact h.1,fun i x v hx hv=>?_⟩;rcases vb _ 0 i _ x hx with rfl|⟨-,hx⟩
 ·exact .any v
 ·exact h.2 i x v hx hv
def ke(o:Oper):Bool:=match o.op,o.guard with
 | .extract _ _,none=>true
 | .move _,none=>true
 | .assign _,none=>true
 |_,_=>false
def dB(E:Env)(ops:Array Oper)(o:Oper)(s:List AV)(h:List af)(v:AV):Prop :=
 ∀ (c:Cx) (a:Act),aE E.G c->c.heap=h->a.defers=[]->VS c (bY (ca ops o) 0 s) a.tmps->∀ (j:Nat),ops[j]?=some o->∀ (K:Act->World->Prop) (Q:Exit->Act->World->Prop),
  (∀ (c':Cx) (u:Value),aE E.G c'->c'.heap=h->Step c c'->VR c' v u->K (a.put o.dst u) c'.w)->wpOp E.P ops Q j K a c.w
def dm(E:Env)(ops:Array Oper)(o:Oper)(s:List AV)(h:List af)(v:AV)(h':List af):Prop :=
 ∀ (c:Cx) (a:Act),aE E.G c->c.heap=h->a.defers=[]->VS c (bY (ca ops o) 0 s) a.tmps->∀ (j:Nat),ops[j]?=some o->∀ (K:Act->World->Prop) (Q:Exit->Act->World->Prop),
  (∀ (c':Cx) (u:Value),aE E.G c'->c'.heap=h'->Step c c'->VR c' v u->K (a.put o.dst u) c'.w)->wpOp E.P ops Q j K a c.w
def pP(E:Env)(o:Oper)(h:List af)(v:AV)(h':List af):Prop :=
 ∀ t,o.op=.alloc t->o.guard=none->v=.ptr h.length 0/\∃ i:bD,E.T[t]?=some i/\i.zero.length=i.size/\0<i.size/\h'=h++[.cells (i.zero.map .d)]
def kM(E:Env)(ops:Array Oper)(h:List af)(K:List AV->Prop):List Oper->List AV->Prop
 |[],s=>K s
 |o::l,s=>∃ v,dB E ops o s h v/\(ke o=true->∀ h',dB E ops o s h' v)/\kM E ops h K l (bM s o.dst v)
def gw(E:Env)(ops:Array Oper)(K:List AV->List af->Prop):List Oper->List AV->List af->Prop
 |[],s,h=>K s h
 |o::l,s,h=>∃ v h',dm E ops o s h v h'/\pP E o h v h'/\gw E ops K l (bM s o.dst v) h'
theorem kM.lay{E:Env}{ops:Array Oper}{h:List af}{K:List AV->Prop}:∀ {l:List Oper} {s:List AV},kM E ops h K l s->∃ pl:List (Oper × AV),pl.map (·.1)=l/\K (cur pl (fun k=>decide (k<pl.length)) 0 s)/\∀ j o v,pl[j]?=some (o,v)->dB E ops o (cur pl (fun k=>decide (k<j)) 0 s) h v/\(ke o=true->∀ h',dB E ops o (cur pl (fun k=>decide (k<j)) 0 s) h' v)
 |[],s,H=>⟨[],rfl,H,fun j o v hj=>by simp at hj⟩
 |o::l,s,H=>by
  obtain⟨v,h1,gr,H⟩:=H;obtain⟨pl,k1,k2,k3⟩:=kM.lay H;have shift:∀ (pl:List (Oper × AV)) (n i:Nat) (s:List AV),cur pl (fun k=>decide (k<n+1)) (i+1) s=cur pl (fun k=>decide (k<n)) i s:=by
   intro pl
   induction pl with
   |nil=>intro n i s;rfl
   |cons p pl ih =>
    intro n i s;obtain⟨o',v'⟩:=p;rw[cur,cur,ih]
    congr 1
    simp
  refine⟨(o,v)::pl,by simp[k1],?_,fun j o' v' hj=>?_⟩
  ·rw[cur];simp only[List.length_cons,Nat.zero_lt_succ,decide_true,if_true];rw[shift];exact k2
  ·cases j with
   |zero =>
    simp at hj;obtain⟨rfl,rfl⟩:=hj;rw[kc _ _ _ _ (fun k _=>decide_eq_false (by omega))];exact⟨h1,gr⟩
   |succ j =>
    have:=k3 j o' v' (by simpa using hj);rw[cur];simp only[Nat.zero_lt_succ,decide_true,if_true];rw[shift];exact this
section
variable {E:Env} {ops:Array Oper} {m:Nat}
def aR(listed:Array Bool)(i:Nat):Bool:=listed.getD i false
def DC(ops:Array Oper)(listed:Array Bool):Prop:=listed.size=ops.size/\∀ j o e,ops[j]?=some o->aR listed j=true->e∈o.after->Region.binds .any e=true->aR listed e.on=true
theorem DC.dep{listed:Array Bool}(hd:DC ops listed){i j:Nat}(h:kL ops i j)(hj:aR listed j=true):aR listed i=true:=by
 induction h with
 |one ho he hb=>exact hd.2 _ _ _ ho hj he hb
 |step h ho he hb ih=>exact ih (hd.2 _ _ _ ho hj he hb)
theorem DC.ready{listed:Array Bool}(hd:DC ops listed){i j:Nat}(hj:j∈Region.ready .any ops listed)(h:kL ops i j):aR listed i=true:=by
 obtain⟨-,o,ho,aX⟩:=mem_ready.1 hj;cases h with
 |one cV he hb=>rw[ho]at cV;cases cV;exact aX _ he hb
 |step h cV he hb=>rw[ho]at cV;cases cV;exact hd.dep h (aX _ he hb)
theorem DC.set{listed:Array Bool}(hd:DC ops listed){j:Nat}(hj:j∈Region.ready .any ops listed):DC ops (listed.setIfInBounds j true):=by
 refine⟨by simpa using hd.1,fun i o e hi hl he hb=>?_⟩;by_cases dA:j=i
 ·subst dA;obtain⟨-,o',cV,aX⟩:=mem_ready.1 hj;rw[hi]at cV;cases cV;exact getD_set_true (aX e he hb)
 ·have:aR listed i=true:=by unfold aR at hl ⊢;rwa [getD_set_ne false dA]at hl
  exact getD_set_true (hd.2 i o e hi this he hb)
theorem sS{listed:Array Bool}{j i:Nat}(hj:j<listed.size):aR (listed.setIfInBounds j true) i=(aR listed i||decide (i=j)):=by
 unfold aR;by_cases h:j=i
 ·subst h;simp[hj]
 ·rw[getD_set_ne false h];simp[Ne.symm h]
theorem mV{listed:Array Bool}(hd:DC ops listed){j:Nat}(hj:j∈Region.ready .any ops listed):aR listed j=false/\j<ops.size:=by
 obtain⟨h1,o,ho,-⟩:=mem_ready.1 hj;have ai:j<ops.size:=(Array.getElem?_eq_some_iff.1 ho).1;refine⟨?_,ai⟩;have:j<listed.size:=by rw[hd.1];exact ai
 unfold aR;simp[this]at h1 ⊢;exact h1
theorem vc(hc:xi ops m){listed:Array Bool}(hd:DC ops listed){j:Nat}(hj:j<ops.size)(hn:aR listed j=false):∃ i,i<=j/\i∈Region.ready .any ops listed:=by
 induction j using Nat.strongRecOn with
 |ind j ih =>
  by_cases aX:∀ i,i<j->aR listed i=true
  ·refine⟨j,Nat.le_refl _,mem_ready.2 ⟨?_,ops[j],by simp[hj],fun e he hb=>aX _ (hc.low j _ e (by simp[hj]) he hb)⟩⟩;have:j<listed.size:=by rw[hd.1];exact hj
   unfold aR at hn;simp[this]at hn ⊢;exact hn
  ·have:∃ i,i<j/\aR listed i=false:=by
    apply Classical.byContradiction;intro aM;exact aX fun i hi=>by
     cases hl:aR listed i with
     |true=>rfl
     |false=>exact absurd ⟨i,hi,hl⟩ aM
   obtain⟨i,hi,hl⟩:=this;obtain⟨k,hk,hr⟩:=ih i hi (by omega) hl;exact⟨k,by omega,hr⟩
theorem Ga(hc:xi ops m){Q:Exit->Act->World->Prop}{Kf:List AV->List af->Prop}{c0:Cx}
  (hQ:∀ (a:Act) (c:Cx) (s:List AV) (h:List af),Kf s h->aE E.G c->c.heap=h->a.defers=[]->VS c s a.tmps->Step c0 c->Q .normal a c.w) :
  ∀ (l:List Oper) (j:Nat) (s:List AV) (h:List af),m<=j->ops.toList.drop j=l->j<=ops.size->gw E ops Kf l s h->∀ (listed:Array Bool) (a:Act) (c:Cx),aE E.G c->c.heap=h->a.defers=[]->VS c s a.tmps->Step c0 c ->
   DC ops listed->(∀ i,aR listed i=decide (i<j))->∀ f,ops.size-j<=f->wpAny E.P .any ops Q f listed a c.w
 |[],j,s,h,hm,hl,hj,H,listed,a,c,h1,h2,h3,h4,h5,hd,dE,f,hf=>by
  have Cy:j=ops.size:=by
   have:=congrArg List.length hl;simp at this;omega
  subst Cy;have sT:Region.ready .any ops listed=[]:=by
   apply List.eq_nil_iff_forall_not_mem.2;intro i hi;obtain⟨k1,k2⟩:=mV hd hi;rw[dE]at k1;simp at k1;omega
  cases f with
  |zero=>exact⟨sT,hQ a c s h H h1 h2 h3 h4 h5⟩
  |succ f=>exact⟨fun _=>hQ a c s h H h1 h2 h3 h4 h5,fun i hi=>by rw[sT]at hi;cases hi⟩
 |o::l,j,s,h,hm,hl,hj,H,listed,a,c,h1,h2,h3,h4,h5,hd,dE,f,sF=>by
  have Cy:j<ops.size:=by
   have:=congrArg List.length hl;simp at this;omega
  have ho:ops[j]?=some o:=by
   have:=congrArg (·[0]?) hl
   simpa using this
  have TY:∀ i,i∈Region.ready .any ops listed->i=j:=fun i hi=>by
   obtain⟨k1,k2⟩:=mV hd hi;rw[dE]at k1;simp at k1;rcases Nat.lt_or_ge j i with ai|aL
   ·have:=hd.ready hi (hc.ba j i o ops[i] ai (by omega) ho (by simp[k2]));rw[dE]at this;simp at this
   ·omega
  obtain⟨v,h',hf,-,H⟩:=H;obtain⟨f,rfl⟩:∃ g,f=g+1:=⟨f-1,by omega⟩;refine⟨fun hr=>?_,fun i hi=>?_⟩
  ·obtain⟨i,-,hi⟩:=vc hc hd Cy (by rw[dE];simp);rw[hr]at hi;cases hi
  ·obtain rfl:=TY i hi;refine hf c a h1 h2 h3 h4.mask i ho _ _ (fun c' u k1 k2 k3 k4=>?_);refine Ga hc hQ l (i+1) (bM s o.dst v) h' (by omega) (by rw[<- List.drop_drop,hl];rfl) (by omega) H _ _ c' k1 k2 ?_ (VS.bM (k3.vs h4) o.dst k4) (h5.trans k3) (hd.set hi) (fun k=>?_) f (by omega)
   ·cases iz:o.dst<;>simp[Act.put,h3]
   ·rw[sS (by rw[hd.1];exact Cy),dE];by_cases hk:k=i
    ·subst hk;simp
    ·simp[hk];omega
def ew(L:Nat->Bool):Nat->Nat
 |0=>0
 |n+1=>ew L n+if L n then 0 else 1
theorem ve{L L':Nat->Bool}{j:Nat}(h:∀ i,i≠j->L' i=L i)(hj:L j=false)(dL:L' j=true):∀ n,(j<n->ew L' n+1=ew L n)/\(n<=j->ew L' n=ew L n)
 |0=>⟨fun h=>by omega,fun _=>rfl⟩
 |n+1=>by
  obtain⟨h1,h2⟩:=ve h hj dL n;simp only[ew];by_cases hn:n=j
  ·subst hn;refine⟨fun _=>?_,fun h=>by omega⟩;rw[h2 (Nat.le_refl _),hj,dL];simp
  ·rw[h n hn];exact⟨fun hl=>by have:=h1 (by omega);omega,fun hl=>by rw[h2 (by omega)]⟩
theorem Gb{L:Nat->Bool}{j:Nat}(hj:L j=false):∀ n,j<n->0<ew L n
 |0,h=>by omega
 |n+1,h=>by
  simp only[ew];by_cases hn:n=j
  ·subst hn;rw[hj];simp
  ·have:=Gb hj n (by omega);omega
theorem Lp(m:Nat):∀ n,m<=n->ew (fun i=>decide (i<m)) n=n-m
 |0,h=>by simp[ew]
 |n+1,h=>by
  simp only[ew];by_cases hm:m<=n
  ·rw[Lp m n hm];simp[show ¬ n<m by omega];omega
  ·obtain rfl:m=n+1:=by omega
   have:∀ k,k<=n->ew (fun i=>decide (i<n+1)) k=0:=by
    intro k
    induction k with
    |zero=>intro _;rfl
    |succ k ih=>intro hk;simp only[ew,ih (by omega)];simp;omega
   rw[this n (Nat.le_refl _)];simp
theorem Lq{L L':Nat->Bool}(h:∀ i,L i=L' i):∀ n,ew L n=ew L' n
 |0=>rfl
 |n+1=>by simp only[ew,Lq h n,h n]
theorem sU{a b:Oper}{d:Nat}(ha:a.dst=some d)(hb:d∈b.dst.toList++ca ops b):jA ops a b=true:=by
 simp only[jA,ha,Cu.2 hb,Bool.true_or]
theorem Lr{a b:Oper}{d:Nat}(hb:b.dst=some d)(ha:d∈ca ops a):jA ops a b=true:=by
 simp only[jA,hb,Cu.2 ha,Bool.or_true]
theorem TZ(hc:xi ops m)(oL:m<=ops.size){Q:Exit->Act->World->Prop}{Kf:List AV->List af->Prop}{c0:Cx}{s0:List AV}{h:List af}
  (hQ:∀ (a:Act) (c:Cx) (s:List AV) (h:List af),Kf s h->aE E.G c->c.heap=h->a.defers=[]->VS c s a.tmps->Step c0 c->Q .normal a c.w)
  (pl:List (Oper × AV)) (ju:pl.map (·.1)=ops.toList.take m) (fJ:gw E ops Kf (ops.toList.drop m) (cur pl (fun k=>decide (k<pl.length)) 0 s0) h) (rm:∀ j o v,pl[j]?=some (o,v)->dB E ops o (cur pl (fun k=>decide (k<j)) 0 s0) h v) :
  ∀ (f:Nat) (listed:Array Bool) (a:Act) (c:Cx),aE E.G c->c.heap=h->a.defers=[]->VS c (cur pl (aR listed) 0 s0) a.tmps->Step c0 c->DC ops listed->(∀ i,m<=i->aR listed i=false)->ew (aR listed) ops.size<=f->wpAny E.P .any ops Q f listed a c.w:=by
 have hlen:pl.length=m:=by
  have:=congrArg List.length ju;simp at this;omega
 have dH:∀ j o v,pl[j]?=some (o,v)->ops[j]?=some o/\j<m:=fun j o v hj=>by
  have Ls:j<m:=by rw[<- hlen];exact a7 hj
  have:=congrArg (·[j]?) ju;simp only[List.getElem?_map,hj,Option.map_some,List.getElem?_take,Ls,if_true]at this;exact⟨by simpa using this.symm,Ls⟩
 intro f
 induction f with
 |zero =>
  intro listed a c h1 h2 h3 h4 h5 hd hs iR;by_cases aX:∀ i,i<ops.size->aR listed i=true
  ·have hm:m=ops.size:=by
    rcases Nat.lt_or_ge m ops.size with ai|aL
    ·have:=hs m (Nat.le_refl _);rw[aX m ai]at this;cases this
    ·omega
   have dE:∀ i,aR listed i=decide (i<m):=fun i=>by
    rcases Nat.lt_or_ge i m with hi|hi
    ·rw[aX i (by omega)];simp[hi]
    ·rw[hs i hi];simp;omega
   refine Ga hc hQ _ m _ h (Nat.le_refl _) rfl oL fJ listed a c h1 h2 h3 ?_ h5 hd dE 0 (by omega);have:cur pl (aR listed) 0 s0=cur pl (fun k=>decide (k<pl.length)) 0 s0:=by
    congr 1
    funext i;rw[dE,hlen]
   rw[<- this];exact h4
  ·exfalso;apply aX;intro i hi;cases hl:aR listed i with
   |true=>rfl
   |false=>have:=Gb hl ops.size hi;omega
 |succ f ih =>
  intro listed a c h1 h2 h3 h4 h5 hd hs iR;by_cases aX:∀ i,i<m->aR listed i=true
  ·have dE:∀ i,aR listed i=decide (i<m):=fun i=>by
    rcases Nat.lt_or_ge i m with hi|hi
    ·rw[aX i hi];simp[hi]
    ·rw[hs i hi];simp;omega
   have dW:ew (aR listed) ops.size=ops.size-m:=by rw[Lq dE,Lp m _ oL]
   refine Ga hc hQ _ m _ h (Nat.le_refl _) rfl oL fJ listed a c h1 h2 h3 ?_ h5 hd dE (f+1) (by omega);have:cur pl (aR listed) 0 s0=cur pl (fun k=>decide (k<pl.length)) 0 s0:=by
    congr 1
    funext i;rw[dE,hlen]
   rw[<- this];exact h4
  ·have:∃ i,i<m/\aR listed i=false:=by
    apply Classical.byContradiction;intro aM;exact aX fun i hi=>by
     cases hl:aR listed i with
     |true=>rfl
     |false=>exact absurd ⟨i,hi,hl⟩ aM
   obtain⟨i0,fQ,jB⟩:=this;refine⟨fun hr=>?_,fun i hi=>?_⟩
   ·obtain⟨i,-,hi⟩:=vc hc hd (by omega) jB;rw[hr]at hi;cases hi
   obtain⟨dE,dX⟩:=mV hd hi;have Gc:i<m:=by
    rcases Nat.lt_or_ge i m with h|h
    ·exact h
    ·have:=hd.ready hi (hc.ba i0 i ops[i0] ops[i] (by omega) h (by simp) (by simp[dX]));rw[jB]at this;cases this
   obtain⟨⟨o,v⟩,dj⟩:∃ p,pl[i]?=some p:=⟨pl[i]'(by omega),by simp⟩;obtain⟨ef,-⟩:=dH i o v dj;have wr:∀ k o' v',pl[k]?=some (o',v')->(k<i->jA ops o' o=true->aR listed k=true)/\(i<k->jA ops o o'=true->aR listed k=false):=fun k o' v' hk=>by
    obtain⟨aO,-⟩:=dH k o' v' hk;refine⟨fun ai vf=>hd.ready hi (hc.pair k i o' o ai aO ef vf),fun ai vf=>?_⟩;cases hl:aR listed k with
    |false=>rfl
    |true=>have:=hd.dep (hc.pair i k o o' ai ef aO vf) hl;rw[dE]at this;cases this
   have kN:VS c (bY (ca ops o) 0 (cur pl (fun k=>decide (k<i)) 0 s0)) a.tmps:=by
    refine⟨by rw[Cw,mc];have:=h4.1;rwa [mc]at this,fun t x u hx hu=>?_⟩;rcases vb _ 0 t _ x hx with rfl|⟨hk,hx⟩
    ·exact .any u
    ·rw[Nat.zero_add]at hk;refine h4.2 t x u ?_ hu;rw[<- hx];refine rl pl _ _ 0 s0 s0 rfl rfl (fun k o' v' gp fT=>?_);rw[Nat.zero_add];rcases Nat.lt_trichotomy k i with ai|rfl|qS
     ·rw[(wr k o' v' gp).1 ai (sU fT (List.mem_append_right _ hk))];simp[ai]
     ·rw[dE];simp
     ·rw[(wr k o' v' gp).2 qS (Lr fT hk)];simp;omega
   refine rm i o v dj c a h1 h2 h3 kN i ef _ _ (fun c' u k1 k2 k3 k4=>?_);have bT:i<listed.size:=by rw[hd.1];exact dX
   have cP:=fun q=>sS (i:=q) bT;refine ih _ _ c' k1 k2 ?_ ?_ (h5.trans k3) (hd.set hi) (fun q hq=>by rw[cP,hs q hq];simp;omega) ?_
   ·cases iz:o.dst<;>simp[Act.put,h3]
   ·refine⟨by rw[mc];have:=h4.1;rw[mc]at this;cases iz:o.dst<;>simp[Act.put,this],fun t x u' hx qO=>?_⟩;by_cases eE:o.dst=some t
    ·have e1:(cur pl (aR (listed.setIfInBounds i true)) 0 s0)[t]?=(cur pl (fun k=>decide (k<0+i+1)) 0 s0)[t]? := by
      refine rl pl _ _ 0 s0 s0 rfl rfl (fun k o' v' gp fT=>?_);rw[Nat.zero_add,Nat.zero_add,cP];rcases Nat.lt_trichotomy k i with ai|rfl|qS
      ·rw[(wr k o' v' gp).1 ai (sU fT (List.mem_append_left _ (by simp[eE])))];simp;omega
      ·simp
      ·rw[(wr k o' v' gp).2 qS (sU eE (List.mem_append_left _ (by simp[fT])))];simp;omega
     rw[e1,Cv pl 0 i s0 o v dj,eE]at hx;have jC:t<(cur pl (fun k=>decide (k<0+i)) 0 s0).length:=by
      have:=a7 hx
      simpa [bM]using this
     rw[bM,List.getElem?_set_self jC]at hx;cases hx;have Gd:t<a.tmps.size:=by rw[<- h4.1,mc];rwa [mc]at jC
     have vg:(a.tmps.setIfInBounds t u)[t]?=some u':=by simpa [Act.put,eE]using qO
     rw[Array.getElem?_setIfInBounds_self_of_lt Gd]at vg;cases vg;exact k4
    ·have e1:(cur pl (aR (listed.setIfInBounds i true)) 0 s0)[t]?=(cur pl (aR listed) 0 s0)[t]? := by
      refine rl pl _ _ 0 s0 s0 rfl rfl (fun k o' v' gp fT=>?_);rw[Nat.zero_add,cP];have:k≠i:=fun e=>by
       subst e;rw[dj]at gp;cases gp;exact eE fT
      simp[this]
     rw[e1]at hx;refine k3.vr (h4.2 t x u' hx ?_);cases iz:o.dst with
     |none=>simpa [Act.put,iz]using qO
     |some d =>
      rw[iz]at eE;have aM:d≠t:=fun e=>eE (by rw[e])
      simpa [Act.put,iz,Array.getElem?_setIfInBounds_ne aM]using qO
   ·have:=(ve (L:=aR listed) (L':=aR (listed.setIfInBounds i true)) (j:=i) (fun q hq=>by rw[cP];simp[hq]) dE (by rw[cP];simp) ops.size).1 dX;omega
end
end Go.aA
end
section
namespace Go.aA
open Go Go.RowKit
section
variable {E:Env} {ae:FuncId} {R:bZ} {ops:Array Oper} {s:List AV} {h:List af}
theorem AW.draw{f0:FuncId}{cls:List cu}{id m:Nat}{k:List aI}(hm:E.P.follows .mixedOrders=true)(kf:pO ops m=true)(oL:m<=ops.size)
  (H:kM E ops h (fun s'=>gw E ops (fun s2 h2=>AW E f0 ⟨⟨ae,none,[]⟩,k,s2⟩ cls h2 R) (ops.toList.drop m) s' h) (ops.toList.take m) s):AW E f0 ⟨⟨ae,none,[]⟩,.code (.region id ops true)::k,s⟩ cls h R:=by
 unfold AW;intro c0 c t ts h0 h1 h2 h3 hr cb h4 h5 cs;obtain⟨pl,p1,p2,p3⟩:=kM.lay H
 let Q:Exit->Act->World->Prop:=fun e a w=>e=.normal/\∃ (c':Cx) (s':List AV) (h':List af),AW E f0 ⟨⟨ae,none,[]⟩,k,s'⟩ cls h' R/\aE E.G c'/\c'.heap=h'/\a.defers=[]/\VS c' s' a.tmps/\Step c c'/\w=c'.w
 have hx:Proofs.YtcmnpelmmekdkaaGreatDoor.Ext c.w { c.w with drawn:=c.w.drawn+1 }:=⟨rfl,rfl,rfl,Nat.le_refl _,fun _ _=>rfl⟩;obtain⟨g1,g2⟩:=h3.grow hx;have Ge:(Code.region id ops true).wp E.P Q ⟨t,[]⟩ c.w:=by
  refine wp_region_any hm ?_;refine TZ (E:=E) (TX kf) oL (c0:=c) (s0:=s) (h:=h) (Kf:=fun s2 h2=>AW E f0 ⟨⟨ae,none,[]⟩,k,s2⟩ cls h2 R) (fun a c' s' h' hK r1 r2 r3 r4 r5=>⟨rfl,c',s',h',hK,r1,r2,r3,r4,r5,rfl⟩) pl p1 p2 (fun j o v hj=>(p3 j o v hj).1) ops.size (Array.replicate ops.size false) ⟨t,[]⟩ (c.dI { c.w with drawn:=c.w.drawn+1 }) g1 h2 rfl ?_ g2 ?_ ?_ ?_
  ·have:cur pl (aR (Array.replicate ops.size false)) 0 s=s:=kc pl 0 s _ (fun i _=>by unfold aR;simp[Array.getElem?_replicate];split<;>rfl);rw[this];exact g2.vs h4
  ·exact⟨by simp,fun j o e _ hl=>by unfold aR at hl;simp[Array.getElem?_replicate]at hl;split at hl<;>cases hl⟩
  ·intro i _;unfold aR;simp[Array.getElem?_replicate];split<;>rfl
  ·have:∀ n,ew (aR (Array.replicate ops.size false)) n<=n:=by
    intro n
    induction n with
    |zero=>exact Nat.le_refl _
    |succ n ih=>simp only[ew];split<;>omega
   exact this _
 obtain⟨e,a',w',⟨rfl,c',s',h',hA,r1,r2,r3,r4,r5,rfl⟩,Gf⟩:=Ge (bf ⟨ae,none,[]⟩) (k.map aI.bS) (fq cls ts++cs);unfold AW at hA;obtain⟨c2,fr,r,v,q1,q2,q3,uw,q4,q5,q6⟩:=hA c0 c' a'.tmps ts h0 (ee h1) r2 r1 (hr.step r5) (cb.step h3 r5) r4 (r5.cr h5) cs;refine⟨c2,fr,r,v,q1,q2,q3,uw,?_,q5,q6⟩;have zo:a'=⟨a'.tmps,[]⟩:=by cases a';simp only at r3;subst r3;rfl
 have:Steps E.P (lone ((bf ⟨ae,none,[]⟩).at ⟨t,[]⟩ (.code (.region id ops true)::k.map aI.bS)) (fq cls ts++cs) c.w) (lone ((bf ⟨ae,none,[]⟩).at a' (k.map aI.bS)) (fq cls ts++cs) c'.w):=Gf;rw[zo]at this;exact this.trans q4
theorem dB.of{o:Oper}{v:AV}(hw:iF ops o (bY (ca ops o) 0 s) true)(ho:aZ E o.op (bY (ca ops o) 0 s) h v h):dB E ops o s h v:=fun c a h1 h2 _ h4 j hj K Q hK=>by
 obtain⟨c',u,k1,k2,k3,k4,k5⟩:=ho o c a rfl h2 h1 h4;unfold wpOp;simp only[hj,hw c a.tmps h4,if_true];left;have:=hK c' u k3 k2 k5 k4;unfold Oper.wp;rcases k1 with k1|⟨k1,rfl⟩
 ·rw[k1];exact this
 ·rw[k1];exact this
theorem dB.skip{o:Oper}(hw:iF ops o (bY (ca ops o) 0 s) false):dB E ops o s h (.d .undef):=fun c a h1 h2 _ h4 j hj K Q hK=>by
 unfold wpOp;simp only[hj,hw c a.tmps h4,Bool.false_eq_true,if_false];exact hK c Go.undef h1 h2 (Step.refl c h1.bE) (.d _ _ .undef)
theorem dm.of{o:Oper}{v:AV}{h':List af}(hw:iF ops o (bY (ca ops o) 0 s) true)(ho:aZ E o.op (bY (ca ops o) 0 s) h v h'):dm E ops o s h v h':=fun c a h1 h2 _ h4 j hj K Q hK=>by
 obtain⟨c',u,k1,k2,k3,k4,k5⟩:=ho o c a rfl h2 h1 h4;unfold wpOp;simp only[hj,hw c a.tmps h4,if_true];left;have:=hK c' u k3 k2 k5 k4;unfold Oper.wp;rcases k1 with k1|⟨k1,rfl⟩
 ·rw[k1];exact this
 ·rw[k1];exact this
theorem dm.skip{o:Oper}(hw:iF ops o (bY (ca ops o) 0 s) false):dm E ops o s h (.d .undef) h:=fun c a h1 h2 _ h4 j hj K Q hK=>by
 unfold wpOp;simp only[hj,hw c a.tmps h4,Bool.false_eq_true,if_false];exact hK c Go.undef h1 h2 (Step.refl c h1.bE) (.d _ _ .undef)
theorem Lt{s:List AV}{o:Oper}{fx:Operand}{args:Array Operand}{ts:Array TypeId}{f:FuncId}{a1 a2 av:List AV}{ds:List DV}{r:DV}(ho:o.op=.call { callee := .value fx,args:=args,argTypes:=ts })
  (hf:bh E.G s fx (.fn (.func f) a1 a2)) (ha:iw E.G s args.toList av) (hd:a1++av++a2=ds.map .d) (hc:az E f ds (· = r)) {c:Cx} {a:Act} (h1:aE E.G c) (h4:VS c s a.tmps) {K:Act->World->Prop} {Q:Exit->Act->World->Prop}
  (hK:∀ (c':Cx) (u:Value),aE E.G c'->c'.heap=c.heap->Step c c'->VR c' (.d r) u->K (a.put o.dst u) c'.w):o.wp E.P a c.w K Q:=by
 unfold az at hc;obtain⟨v1,v2,e1,e2,e3⟩:=l8 (hf c a h1 h4);have e4:=ha c a h1 h4;have e5:=(e2.append e4).append e3;rw[hd]at e5;have eU:∀ b,c.bad b->b<c.w.heap.size:=fun b hb=>hb.elim (h1.bE b) fun⟨j,n,hj⟩=>(h1.bI j b n hj).1;have yU:uq E.G c.bad c.w:=fun g e hg=>by
  have hp:∀ p,VR c (.b9 e 0) p->VR ⟨fun _=>none,[],c.bad,c.w⟩ (.b9 e 0) p:=fun p hp=>by
   cases hp with
   |b9 _ _ blk o' fv k1 k2 k3 k4=>exact .b9 _ _ blk o' fv (fun hb=>k1 (wF.1 hb)) k2 k3 (fun j x hx=>wG (k4 j x hx))
  exact hp _ (h1.fB g e hg)
 have jf:=hc.2 c.bad c.w _ eU yU ⟨by simpa using e5.1,e5.py⟩;have cW:=yT (P:=E.P) (w:=c.w) (a:=a) ho e1 hc.1;have jZ:(v1.toArray++args.map a.eval++v2.toArray)=(v1++args.toList.map a.eval++v2).toArray:=by
  apply Array.ext';simp
 rw[jZ]at cW;unfold Oper.wp;rw[cW,Oper.upon_enter];refine jf.mono fun e w' he=>?_;obtain⟨v,r',rfl,rfl,hv,hx⟩:=he;obtain⟨k1,k2⟩:=h1.grow hx;exact hK (c.dI w') v k1 rfl k2 (.d _ _ hv)
theorem dB.call{o:Oper}{fx:Operand}{args:Array Operand}{ts:Array TypeId}{f:FuncId}{a1 a2 av:List AV}{ds:List DV}{r:DV}(hw:iF ops o (bY (ca ops o) 0 s) true)(ho:o.op=.call { callee := .value fx,args:=args,argTypes:=ts })
  (hf:bh E.G (bY (ca ops o) 0 s) fx (.fn (.func f) a1 a2)) (ha:iw E.G (bY (ca ops o) 0 s) args.toList av) (hd:a1++av++a2=ds.map .d) (hc:az E f ds (· = r)):dB E ops o s h (.d r):=fun c a h1 h2 _ h4 j hj K Q hK=>by
 unfold wpOp;simp only[hj,hw c a.tmps h4,if_true];left;exact Lt ho hf ha hd hc h1 h4 fun c' u k1 k2 k3 k4=>hK c' u k1 (k2.trans h2) k3 k4
theorem dm.call{o:Oper}{fx:Operand}{args:Array Operand}{ts:Array TypeId}{f:FuncId}{a1 a2 av:List AV}{ds:List DV}{r:DV}(hw:iF ops o (bY (ca ops o) 0 s) true)(ho:o.op=.call { callee := .value fx,args:=args,argTypes:=ts })
  (hf:bh E.G (bY (ca ops o) 0 s) fx (.fn (.func f) a1 a2)) (ha:iw E.G (bY (ca ops o) 0 s) args.toList av) (hd:a1++av++a2=ds.map .d) (hc:az E f ds (· = r)):dm E ops o s h (.d r) h:=fun c a h1 h2 _ h4 j hj K Q hK=>by
 unfold wpOp;simp only[hj,hw c a.tmps h4,if_true];left;exact Lt ho hf ha hd hc h1 h4 fun c' u k1 k2 k3 k4=>hK c' u k1 (k2.trans h2) k3 k4
theorem dm.oI{o:Oper}{fx:Operand}{args:Array Operand}{ts:Array TypeId}{f:FuncId}{a1 a2 av:List AV}{ah:List Nat}{r:AV}{h1:List af}(hw:iF ops o (bY (ca ops o) 0 s) true)(ho:o.op=.call { callee := .value fx,args:=args,argTypes:=ts })
  (hf:bh E.G (bY (ca ops o) 0 s) fx (.fn (.func f) a1 a2)) (ha:iw E.G (bY (ca ops o) 0 s) args.toList av) (hc:aB E f (ka ah h) ((a1++av++a2).map (lC ah h)) (fun a b=>a=r/\b=h1)) (hn:ah.Nodup) (ai:∀ j∈ah,j<h.length):dm E ops o s h (kb ah h r) (fS ah h h1):=fun c a k1 h2 _ h4 j hj K Q hK=>by
 unfold wpOp;simp only[hj,hw c a.tmps h4,if_true];left;obtain⟨v1,v2,e1,e2,e3⟩:=l8 (hf c a k1 h4);have e4:=ha c a k1 h4;have e5:=(e2.append e4).append e3;have hb:qN E.P f:=by unfold aB at hc;exact hc.1
 have jf:=hc.at (c:=c) hn ai h2 k1 e5;have cW:=yT (P:=E.P) (w:=c.w) (a:=a) ho e1 hb;have jZ:(v1.toArray++args.map a.eval++v2.toArray)=(v1++args.toList.map a.eval++v2).toArray:=by
  apply Array.ext';simp
 rw[jZ]at cW;unfold Oper.wp;rw[cW,Oper.upon_enter];refine jf.mono fun e w' he=>?_;obtain⟨c',r',gr,v,rfl,rfl,⟨rfl,rfl⟩,q1,q2,q3,q4⟩:=he;exact hK c' v q3 q1 q4 q2
end
@[irreducible] def pQ (E : Env) (f : FuncId) (ds : List DV) (K : DV -> Prop) : Prop := ∃ r, az E f ds (· = r) /\ K r
theorem bl{E:Env}{f:FuncId}{ds:List DV}{K:DV->Prop}{r:DV}(h:az E f ds (· = r))(hk:K r):pQ E f ds K:=by unfold pQ;exact⟨r,h,hk⟩
@[irreducible] def Cz (E : Env) (f : FuncId) (h0 : List af) (args : List AV) (K : AV -> List af -> Prop) : Prop := ∃ r h1, aB E f h0 args (fun a b => a = r /\ b = h1) /\ K r h1
theorem oM{E:Env}{f:FuncId}{h0:List af}{args:List AV}{K:AV->List af->Prop}{r:AV}{h1:List af}(H:aB E f h0 args (fun a b=>a=r/\b=h1))(hk:K r h1):Cz E f h0 args K:=by unfold Cz;exact⟨r,h1,H,hk⟩
def sV(E:Env)(f:FuncId)(fe:List AV)(h:List af)(stop:Prop)(k:AV->List af->Prop):Prop :=
 sM h fe [] fun FM=>uR h 20 0 FM fun ah=>qZ h 0 fun n=>match zu n ah with
  |true=>B8 ah h fun h0=>jy (B7 ah h) fe fun FN=>Cz E f h0 FN fun r h1=>uO ah h r fun v=>uP ah h h1 fun h'=>k v h'
  |false=>stop
theorem Lu{E:Env}{f:FuncId}{fe:List AV}{h:List af}{stop:Prop}{k:AV->List af->Prop}(H:sV E f fe h stop k):stop\/∃ (ah:List Nat) (r:AV) (h1:List af),
  aB E f (ka ah h) (fe.map (lC ah h)) (fun a b=>a=r/\b=h1)/\ah.Nodup/\(∀ j∈ah,j<h.length)/\k (kb ah h r) (fS ah h h1):=by
 unfold sV at H;obtain⟨s0,H⟩:=w6 H;obtain⟨ah,H⟩:=zw H;rw[wV,Nat.zero_add]at H;split at H
 ·rename_i q;obtain⟨h1,h2⟩:=FL q;rw[KT,pK (KS ah h)]at H;unfold Cz at H;obtain⟨r,hp,h3,h4⟩:=H;rw[Cb,Cd]at h4;exact .inr ⟨ah,r,hp,h3,h1,h2,h4⟩
 ·exact .inl H
def kg:Op->Bool
 | .box .. => false
 | .alloc .. => false
 | .store .. => false
 | .makeSlice .. => false
 | .makeMap .. => false
 | .mapUpdate .. => false
 | .call { callee := .builtin .append,.. }=>false
 |_=>true
def sW{α:Sort _}(keep:List Nat):Nat->List AV->(List AV->α)->α
 |_,[],k=>k []
 |i,x::s,k=>match bW i keep with
  |true=>sW keep (i+1) s fun s'=>k (x::s')
  |false=>sW keep (i+1) s fun s'=>k (.any::s')
theorem zL{α:Sort _}(keep:List Nat):∀ (i:Nat) (s:List AV) (k:List AV->α),sW keep i s k=k (bY keep i s)
 |_,[],_=>rfl
 |i,x::s,k=>by
  simp only[sW,bY];split<;>rename_i q<;>rw[zL keep (i+1)]<;>simp only[q]
@[irreducible] def cg (E : Env) (ae : FuncId) (R : bZ) (ops : Array Oper) (k : List aI) (FP : List Nat) (pre ba : List Oper) (s : List AV) (h : List af) : Prop :=
 kM E ops h (fun s'=>gw E ops (fun s2 h2=>aa E ae R [] k s2 h2) ba s' h) pre s
@[irreducible] def cI (E : Env) (ae : FuncId) (R : bZ) (ops : Array Oper) (k : List aI) (FP : List Nat) (ba : List Oper) (s : List AV) (h : List af) : Prop :=
 gw E ops (fun s2 h2=>aa E ae R [] k s2 h2) ba s h
def me(E:Env)(ae:FuncId)(R:bZ)(ops:Array Oper)(k:List aI):Nat->List Nat->List Oper->List Oper->List AV->List af->Prop
 |0,lits,pre,ba,s,h=>cg E ae R ops k lits pre ba s h
 |n+1,lits,pre,ba,s,h =>
  match pre with
  |[]=>cI E ae R ops k lits ba s h
  |o::l=>sW (ca ops o) 0 s fun so =>
   let go:Prop:=match kg o.op with
    |true=>fo E.T E.G o.op so h (kG E o.op so (gu E o.op so h (jz E.G so o (cg E ae R ops k lits pre ba s h) fun f fe=>mI fe (cg E ae R ops k lits pre ba s h) fun ds=>pQ E f ds fun v=>bL s o.dst (.d v) fun s'=>cg E ae R ops k lits l ba s' h)
      fun v _=>bL s o.dst v fun s'=>cg E ae R ops k lits l ba s' h)
      fun v=>bL s o.dst v fun s'=>me E ae R ops k n lits l ba s' h)
     fun v _=>bL s o.dst v fun s'=>me E ae R ops k n lits l ba s' h
    |false=>cg E ae R ops k lits pre ba s h
   sO ops o.guard go (cg E ae R ops k lits pre ba s h) fun d b=>aY so d (cg E ae R ops k lits pre ba s h) fun
    | .d (.bool t)=>match bW d lits with
     |false=>lD t (fI s d (.d (.bool true)) fun s'=>cg E ae R ops k (d::lits) pre ba s' h) (fI s d (.d (.bool false)) fun s'=>cg E ae R ops k (d::lits) pre ba s' h)
     |true=>match Cj t b with
      |true=>go
      |false=>bL s o.dst (.d .undef) fun s'=>me E ae R ops k n lits l ba s' h
    | .d .undef=>bL s o.dst (.d .undef) fun s'=>me E ae R ops k n lits l ba s' h
    |_=>cg E ae R ops k lits pre ba s h
theorem Lv{T:List bD}{G:List (Nat × DV)}{o:Op}{s:List AV}{h:List af}{stop:Prop}{K:AV->Prop}(ho:kg o=true)(H:fo T G o s h stop (fun v _=>K v)):fo T G o s h stop (fun v h'=>h'=h/\K v):=by
 cases o
 case box=>cases ho
 case alloc=>cases ho
 case store=>cases ho
 case unOp op t x=>cases op<;>simpa only[fo,true_and]using H
 case call c =>
  obtain⟨callee,args,ts⟩:=c;cases callee with
  |builtin b=>cases b<;>simpa only[fo,true_and]using H
  |_=>simpa only[fo]using H
 all_goals simpa only[fo,true_and]using H
theorem T0{T:List bD}{G:List (Nat × DV)}{o:Op}{s:List AV}{h:List af}{stop:Prop}{K:AV->Prop}(ho:kg o=true)(H:ma T G o s h stop (fun v _=>K v)):ma T G o s h stop (fun v h'=>h'=h/\K v):=by
 cases o
 case store=>cases ho
 case makeSlice=>cases ho
 case slice t x lo hi mx=>cases mx<;>simpa only[ma,nH,true_and]using H
 case call c =>
  obtain⟨callee,args,ts⟩:=c;cases callee with
  |builtin b=>cases b<;>first|(simpa only[ma,nH]using H)|(simp[kg]at ho)
  |_=>simpa only[ma,nH]using H
 all_goals simpa only[ma,nH,true_and]using H
theorem T1{E:Env}{o:Op}{s:List AV}{h:List af}{stop:Prop}{K:AV->Prop}(ho:kg o=true):oF E o s h stop (fun v h'=>h'=h/\K v)=oF E o s h stop (fun v _=>K v):=by
 unfold oF;split
 ·simp[kg]at ho
 ·simp only[true_and]
 ·simp only[true_and]
 ·simp[kg]at ho
 ·rfl
theorem Lw{E:Env}{o:Op}{s:List AV}{h:List af}{stop:Prop}{K:AV->Prop}(ho:kg o=true)(H:gu E o s h stop (fun v _=>K v)):gu E o s h stop (fun v h'=>h'=h/\K v):=by
 unfold gu at H ⊢;rw[T1 ho];have:=T0 ho H;have e:(fun v=>h=h/\K v)=K:=by funext v;simp
 rw[e];exact this
theorem cI.is{E:Env}{ae:FuncId}{R:bZ}{ops:Array Oper}{k:List aI}{lits:List Nat}{ba:List Oper}{s:List AV}{h:List af}(H:cI E ae R ops k lits ba s h):cI E ae R ops k lits ba s h:=H
theorem cg.is{E:Env}{ae:FuncId}{R:bZ}{ops:Array Oper}{k:List aI}{lits:List Nat}{pre ba:List Oper}{s:List AV}{h:List af}(H:cg E ae R ops k lits pre ba s h):cg E ae R ops k lits pre ba s h:=H
theorem cI.to{E:Env}{ae:FuncId}{R:bZ}{ops:Array Oper}{k:List aI}{lits:List Nat}{ba:List Oper}{s:List AV}{h:List af}(H:cI E ae R ops k lits ba s h):gw E ops (fun s2 h2=>aa E ae R [] k s2 h2) ba s h:=by unfold cI at H;exact H
theorem cg.to{E:Env}{ae:FuncId}{R:bZ}{ops:Array Oper}{k:List aI}{lits:List Nat}{pre ba:List Oper}{s:List AV}{h:List af}(H:cg E ae R ops k lits pre ba s h):kM E ops h (fun s'=>gw E ops (fun s2 h2=>aa E ae R [] k s2 h2) ba s' h) pre s:=by unfold cg at H;exact H
theorem Lx{E:Env}{o:Oper}{so:List AV}{h:List af}{A stop:Prop}{K:AV->Prop}{B:AV->List af->Prop}{C:(f:FuncId)->List AV->Prop}{D:AV->Prop}(hF:ke o=true)
  (H:match kg o.op with
    |true=>fo E.T E.G o.op so h (kG E o.op so (gu E o.op so h (jz E.G so o stop C) B) D) fun v _=>K v
    |false=>A) (hA:A->stop):stop\/∃ v,K v/\∀ h',aZ E o.op so h' v h':=by
 obtain⟨dst,op,type,pos,after,guard⟩:=o;cases op<;>first|(cases guard<;>cases hF;done)|skip
 case extract x i =>
  simp only[kg,fo,kG,gu,ma,nH,sE,oF,jz]at H;rcases cL H with H|⟨v,hv,H⟩
  ·exact .inl H
  split at H
  ·rename_i l;rcases bp H with H|⟨u,hu,H⟩
   ·exact .inl H
   ·exact .inr ⟨_,H,fun h'=>JT hv hu⟩
  ·rename_i l;rcases bp H with H|⟨u,hu,H⟩
   ·exact .inl H
   ·exact .inr ⟨_,H,fun h'=>JU hv hu⟩
  ·exact .inl H
 case move x =>
  simp only[kg,fo,kG,gu,ma,nH,sE,oF,jz]at H;rcases cL H with H|⟨v,hv,H⟩
  ·exact .inl H
  ·exact .inr ⟨_,H,fun h'=>JM hv⟩
 case assign x =>
  simp only[kg,fo,kG,gu,ma,nH,sE,oF,jz]at H;rcases cL H with H|⟨v,hv,H⟩
  ·exact .inl H
  ·exact .inr ⟨_,H,fun h'=>JN hv⟩
theorem Gg{E:Env}(hE:E.OK){ae:FuncId}{R:bZ}{ops:Array Oper}{k:List aI}:∀ (n:Nat) (lits:List Nat) (pre ba:List Oper) (s:List AV) (h:List af),
  me E ae R ops k n lits pre ba s h->kM E ops h (fun s'=>gw E ops (fun s2 h2=>aa E ae R [] k s2 h2) ba s' h) pre s:=by
 intro n
 induction n with
 |zero=>intro lits pre ba s h H;exact cg.to H
 |succ n ih =>
  intro lits pre ba s h H;unfold me at H;split at H
  ·exact cI.to H
  rename_i o l;rw[zL]at H;have rn:∀ (d:Nat) (x:AV),(bY (ca ops o) 0 s)[d]?=some x->x ≠ .any->s[d]?=some x:=fun d x hx aM=>by
   rcases vb _ 0 d s x hx with h|⟨-,h⟩
   ·exact absurd h aM
   ·exact h
  have go:iF ops o (bY (ca ops o) 0 s) true->(match kg o.op with
    |true=>fo E.T E.G o.op (bY (ca ops o) 0 s) h (kG E o.op (bY (ca ops o) 0 s) (gu E o.op (bY (ca ops o) 0 s) h (jz E.G (bY (ca ops o) 0 s) o (cg E ae R ops k lits (o::l) ba s h) fun f fe=>mI fe (cg E ae R ops k lits (o::l) ba s h) fun ds=>pQ E f ds fun v=>bL s o.dst (.d v) fun s'=>cg E ae R ops k lits l ba s' h)
      fun v _=>bL s o.dst v fun s'=>cg E ae R ops k lits l ba s' h)
      fun v=>bL s o.dst v fun s'=>me E ae R ops k n lits l ba s' h)
     fun v _=>bL s o.dst v fun s'=>me E ae R ops k n lits l ba s' h
    |false=>cg E ae R ops k lits (o::l) ba s h)->kM E ops h (fun s'=>gw E ops (fun s2 h2=>aa E ae R [] k s2 h2) ba s' h) (o::l) s:=by
   intro hw H;by_cases hF:ke o=true
   ·rcases Lx hF H id with H|⟨v,H,ho⟩
    ·exact cg.to H
    ·rw[df]at H;exact⟨v,dB.of hw (ho h),fun _ h'=>dB.of hw (ho h'),ih _ _ _ _ _ H⟩
   have Gh:∀ {v:AV},ke o=true->∀ h',dB E ops o s h' v:=fun e=>absurd e hF;split at H
   ·rename_i aT;rcases uh hE (Lv (K:=fun v=>bL s o.dst v fun s'=>me E ae R ops k n lits l ba s' h) aT H)with H|⟨v,h',⟨rfl,H⟩,ho⟩
    ·rcases Fk hE H with H|⟨v,H,ho⟩
     case inr =>
      rw[df]at H;exact⟨v,dB.of hw (ho h),fun _ h'=>dB.of hw (ho h'),ih _ _ _ _ _ H⟩
     rcases uH hE (Lw (K:=fun v=>bL s o.dst v fun s'=>cg E ae R ops k lits l ba s' h) aT H)with H|⟨v,h',⟨rfl,H⟩,ho⟩
     ·rcases Ci H with H|⟨fx,args,ts,f,a1,av,a2,bX,hv,kJ,H⟩
      ·exact cg.to H
      rcases tV (a1++av++a2) (cg E ae R ops k lits (o::l) ba s h) (fun ds=>pQ E f ds fun v=>bL s o.dst (.d v) fun s'=>cg E ae R ops k lits l ba s' h)with⟨ds,e1,e2⟩|e2
      ·rw[e2]at H;unfold pQ at H;obtain⟨r,hc,hk⟩:=H;simp only[df]at hk;exact⟨_,dB.call hw bX hv kJ e1 hc,Gh,cg.to hk⟩
      ·rw[e2]at H;exact cg.to H
     ·rw[df]at H;exact⟨v,dB.of hw ho,Gh,cg.to H⟩
    ·rw[df]at H;exact⟨v,dB.of hw ho,Gh,ih _ _ _ _ _ H⟩
   ·exact cg.to H
  dsimp only at H;unfold sO at H;split at H
  ·rename_i hg;exact go (eK hg) H
  ·rename_i j b hg;rcases bp H with H|⟨oj,kK,H⟩
   ·exact cg.to H
   split at H
   ·rename_i d hd;rcases bp H with H|⟨x,hx,H⟩
    ·exact cg.to H
    split at H
    ·rename_i t;have ov:=rn d _ hx (by simp);split at H
     ·refine zA H (fun e H2=>?_) (fun e H2=>?_)
      ·subst e;rw[gJ,lE ov]at H2;exact cg.to H2
      ·subst e;rw[gJ,lE ov]at H2;exact cg.to H2
     ·have hw:=BN hg kK hd hx;split at H
      ·rename_i q;have:(t==b)=true:=by cases t<;>cases b<;>first|rfl|cases q
       rw[this]at hw;exact go hw H
      ·rename_i q;have:(t==b)=false:=by cases t<;>cases b<;>first|rfl|cases q
       rw[this]at hw;rw[df]at H;exact⟨_,dB.skip hw,fun _ _=>dB.skip hw,ih _ _ _ _ _ H⟩
    ·rw[df]at H;exact⟨_,dB.skip (yS hg kK hd hx),fun _ _=>dB.skip (yS hg kK hd hx),ih _ _ _ _ _ H⟩
    ·exact cg.to H
   ·exact cg.to H
def oN(E:Env)(ae:FuncId)(R:bZ)(ops:Array Oper)(k:List aI):Nat->List Nat->List Oper->List AV->List af->Prop
 |0,lits,ba,s,h=>cI E ae R ops k lits ba s h
 |n+1,lits,ba,s,h =>
  match ba with
  |[]=>aa E ae R [] k s h
  |o::l=>sW (ca ops o) 0 s fun so =>
   let go : Prop := fo E.T E.G o.op so h (oE E o.op so h (gu E o.op so h (jz E.G so o (cI E ae R ops k lits ba s h) fun f fe => mI fe (sV E f fe h (cI E ae R ops k lits ba s h) fun v h' => bL s o.dst v fun s' => cI E ae R ops k lits l s' h') fun ds => pQ E f ds fun v => bL s o.dst (.d v) fun s' => cI E ae R ops k lits l s' h)
         fun v h' => bL s o.dst v fun s' => cI E ae R ops k lits l s' h')
         fun v h' => bL s o.dst v fun s' => oN E ae R ops k n lits l s' h')
     fun v h'=>bL s o.dst v fun s'=>oN E ae R ops k n lits l s' h'
   sO ops o.guard go (cI E ae R ops k lits ba s h) fun d b=>aY so d (cI E ae R ops k lits ba s h) fun
    | .d (.bool t)=>match bW d lits with
     |false=>lD t (fI s d (.d (.bool true)) fun s'=>cI E ae R ops k (d::lits) ba s' h) (fI s d (.d (.bool false)) fun s'=>cI E ae R ops k (d::lits) ba s' h)
     |true=>match Cj t b with
      |true=>go
      |false=>bL s o.dst (.d .undef) fun s'=>oN E ae R ops k n lits l s' h
    | .d .undef=>bL s o.dst (.d .undef) fun s'=>oN E ae R ops k n lits l s' h
    |_=>cI E ae R ops k lits ba s h
theorem T2{E:Env}(hE:E.OK){ae:FuncId}{R:bZ}{ops:Array Oper}{k:List aI}:∀ (n:Nat) (lits:List Nat) (ba:List Oper) (s:List AV) (h:List af),
  oN E ae R ops k n lits ba s h->gw E ops (fun s2 h2=>aa E ae R [] k s2 h2) ba s h:=by
 intro n
 induction n with
 |zero=>intro lits ba s h H;exact cI.to H
 |succ n ih =>
  intro lits ba s h H;unfold oN at H;split at H
  ·exact H
  rename_i o l;rw[zL]at H;have rn:∀ (d:Nat) (x:AV),(bY (ca ops o) 0 s)[d]?=some x->x ≠ .any->s[d]?=some x:=fun d x hx aM=>by
   rcases vb _ 0 d s x hx with h|⟨-,h⟩
   ·exact absurd h aM
   ·exact h
  have go : iF ops o (bY (ca ops o) 0 s) true -> (fo E.T E.G o.op (bY (ca ops o) 0 s) h (oE E o.op (bY (ca ops o) 0 s) h (gu E o.op (bY (ca ops o) 0 s) h (jz E.G (bY (ca ops o) 0 s) o (cI E ae R ops k lits (o :: l) s h) fun f fe => mI fe (sV E f fe h (cI E ae R ops k lits (o :: l) s h) fun v h' => bL s o.dst v fun s' => cI E ae R ops k lits l s' h') fun ds => pQ E f ds fun v => bL s o.dst (.d v) fun s' => cI E ae R ops k lits l s' h)
          fun v h' => bL s o.dst v fun s' => cI E ae R ops k lits l s' h')
          fun v h' => bL s o.dst v fun s' => oN E ae R ops k n lits l s' h')
     fun v h'=>bL s o.dst v fun s'=>oN E ae R ops k n lits l s' h')->gw E ops (fun s2 h2=>aa E ae R [] k s2 h2) (o::l) s h:=by
   intro hw H;by_cases hA:∃ t,o.op=.alloc t
   ·obtain⟨t,e⟩:=hA;simp only[e,fo,oE,kG,y9,gu,ma,nH,sE,oF,jz]at H;rcases bp H with H|⟨i,hi,H⟩
    ·exact cI.to H
    split at H
    ·rename_i q1 q2;rw[qE,nB,df,Nat.zero_add]at H;have hz:=Nat.eq_of_beq_eq_true q1;have hp:0<i.size:=sD q2;exact⟨_,_,dm.of hw (by rw[e];exact EI hE hi hz hp),fun t' e' _=>by rw[e]at e';cases e';exact⟨rfl,i,hi,hz,hp,rfl⟩,ih _ _ _ _ H⟩
    ·exact cI.to H
   have pR:∀ (h:List af) (v:AV) (h':List af),pP E o h v h':=fun h v h' t e=>absurd ⟨t,e⟩ hA;rcases uh hE H with H|⟨v,h',H,ho⟩
   ·rcases zb hE H with H|⟨v,h',H,ho⟩
    case inr =>
     rw[df]at H;exact⟨v,h',dm.of hw ho,pR _ _ _,ih _ _ _ _ H⟩
    rcases uH hE H with H|⟨v,h',H,ho⟩
    ·rcases Ci H with H|⟨fx,args,ts,f,a1,av,a2,bX,hv,kJ,H⟩
     ·exact cI.to H
     rcases tV (a1++av++a2) (sV E f (a1++av++a2) h (cI E ae R ops k lits (o::l) s h) fun v h'=>bL s o.dst v fun s'=>cI E ae R ops k lits l s' h') (fun ds=>pQ E f ds fun v=>bL s o.dst (.d v) fun s'=>cI E ae R ops k lits l s' h)with⟨ds,e1,e2⟩|e2
     ·rw[e2]at H;unfold pQ at H;obtain⟨r,hc,hk⟩:=H;simp only[df]at hk;exact⟨_,_,dm.call hw bX hv kJ e1 hc,pR _ _ _,cI.to hk⟩
     ·rw[e2]at H;rcases Lu H with H|⟨ah,r,hp,hc,hn,ai,hk⟩
      ·exact cI.to H
      rw[df]at hk;exact⟨_,_,dm.oI hw bX hv kJ hc hn ai,pR _ _ _,cI.to hk⟩
    ·rw[df]at H;exact⟨v,h',dm.of hw ho,pR _ _ _,cI.to H⟩
   ·rw[df]at H;exact⟨v,h',dm.of hw ho,pR _ _ _,ih _ _ _ _ H⟩
  dsimp only at H;unfold sO at H;split at H
  ·rename_i hg;exact go (eK hg) H
  ·rename_i j b hg;rcases bp H with H|⟨oj,kK,H⟩
   ·exact cI.to H
   split at H
   ·rename_i d hd;rcases bp H with H|⟨x,hx,H⟩
    ·exact cI.to H
    split at H
    ·rename_i t;have ov:=rn d _ hx (by simp);split at H
     ·refine zA H (fun e H2=>?_) (fun e H2=>?_)
      ·subst e;rw[gJ,lE ov]at H2;exact cI.to H2
      ·subst e;rw[gJ,lE ov]at H2;exact cI.to H2
     ·have hw:=BN hg kK hd hx;split at H
      ·rename_i q;have:(t==b)=true:=by cases t<;>cases b<;>first|rfl|cases q
       rw[this]at hw;exact go hw H
      ·rename_i q;have:(t==b)=false:=by cases t<;>cases b<;>first|rfl|cases q
       rw[this]at hw;rw[df]at H;exact⟨_,_,dm.skip hw,fun _ _ e=>(by rw[hg]at e;cases e),ih _ _ _ _ H⟩
    ·rw[df]at H;exact⟨_,_,dm.skip (yS hg kK hd hx),fun _ _ e=>(by rw[hg]at e;cases e),ih _ _ _ _ H⟩
    ·exact cI.to H
   ·exact cI.to H
section
variable {E:Env} {ae:FuncId} {R:bZ} {ops:Array Oper} {k:List aI} {lits:List Nat} {pre ba:List Oper} {s:List AV} {h:List af}
theorem cg.run(hE:E.OK)(n:Nat)(H:me E ae R ops k n lits pre ba s h):cg E ae R ops k lits pre ba s h:=by
 unfold cg;exact Gg hE n lits pre ba s h H
theorem cI.run(hE:E.OK)(n:Nat)(H:oN E ae R ops k n lits ba s h):cI E ae R ops k lits ba s h:=by
 unfold cI;exact T2 hE n lits ba s h H
theorem aa.draw(hE:E.OK)(hm:E.P.follows .mixedOrders=true)(m n:Nat){id:Nat}(kf:(pO ops m&&Nat.ble m ops.size)=true)(H:sq m ops.toList fun pre=>qD m ops.toList fun ba=>me E ae R ops k n [] pre ba s h)(dM:R.fx.cG=none:=by rfl)(dK:R.fx.aN=[]:=by rfl):aa E ae R lits (.code (.region id ops true)::k) s h:=by
 rw[Bz,yy]at H;rw[Bool.and_eq_true]at kf;have e:(⟨ae,R.fx.cG,R.fx.aN⟩:iE)=⟨ae,none,[]⟩:=by rw[dM,dK]
 refine .of ?_;rw[e];refine AW.draw (m:=m) hm kf.1 (Nat.le_of_ble_eq_true kf.2) ?_;have conv:∀ {l:List Oper} {s:List AV} {h:List af},gw E ops (fun s2 h2=>aa E ae R [] k s2 h2) l s h->gw E ops (fun s2 h2=>AW E R.fx.f0 ⟨⟨ae,R.fx.cG,R.fx.aN⟩,k,s2⟩ R.fx.cls h2 R) l s h:=by
  intro l
  induction l with
  |nil=>intro s h H;exact aa.to H
  |cons o l ih=>intro s h H;obtain⟨v,h',h1,gr,h2⟩:=H;exact⟨v,h',h1,gr,ih h2⟩
 have T3:∀ {l:List Oper} {s:List AV},kM E ops h (fun s'=>gw E ops (fun s2 h2=>aa E ae R [] k s2 h2) (ops.toList.drop m) s' h) l s->kM E ops h (fun s'=>gw E ops (fun s2 h2=>AW E R.fx.f0 ⟨⟨ae,R.fx.cG,R.fx.aN⟩,k,s2⟩ R.fx.cls h2 R) (ops.toList.drop m) s' h) l s:=by
  intro l
  induction l with
  |nil=>intro s H;exact conv H
  |cons o l ih=>intro s H;obtain⟨v,h1,gr,h2⟩:=H;exact⟨v,h1,gr,ih h2⟩
 have H2:=T3 (Gg hE n [] _ _ s h H);simp only[e]at H2;exact H2
end
end Go.aA
end
section
namespace Go.aA
open Go Go.RowKit
theorem Gi{c1 c2 Ly Gj:Cx}{i:Nat}{bx:af}(h1:Ly.own i=c1.own i)(h2:Gj.heap[i]?=c2.heap[i]?)(h3:Gj.own i=c2.own i)(h:tT c1 c2 i bx):tT Ly Gj i bx:=by
 cases bx<;>simp only[tT,h1,h2,h3]at h ⊢ <;> exact h
def Cx.cH(c:Cx)(o:Obj):Cx:=⟨c.own,c.heap,fun b=>c.ak b\/b=c.w.heap.size,c.w.alloc o⟩
def Cx.bare(c:Cx)(bx:af)(blk:Nat)(ak:Nat->Prop):Cx:=⟨fun i=>if i=c.heap.length then some (blk,0)else c.own i,c.heap++[bx],ak,c.w⟩
section
variable {G:List (Nat × DV)} {c:Cx} {o:Obj}
theorem LA(b:Nat)(hb:b<c.w.heap.size)(hn:¬ c.bad b):¬ (c.cH o).bad b/\(c.cH o).w.heap[b]?=c.w.heap[b]? := by
 refine⟨?_,Below.heap_alloc c.w o b hb⟩;rintro((h|h)|⟨i,n,h⟩)
 ·exact hn (.inl h)
 ·omega
 ·exact hn (.inr ⟨i,n,h⟩)
theorem sX{x:AV}{v:Value}(hv:VR c x v):VR (c.cH o) x v:=sm LA (fun _ _ hi=>mN hi rfl rfl) hv
theorem CA{x:DV}{v:Value}(hv:VD c.bad c.w x v):VD (c.cH o).bad (c.cH o).w x v:=hv.mono LA
theorem aE.cH(ho:aE G c):aE G (c.cH o) where
 bE:=fun b hb=>by
  have hs:(c.cH o).w.heap.size=c.w.heap.size+1:=by simp[Cx.cH]
  rcases hb with hb|hb
  ·have:=ho.bE b hb;omega
  ·omega
 bI:=fun i b n hi=>by
  have hs:(c.cH o).w.heap.size=c.w.heap.size+1:=by simp[Cx.cH]
  have:=ho.bI i b n hi;exact⟨by omega,this.2⟩
 inj:=ho.inj
 sep:=fun i b n hi hb=>hb.elim (ho.sep i b n hi) (fun e=>by have:=(ho.bI i b n hi).1;omega)
 box:=fun i bx hx=>(ho.box i bx hx).gen (fun _ _=>sX) (fun _ _=>CA) rfl (fun b n hn=>Below.heap_alloc c.w o b (ho.bI i b n hn).1)
 fB:=fun g e hg=>sX (ho.fB g e hg)
variable {bx:af} {blk:Nat} {ak:Nat->Prop}
theorem T4(ho:aE G c)(eU:∀ b,c.ak b↔ak b\/b=blk)(b:Nat):(c.bare bx blk ak).bad b↔c.bad b:=by
 constructor
 ·rintro(h|⟨i,n,h⟩)
  ·exact .inl ((eU b).2 (.inl h))
  ·simp only[Cx.bare]at h;split at h
   ·cases h;exact .inl ((eU _).2 (.inr rfl))
   ·exact .inr ⟨i,n,h⟩
 ·rintro(h|⟨i,n,h⟩)
  ·rcases(eU b).1 h with h|rfl
   ·exact .inl h
   ·exact .inr ⟨c.heap.length,0,by simp[Cx.bare]⟩
  ·refine .inr ⟨i,n,?_⟩;have:=(ho.bI i b n h).2;simp only[Cx.bare];rw[if_neg (by omega)];exact h
theorem LB(ho:aE G c)(eU:∀ b,c.ak b↔ak b\/b=blk)(b:Nat)(_:b<c.w.heap.size)(hn:¬ c.bad b):¬ (c.bare bx blk ak).bad b/\(c.bare bx blk ak).w.heap[b]?=c.w.heap[b]? :=
 ⟨fun h=>hn ((T4 ho eU b).1 h),rfl⟩
theorem T5{i:Nat}{b:af}(hi:c.heap[i]?=some b):(c.bare bx blk ak).heap[i]?=c.heap[i]? := List.getElem?_append_left (a7 hi)
theorem LC{i:Nat}{b:af}(hi:c.heap[i]?=some b):(c.bare bx blk ak).own i=c.own i:=by
 have:=a7 hi;simp only[Cx.bare];rw[if_neg (by omega)]
theorem zM(ho:aE G c)(eU:∀ b,c.ak b↔ak b\/b=blk){x:AV}{v:Value}(hv:VR c x v):VR (c.bare bx blk ak) x v:=sm (LB ho eU) (fun _ _ hi=>mN hi (T5 hi) (LC hi)) hv
theorem T6(ho:aE G c)(eU:∀ b,c.ak b↔ak b\/b=blk){x:DV}{v:Value}(hv:VD c.bad c.w x v):VD (c.bare bx blk ak).bad (c.bare bx blk ak).w x v:=hv.mono (LB ho eU)
theorem aE.bare(ho:aE G c)(eU:∀ b,c.ak b↔ak b\/b=blk)(jg:¬ ak blk)(iu:jr (c.bare bx blk ak) c.heap.length bx):aE G (c.bare bx blk ak) where
 bE:=fun b hb=>ho.bE b ((eU b).2 (.inl hb))
 bI:=fun i b n hi=>by
  have hl:(c.bare bx blk ak).heap.length=c.heap.length+1:=by simp[Cx.bare]
  simp only[Cx.bare]at hi;split at hi
  ·cases hi;exact⟨ho.bE _ ((eU _).2 (.inr rfl)),by omega⟩
  ·have:=ho.bI i b n hi;exact⟨this.1,by omega⟩
 inj:=fun i j b n m hi hj=>by
  simp only[Cx.bare]at hi hj;split at hi<;>split at hj
  ·omega
  ·cases hi;exact absurd ((eU _).2 (.inr rfl)) (ho.sep j _ m hj)
  ·cases hj;exact absurd ((eU _).2 (.inr rfl)) (ho.sep i _ n hi)
  ·exact ho.inj i j b n m hi hj
 sep:=fun i b n hi hb=>by
  simp only[Cx.bare]at hi;split at hi
  ·cases hi;exact jg hb
  ·exact ho.sep i b n hi ((eU b).2 (.inl hb))
 box:=fun i b hx=>by
  rcases Nat.lt_trichotomy i c.heap.length with hi|rfl|hi
  ·have eS:c.heap[i]?=some b:=by
    have:(c.bare bx blk ak).heap[i]?=c.heap[i]? := List.getElem?_append_left hi
    rwa [this]at hx
   exact(ho.box i b eS).gen (fun _ _=>zM ho eU) (fun _ _=>T6 ho eU) (LC eS) (fun _ _ _=>rfl)
  ·have:b=bx:=by simp[Cx.bare]at hx;exact hx.symm
   subst this;exact iu
  ·rw[List.getElem?_eq_none (by simp[Cx.bare];omega)]at hx;cases hx
 fB:=fun g e hg=>zM ho eU (ho.fB g e hg)
theorem T7{c2:Cx}{us:List Value}{ty:TypeId}{z:List AV}(ho:aE G c)(hs:Step (c.cH (.cells us.toArray ty)) c2)(xj:aE G c2)(hh:c2.heap=c.heap)(hz:VL (c2.bare (.cells z) c.w.heap.size c.ak) z us) :
  aE G (c2.bare (.cells z) c.w.heap.size c.ak)/\Step c (c2.bare (.cells z) c.w.heap.size c.ak)/\(∀ x v,VR c2 x v->VR (c2.bare (.cells z) c.w.heap.size c.ak) x v)/\VR (c2.bare (.cells z) c.w.heap.size c.ak) (.ptr c.heap.length 0) (.pointer (some ⟨c.w.heap.size,0,none⟩)):=by
 have eU:∀ b,c2.ak b↔c.ak b\/b=c.w.heap.size:=fun b=>by rw[hs.ak];exact Iff.rfl
 have jg:¬ c.ak c.w.heap.size:=fun h=>by have:=ho.bE _ h;omega
 have bT:(c.cH (.cells us.toArray ty)).w.heap.size=c.w.heap.size+1:=by simp[Cx.cH]
 have bJ:(c2.bare (.cells z) c.w.heap.size c.ak).own c.heap.length=some (c.w.heap.size,0):=by simp[Cx.bare,hh]
 have dH:(c2.bare (.cells z) c.w.heap.size c.ak).heap[c.heap.length]?=some (.cells z):=by simp[Cx.bare,hh]
 have hblk:c2.w.heap[c.w.heap.size]?=some (.cells us.toArray ty (0,0)):=by
  rw[hs.keep _ (by omega) (fun i n hi=>by have:=(ho.bI i _ n hi).1;omega)];exact heap_alloc_new _ _
 refine⟨xj.bare eU jg ?_,?_,fun _ _=>zM xj eU,.ptr _ _ z _ 0 dH bJ⟩
 ·rw[hh];exact⟨c.w.heap.size,0,us.toArray,ty,bJ,hblk,by simpa using hz.1.symm,fun j x v hx hu=>hz.2 j x v hx (by simpa using hu)⟩
 ·exact{
   ak:=rfl
   bE:=ho.bE
   os:=hs.os
   tape:=hs.tape
   output:=hs.output
   size:=by have:=hs.size;show c.w.heap.size<=c2.w.heap.size;omega
   keep:=fun b hb hn=>by
    show c2.w.heap[b]?=_;rw[hs.keep b (by omega) hn];exact Below.heap_alloc c.w _ b hb
   dw:=fun i b n hi hb=>by
    simp only[Cx.bare]at hi;split at hi
    ·cases hi;omega
    ·exact hs.dw i b n hi (by omega)
   boxes:=fun i b hi=>by
    have:=hs.boxes i b hi;have ai:=a7 hi
    exact Gi (c1:=c.cH (.cells us.toArray ty)) rfl (List.getElem?_append_left (by rw[hh];exact ai)) (by simp only[Cx.bare];rw[if_neg (by rw[hh];omega)]) this }
end
section
variable {E:Env} {ops:Array Oper}
theorem xk(LD:∀ i j oi oj,i<j->ops[i]?=some oi->ops[j]?=some oj->jA ops oi oj=true->kL ops i j){q:List (Oper × AV)}(dH:∀ (k:Nat) (o:Oper) (v:AV),q[k]?=some (o,v)->ops[k]?=some o){listed:Array Bool}(hd:DC ops listed){i:Nat}(hi:i∈Region.ready .any ops listed)
  {o:Oper} {v:AV} (dj:q[i]?=some (o,v)) {s0:List AV} {c:Cx} {a:Act} (h4:VS c (cur q (aR listed) 0 s0) a.tmps) :
  (∀ (c':Cx) (u:Value),(∀ x v,VR c x v->VR c' x v)->VR c' v u->VS c' (cur q (aR (listed.setIfInBounds i true)) 0 s0) (a.put o.dst u).tmps)/\VS c (bY (ca ops o) 0 (cur q (fun k=>decide (k<i)) 0 s0)) a.tmps:=by
 obtain⟨dE,dX⟩:=mV hd hi;have ef:=dH i o v dj;have wr:∀ k o' v',q[k]?=some (o',v')->(k<i->jA ops o' o=true->aR listed k=true)/\(i<k->jA ops o o'=true->aR listed k=false):=fun k o' v' hk=>by
  have aO:=dH k o' v' hk;refine⟨fun ai vf=>hd.ready hi (LD k i o' o ai aO ef vf),fun ai vf=>?_⟩;cases hl:aR listed k with
  |false=>rfl
  |true=>have:=hd.dep (LD i k o o' ai ef aO vf) hl;rw[dE]at this;cases this
 have bT:i<listed.size:=by rw[hd.1];exact dX
 have cP:=fun q=>sS (i:=q) bT;refine⟨fun c' u k3 k4=>?_,?_⟩
 ·refine⟨by rw[mc];have:=h4.1;rw[mc]at this;cases iz:o.dst<;>simp[Act.put,this],fun t x u' hx qO=>?_⟩;by_cases eE:o.dst=some t
  ·have e1:(cur q (aR (listed.setIfInBounds i true)) 0 s0)[t]?=(cur q (fun k=>decide (k<0+i+1)) 0 s0)[t]? := by
    refine rl _ _ _ 0 s0 s0 rfl rfl (fun k o' v' gp fT=>?_);rw[Nat.zero_add,Nat.zero_add,cP];rcases Nat.lt_trichotomy k i with ai|rfl|qS
    ·rw[(wr k o' v' gp).1 ai (sU fT (List.mem_append_left _ (by simp[eE])))];simp;omega
    ·simp
    ·rw[(wr k o' v' gp).2 qS (sU eE (List.mem_append_left _ (by simp[fT])))];simp;omega
   rw[e1,Cv _ 0 i s0 o v dj,eE]at hx;have jC:t<(cur q (fun k=>decide (k<0+i)) 0 s0).length:=by
    have:=a7 hx
    simpa [bM]using this
   rw[bM,List.getElem?_set_self jC]at hx;cases hx;have Gd:t<a.tmps.size:=by rw[<- h4.1,mc];rwa [mc]at jC
   have vg:(a.tmps.setIfInBounds t u)[t]?=some u':=by simpa [Act.put,eE]using qO
   rw[Array.getElem?_setIfInBounds_self_of_lt Gd]at vg;cases vg;exact k4
  ·have e1:(cur q (aR (listed.setIfInBounds i true)) 0 s0)[t]?=(cur q (aR listed) 0 s0)[t]? := by
    refine rl _ _ _ 0 s0 s0 rfl rfl (fun k o' v' gp fT=>?_);rw[Nat.zero_add,cP];have:k≠i:=fun e=>by
     subst e;rw[dj]at gp;cases gp;exact eE fT
    simp[this]
   rw[e1]at hx;refine k3 _ _ (h4.2 t x u' hx ?_);cases iz:o.dst with
   |none=>simpa [Act.put,iz]using qO
   |some d =>
    rw[iz]at eE;have aM:d≠t:=fun e=>eE (by rw[e])
    simpa [Act.put,iz,Array.getElem?_setIfInBounds_ne aM]using qO
 ·refine⟨by rw[Cw,mc];have:=h4.1;rwa [mc]at this,fun t x u hx hu=>?_⟩;rcases vb _ 0 t _ x hx with rfl|⟨hk,hx⟩
  ·exact .any u
  ·rw[Nat.zero_add]at hk;refine h4.2 t x u ?_ hu;rw[<- hx];refine rl _ _ _ 0 s0 s0 rfl rfl (fun k o' v' gp fT=>?_);rw[Nat.zero_add];rcases Nat.lt_trichotomy k i with ai|rfl|qS
   ·rw[(wr k o' v' gp).1 ai (sU fT (List.mem_append_right _ hk))];simp[ai]
   ·rw[dE];simp
   ·rw[(wr k o' v' gp).2 qS (Lr fT hk)];simp;omega
structure zN(ops:Array Oper)(m M:Nat):Prop where
 low:∀ j o e,ops[j]?=some o->e∈o.after->Region.binds .any e=true->e.on<j
 pair:∀ i j oi oj,i<j->ops[i]?=some oi->ops[j]?=some oj->jA ops oi oj=true->kL ops i j
 ba:∀ i j oi oj,i<j->M<=j->ops[i]?=some oi->ops[j]?=some oj->(i<m/\ke oi=true)\/kL ops i j
theorem zN.pO{m M:Nat}(h:zN ops m M):xi ops ops.size:=⟨h.low,h.pair,fun i j oi oj _ hj _ kK=>by
 have:=(Array.getElem?_eq_some_iff.1 kK).1;omega⟩
structure XP(E:Env)(ops:Array Oper)(m M:Nat)(s0:List AV)(h:List af)(pl:List (Oper × AV))(hp:Nat->List af):Prop where
 Gk:pl.map (·.1)=ops.toList
 mf:∀ j o v,j<m->pl[j]?=some (o,v)->ke o=true->∀ h',dB E ops o (cur pl (fun k=>decide (k<j)) 0 s0) h' v
 pre:∀ j o v,j<m->pl[j]?=some (o,v)->ke o=false->dB E ops o (cur pl (fun k=>decide (k<j)) 0 s0) h v
 ba:∀ j o v,M<=j->pl[j]?=some (o,v)->dm E ops o (cur pl (fun k=>decide (k<j)) 0 s0) (hp j) v (hp (j+1))
theorem rp{pl:List (Oper × AV)}(ju:pl.map (·.1)=ops.toList):pl.length=ops.size/\∀ (k:Nat) (o:Oper) (v:AV),pl[k]?=some (o,v)->ops[k]?=some o:=by
 refine⟨by have:=congrArg List.length ju;simpa using this,fun k o v hk=>?_⟩;have:=congrArg (·[k]?) ju;simp only[List.getElem?_map,hk,Option.map_some]at this
 simpa using this.symm
theorem zO{L:Nat->Bool}{n i:Nat}(h:ew L n<=0)(hi:i<n):L i=true:=by
 cases hl:L i with
 |true=>rfl
 |false=>have:=Gb hl n hi;omega
theorem T8{m M:Nat}(hc:zN ops m M)(T9:m<=M){s0:List AV}{h:List af}{pl:List (Oper × AV)}{hp:Nat->List af}(hx:XP E ops m M s0 h pl hp)
  {Q:Exit->Act->World->Prop} {Kf:List AV->List af->Prop} {c0:Cx} (fJ:Kf (cur pl (fun k=>decide (k<pl.length)) 0 s0) (hp ops.size))
  (hQ:∀ (a:Act) (c:Cx) (s:List AV) (h:List af),Kf s h->aE E.G c->c.heap=h->a.defers=[]->VS c s a.tmps->Step c0 c->Q .normal a c.w) :
  ∀ (f:Nat) (listed:Array Bool) (a:Act) (c:Cx) (J:Nat),M<=J->J<=ops.size->aE E.G c->c.heap=hp J->a.defers=[]->VS c (cur pl (aR listed) 0 s0) a.tmps->Step c0 c->DC ops listed ->
   (∀ i o,ops[i]?=some o->i<J->aR listed i=true\/(i<m/\ke o=true))->(∀ i,J<=i->aR listed i=false)->ew (aR listed) ops.size<=f->wpAny E.P .any ops Q f listed a c.w:=by
 obtain⟨hlen,dH⟩:=rp hx.Gk;have done:∀ (listed:Array Bool) (a:Act) (c:Cx) (J:Nat),J<=ops.size->aE E.G c->c.heap=hp J->a.defers=[]->VS c (cur pl (aR listed) 0 s0) a.tmps->Step c0 c->(∀ i,J<=i->aR listed i=false)->(∀ i,i<ops.size->aR listed i=true)->Q .normal a c.w:=by
  intro listed a c J hJ h1 h2 h3 h4 h5 hn aX;have T':J=ops.size:=by
   rcases Nat.lt_or_ge J ops.size with h|h
   ·have:=aX J h;rw[hn J (Nat.le_refl _)]at this;cases this
   ·omega
  subst T';have e:cur pl (aR listed) 0 s0=cur pl (fun k=>decide (k<pl.length)) 0 s0:=by
   congr 1
   funext i;rcases Nat.lt_or_ge i ops.size with h|h
   ·rw[aX i h];simp[hlen,h]
   ·rw[hn i h];simp[hlen];omega
  rw[e]at h4;exact hQ a c _ _ fJ h1 h2 h3 h4 h5
 intro f
 induction f with
 |zero =>
  intro listed a c J Gl hJ h1 h2 h3 h4 h5 hd gU fw iR;have aX:∀ i,i<ops.size->aR listed i=true:=fun i hi=>zO iR hi;refine⟨?_,done listed a c J hJ h1 h2 h3 h4 h5 fw aX⟩;apply List.eq_nil_iff_forall_not_mem.2;intro i hi;obtain⟨k1,k2⟩:=mV hd hi;rw[aX i k2]at k1;cases k1
 |succ f ih =>
  intro listed a c J Gl hJ h1 h2 h3 h4 h5 hd gU fw iR;refine⟨fun hr=>?_,fun i hi=>?_⟩
  ·refine done listed a c J hJ h1 h2 h3 h4 h5 fw (fun i hi=>?_);cases hl:aR listed i with
   |true=>rfl
   |false =>
    obtain⟨k,-,hk⟩:=vc hc.pO hd hi hl;rw[hr]at hk;cases hk
  obtain⟨dE,dX⟩:=mV hd hi;obtain⟨⟨o,v⟩,dj⟩:∃ p,pl[i]?=some p:=⟨pl[i]'(by omega),by rw[List.getElem?_eq_getElem]⟩;have ef:=dH i o v dj;obtain⟨lJ,kN⟩:=xk hc.pair dH hd hi dj h4;have bT:i<listed.size:=by rw[hd.1];exact dX
  have cP:=fun q=>sS (i:=q) bT;have mg:ew (aR (listed.setIfInBounds i true)) ops.size<=f:=by
   have:=(ve (L:=aR listed) (L':=aR (listed.setIfInBounds i true)) (j:=i) (fun q hq=>by rw[cP];simp[hq]) dE (by rw[cP];simp) ops.size).1 dX;omega
  have mW:∀ u:Value,(a.put o.dst u).defers=[]:=fun u=>by cases iz:o.dst<;>simp[Act.put,h3]
  rcases Nat.lt_or_ge i J with ai|aL
  ·rcases gU i o ef ai with hl|⟨Gc,gj⟩
   ·rw[dE]at hl;cases hl
   ·refine hx.mf i o v Gc dj gj (hp J) c a h1 h2 h3 kN i ef _ _ (fun c' u k1 k2 k3 k4=>?_);refine ih _ _ c' J Gl hJ k1 k2 (mW u) (lJ c' u (fun _ _=>k3.vr) k4) (h5.trans k3) (hd.set hi) (fun q o' hq oO=>?_) (fun q hq=>by rw[cP,fw q hq];simp;omega) mg;rcases gU q o' hq oO with hl|hl
    ·rw[cP,hl];simp
    ·exact .inr hl
  ·have Ua:i=J:=by
    rcases Nat.lt_or_ge J i with ai|hle
    ·obtain⟨oJ,Ub⟩:∃ oJ,ops[J]?=some oJ:=⟨ops[J]'(by omega),by simp⟩;rcases hc.ba J i oJ o ai (by omega) Ub ef with⟨h,-⟩|h
     ·omega
     ·have:=hd.ready hi h;rw[fw J (Nat.le_refl _)]at this;cases this
    ·omega
   subst Ua;refine hx.ba i o v Gl dj c a h1 h2 h3 kN i ef _ _ (fun c' u k1 k2 k3 k4=>?_);refine ih _ _ c' (i+1) (by omega) (by omega) k1 k2 (mW u) (lJ c' u (fun _ _=>k3.vr) k4) (h5.trans k3) (hd.set hi) (fun q o' hq oO=>?_) (fun q hq=>by rw[cP,fw q (by omega)];simp;omega) mg;by_cases mh:q=i
   ·subst mh;left;rw[cP];simp
   ·rcases gU q o' hq (by omega)with hl|hl
    ·left;rw[cP,hl];simp
    ·exact .inr hl
def Mid(G:List (Nat × DV))(c0:Cx)(d:Option Nat)(us:List Value)(ty:TypeId)(h:List af)(done:Bool)(a:Act)(c:Cx):Prop:=match done with
 |false=>Step c0 c
 |true=>∃ cA:Cx,aE G cA/\cA.heap=h/\Step c0 cA/\Step (cA.cH (.cells us.toArray ty)) c/\∀ t,d=some t->t<a.tmps.size->a.tmps[t]?=some (.pointer (some ⟨cA.w.heap.size,0,none⟩))
def vh(pl:List (Oper × AV))(m:Nat)(ox:Oper):List (Oper × AV):=pl.set m (ox,.any)
theorem Uc{pl:List (Oper × AV)}{m i:Nat}{ox:Oper}(hi:i<=m)(s:List AV):cur (vh pl m ox) (fun k=>decide (k<i)) 0 s=cur pl (fun k=>decide (k<i)) 0 s:=by
 have gen:∀ (pl:List (Oper × AV)) (m j:Nat) (s:List AV),i<=j+m->cur (pl.set m (ox,.any)) (fun k=>decide (k<i)) j s=cur pl (fun k=>decide (k<i)) j s:=by
  intro pl
  induction pl with
  |nil=>intro m j s _;simp
  |cons p pl ih =>
   intro m j s hm;cases m with
   |zero =>
    obtain⟨o,v⟩:=p;have e:decide (j<i)=false:=decide_eq_false (by omega);simp only[List.set_cons_zero,cur,e,Bool.false_eq_true,if_false]
   |succ m =>
    obtain⟨o,v⟩:=p;simp only[List.set_cons_succ,cur];exact ih m (j+1) _ (by omega)
 exact gen pl m 0 s (by omega)
theorem Ud(hE:E.OK){m:Nat}(hc:zN ops m (m+1))(oL:m+1<=ops.size){ox:Oper}(oP:ops[m]?=some ox){ty:TypeId}(bX:ox.op=.alloc ty)(CB:ox.guard=none){ti:bD}(cm:E.T[ty]?=some ti)(hz:ti.zero.length=ti.size)(cD:0<ti.size)
  {s0:List AV} {h:List af} {pl:List (Oper × AV)} {hp:Nat->List af} (hx:XP E ops m (m+1) s0 h pl hp) (zP:pl[m]?=some (ox,.ptr h.length 0)) (Ue:hp (m+1)=h++[.cells (ti.zero.map .d)])
  {Q:Exit->Act->World->Prop} {Kf:List AV->List af->Prop} {c0:Cx} (fJ:Kf (cur pl (fun k=>decide (k<pl.length)) 0 s0) (hp ops.size))
  (hQ:∀ (a:Act) (c:Cx) (s:List AV) (h:List af),Kf s h->aE E.G c->c.heap=h->a.defers=[]->VS c s a.tmps->Step c0 c->Q .normal a c.w) :
  ∃ us:List Value,∀ (f:Nat) (listed:Array Bool) (a:Act) (c:Cx),aE E.G c->c.heap=h->a.defers=[]->VS c (cur (vh pl m ox) (aR listed) 0 s0) a.tmps->Mid E.G c0 ox.dst us ty h (aR listed m) a c->DC ops listed ->
   (∀ i,m+1<=i->aR listed i=false)->ew (aR listed) ops.size<=f->wpAny E.P .any ops Q f listed a c.w:=by
 obtain⟨z,jT,iv⟩:=EH (hE.types ty ti cm) hz cD;obtain⟨us,pA,-⟩:=iv c0;have js:∀ c:Cx,VL c (ti.zero.map .d) us:=fun c=>by
  obtain⟨Uf,e,hv⟩:=iv c;rw[pA]at e;have:us=Uf:=by simpa using e
  rw[this];exact hv
 refine⟨us,?_⟩;obtain⟨hlen,dH⟩:=rp hx.Gk;have LF:(vh pl m ox)[m]?=some (ox,.any):=List.getElem?_set_self (by omega);have fa:∀ k,k≠m->(vh pl m ox)[k]?=pl[k]? := fun k hk=>List.getElem?_set_ne (Ne.symm hk);have LG:∀ k o v,(vh pl m ox)[k]?=some (o,v)->ops[k]?=some o:=fun k o v hk=>by
  by_cases Gm:k=m
  ·subst Gm;rw[LF]at hk;cases hk;exact oP
  ·rw[fa k Gm]at hk;exact dH k o v hk
 have fin:∀ (f:Nat) (listed:Array Bool) (a:Act) (c:Cx),aE E.G c->c.heap=h->a.defers=[]->VS c (cur (vh pl m ox) (aR listed) 0 s0) a.tmps->Mid E.G c0 ox.dst us ty h (aR listed m) a c->DC ops listed->(∀ i o,ops[i]?=some o->i<m+1->aR listed i=true\/(i<m/\ke o=true))->(∀ i,m+1<=i->aR listed i=false)->ew (aR listed) ops.size<=f->wpAny E.P .any ops Q f listed a c.w:=by
  intro f listed a c h1 h2 h3 h4 h5 hd aX hs iR;have pS:aR listed m=true:=by
   rcases aX m ox oP (by omega)with hl|⟨hl,-⟩
   ·exact hl
   ·omega
  rw[pS]at h5;obtain⟨cA,k1,k2,k3,k4,k5⟩:=h5;obtain⟨q1,q2,q3,q4⟩:=T7 (z:=ti.zero.map .d) k1 k4 h1 (h2.trans k2.symm) (js _);refine T8 hc (by omega) hx fJ hQ f listed a (c.bare (.cells (ti.zero.map .d)) cA.w.heap.size cA.ak) (m+1) (Nat.le_refl _) oL q1 (by rw[Ue];simp[Cx.bare,h2]) h3 ?_ (k3.trans q2) hd aX hs iR;refine⟨by have:=h4.1;rw[mc]at this ⊢;exact this,fun t x v zQ hv=>?_⟩;by_cases eE:ox.dst=some t
  ·have jC:t<a.tmps.size:=(Array.getElem?_eq_some_iff.1 hv).1;have Ug:∀ k o' v',pl[k]?=some (o',v')->o'.dst=some t->k<=m->(k=m\/aR listed k=true):=fun k o' v' hk fT Gm=>by
    rcases Nat.lt_or_ge k m with ai|aL
    ·exact .inr (hd.dep (hc.pair k m o' ox ai (dH k o' v' hk) oP (sU fT (List.mem_append_left _ (by simp[eE])))) pS)
    ·exact .inl (by omega)
   have e1:(cur pl (aR listed) 0 s0)[t]?=(cur pl (fun k=>decide (k<0+m+1)) 0 s0)[t]? := by
    refine rl _ _ _ 0 s0 s0 rfl rfl (fun k o' v' gp fT=>?_);rw[Nat.zero_add,Nat.zero_add];rcases Nat.lt_or_ge k (m+1)with ai|aL
    ·rcases Ug k o' v' gp fT (by omega)with rfl|hl
     ·rw[pS];simp
     ·rw[hl];simp[ai]
    ·rw[hs k aL];simp;omega
   rw[e1,Cv _ 0 m s0 ox _ zP,eE]at zQ;have Uh:t<(cur pl (fun k=>decide (k<0+m)) 0 s0).length:=by
    have:=a7 zQ
    simpa [bM]using this
   rw[bM,List.getElem?_set_self Uh]at zQ;cases zQ;rw[k5 t eE jC]at hv;cases hv;rw[<- k2];exact q4
  ·refine q3 x v (h4.2 t x v ?_ hv);rw[<- zQ];have gen:∀ (q:List (Oper × AV)) (m' j:Nat) (s s':List AV),s.length=s'.length->s[t]?=s'[t]? -> (∀ o v,q[m']?=some (o,v)->o.dst≠some t)->(cur (q.set m' (ox,.any)) (aR listed) j s)[t]?=(cur q (aR listed) j s')[t]? := by
    intro q
    induction q with
    |nil=>intro m' j s s' _ hs _;exact hs
    |cons p q ih =>
     intro m' j s s' hl hs hq;obtain⟨po,pv⟩:=p;have lu:∀ (b:Bool) (r:List AV) (o:Oper) (v:AV),(if b then bM r o.dst v else r).length=r.length:=fun b r o v=>by cases b<;>cases o.dst<;>simp[bM]
     cases m' with
     |zero =>
      simp only[List.set_cons_zero,cur];refine rl _ _ _ _ _ _ (by rw[lu,lu,hl]) ?_ (fun _ _ _ _ _=>rfl);have:=hq po pv rfl;cases aR listed j<;>simp[F' this,F' eE,hs]
     |succ m' =>
      simp only[List.set_cons_succ,cur];refine ih m' (j+1) _ _ (by rw[lu,lu,hl]) ?_ (fun o v ho=>hq o v (by simpa using ho));cases aR listed j
      ·simpa using hs
      ·simp only[if_true];exact Lo hl hs
   exact gen pl m 0 s0 s0 rfl rfl (fun o v ho=>by rw[zP]at ho;cases ho;exact eE)
 intro f
 induction f with
 |zero =>
  intro listed a c h1 h2 h3 h4 h5 hd hs iR;exact fin 0 listed a c h1 h2 h3 h4 h5 hd (fun i o ho _ => .inl (zO iR (Array.getElem?_eq_some_iff.1 ho).1)) hs iR
 |succ f ih =>
  intro listed a c h1 h2 h3 h4 h5 hd hs iR;by_cases aX:∀ i o,ops[i]?=some o->i<m+1->aR listed i=true\/(i<m/\ke o=true)
  ·exact fin (f+1) listed a c h1 h2 h3 h4 h5 hd aX hs iR
  ·have:∃ i o,ops[i]?=some o/\i<m+1/\aR listed i=false/\¬ (i<m/\ke o=true):=by
    apply Classical.byContradiction;intro aM;apply aX;intro i o ho hi;cases hl:aR listed i with
    |true=>exact .inl rfl
    |false =>
     right;apply Classical.byContradiction;intro hf;exact aM ⟨i,o,ho,hi,hl,hf⟩
   obtain⟨i0,o0,Ui,fQ,jB,Uj⟩:=this;refine⟨fun hr=>?_,fun i hi=>?_⟩
   ·obtain⟨i,-,hi⟩:=vc hc.pO hd (by omega) jB;rw[hr]at hi;cases hi
   obtain⟨dE,dX⟩:=mV hd hi;have Gc:i<m+1:=by
    rcases Nat.lt_or_ge i (m+1)with h|h
    ·exact h
    ·rcases hc.ba i0 i o0 ops[i] (by omega) h Ui (by simp[dX])with hf|kO
     ·exact absurd hf Uj
     ·have:=hd.ready hi kO;rw[jB]at this;cases this
   have bT:i<listed.size:=by rw[hd.1];exact dX
   have cP:=fun q=>sS (i:=q) bT;have mg:ew (aR (listed.setIfInBounds i true)) ops.size<=f:=by
    have:=(ve (L:=aR listed) (L':=aR (listed.setIfInBounds i true)) (j:=i) (fun q hq=>by rw[cP];simp[hq]) dE (by rw[cP];simp) ops.size).1 dX;omega
   have Cr:∀ q,m+1<=q->aR (listed.setIfInBounds i true) q=false:=fun q hq=>by rw[cP,hs q hq];simp;omega
   rcases Nat.lt_or_ge i m with ai|aL
   ·obtain⟨⟨o,v⟩,dj⟩:∃ p,pl[i]?=some p:=⟨pl[i]'(by omega),by rw[List.getElem?_eq_getElem]⟩;have ef:=dH i o v dj;have Uk:(vh pl m ox)[i]?=some (o,v):=by rw[fa i (by omega)];exact dj
    obtain⟨lJ,kN⟩:=xk hc.pair LG hd hi Uk h4;rw[Uc (by omega)]at kN;have mW:∀ u:Value,(a.put o.dst u).defers=[]:=fun u=>by cases iz:o.dst<;>simp[Act.put,h3]
    have rm:dB E ops o (cur pl (fun k=>decide (k<i)) 0 s0) h v:=by
     cases gj:ke o with
     |true=>exact hx.mf i o v ai dj gj h
     |false=>exact hx.pre i o v ai dj gj
    refine rm c a h1 h2 h3 kN i ef _ _ (fun c' u k1 k2 k3 k4=>?_);refine ih _ _ c' k1 k2 (mW u) (lJ c' u (fun _ _=>k3.vr) k4) ?_ (hd.set hi) Cr mg;have Gn:aR (listed.setIfInBounds i true) m=aR listed m:=by rw[cP];simp;omega
    rw[Gn];cases Gp:aR listed m with
    |false=>rw[Gp]at h5;exact Step.trans h5 k3
    |true =>
     rw[Gp]at h5;obtain⟨cA,p1,p2,p3,p4,p5⟩:=h5;refine⟨cA,p1,p2,p3,p4.trans k3,fun t ht jC=>?_⟩;have aM:o.dst≠some t:=fun e=>by
      have:=hd.dep (hc.pair i m o ox ai ef oP (sU e (List.mem_append_left _ (by simp[ht])))) Gp;rw[dE]at this;cases this
     cases iz:o.dst with
     |none=>rw[iz]at jC;simp only[Act.put]at jC ⊢;exact p5 t ht jC
     |some d =>
      have Gq:d≠t:=fun e=>aM (by rw[iz,e]);rw[iz]at jC;simp only[Act.put,Array.size_setIfInBounds]at jC;simp only[Act.put,Array.getElem?_setIfInBounds_ne Gq];exact p5 t ht jC
   ·obtain rfl:i=m:=by omega
    obtain⟨lJ,-⟩:=xk hc.pair LG hd hi LF h4;rw[dE]at h5;have h5:Step c0 c:=h5;have cW:(execOp a.eval ox).run E.P c.w=.ok (.value (.pointer (some ⟨c.w.heap.size,0,none⟩))) (c.w.alloc (.cells us.toArray ty)):=by
     simp only[execOp,bX,Instr.alloc,newVar,newRow,newObj,Sem.run_bind,Sem.run,Result.andThen_ok,Sem.run_pure,jT,pA];rfl
    unfold wpOp;have Ul:Region.wanted ox (yielded ops a.tmps)=true:=by simp[Region.wanted,CB]
    simp only[oP,Ul,if_true];left;unfold Oper.wp;rw[cW];refine ih _ _ (c.cH (.cells us.toArray ty)) h1.cH h2 (by cases iz:ox.dst<;>simp[Act.put,h3]) (lJ _ _ (fun _ _=>sX) (.any _)) ?_ (hd.set hi) Cr mg;have Gn:aR (listed.setIfInBounds i true) i=true:=by rw[cP];simp
    rw[Gn];refine⟨c,h1,h2,h5,Step.refl _ h1.cH.bE,fun t ht jC=>?_⟩;rw[ht]at jC ⊢;simp only[Act.put,Array.size_setIfInBounds]at jC;simp only[Act.put];exact Array.getElem?_setIfInBounds_self_of_lt jC
end
end Go.aA
end
section
namespace Go.aA
open Go Go.RowKit
def LH(ops:Array Oper)(m M:Nat):Bool :=
 let bs:=bits ops.toList []
 (List.range ops.size).all fun j=>match ops[j]? with
  |none=>true
  |some oj=>(oj.after.toList.all fun e => !Region.binds .any e||decide (e.on<j))&&(List.range j).all fun i=>match ops[i]? with
   |none=>true
   |some oi=>(bs.getD j 0).testBit i||(!jA ops oi oj&&(decide (j<M)||(decide (i<m)&&ke oi)))
theorem Um{ops:Array Oper}{m M:Nat}(h:LH ops m M=true):zN ops m M:=by
 have hb:=zK ops ops.toList [] rfl (fun j i h=>by simp at h);have aX:∀ j oj,ops[j]?=some oj->(oj.after.toList.all fun e => !Region.binds .any e||decide (e.on<j))=true/\∀ i oi,i<j->ops[i]?=some oi->((bits ops.toList []).getD j 0).testBit i=true\/(jA ops oi oj=false/\(j<M\/(i<m/\ke oi=true))):=fun j oj hj=>by
  have ai:j<ops.size:=(Array.getElem?_eq_some_iff.1 hj).1;have h1:=List.all_eq_true.1 h j (List.mem_range.2 ai);simp only[hj,Bool.and_eq_true]at h1;refine⟨h1.1,fun i oi hi ef=>?_⟩;have h2:=List.all_eq_true.1 h1.2 i (List.mem_range.2 hi);simp only[ef,Bool.or_eq_true,Bool.and_eq_true,decide_eq_true_eq,Bool.not_eq_true']at h2;exact h2
 refine⟨fun j o e hj he gZ=>?_,fun i j oi oj dA hi hj hc=>?_,fun i j oi oj dA hm hi hj=>?_⟩
 ·have:=List.all_eq_true.1 (aX j o hj).1 e (by simpa using he)
  simpa [gZ]using this
 ·rcases(aX j oj hj).2 i oi dA hi with h|⟨h,-⟩
  ·exact hb j i h
  ·rw[hc]at h;cases h
 ·rcases(aX j oj hj).2 i oi dA hi with h|⟨-,h|h⟩
  ·exact .inr (hb j i h)
  ·omega
  ·exact .inl h
theorem Gr:∀ (a b:List (Oper × AV)) (L:Nat->Bool) (i:Nat) (s:List AV),cur (a++b) L i s=cur b L (i+a.length) (cur a L i s)
 |[],b,L,i,s=>rfl
 |(o,v)::a,b,L,i,s=>by
  rw[List.cons_append,cur,cur,Gr a b L (i+1),List.length_cons,show i+1+a.length=i+(a.length+1) by omega]
theorem LI:∀ (a:List (Oper × AV)) (L L':Nat->Bool) (i:Nat) (s:List AV),(∀ k,k<a.length->L (i+k)=L' (i+k))->cur a L i s=cur a L' i s
 |[],_,_,_,_,_=>rfl
 |(o,v)::a,L,L',i,s,h=>by
  have h0:=h 0 (by simp);rw[Nat.add_zero]at h0;rw[cur,cur,h0];exact LI a L L' (i+1) _ (fun k hk=>by have:=h (k+1) (by simpa using hk);rwa [show i+(k+1)=i+1+k by omega]at this)
theorem xl(d:Nat):∀ (a:List (Oper × AV)) (L:Nat->Bool) (i:Nat) (s:List AV),cur a L (i+d) s=cur a (fun k=>L (k+d)) i s
 |[],_,_,_=>rfl
 |(o,v)::a,L,i,s=>by
  rw[cur,cur,show i+d+1=i+1+d by omega,xl d a L (i+1)]
section
variable {E:Env} {ops:Array Oper}
theorem gw.lay{K:List AV->List af->Prop}:∀ {l:List Oper} {s:List AV} {h:List af},gw E ops K l s h->∃ (pl:List (Oper × AV)) (hs:Nat->List af),pl.map (·.1)=l/\hs 0=h/\K (cur pl (fun k=>decide (k<pl.length)) 0 s) (hs pl.length) /\
  ∀ (j:Nat) (o:Oper) (v:AV),pl[j]?=some (o,v)->dm E ops o (cur pl (fun k=>decide (k<j)) 0 s) (hs j) v (hs (j+1))/\pP E o (hs j) v (hs (j+1))
 |[],s,h,H=>⟨[],fun _=>h,rfl,rfl,H,fun j o v hj=>by simp at hj⟩
 |o::l,s,h,H=>by
  obtain⟨v,h',h1,gr,H⟩:=H;obtain⟨pl,hs,k1,k2,k3,k4⟩:=gw.lay H;have shift:∀ (n:Nat) (s:List AV),cur pl (fun k=>decide (k<n+1)) (0+1) s=cur pl (fun k=>decide (k<n)) 0 s:=fun n s=>by
   rw[xl 1]
   congr 1
   funext k;simp
  refine⟨(o,v)::pl,fun n=>match n with|0=>h|n+1=>hs n,by simp[k1],rfl,?_,fun j o' v' hj=>?_⟩
  ·rw[cur];simp only[List.length_cons,Nat.zero_lt_succ,decide_true,if_true];rw[shift];exact k3
  ·cases j with
   |zero =>
    simp at hj;obtain⟨rfl,rfl⟩:=hj;rw[kc _ _ _ _ (fun k _=>decide_eq_false (by omega))];simp only[k2];exact⟨h1,gr⟩
   |succ j =>
    have:=k4 j o' v' (by simpa using hj);rw[cur];simp only[Nat.zero_lt_succ,decide_true,if_true];rw[shift];exact this
theorem Un{m M:Nat}(T9:m<=M){s:List AV}{h:List af}{K:List AV->List af->Prop}(hm:m<=ops.size)(H:kM E ops h (fun s'=>gw E ops K (ops.toList.drop m) s' h) (ops.toList.take m) s) :
  ∃ (pl:List (Oper × AV)) (hp:Nat->List af),XP E ops m M s h pl hp/\hp m=h/\K (cur pl (fun k=>decide (k<pl.length)) 0 s) (hp ops.size)/\∀ (o:Oper) (v:AV),pl[m]?=some (o,v)->pP E o h v (hp (m+1)):=by
 obtain⟨p1,a1,H2,a3⟩:=kM.lay H;obtain⟨p2,hs,b1,b2,b3,b4⟩:=gw.lay H2;have iL:p1.length=m:=by
  have:=congrArg List.length a1;simp at this;omega
 have sk:p2.length=ops.size-m:=by
  have:=congrArg List.length b1
  simpa using this
 have low:∀ j,j<=m->cur (p1++p2) (fun k=>decide (k<j)) 0 s=cur p1 (fun k=>decide (k<j)) 0 s:=fun j hj=>by
  rw[Gr,kc p2 _ _ _ (fun k _=>decide_eq_false (by omega))]
 have high:∀ j,cur (p1++p2) (fun k=>decide (k<m+j)) 0 s=cur p2 (fun k=>decide (k<j)) 0 (cur p1 (fun k=>decide (k<p1.length)) 0 s):=fun j=>by
  rw[Gr,xl,iL];have e1:(fun k=>decide (k+m<m+j))=(fun k=>decide (k<j)):=by funext k;simp;omega
  rw[e1]
  congr 1
  refine LI p1 _ _ 0 s (fun k hk=>?_);have e2:0+k<m:=by omega
  have e3:0+k<m+j:=by omega
  simp only[e2,e3]
 have LJ:∀ j,j<m->(p1++p2)[j]?=p1[j]? := fun j hj=>List.getElem?_append_left (by omega);have LK:∀ j,(p1++p2)[m+j]?=p2[j]? := fun j=>by rw[List.getElem?_append_right (by omega),iL,Nat.add_sub_cancel_left]
 refine⟨p1++p2,fun j=>hs (j-m),⟨?_,?_,?_,?_⟩,by simp[b2],?_,?_⟩
 ·rw[List.map_append,a1,b1,List.take_append_drop]
 ·intro j o v hj dj gj h';rw[LJ j hj]at dj;rw[low j (by omega)];exact(a3 j o v dj).2 gj h'
 ·intro j o v hj dj _;rw[LJ j hj]at dj;rw[low j (by omega)];exact(a3 j o v dj).1
 ·intro j o v hj dj;obtain⟨i,rfl⟩:∃ i,j=m+i:=⟨j-m,by omega⟩;rw[LK]at dj;have:=(b4 i o v dj).1;rw[high];simp only[Nat.add_sub_cancel_left,show m+i+1-m=i+1 by omega];exact this
 ·have e:(p1++p2).length=m+p2.length:=by rw[List.length_append,iL]
  rw[e,high];show K _ (hs (ops.size-m));rw[show ops.size-m=p2.length from sk.symm];exact b3
 ·intro o v dj;have:=LK 0;rw[Nat.add_zero]at this;rw[this]at dj;have:=(b4 0 o v dj).2;rw[b2]at this
  simpa using this
variable {ae:FuncId} {R:bZ} {s:List AV} {h:List af}
theorem AW.zR{id:Nat}{k:List aI}(hm:E.P.follows .mixedOrders=true)(dM:R.fx.cG=none)(dK:R.fx.aN=[])
  (H:∀ (c:Cx) (t:Array Value) (Q:Exit->Act->World->Prop),(∀ (a:Act) (c':Cx) (s':List AV) (h':List af),AW E R.fx.f0 ⟨⟨ae,R.fx.cG,R.fx.aN⟩,k,s'⟩ R.fx.cls h' R->aE E.G c'->c'.heap=h'->a.defers=[]->VS c' s' a.tmps->Step c c'->Q .normal a c'.w)->aE E.G c->c.heap=h->VS c s t->wpAny E.P .any ops Q ops.size (Array.replicate ops.size false) ⟨t,[]⟩ c.w) :
  AW E R.fx.f0 ⟨⟨ae,R.fx.cG,R.fx.aN⟩,.code (.region id ops true)::k,s⟩ R.fx.cls h R:=by
 have e:(⟨ae,R.fx.cG,R.fx.aN⟩:iE)=⟨ae,none,[]⟩:=by rw[dM,dK]
 simp only[e]at H ⊢;unfold AW;intro c0 c t ts h0 h1 h2 h3 hr cb h4 h5 cs;have hx:Proofs.YtcmnpelmmekdkaaGreatDoor.Ext c.w { c.w with drawn:=c.w.drawn+1 }:=⟨rfl,rfl,rfl,Nat.le_refl _,fun _ _=>rfl⟩;obtain⟨g1,g2⟩:=h3.grow hx;have Ge:(Code.region id ops true).wp E.P (fun e a w=>e=.normal/\∃ (c':Cx) (s':List AV) (h':List af),AW E R.fx.f0 ⟨⟨ae,none,[]⟩,k,s'⟩ R.fx.cls h' R/\aE E.G c'/\c'.heap=h'/\a.defers=[]/\VS c' s' a.tmps/\Step c c'/\w=c'.w) ⟨t,[]⟩ c.w:=by
  refine wp_region_any hm ?_;exact H (c.dI { c.w with drawn:=c.w.drawn+1 }) t _ (fun a c' s' h' hK r1 r2 r3 r4 r5=>⟨rfl,c',s',h',hK,r1,r2,r3,r4,g2.trans r5,rfl⟩) g1 h2 (g2.vs h4)
 obtain⟨e,a',w',⟨rfl,c',s',h',hA,r1,r2,r3,r4,r5,rfl⟩,Gf⟩:=Ge (bf ⟨ae,none,[]⟩) (k.map aI.bS) (fq R.fx.cls ts++cs);unfold AW at hA;obtain⟨c2,fr,r,v,q1,q2,q3,uw,q4,q5,q6⟩:=hA c0 c' a'.tmps ts h0 (ee h1) r2 r1 (hr.step r5) (cb.step h3 r5) r4 (r5.cr h5) cs;refine⟨c2,fr,r,v,q1,q2,q3,uw,?_,q5,q6⟩;have zo:a'=⟨a'.tmps,[]⟩:=by cases a';simp only at r3;subst r3;rfl
 have:Steps E.P (lone ((bf ⟨ae,none,[]⟩).at ⟨t,[]⟩ (.code (.region id ops true)::k.map aI.bS)) (fq R.fx.cls ts++cs) c.w) (lone ((bf ⟨ae,none,[]⟩).at a' (k.map aI.bS)) (fq R.fx.cls ts++cs) c'.w):=Gf;rw[zo]at this;exact this.trans q4
theorem kP(n i:Nat):aR (Array.replicate n false) i=false:=by
 unfold aR;simp[Array.getElem?_replicate];split<;>rfl
theorem CC(n:Nat):∀ k,ew (aR (Array.replicate n false)) k<=k:=by
 intro k
 induction k with
 |zero=>exact Nat.le_refl _
 |succ k ih=>simp only[ew];split<;>omega
variable {k:List aI} {lits:List Nat}
theorem Uo{l:List Oper}{s:List AV}{h:List af}(H:gw E ops (fun s2 h2=>aa E ae R [] k s2 h2) l s h):gw E ops (fun s2 h2=>AW E R.fx.f0 ⟨⟨ae,R.fx.cG,R.fx.aN⟩,k,s2⟩ R.fx.cls h2 R) l s h:=by
 induction l generalizing s h with
 |nil=>exact aa.to H
 |cons o l ih=>obtain⟨v,h',h1,gr,h2⟩:=H;exact⟨v,h',h1,gr,ih h2⟩
theorem Up{ba l:List Oper}{s:List AV}{h:List af}(H:kM E ops h (fun s'=>gw E ops (fun s2 h2=>aa E ae R [] k s2 h2) ba s' h) l s):kM E ops h (fun s'=>gw E ops (fun s2 h2=>AW E R.fx.f0 ⟨⟨ae,R.fx.cG,R.fx.aN⟩,k,s2⟩ R.fx.cls h2 R) ba s' h) l s:=by
 induction l generalizing s with
 |nil=>exact Uo H
 |cons o l ih=>obtain⟨v,h1,gr,h2⟩:=H;exact⟨v,h1,gr,ih h2⟩
def LL(o:Oper):Bool:=match o.op,o.guard with
 | .alloc _,none=>true
 |_,_=>false
theorem aa.LM(hE:E.OK)(hm:E.P.follows .mixedOrders=true)(m n:Nat){id:Nat}(kf:(LH ops m (m+1)&&Nat.ble (m+1) ops.size&&(match ops[m]? with|some o=>LL o|none=>false))=true)(H:sq m ops.toList fun pre=>qD m ops.toList fun ba=>me E ae R ops k n [] pre ba s h)(dM:R.fx.cG=none:=by rfl)(dK:R.fx.aN=[]:=by rfl):aa E ae R lits (.code (.region id ops true)::k) s h:=by
 rw[Bz,yy]at H;rw[Bool.and_eq_true,Bool.and_eq_true]at kf;obtain⟨⟨jW,CD⟩,vi⟩:=kf;have oL:=Nat.le_of_ble_eq_true CD;cases oP:ops[m]? with
 |none=>rw[oP]at vi;cases vi
 |some ox =>
  rw[oP]at vi;obtain⟨ty,bX,CB⟩:∃ ty,ox.op=.alloc ty/\ox.guard=none:=by
   have vi:LL ox=true:=vi;clear oP;obtain⟨dst,op,type,pos,after,guard⟩:=ox;cases op<;>first|(cases guard<;>first|exact⟨_,rfl,rfl⟩|cases vi)|cases vi
  obtain⟨pl,hp,x1,x2,x3,x4⟩:=Un (M:=m+1) (by omega) (by omega) (Up (Gg hE n [] _ _ s h H));obtain⟨hlen,dH⟩:=rp x1.Gk;obtain⟨⟨o,v⟩,dj⟩:∃ p,pl[m]?=some p:=⟨pl[m]'(by omega),by rw[List.getElem?_eq_getElem]⟩;have LN:=dH m o v dj;rw[oP]at LN;cases LN;obtain⟨rfl,ti,t1,t2,t3,hh⟩:=x4 ox v dj ty bX CB;refine .of (AW.zR hm dM dK fun c t Q hQ h1 h2 h4=>?_);obtain⟨us,aO⟩:=Ud hE (Um jW) oL oP bX CB t1 t2 t3 x1 dj hh (Kf:=fun s2 h2=>AW E R.fx.f0 ⟨⟨ae,R.fx.cG,R.fx.aN⟩,k,s2⟩ R.fx.cls h2 R) (c0:=c) (Q:=Q) x3 hQ;refine aO ops.size _ ⟨t,[]⟩ c h1 h2 rfl ?_ (by rw[kP];exact Step.refl c h1.bE) ⟨by simp,fun j o e _ hl=>by rw[kP]at hl;cases hl⟩ (fun i _=>kP _ i) (CC _ _);rw[kc _ 0 s _ (fun i _=>kP _ _)];exact h4
end
end Go.aA
end
section
namespace Go.aA
open Go Go.RowKit
section
variable {E:Env} {s:List AV} {h:List af} {c:Cx} {G:List (Nat × DV)}
theorem LO(hE:E.OK){t e len:Nat}{i ei:bD}(hi:E.T[t]?=some i)(cd:E.T[e]?=some ei)(hk:i.k=.slice e){parts:Array (Nat × Operand)}{ps:List (Nat × AV)}(eT:yJ E.G s parts.toList ps)
  (hz:ei.zero.length=ei.size) (cD:0<ei.size) (hlen:0<len) (BL:len*ei.size<=16777216) {z:DV} (uf:z.cells=ei.zero) (gL:∀ y∈ei.zero,y.fm=true) {stop:Prop} {k:List DV->Prop} (H:ot ei.size ps (List.replicate len z) stop k) :
  stop\/∃ l,k l/\aZ E (.buildSlice t len parts) s h (.own h.length 0) (h++[.arr 0 (e,ei.size) l]):=by
 have dN:gM ei.size (List.replicate len z):=fun j e' h'=>by
  rw[List.getElem?_replicate]at h';split at h'
  ·cases h';rw[uf,hz]
  ·cases h'
 have mM:pB (List.replicate len z):=fun j e' h'=>by
  rw[List.getElem?_replicate]at h';split at h'
  ·cases h';rw[uf];exact gL
  ·cases h'
 rcases ER dN mM H with h'|⟨l,h1,h2,iD,h3,h4⟩
 ·exact .inl h'
 refine .inr ⟨l,h1,fun o c ac e1 e2 e3 e4=>?_⟩;subst e2;obtain⟨ti,zv,g1,g2,g3,g4⟩:=zeroOf (hE.types e ei cd) hz cD;obtain⟨zs,yL,jV⟩:=g4 c;obtain⟨p1,p2⟩:=eT c ac e3 e4;have l4:zs.length=ei.size:=by rw[<- jV.1];simpa using hz
 have yM:VL c ((flat (List.replicate len z)).map .d) ((Array.range (len*ti.size)).map (zv.cells[· % zv.cells.size]!)).toList:=by
  refine .uc (by rw[ln dN];simp[g3]) (fun j x v hx hv=>?_);have hj:j<len*ei.size:=by
   have:=ln dN;rw[List.length_replicate]at this;rw[<- this];rcases Nat.lt_or_ge j (flat (List.replicate len z)).length with h|h
   ·exact h
   ·rw[List.getElem?_eq_none h]at hx;cases hx
  have hd:j / ei.size<len:=Nat.div_lt_of_lt_mul (by rw[Nat.mul_comm];exact hj);have hm:j % ei.size<ei.size:=Nat.mod_lt _ cD;have h5:=flat_get dN (i:=j / ei.size) (j:=j % ei.size) (e:=z) (by simp[hd]) hm;rw[Nat.mul_comm,Nat.div_add_mod,hx,uf]at h5;have ir:v=zs[j % ei.size]'(by omega):=by
   have dL:j<len*ti.size:=by rw[<- g3];exact hj
   simp[dL,yL,l4]at hv;rw[<- hv];simp[l4,hm]
  rw[ir];exact jV.py (j % ei.size) x _ h5.symm (by simp[l4,hm])
 obtain⟨cQ,f1,f2⟩:=h4 c _ _ yM p2;obtain⟨yN,d,q1,q2,q3,-⟩:=cM (hE.types t i hi);obtain rfl:=lZ (hk.symm.trans q3);have eq:(parts.map fun(i,x)=>(i,ac.eval x)).toList=(ps.map (·.1)).zip (parts.toList.map fun p=>ac.eval p.2):=by
  rw[p1,Array.toList_map];generalize parts.toList=q
  induction q with
  |nil=>rfl
  |cons a q ih=>simp only[List.map_cons,List.zip_cons_cons,ih]
 have yO:Instr.fill (fun i=>some (i*ti.size,ti.size)) ((Array.range (len*ti.size)).map (zv.cells[· % zv.cells.size]!)) (parts.map fun(i,x)=>(i,ac.eval x)).toList=some cQ.toArray:=by
  rw[eq,<- f1,g3]
 have cW:=run_buildSlice (P:=E.P) c.w t e len (parts.map fun(i,x)=>(i,ac.eval x)) cQ.toArray ti zv q2 g1 g2 (by rw[<- g3];omega) (by rw[<- g3];have:=Nat.mul_pos hlen cD;omega) yO;have ug:l.length=len:=by rw[h3];simp
 obtain⟨k1,k2⟩:=e3.add (.arr 0 (e,ei.size) l) len (.cells cQ.toArray e);have bJ:(c.add (.arr 0 (e,ei.size) l) len (.cells cQ.toArray e)).own c.heap.length=some (c.w.heap.size,len):=by simp[Cx.add]
 have kE:(c.add (.arr 0 (e,ei.size) l) len (.cells cQ.toArray e)).heap[c.heap.length]?=some (.arr 0 (e,ei.size) l):=by simp[Cx.add]
 have bT:cQ.length=len*ei.size:=by
  have:=f2.1;simp only[List.length_map]at this;rw[<- this,ln h2,ug]
 have dZ:jr (c.add (.arr 0 (e,ei.size) l) len (.cells cQ.toArray e)) c.heap.length (.arr 0 (e,ei.size) l):=by
  refine⟨cD,h2,.inr ⟨c.w.heap.size,len,cQ.toArray,bJ,heap_alloc_new _ _,by simpa using bT,by omega,by unfold maxLen;have:=Nat.le_mul_of_pos_right len cD;omega,fun i j e' x he hx=>?_⟩⟩;have hj:j<ei.size:=by
   have:=a7 hx;rw[h2 i e' he]at this;exact this
  have hf:=flat_get h2 he hj;rw[hx]at hf;have ai:i*ei.size+j<cQ.length:=by
   have:=f2.1;simp only[List.length_map]at this;rw[<- this];exact a7 hf
  refine⟨cQ[i*ei.size+j],by simp[ai],yC (f2.py _ x _ hf (by simp[ai])) (iD i e' he x (List.mem_of_getElem? hx)),k1.vd (f2.py _ x _ hf (by simp[ai]))⟩
 refine⟨_,.slice (some ⟨c.w.heap.size,0,none⟩) len len,.inl (by simp only[execOp,e1,Sem.run_bind,cW,Result.andThen_ok,Sem.run_pure];rfl),rfl,k2 dZ,?_,k1⟩;have:=VR.own (c:=c.add (.arr 0 (e,ei.size) l) len (.cells cQ.toArray e)) c.heap.length 0 (e,ei.size) l c.w.heap.size len kE bJ;rw[ug]at this;exact this
def Gs(E:Env)(o:Op)(s:List AV)(h:List af)(stop:Prop)(k:AV->List af->Prop):Prop :=
 match o with
 | .buildSlice t len parts=>aY E.T t stop fun i=>match i.k with
  | .slice e=>aY E.T e stop fun ei=>match Nat.beq ei.zero.length ei.size,Nat.blt 0 ei.size,Nat.blt 0 len,Nat.ble (len*ei.size) 16777216,ei.zero.all DV.fm with
   |true,true,true,true,true=>tY E.G s parts.toList stop fun ps =>
    match ei.zero with
    |[z]=>tX len z fun zs=>ot ei.size ps zs stop fun l=>lY h (.arr 0 (e,ei.size) l) 0 fun h' n=>k (.own n 0) h'
    |zl=>tX len (.agg zl) fun zs=>ot ei.size ps zs stop fun l=>lY h (.arr 0 (e,ei.size) l) 0 fun h' n=>k (.own n 0) h'
   |_,_,_,_,_=>stop
  |_=>stop
 |_=>stop
theorem Uq(hE:E.OK){o:Op}{stop:Prop}{k:AV->List af->Prop}(H:Gs E o s h stop k):stop\/∃ v h',k v h'/\aZ E o s h v h':=by
 unfold Gs at H;split at H
 ·rcases bp H with h|⟨i,hi,H⟩
  ·exact .inl h
  split at H
  ·rename_i e hk;rcases bp H with h|⟨ei,cd,H⟩
   ·exact .inl h
   split at H
   ·rename_i q1 q2 q3 q4 q5;rcases yK H with h|⟨ps,eT,H⟩
    ·exact .inl h
    simp only[nB,Nat.zero_add]at H;split at H
    ·rename_i z jT;rw[BK]at H;have gL:z.fm=true:=by rw[jT]at q5;simpa using q5
     rcases LO hE hi cd hk eT (Nat.eq_of_beq_eq_true q1) (ix q2) (ix q3) (Nat.le_of_ble_eq_true q4) (z:=z) (by rw[jT];cases z<;>first|rfl|cases gL) (fun y hy=>List.all_eq_true.1 q5 y hy) H with h|⟨l,H,hl⟩
     ·exact .inl h
     exact .inr ⟨_,_,H,hl⟩
    ·rw[BK]at H;rcases LO hE hi cd hk eT (Nat.eq_of_beq_eq_true q1) (ix q2) (ix q3) (Nat.le_of_ble_eq_true q4) (z := .agg ei.zero) rfl (fun y hy=>List.all_eq_true.1 q5 y hy) H with h|⟨l,H,hl⟩
     ·exact .inl h
     exact .inr ⟨_,_,H,hl⟩
   ·exact .inl H
  ·exact .inl H
 ·exact .inl H
theorem aa.kQ(hE:E.OK){ae:FuncId}{R:bZ}{lits:List Nat}{ops:Array Oper}{o:Oper}{l:List Oper}{r:List aI}(hg:o.guard=none)
  (H:Gs E o.op s h False fun v h'=>bL s o.dst v fun s'=>aa E ae R lits (.bF ops l::r) s' h'):aa E ae R lits (.bF ops (o::l)::r) s h:=by
 rcases Uq hE H with h|⟨v,h',H,ho⟩
 ·exact h.elim
 ·rw[df]at H;exact .of (.op (eK hg) ho H.to)
end
mutual
def norm:DV->DV
 | .aW => .sl []
 | .agg c => .agg (rq c)
 | .aK c => .aK (rq c)
 |x=>x
def rq:List DV->List DV
 |[]=>[]
 |x::l=>norm x::rq l
end
theorem Gt:∀ (l:List DV),rq l=l.map norm
 |[]=>rfl
 |x::l=>by rw[rq,Gt l];rfl
theorem Ur{bad:Nat->Prop}{w:World}{x:DV}{v:Value}(h:VD bad w x v):VD bad w (norm x) v:=by
 induction h with
 |aW=>exact .slnil
 |agg c vs hlen bQ ih =>
  rw[norm,Gt];refine .agg _ _ (by simpa using hlen) fun j y v hy hv=>?_;rw[List.getElem?_map]at hy;cases hc:c[j]? with
  |none=>rw[hc]at hy;cases hy
  |some z=>rw[hc]at hy;cases hy;exact ih j z v hc hv
 |aK c vs hlen bQ ih =>
  rw[norm,Gt];refine .aK _ _ (by simpa using hlen) fun j y v hy hv=>?_;rw[List.getElem?_map]at hy;cases hc:c[j]? with
  |none=>rw[hc]at hy;cases hy
  |some z=>rw[hc]at hy;cases hy;exact ih j z v hc hv
 |undef=>exact .undef
 |bool b=>exact .bool b
 |int k n=>exact .int k n
 |str l=>exact .str l
 |slnil=>exact .slnil
 |lg a=>exact .lg a
 |sl l blk off cap sz f hb bT jo hlen dQ bQ cj ih=>exact .sl l blk off cap sz f hb bT jo hlen dQ bQ cj
 |eJ=>exact .eJ
 |aF=>exact .aF
 |im=>exact .im
 |mE=>exact .mE
 |fn f=>exact .fn f
 |raw v h=>exact .raw v h
theorem az.norm{E:Env}{f:FuncId}{args:List DV}{y:DV}(H:az E f args (fun r=>aA.norm r=y)):az E f args (· = y):=by
 unfold az at H ⊢;exact⟨H.1,fun ak w vs h1 h2 h3=>(H.2 ak w vs h1 h2 h3).mono fun e w' ⟨v,r,k1,k2,k3,k4⟩=>⟨v,y,k1,rfl,k2 ▸ Ur k3,k4⟩⟩
end Go.aA
end
section
namespace Go.aA
open Go Go.RowKit
inductive OT where
 |leaf
 |alt (i:Nat) (t r:OT)
def OT.vj:OT->List Nat
 | .leaf=>[]
 | .alt i _ r=>i::r.vj
def OT.depth:OT->Nat
 | .leaf=>0
 | .alt _ t r=>max (t.depth+1) r.depth
def vk(ops:Array Oper):Array Bool->OT->Bool
 |_,.leaf=>true
 |listed,.alt i t r=>(Region.ready .any ops (listed.setIfInBounds i true)==t.vj)&&vk ops (listed.setIfInBounds i true) t&&vk ops listed r
section
variable {E:Env} {ops:Array Oper} {K:List AV->List af->Prop}
def ru(E:Env)(ops:Array Oper)(K:List AV->List af->Prop):OT->List AV->List af->Prop
 | .leaf,_,_=>True
 | .alt i t r,s,h=>(∃ o v h',ops[i]?=some o/\dm E ops o s h v h'/\(t=.leaf->K (bM s o.dst v) h')/\ru E ops K t (bM s o.dst v) h')/\ru E ops K r s h
@[irreducible] def ib (E : Env) (ops : Array Oper) (K : List AV -> List af -> Prop) (t : OT) (s : List AV) (h : List af) : Prop := (t = .leaf -> K s h) /\ ru E ops K t s h
theorem ib.leaf{s:List AV}{h:List af}(H:K s h):ib E ops K .leaf s h:=by unfold ib;exact⟨fun _=>H,trivial⟩
theorem ib.fst{s0:List AV}{h0:List af}{q:List AV × List af}:ib E ops (fun s h=>(s,h)∈[(s0,h0),q]) .leaf s0 h0:=ib.leaf (List.Mem.head _)
theorem ib.snd{s0:List AV}{h0:List af}{p:List AV × List af}:ib E ops (fun s h=>(s,h)∈[p,(s0,h0)]) .leaf s0 h0:=ib.leaf (List.Mem.tail _ (List.Mem.head _))
theorem ib.to{t:OT}{s:List AV}{h:List af}(H:ib E ops K t s h):(t=.leaf->K s h)/\ru E ops K t s h:=by unfold ib at H;exact H
def Gu(E:Env)(ops:Array Oper)(K:List AV->List af->Prop):OT->List AV->List af->Prop
 | .leaf,_,_=>True
 | .alt i t r,s,h=>(aY ops.toList i False fun o=>match o.guard with
   |none=>sW (ca ops o) 0 s fun so=>fo E.T E.G o.op so h (oE E o.op so h (gu E o.op so h False fun v h'=>bL s o.dst v fun s'=>ib E ops K t s' h') fun v h'=>bL s o.dst v fun s'=>ib E ops K t s' h') fun v h'=>bL s o.dst v fun s'=>ib E ops K t s' h'
   |some _=>False)/\Gu E ops K r s h
theorem LQ(hE:E.OK):∀ (t:OT) {s:List AV} {h:List af},Gu E ops K t s h->ru E ops K t s h
 | .leaf,_,_,_=>trivial
 | .alt i t r,s,h,H=>by
  obtain⟨H,hr⟩:=H;refine⟨?_,LQ hE r hr⟩;rcases bp H with H|⟨o,ho,H⟩
  ·exact H.elim
  split at H
  ·rename_i hg;rw[zL]at H;have key:∀ v h',(bL s o.dst v fun s'=>ib E ops K t s' h')->aZ E o.op (bY (ca ops o) 0 s) h v h'->∃ o v h',ops[i]?=some o/\dm E ops o s h v h'/\(t=.leaf->K (bM s o.dst v) h')/\ru E ops K t (bM s o.dst v) h':=fun v h' H aO=>by
    rw[df]at H;exact⟨o,v,h',by simpa using ho,dm.of (eK hg) aO,H.to.1,H.to.2⟩
   rcases uh hE H with H|⟨v,h',H,aO⟩
   ·rcases zb hE H with H|⟨v,h',H,aO⟩
    ·rcases uH hE H with H|⟨v,h',H,aO⟩
     ·exact H.elim
     ·exact key v h' H aO
    ·exact key v h' H aO
   ·exact key v h' H aO
  ·exact H.elim
theorem ib.step(hE:E.OK){i:Nat}{t r:OT}{s:List AV}{h:List af}(H:Gu E ops K (.alt i t r) s h):ib E ops K (.alt i t r) s h:=by
 unfold ib;exact⟨fun e=>(by cases e),LQ hE _ H⟩
theorem LR{listed:Array Bool}:∀ {t:OT} {s:List AV} {h:List af} {i:Nat},vk ops listed t=true->ru E ops K t s h->i∈t.vj ->
  ∃ t',vk ops (listed.setIfInBounds i true) t'=true/\Region.ready .any ops (listed.setIfInBounds i true)=t'.vj/\t'.depth+1<=t.depth/\∃ o v h',ops[i]?=some o/\dm E ops o s h v h'/\(t'=.leaf->K (bM s o.dst v) h')/\ru E ops K t' (bM s o.dst v) h'
 | .leaf,_,_,_,_,_,hi=>by simp[OT.vj]at hi
 | .alt j t r,s,h,i,aO,hp,hi=>by
  simp only[vk,Bool.and_eq_true,beq_iff_eq]at aO;rcases List.mem_cons.1 hi with rfl|hi
  ·exact⟨t,aO.1.2,aO.1.1,by simp only[OT.depth];omega,hp.1⟩
  ·obtain⟨t',h1,h2,h3,h4⟩:=LR aO.2 hp.2 hi;exact⟨t',h1,h2,by simp only[OT.depth];omega,h4⟩
theorem Us{c c':Cx}{s:List AV}{a:Act}{dst:Option Nat}{v:AV}{u:Value}(aT:Step c c')(h:VS c s a.tmps)(hv:VR c' v u):VS c' (bM s dst v) (a.put dst u).tmps:=by
 cases dst with
 |none=>exact aT.vs h
 |some d=>exact(aT.vs h).put d hv
theorem Ut{Q:Exit->Act->World->Prop}{c0:Cx}(hQ:∀ (a:Act) (c:Cx) (s:List AV) (h:List af),K s h->aE E.G c->c.heap=h->a.defers=[]->VS c s a.tmps->Step c0 c->Q .normal a c.w) :
  ∀ (f:Nat) (t:OT) (listed:Array Bool) (a:Act) (c:Cx) (s:List AV) (h:List af),vk ops listed t=true->Region.ready .any ops listed=t.vj->t.depth<=f->(t=.leaf->K s h)->ru E ops K t s h->aE E.G c->c.heap=h->a.defers=[]->VS c s a.tmps->Step c0 c->wpAny E.P .any ops Q f listed a c.w:=by
 intro f
 induction f with
 |zero =>
  intro t listed a c s h h1 h2 h3 h4 h5 k1 k2 k3 k4 k5;cases t with
  |leaf=>exact⟨h2,hQ a c s h (h4 rfl) k1 k2 k3 k4 k5⟩
  |alt i t r=>simp only[OT.depth]at h3;omega
 |succ f ih =>
  intro t listed a c s h h1 h2 h3 h4 h5 k1 k2 k3 k4 k5;refine⟨fun hr=>?_,fun i hi=>?_⟩
  ·cases t with
   |leaf=>exact hQ a c s h (h4 rfl) k1 k2 k3 k4 k5
   |alt i t r=>rw[hr]at h2;cases h2
  ·rw[h2]at hi;obtain⟨t',g1,g2,g3,o,v,h',g4,g5,g6,g7⟩:=LR h1 h5 hi;refine g5 c a k1 k2 k3 k4.mask i g4 _ _ (fun c' u m1 m2 m3 m4=>?_);exact ih t' _ _ c' _ h' g1 g2 (by omega) g6 g7 m1 m2 (by cases iz:o.dst<;>simp[Act.put,k3]) (Us m3 k4 m4) (k5.trans m3)
theorem aa.Uu(hE:E.OK)(hm:E.P.follows .mixedOrders=true){ae:FuncId}{R:bZ}{lits:List Nat}{k:List aI}{s:List AV}{h:List af}{id:Nat}(T:OT)(p q:List AV × List af)
  (kf:((Region.ready .any ops (Array.replicate ops.size false)==T.vj)&&vk ops (Array.replicate ops.size false) T&&Nat.ble T.depth ops.size)=true)
  (H:ib E ops (fun s h=>(s,h)∈[p,q]) T s h) (H1:aa E ae R [] k p.1 p.2) (H2:aa E ae R [] k q.1 q.2) (dM:R.fx.cG=none:=by rfl) (dK:R.fx.aN=[]:=by rfl):aa E ae R lits (.code (.region id ops true)::k) s h:=by
 simp only[Bool.and_eq_true,beq_iff_eq]at kf;obtain⟨⟨c1,c2⟩,c3⟩:=kf;refine .of (AW.zR hm dM dK fun c t Q hQ h1 h2 h4=>?_);refine Ut (K:=fun s h=>(s,h)∈[p,q]) (fun a c' s' h' hK=>hQ a c' s' h' ?_) ops.size T _ ⟨t,[]⟩ c s h c2 c1 (Nat.le_of_ble_eq_true c3) H.to.1 H.to.2 h1 h2 rfl h4 (Step.refl c h1.bE);rcases List.mem_cons.1 hK with e|hK
 ·cases e;exact H1.to
 ·rcases List.mem_cons.1 hK with e|hK
  ·cases e;exact H2.to
  ·cases hK
end
end Go.aA
end
end
