/- Lemmas of mine. Conditions: as stated. -/
import Derived.Test.YtcmnpelmmekdkaaGreatDoorW1
import Derived.Orders
set_option linter.unusedVariables false
set_option linter.unusedSimpArgs false
section
namespace Go.aA
open Go Go.RowKit
def dV:List Nat->Nat->Option Nat
 |[],_=>none
 |a::l,j=>match Nat.beq a j with
  |true=>some 0
  |false=>(dV l j).map (· + 1)
theorem nR:∀ {l:List Nat} {j i:Nat},dV l j=some i->l[i]?=some j
 |a::l,j,i,h=>by
  simp only[dV]at h;split at h
  ·rename_i q;cases h;simp[Nat.eq_of_beq_eq_true q]
  ·cases hx:dV l j with
   |none=>rw[hx]at h;cases h
   |some k=>rw[hx]at h;cases h;simpa using nR hx
theorem uF:∀ {l:List Nat} {j i:Nat},l.Nodup->l[i]?=some j->dV l j=some i
 |[],_,_,_,h=>by simp at h
 |a::l,j,0,_,h=>by simp at h;subst h;simp[dV]
 |a::l,j,i+1,hn,h=>by
  have hl:l[i]?=some j:=by simpa using h
  have aH:(Nat.beq a j)=false:=by
   cases hb:Nat.beq a j with
   |false=>rfl
   |true =>
    have:=Nat.eq_of_beq_eq_true hb;subst this;exact absurd (List.mem_of_getElem? hl) (List.nodup_cons.1 hn).1
  simp only[dV,aH,uF (List.nodup_cons.1 hn).2 hl];rfl
theorem KB{l:List Nat}{j:Nat}(h:dV l j=none)(hn:l.Nodup):j ∉ l:=fun hm=>by
 obtain⟨i,hi,he⟩:=List.getElem_of_mem hm;rw[uF hn (i:=i) (by simp[hi,he])]at h;cases h
def qU(h:List af)(j:Nat):Nat:=match ee h j with
 |some (.arr g _ _)=>g
 |_=>0
section
variable (ah:List Nat) (h:List af)
def oL:AV->AV
 | .own j g=>match dV ah j with
  |some i=>match ee h j with
   |some (.arr g' _ _)=>match Nat.beq g g' with
    |true => .own i 0
    |false => .any
   |_ => .any
  |none => .any
 | .ptr j off=>match dV ah j with
  |some i=>match ee h j with
   |some (.cells _) => .ptr i off
   |_ => .any
  |none => .any
 | .cD j g k off=>match dV ah j with
  |some i=>match ee h j with
   |some (.arr g' _ _)=>match Nat.beq g g' with
    |true => .cD i 0 k off
    |false => .any
   |_ => .any
  |none => .any
 | .cut j g k q=>match dV ah j with
  |some i=>match ee h j with
   |some (.arr g' _ _)=>match Nat.beq g g' with
    |true => .cut i 0 k q
    |false => .any
   |_ => .any
  |none => .any
 | .map j=>match dV ah j with
  |some i=>match ee h j with
   |some (.map _) => .map i
   |_ => .any
  |none => .any
 | .d x => .d x
 | .b9 e off => .b9 e off
 |_ => .any
def lu:AV->AV
 | .agg l => .agg (l.map (oL ah h))
 | .aJ l => .aJ (l.map (oL ah h))
 | .fn f a b => .fn f (a.map (oL ah h)) (b.map (oL ah h))
 |x=>oL ah h x
def qV:af->af
 | .arr _ ts l => .arr 0 ts l
 | .cells cs => .cells (cs.map (oL ah h))
 |b=>b
def jW:List af:=ah.map fun j=>match ee h j with
 |some b=>qV ah h b
 |none => .gone
def ig(i:Nat):Nat:=match ee ah i with
 |some j=>j
 |none=>h.length+(i-ah.length)
def uG(i:Nat):Nat:=match ee ah i with
 |some j=>qU h j
 |none=>0
def nS:AV->AV
 | .own i g => .own (ig ah h i) (uG ah h i+g)
 | .ptr i off => .ptr (ig ah h i) off
 | .cD i g k off => .cD (ig ah h i) (uG ah h i+g) k off
 | .cut i g k q => .cut (ig ah h i) (uG ah h i+g) k q
 | .map i => .map (ig ah h i)
 | .d x => .d x
 | .b9 e off => .b9 e off
 |_ => .any
def wL:AV->AV
 | .agg l => .agg (l.map (nS ah h))
 | .aJ l => .aJ (l.map (nS ah h))
 | .fn f a b => .fn f (a.map (nS ah h)) (b.map (nS ah h))
 |x=>nS ah h x
def jX:AV->AV
 | .aJ l => .aJ (l.map (wL ah h))
 |x=>wL ah h x
def pH(g0:Nat):af->af
 | .arr g ts l => .arr (g0+g) ts l
 | .cells cs => .cells (cs.map (nS ah h))
 |b=>b
def pI(h1:List af):Nat->List af->List af
 |_,[]=>[]
 |j,b::r=>(match dV ah j with
  |some i=>match ee h1 i with
   |some b1=>pH ah h (qU h j) b1
   |none => .gone
  |none=>b)::pI h1 (j+1) r
def fW(h1:List af):List af:=pI ah h h1 0 h++(h1.drop ah.length).map (pH ah h 0)
end
section
variable {ah:List Nat} {h:List af}
theorem wM(h1:List af):∀ (j:Nat) (r:List af),(pI ah h h1 j r).length=r.length
 |_,[]=>rfl
 |j,b::r=>by simp[pI,wM h1 (j+1) r]
theorem Ff(h1:List af):∀ (j k:Nat) (r:List af),(pI ah h h1 j r)[k]?=(r[k]?).map fun b=>match dV ah (j+k)with
  |some i=>match ee h1 i with
   |some b1=>pH ah h (qU h (j+k)) b1
   |none => .gone
  |none=>b
 |_,_,[]=>by simp[pI]
 |j,0,b::r=>by simp[pI]
 |j,k+1,b::r=>by
  simp only[pI,List.getElem?_cons_succ];rw[Ff h1 (j+1) k r,show j+1+k=j+(k+1) by omega]
theorem Tv(h1:List af):(fW ah h h1).length=h.length+(h1.length-ah.length):=by simp[fW,wM]
theorem KC{h1:List af}{j:Nat}(hj:j<h.length)(hn:dV ah j=none):(fW ah h h1)[j]?=h[j]? := by
 rw[fW,List.getElem?_append_left (by rw[wM];exact hj),Ff,Nat.zero_add,hn];simp
theorem wN{h1:List af}{i j:Nat}(hj:j<h.length)(hi:dV ah j=some i){b:af}(hb:h1[i]?=some b):(fW ah h h1)[j]?=some (pH ah h (qU h j) b):=by
 rw[fW,List.getElem?_append_left (by rw[wM];exact hj),Ff,Nat.zero_add,hi];simp[gm,hb,hj]
theorem KD{h1:List af}{k:Nat}:(fW ah h h1)[h.length+k]?=(h1[ah.length+k]?).map (pH ah h 0):=by
 rw[fW,List.getElem?_append_right (by rw[wM];omega),wM];simp
def Cx.gz(c:Cx)(ah:List Nat):Cx:=⟨fun i=>match ah[i]? with|some j=>c.own j|none=>none,jW ah c.heap,fun b=>c.ak b\/∃ j n,j ∉ ah/\c.own j=some (b,n),c.w⟩
def Cx.take(c c1:Cx)(ah:List Nat):Cx:=⟨fun j=>match dV ah j with|some i=>c1.own i|none=>if j<c.heap.length then c.own j else c1.own (ah.length+(j-c.heap.length)),fW ah c.heap c1.heap,c.ak,c1.w⟩
variable {c c1:Cx} {G:List (Nat × DV)}
theorem KE(b:Nat):(c.gz ah).bad b↔c.bad b:=by
 constructor
 ·rintro((hb|⟨j,n,-,hj⟩)|⟨i,n,hi⟩)
  ·exact .inl hb
  ·exact .inr ⟨j,n,hj⟩
  ·simp only[Cx.gz]at hi;split at hi
   ·exact .inr ⟨_,n,hi⟩
   ·cases hi
 ·rintro(hb|⟨j,n,hj⟩)
  ·exact .inl (.inl hb)
  ·by_cases hm:j∈ah
   ·obtain⟨i,hi,he⟩:=List.getElem_of_mem hm;refine .inr ⟨i,n,?_⟩;simp only[Cx.gz];rw[show ah[i]?=some j by simp[hi,he]];exact hj
   ·exact .inl (.inr ⟨j,n,hm,hj⟩)
theorem ze{x:DV}{v:Value}(hv:VD c.bad c.w x v):VD (c.gz ah).bad (c.gz ah).w x v:=hv.mono fun b _ hn=>⟨fun hb=>hn ((KE b).1 hb),rfl⟩
theorem uH{i j:Nat}{b:af}(hi:ah[i]?=some j)(hb:h[j]?=some b):(jW ah h)[i]?=some (qV ah h b):=by
 simp[jW,hi,gm,hb]
theorem sC{i j:Nat}(hi:ah[i]?=some j):(c.gz ah).own i=c.own j:=by simp only[Cx.gz,hi]
theorem Fg{x:AV}{v:Value}(hv:VR c x v):VR (c.gz ah) (oL ah c.heap x) v:=by
 unfold oL;split
 ·rename_i j g;split
  ·rename_i i hi;have hi:=nR hi;rw[gm];split
   ·rename_i g' ts l hb;split
    ·rename_i q;have q:=Nat.eq_of_beq_eq_true q;subst q;have cT:=uH hi hb;cases hv with
     |own _ _ _ l' blk cap k1 k2=>rw[hb]at k1;cases k1;exact .own i 0 ts l blk cap cT ((sC hi).trans k2)
     |iW _ _ _ k1 k2=>rw[hb]at k1;cases k1;exact .iW i 0 ts cT ((sC hi).trans k2)
     |kx _ _ g2 _ _ _ k1 k2 _=>rw[hb]at k1;cases k1;omega
     |jM _ _ _ k1 _=>rw[hb]at k1;cases k1
     |mI _ _ _ _ _ _ k1 _ _=>rw[hb]at k1;cases k1
    ·exact .any _
   ·exact .any _
  ·exact .any _
 ·rename_i j off;split
  ·rename_i i hi;have hi:=nR hi;rw[gm];split
   ·rename_i cs hb;have cT:=uH hi hb;cases hv with
    |ptr _ _ cs' blk cap k1 k2=>exact .ptr i off _ blk cap cT ((sC hi).trans k2)
    |jn _ _ _ k1 _=>rw[hb]at k1;cases k1
   ·exact .any _
  ·exact .any _
 ·rename_i j g k off;split
  ·rename_i i hi;have hi:=nR hi;rw[gm];split
   ·rename_i g' ts l hb;split
    ·rename_i q;have q:=Nat.eq_of_beq_eq_true q;subst q;have cT:=uH hi hb;cases hv with
     |cD _ _ _ _ _ l' blk cap k1 k2 k3=>rw[hb]at k1;cases k1;exact .cD i 0 k off ts l blk cap cT ((sC hi).trans k2) k3
     |lW _ _ g2 _ _ _ _ _ k1 k2 _=>rw[hb]at k1;cases k1;omega
     |lX _ _ _ _ _ k1 _=>rw[hb]at k1;cases k1
    ·exact .any _
   ·exact .any _
  ·exact .any _
 ·rename_i j g k qq;split
  ·rename_i i hi;have hi:=nR hi;rw[gm];split
   ·rename_i g' ts l hb;split
    ·rename_i q;have q:=Nat.eq_of_beq_eq_true q;subst q;have cT:=uH hi hb;cases hv with
     |cut _ _ _ _ _ l' blk cap o k1 k2 k3 k4 k5=>rw[hb]at k1;cases k1;exact .cut i 0 k qq ts l blk cap o cT ((sC hi).trans k2) k3 k4 k5
     |mJ _ _ g2 _ _ _ _ _ k1 k2 _=>rw[hb]at k1;cases k1;omega
     |mK _ _ _ _ _ k1 _=>rw[hb]at k1;cases k1
    ·exact .any _
   ·exact .any _
  ·exact .any _
 ·rename_i j;split
  ·rename_i i hi;have hi:=nR hi;rw[gm];split
   ·rename_i es hb;have cT:=uH hi hb;cases hv with
    |map _ er blk cap k1 k2=>exact .map i _ blk cap cT ((sC hi).trans k2)
    |nC _ _ k1 _=>rw[hb]at k1;cases k1
   ·exact .any _
  ·exact .any _
 ·cases hv with|d _ _ hx=>exact .d _ _ (ze hx)
 ·cases hv with
  |b9 _ _ blk o f k1 k2 k3 k4=>exact .b9 _ _ blk o f (fun hb=>k1 ((KE _).1 hb)) k2 k3 (fun j x hx=>ze (k4 j x hx))
 ·exact .any _
theorem zf{l:List AV}{vs:List Value}(hv:VL c l vs):VL (c.gz ah) (l.map (oL ah c.heap)) vs :=
 ⟨by simpa using hv.1,fun j x v hx hu=>by
  rw[List.getElem?_map]at hx;cases hy:l[j]? with
  |none=>rw[hy]at hx;cases hx
  |some y=>rw[hy]at hx;cases hx;exact Fg (hv.2 j y v hy hu)⟩
theorem BO{l:List AV}{v:Value}(h:VR c (.aJ l) v):∃ vs:List Value,v=.tuple vs.toArray/\VL c l vs:=by
 cases h with
 |aJ _ vs hl hv=>exact⟨vs.toList,by simp,by simpa using hl,fun j x v hx hu=>hv j x v hx (by simpa using hu)⟩
theorem BP{l:List AV}{vs:List Value}(h:VL c l vs):VR c (.aJ l) (.tuple vs.toArray) :=
 .aJ l vs.toArray (by simpa using h.1) (fun j x v hx hv=>h.2 j x v hx (by simpa using hv))
theorem Fh{f:Fn}{a b:List AV}{v1 v2:List Value}(h1:VL c a v1)(h2:VL c b v2):VR c (.fn f a b) (.func f v1.toArray v2.toArray) :=
 .fn _ _ _ _ _ (by simpa using h1.1) (by simpa using h2.1) (fun j x v hx hv=>h1.2 j x v hx (by simpa using hv)) (fun j x v hx hv=>h2.2 j x v hx (by simpa using hv))
theorem Tx{x:AV}{v:Value}(hv:VR c x v):VR (c.gz ah) (lu ah c.heap x) v:=by
 unfold lu;split
 ·obtain⟨vs,rfl,h1⟩:=sj hv;exact yr (zf h1)
 ·obtain⟨vs,rfl,h1⟩:=BO hv;exact BP (zf h1)
 ·obtain⟨v1,v2,rfl,h1,h2⟩:=l8 hv;exact Fh (zf h1) (zf h2)
 ·exact Fg hv
theorem Ty{l:List AV}{vs:List Value}(hv:VL c l vs):VL (c.gz ah) (l.map (lu ah c.heap)) vs :=
 ⟨by simpa using hv.1,fun j x v hx hu=>by
  rw[List.getElem?_map]at hx;cases hy:l[j]? with
  |none=>rw[hy]at hx;cases hx
  |some y=>rw[hy]at hx;cases hx;exact Tx (hv.2 j y v hy hu)⟩
theorem Fi{l:List Nat}(hn:l.Nodup){i j a:Nat}(hi:l[i]?=some a)(hj:l[j]?=some a):i=j:=by
 have h1:=uF hn hi;have h2:=uF hn hj;rw[h1]at h2;cases h2;rfl
theorem aD.gz(ho:aD G c)(hn:ah.Nodup):aD G (c.gz ah) where
 bE:=fun b hb=>hb.elim (ho.bE b) fun⟨j,n,_,hj⟩=>(ho.bH j b n hj).1
 bH:=fun i b n hi=>by
  simp only[Cx.gz]at hi;split at hi
  ·rename_i j hj;exact⟨(ho.bH j b n hi).1,by show i<(jW ah c.heap).length;simp only[jW,List.length_map];exact aX hj⟩
  ·cases hi
 inj:=fun i j b n m hi hj=>by
  simp only[Cx.gz]at hi hj;split at hi
  ·rename_i a ha;split at hj
   ·rename_i a' zg;have:=ho.inj a a' b n m hi hj;subst this;exact Fi hn ha zg
   ·cases hj
  ·cases hi
 sep:=fun i b n hi hb=>by
  simp only[Cx.gz]at hi;split at hi
  ·rename_i a ha;rcases hb with hb|⟨j,m,hj,hb⟩
   ·exact ho.sep a b n hi hb
   ·have:=ho.inj a j b n m hi hb;subst this;exact hj (List.mem_of_getElem? ha)
  ·cases hi
 box:=fun i bx hi=>by
  have cS:(jW ah c.heap)[i]?=some bx:=hi;simp only[jW,List.getElem?_map]at cS;cases hs:ah[i]? with
  |none=>rw[hs]at cS;cases cS
  |some j =>
   rw[hs]at cS;simp only[Option.map_some,Option.some.injEq,gm]at cS;have bI:=sC (c:=c) hs;cases hb:c.heap[j]? with
   |none =>
    rw[hb]at cS;subst cS;show(c.gz ah).own i=none;rw[bI];cases hx:c.own j with
    |none=>rfl
    |some p=>have:=(ho.bH j p.1 p.2 hx).2;rw[List.getElem?_eq_none_iff]at hb;omega
   |some b =>
    rw[hb]at cS;subst cS;have dT:=ho.box j b hb;cases b with
    |cells cs =>
     obtain⟨blk,cap,vs,ty,k1,k2,k3⟩:=ho.cells hb;have:=zf (ah:=ah) k3;exact⟨blk,cap,vs,ty,bI.trans k1,k2,by simpa using this.1.symm,fun j x v hx hv=>this.2 j x v hx (by simpa using hv)⟩
    |arr g ts l =>
     obtain⟨q0,q1,q2⟩:=dT;refine⟨q0,q1,?_⟩;rcases q2 with⟨q2,q3⟩|⟨blk,cap,vs,q2,q3,q4,q5,q6,q7⟩
     ·exact .inl ⟨bI.trans q2,q3⟩
     ·refine .inr ⟨blk,cap,vs,bI.trans q2,q3,q4,q5,q6,fun i j e x he hx=>?_⟩;obtain⟨v,r1,r2,r3⟩:=q7 i j e x he hx;exact⟨v,r1,r2,ze r3⟩
    |map es =>
     obtain⟨blk,cap,en,ck,k1,k2,k3,k4⟩:=dT;exact⟨blk,cap,en,ck,bI.trans k1,k2,k3,fun j k x m hx hm=>⟨ze (k4 j k x m hx hm).1,ze (k4 j k x m hx hm).2⟩⟩
    |gone=>exact bI.trans dT
 fB:=fun g e hg=>by
  have:=Fg (ah:=ah) (ho.fB g e hg);exact this
structure qW(c c1:Cx)(ah:List Nat):Prop where
 nodup:ah.Nodup
 lt:∀ j∈ah,j<c.heap.length
 rel:Rel (c.gz ah) c1
theorem KF{i j:Nat}(hn:ah.Nodup)(hi:ah[i]?=some j):(c.take c1 ah).own j=c1.own i:=by
 simp only[Cx.take,uF hn hi]
theorem Tz{k:Nat}(ai:∀ j∈ah,j<c.heap.length):(c.take c1 ah).own (c.heap.length+k)=c1.own (ah.length+k):=by
 have:dV ah (c.heap.length+k)=none:=by
  cases hx:dV ah (c.heap.length+k)with
  |none=>rfl
  |some i=>have:=ai _ (List.mem_of_getElem? (nR hx));omega
 simp only[Cx.take,this];rw[if_neg (by omega),Nat.add_sub_cancel_left]
theorem Fj{j:Nat}(hj:j<c.heap.length)(hn:dV ah j=none):(c.take c1 ah).own j=c.own j:=by
 simp only[Cx.take,hn,if_pos hj]
theorem qX(hn:ah.Nodup)(ai:∀ j∈ah,j<c.heap.length)(i:Nat):(c.take c1 ah).own (ig ah c.heap i)=c1.own i:=by
 unfold ig;rw[gm];split
 ·rename_i j hj;exact KF hn hj
 ·rename_i hj;rw[List.getElem?_eq_none_iff]at hj;rw[Tz ai,show ah.length+(i-ah.length)=i by omega]
theorem kE(hn:ah.Nodup)(ai:∀ j∈ah,j<c.heap.length){i:Nat}{b:af}(hb:c1.heap[i]?=some b):(c.take c1 ah).heap[ig ah c.heap i]?=some (pH ah c.heap (uG ah c.heap i) b):=by
 unfold ig uG;rw[gm];show(fW ah c.heap c1.heap)[_]?=_;split
 ·rename_i j hj;exact wN (ai j (List.mem_of_getElem? hj)) (uF hn hj) hb
 ·rename_i hj;rw[List.getElem?_eq_none_iff]at hj;rw[KD,show ah.length+(i-ah.length)=i by omega,hb];rfl
theorem KG(ho:aD G c)(hb:qW c c1 ah)(b:Nat):(c.take c1 ah).bad b↔c1.bad b:=by
 obtain⟨hn,ai,hr⟩:=hb;constructor
 ·rintro(h|⟨j,n,h⟩)
  ·refine .inl ?_;rw[hr.ak];exact .inl h
  ·simp only[Cx.take]at h;split at h
   ·exact .inr ⟨_,n,h⟩
   ·rename_i hx;split at h
    ·refine .inl ?_;rw[hr.ak];exact .inr ⟨j,n,KB hx hn,h⟩
    ·exact .inr ⟨_,n,h⟩
 ·rintro(h|⟨i,n,h⟩)
  ·rw[hr.ak]at h;rcases h with h|⟨j,n,hj,h⟩
   ·exact .inl h
   ·refine .inr ⟨j,n,?_⟩;have hx:dV ah j=none:=by
     cases hx:dV ah j with
     |none=>rfl
     |some i=>exact absurd (List.mem_of_getElem? (nR hx)) hj
    rw[Fj (ho.bH j b n h).2 hx];exact h
  ·exact .inr ⟨_,n,(qX hn ai i).trans h⟩
theorem zh(ho:aD G c)(hb:qW c c1 ah){x:DV}{v:Value}(hv:VD c1.bad c1.w x v):VD (c.take c1 ah).bad (c.take c1 ah).w x v :=
 hv.mono fun b _ hn=>⟨fun h=>hn ((KG ho hb b).1 h),rfl⟩
theorem KH(ho:aD G c)(hb:qW c c1 ah){x:AV}{v:Value}(hv:VR c1 x v):VR (c.take c1 ah) (nS ah c.heap x) v:=by
 have hn:=hb.nodup;have ai:=hb.lt;unfold nS;split
 ·rename_i i g;cases hv with
  |own _ _ ts l blk cap k1 k2=>exact .own _ _ ts l blk cap (kE hn ai k1) ((qX hn ai i).trans k2)
  |iW _ _ ts k1 k2=>exact .iW _ _ ts (kE hn ai k1) ((qX hn ai i).trans k2)
  |kx _ _ g2 ts l _ k1 k2 k3=>exact .kx _ _ _ ts l _ (kE hn ai k1) (by omega) k3
  |jM _ _ _ k1 k3=>exact .jM _ _ _ (kE hn ai k1) k3
  |mI _ _ cs blk cap m k1 k2 k3=>exact .mI _ _ _ blk cap m (kE hn ai k1) ((qX hn ai i).trans k2) (by simpa using k3)
 ·rename_i i off;cases hv with
  |ptr _ _ cs blk cap k1 k2=>exact .ptr _ _ _ blk cap (kE hn ai k1) ((qX hn ai i).trans k2)
  |jn _ _ _ k1 k3=>exact .jn _ _ _ (kE hn ai k1) k3
 ·rename_i i g k off;cases hv with
  |cD _ _ _ _ ts l blk cap k1 k2 k3=>exact .cD _ _ _ _ ts l blk cap (kE hn ai k1) ((qX hn ai i).trans k2) k3
  |lW _ _ g2 _ _ ts l _ k1 k2 k3=>exact .lW _ _ _ _ _ ts l _ (kE hn ai k1) (by omega) k3
  |lX _ _ _ _ _ k1 k3=>exact .lX _ _ _ _ _ (kE hn ai k1) k3
 ·rename_i i g k qq;cases hv with
  |cut _ _ _ _ ts l blk cap o k1 k2 k3 k4 k5=>exact .cut _ _ _ _ ts l blk cap o (kE hn ai k1) ((qX hn ai i).trans k2) k3 k4 k5
  |mJ _ _ g2 _ _ ts l _ k1 k2 k3=>exact .mJ _ _ _ _ _ ts l _ (kE hn ai k1) (by omega) k3
  |mK _ _ _ _ _ k1 k3=>exact .mK _ _ _ _ _ (kE hn ai k1) k3
 ·rename_i i;cases hv with
  |map _ es blk cap k1 k2=>exact .map _ es blk cap (kE hn ai k1) ((qX hn ai i).trans k2)
  |nC _ _ k1 k3=>exact .nC _ _ (kE hn ai k1) k3
 ·cases hv with|d _ _ hx=>exact .d _ _ (zh ho hb hx)
 ·cases hv with
  |b9 _ _ blk o f k1 k2 k3 k4=>exact .b9 _ _ blk o f (fun h=>k1 ((KG ho hb _).1 h)) k2 k3 (fun j x hx=>zh ho hb (k4 j x hx))
 ·exact .any _
theorem wO{c c':Cx}{f:AV->AV}(hf:∀ {x:AV} {v:Value},VR c x v->VR c' (f x) v){l:List AV}{vs:List Value}(hv:VL c l vs):VL c' (l.map f) vs :=
 ⟨by simpa using hv.1,fun j x v hx hu=>by
  rw[List.getElem?_map]at hx;cases hy:l[j]? with
  |none=>rw[hy]at hx;cases hx
  |some y=>rw[hy]at hx;cases hx;exact hf (hv.2 j y v hy hu)⟩
theorem KI(ho:aD G c)(hb:qW c c1 ah){x:AV}{v:Value}(hv:VR c1 x v):VR (c.take c1 ah) (wL ah c.heap x) v:=by
 have hA:∀ {x:AV} {v:Value},VR c1 x v->VR (c.take c1 ah) (nS ah c.heap x) v:=fun h=>KH ho hb h;unfold wL;split
 ·obtain⟨vs,rfl,h1⟩:=sj hv;exact yr (wO hA h1)
 ·obtain⟨vs,rfl,h1⟩:=BO hv;exact BP (wO hA h1)
 ·obtain⟨v1,v2,rfl,h1,h2⟩:=l8 hv;exact Fh (wO hA h1) (wO hA h2)
 ·exact hA hv
theorem TA(ho:aD G c)(hb:qW c c1 ah){x:AV}{v:Value}(hv:VR c1 x v):VR (c.take c1 ah) (jX ah c.heap x) v:=by
 unfold jX;split
 ·obtain⟨vs,rfl,h1⟩:=BO hv;exact BP (wO (fun h=>KI ho hb h) h1)
 ·exact KI ho hb hv
theorem jo.take(ho:aD G c)(hb:qW c c1 ah){i g:Nat}{b:af}(dT:jo c1 i b):jo (c.take c1 ah) (ig ah c.heap i) (pH ah c.heap g b):=by
 have bI:=qX (c1:=c1) hb.nodup hb.lt i;cases b with
 |cells cs =>
  obtain⟨blk,cap,vs,ty,k1,k2,k3,k4⟩:=dT;have:VL (c.take c1 ah) (cs.map (nS ah c.heap)) vs.toList:=wO (fun h=>KH ho hb h) ⟨by simpa using k3.symm,fun j x v hx hv=>k4 j x v hx (by simpa using hv)⟩;exact⟨blk,cap,vs,ty,bI.trans k1,k2,by simpa using this.1.symm,fun j x v hx hv=>this.2 j x v hx (by simpa using hv)⟩
 |arr g ts l =>
  obtain⟨q0,q1,q2⟩:=dT;refine⟨q0,q1,?_⟩;rcases q2 with⟨q2,q3⟩|⟨blk,cap,vs,q2,q3,q4,q5,q6,q7⟩
  ·exact .inl ⟨bI.trans q2,q3⟩
  ·refine .inr ⟨blk,cap,vs,bI.trans q2,q3,q4,q5,q6,fun i j e x he hx=>?_⟩;obtain⟨v,r1,r2,r3⟩:=q7 i j e x he hx;exact⟨v,r1,r2,zh ho hb r3⟩
 |map es =>
  obtain⟨blk,cap,en,ck,k1,k2,k3,k4⟩:=dT;exact⟨blk,cap,en,ck,bI.trans k1,k2,k3,fun j k x m hx hm=>⟨zh ho hb (k4 j k x m hx hm).1,zh ho hb (k4 j k x m hx hm).2⟩⟩
 |gone=>exact bI.trans dT
theorem KJ(ho:aD G c)(hb:qW c c1 ah):Step c (c.take c1 ah) where
 ak:=rfl
 bE:=ho.bE
 os:=hb.rel.os
 tape:=hb.rel.tape
 output:=hb.rel.output
 size:=hb.rel.size
 keep:=fun b ai hn=>hb.rel.keep b ai (fun i n hi=>by
  simp only[Cx.gz]at hi;split at hi
  ·exact hn _ n hi
  ·cases hi)
 dw:=fun j b n hj ai=>by
  have key:∀ i,c1.own i=some (b,n)->∃ k m,ah[i]?=some k/\c.own k=some (b,m):=fun i hi=>by
   obtain⟨m,hk⟩:=hb.rel.dw i b n hi ai;simp only[Cx.gz]at hk;split at hk
   ·rename_i k hs;exact⟨k,m,hs,hk⟩
   ·cases hk
  simp only[Cx.take]at hj;split at hj
  ·rename_i i hi;obtain⟨k,m,hs,hk⟩:=key _ hj;rw[nR hi]at hs;cases hs;exact⟨m,hk⟩
  ·split at hj
   ·exact⟨n,hj⟩
   ·obtain⟨k,m,hs,hk⟩:=key _ hj;rw[List.getElem?_eq_none (by omega)]at hs;cases hs
 boxes:=fun j bx hj=>by
  cases hx:dV ah j with
  |none =>
   have ai:=aX hj;have h':(c.take c1 ah).heap[j]?=some bx:=(KC ai hx).trans hj;have cU:=Fj (c1:=c1) ai hx;cases bx with
   |cells cs=>exact .inl ⟨cs,h',cU,rfl⟩
   |arr g sz l=>exact .inl ⟨g,l,h',.inr ⟨rfl,rfl,cU⟩⟩
   |map es=>exact .inl ⟨es,h',cU⟩
   |gone=>exact h'
  |some i =>
   have hi:=nR hx;have ai:=aX hj;have hg:(c.gz ah).heap[i]?=some (qV ah c.heap bx):=uH hi hj;have h1:=hb.rel.boxes i _ hg;have cU:=KF (c:=c) (c1:=c1) hb.nodup hi;have pJ:=sC (c:=c) hi;have fN:c1.heap[i]?=some .gone->(c.take c1 ah).heap[j]?=some .gone:=fun h=>wN ai hx h;cases bx with
   |cells cs =>
    rcases h1 with⟨cs',h1,h2,h3⟩|h1
    ·exact .inl ⟨_,wN ai hx h1,cU.trans (h2.trans pJ),by simpa [qV]using h3⟩
    ·exact .inr (fN h1)
   |arr g ts l =>
    rcases h1 with⟨g',l',h1,h2⟩|h1
    ·have aG:qU c.heap j=g:=by simp only[qU,gm,hj]
     have h3:=wN (h:=c.heap) ai hx h1;simp only[pH,aG]at h3;refine .inl ⟨g+g',l',h3,?_⟩;rcases h2 with h2|⟨h2,h4,h5⟩
     ·left;omega
     ·exact .inr ⟨by omega,h4,cU.trans (h5.trans pJ)⟩
    ·exact .inr (fN h1)
   |map es =>
    rcases h1 with⟨er,h1,h2⟩|h1
    ·exact .inl ⟨er,wN ai hx h1,cU.trans (h2.trans pJ)⟩
    ·exact .inr (fN h1)
   |gone=>exact fN h1
theorem aD.take(ho:aD G c)(sD:aD G c1)(hb:qW c c1 ah):aD G (c.take c1 ah):=by
 have aV:=KJ ho hb;have hn:=hb.nodup;have ai:=hb.lt;have BQ:∀ j b n,(c.take c1 ah).own j=some (b,n)->(∃ i,j=ig ah c.heap i/\c1.own i=some (b,n))\/(j<c.heap.length/\dV ah j=none/\c.own j=some (b,n)):=by
  intro j b n hj;simp only[Cx.take]at hj;split at hj
  ·rename_i i hi;exact .inl ⟨i,by simp only[ig,gm,nR hi],hj⟩
  ·rename_i hx;split at hj
   ·rename_i hl;exact .inr ⟨hl,hx,hj⟩
   ·rename_i hl;refine .inl ⟨_,?_,hj⟩;have:ah[ah.length+(j-c.heap.length)]?=none:=List.getElem?_eq_none (by omega);simp only[ig,gm,this];omega
 have ac9:∀ i i',i<c1.heap.length->i'<c1.heap.length->ig ah c.heap i=ig ah c.heap i'->i=i':=by
  intro i i' _ _ he;simp only[ig,gm]at he;split at he
  ·rename_i j hj;split at he
   ·rename_i j' dI;subst he;exact Fi hn hj dI
   ·have:=ai j (List.mem_of_getElem? hj);omega
  ·rename_i hj;split at he
   ·rename_i j' dI;have:=ai j' (List.mem_of_getElem? dI);omega
   ·rename_i dI;rw[List.getElem?_eq_none_iff]at hj dI;omega
 refine ho.next aV (fun j b n hj=>?_) (fun j j' b n m hj dI=>?_) (fun j bx hj=>?_)
 ·rcases BQ j b n hj with⟨i,rfl,hi⟩|⟨hl,hx,dI⟩
  ·obtain⟨h1,h2⟩:=sD.bH i b n hi;refine⟨h1,?_⟩;have:(c.take c1 ah).heap[ig ah c.heap i]?=some _:=kE hn ai (List.getElem?_eq_getElem h2);exact aX this
  ·exact⟨Nat.lt_of_lt_of_le (ho.bH j b n dI).1 hb.rel.size,by show j<(fW ah c.heap c1.heap).length;rw[Tv];omega⟩
 ·have KK:∀ j i n m,dV ah j=none->c.own j=some (b,n)->c1.own i=some (b,m)->False:=fun j i n m hx hj hi=>by
   refine sD.sep i b m hi ?_;rw[hb.rel.ak];exact .inr ⟨j,n,KB hx hn,hj⟩
  rcases BQ j b n hj with⟨i,rfl,hi⟩|⟨hl,hx,gW⟩
  ·rcases BQ j' b m dI with⟨i',rfl,cS⟩|⟨zi,eK,Fk⟩
   ·rw[sD.inj i i' b n m hi cS]
   ·exact(KK j' i m n eK Fk hi).elim
  ·rcases BQ j' b m dI with⟨i',rfl,cS⟩|⟨zi,eK,Fk⟩
   ·exact(KK j i' n m hx gW cS).elim
   ·exact ho.inj j j' b n m gW Fk
 ·by_cases hl:j<c.heap.length
  ·cases hx:dV ah j with
   |none =>
    left;have dI:(fW ah c.heap c1.heap)[j]?=some bx:=hj;rw[KC hl hx]at dI;refine⟨dI,Fj hl hx,fun b n cT=>hb.rel.keep b (ho.bH j b n cT).1 (fun i m hi=>?_)⟩;simp only[Cx.gz]at hi;split at hi
    ·rename_i a ha;have:=ho.inj j a b n m cT hi;subst this;rw[uF hn ha]at hx;cases hx
    ·cases hi
   |some i =>
    right;have hi:=nR hx;have dI:(fW ah c.heap c1.heap)[j]?=some bx:=hj;have fU:(c.gz ah).heap[i]?=some (qV ah c.heap c.heap[j]):=uH hi (List.getElem?_eq_getElem hl);have uI:=hb.rel.boxes i _ fU;obtain⟨b1,iO⟩:∃ b1,c1.heap[i]?=some b1:=by
     generalize qV ah c.heap c.heap[j]=bb at uI;cases bb with
     |cells cs=>rcases uI with⟨_,h,_⟩|h<;>exact⟨_,h⟩
     |arr g ts l=>rcases uI with⟨_,_,h,_⟩|h<;>exact⟨_,h⟩
     |map es=>rcases uI with⟨_,h,_⟩|h<;>exact⟨_,h⟩
     |gone=>exact⟨_,uI⟩
    rw[wN hl hx iO]at dI;cases dI;have:=(sD.box i b1 iO).take (g:=qU c.heap j) ho hb;have Fl:ig ah c.heap i=j:=by simp only[ig,gm,hi]
    rw[Fl]at this;exact this
  ·right;have dI:(fW ah c.heap c1.heap)[j]?=some bx:=hj;rw[show j=c.heap.length+(j-c.heap.length) by omega,KD]at dI;cases iO:c1.heap[ah.length+(j-c.heap.length)]? with
   |none=>rw[iO]at dI;cases dI
   |some b1 =>
    rw[iO]at dI;cases dI;have:=(sD.box _ b1 iO).take (g:=0) ho hb;have Fl:ig ah c.heap (ah.length+(j-c.heap.length))=j:=by
     have:ah[ah.length+(j-c.heap.length)]?=none:=List.getElem?_eq_none (by omega);simp only[ig,gm,this];omega
    rw[Fl]at this;exact this
theorem aB.at{E:Env}{f:FuncId}{args:List AV}{Q:AV->List af->Prop}(H:aB E f (jW ah h) (args.map (lu ah h)) Q)(hn:ah.Nodup)(ai:∀ j∈ah,j<h.length)(hh:c.heap=h)(ho:aD E.G c){vs:List Value}(hv:VL c args vs) :
  Calls E.P f vs.toArray c.w fun e w'=>∃ (c':Cx) (r:AV) (h1:List af) (v:Value),e=.returned v/\c'.w=w'/\Q r h1/\c'.heap=fW ah h h1/\VR c' (jX ah h r) v/\aD E.G c'/\Step c c':=by
 subst hh;unfold aB at H;refine(H.2.2 (c.gz ah) vs rfl (ho.gz hn) (Ty hv)).mono fun e w' ⟨c1,r,v,k1,k2,k3,k4,k5,k6⟩=>?_;have hb:qW c c1 ah:=⟨hn,ai,k6⟩;exact⟨c.take c1 ah,r,c1.heap,v,k1,k2,k3,rfl,TA ho hb k4,ho.take k5 hb,KJ ho hb⟩
end
end Go.aA
end
section
namespace Go.aA
open Go Go.RowKit
universe u
section Ed
variable {α:Sort u} {β γ:Type}
def jt(f:β->(γ->α)->α):List β->(List γ->α)->α
 |[],k=>k []
 |a::l,k=>f a fun b=>jt f l fun l'=>k (b::l')
theorem pK{f:β->(γ->α)->α}{g:β->γ}(h:∀ x k,f x k=k (g x)):∀ (l:List β) (k:List γ->α),jt f l k=k (l.map g)
 |[],_=>rfl
 |a::l,k=>by simp only[jt,h,pK h l,List.map_cons]
def uJ:List β->List β->(List β->α)->α
 |[],m,k=>k m
 |a::l,m,k=>uJ l m fun l'=>k (a::l')
theorem zj:∀ (l m:List β) (k:List β->α),uJ l m k=k (l++m)
 |[],_,_=>rfl
 |a::l,m,k=>by simp only[uJ,zj l,List.cons_append]
def qY:List β->Nat->(Nat->α)->α
 |[],n,k=>k n
 |_::l,n,k=>qY l (n+1) k
theorem wP:∀ (l:List β) (n:Nat) (k:Nat->α),qY l n k=k (n+l.length)
 |[],_,_=>rfl
 |_::l,n,k=>by rw[qY,wP l,List.length_cons];congr 1;omega
def qZ:List Nat->Nat->Nat->α->(Nat->α)->α
 |[],_,_,no,_=>no
 |a::l,j,n,no,k=>match Nat.beq a j with
  |true=>k n
  |false=>qZ l j (n+1) no k
theorem Fm:∀ (l:List Nat) (j n:Nat) (no:α) (k:Nat->α),qZ l j n no k=match dV l j with
  |some i=>k (n+i)
  |none=>no
 |[],_,_,_,_=>rfl
 |a::l,j,n,no,k=>by
  simp only[qZ,dV];cases Nat.beq a j with
  |true=>rfl
  |false =>
   rw[Fm l];cases dV l j with
   |none=>rfl
   |some i=>simp only[Option.map_some];congr 1;omega
theorem wQ{l:List β}{i:Nat}{no:α}{k:β->α}:aZ l i no k=match ee l i with
  |some x=>k x
  |none=>no:=by
 rw[gm];cases h:l[i]? with
 |none=>exact JB h no k
 |some x=>exact Bk h no k
def sE(ah:List Nat)(h:List af)(x:AV)(k:AV->α):α :=
 match x with
 | .own j g=>qZ ah j 0 (k .any) fun i=>aZ h j (k .any) fun
  | .arr g' _ _=>match Nat.beq g g' with
   |true=>k (.own i 0)
   |false=>k .any
  |_=>k .any
 | .ptr j off=>qZ ah j 0 (k .any) fun i=>aZ h j (k .any) fun
  | .cells _=>k (.ptr i off)
  |_=>k .any
 | .cD j g n off=>qZ ah j 0 (k .any) fun i=>aZ h j (k .any) fun
  | .arr g' _ _=>match Nat.beq g g' with
   |true=>k (.cD i 0 n off)
   |false=>k .any
  |_=>k .any
 | .cut j g n q=>qZ ah j 0 (k .any) fun i=>aZ h j (k .any) fun
  | .arr g' _ _=>match Nat.beq g g' with
   |true=>k (.cut i 0 n q)
   |false=>k .any
  |_=>k .any
 | .map j=>qZ ah j 0 (k .any) fun i=>aZ h j (k .any) fun
  | .map _=>k (.map i)
  |_=>k .any
 | .d x=>k (.d x)
 | .b9 e off=>k (.b9 e off)
 |_=>k .any
theorem Fp(ah:List Nat)(h:List af)(x:AV)(k:AV->α):sE ah h x k=k (oL ah h x):=by
 unfold sE oL;simp only[Fm,wQ,Nat.zero_add];cases x with
 |own j g =>
  dsimp only;generalize dV ah j=a;generalize ee h j=o;cases a with
  |none=>rfl
  |some i=>cases o with
   |none=>rfl
   |some b=>cases b with
    |arr g' _ _=>dsimp only;cases Nat.beq g g'<;>rfl
    |_=>rfl
 |ptr j off =>
  dsimp only;generalize dV ah j=a;generalize ee h j=o;cases a with
  |none=>rfl
  |some i=>cases o with
   |none=>rfl
   |some b=>cases b<;>rfl
 |cut j g n q =>
  dsimp only;generalize dV ah j=a;generalize ee h j=o;cases a with
  |none=>rfl
  |some i=>cases o with
   |none=>rfl
   |some b=>cases b with
    |arr g' _ _=>dsimp only;cases Nat.beq g g'<;>rfl
    |_=>rfl
 |cD j g n off =>
  dsimp only;generalize dV ah j=a;generalize ee h j=o;cases a with
  |none=>rfl
  |some i=>cases o with
   |none=>rfl
   |some b=>cases b with
    |arr g' _ _=>dsimp only;cases Nat.beq g g'<;>rfl
    |_=>rfl
 |map j =>
  dsimp only;generalize dV ah j=a;generalize ee h j=o;cases a with
  |none=>rfl
  |some i=>cases o with
   |none=>rfl
   |some b=>cases b<;>rfl
 |_=>rfl
def BR(ah:List Nat)(h:List af)(x:AV)(k:AV->α):α :=
 match x with
 | .agg l=>jt (sE ah h) l fun l'=>k (.agg l')
 | .aJ l=>jt (sE ah h) l fun l'=>k (.aJ l')
 | .fn f a b=>jt (sE ah h) a fun a'=>jt (sE ah h) b fun b'=>k (.fn f a' b')
 |x=>sE ah h x k
theorem KL(ah:List Nat)(h:List af)(x:AV)(k:AV->α):BR ah h x k=k (lu ah h x):=by
 unfold BR lu;cases x<;>simp only[pK (Fp ah h),Fp]
def Fq(ah:List Nat)(h:List af)(b:af)(k:af->α):α :=
 match b with
 | .arr _ ts l=>k (.arr 0 ts l)
 | .cells cs=>jt (sE ah h) cs fun cs'=>k (.cells cs')
 | .map es=>k (.map es)
 | .gone=>k .gone
theorem TB(ah:List Nat)(h:List af)(b:af)(k:af->α):Fq ah h b k=k (qV ah h b):=by
 unfold Fq qV;cases b<;>simp only[pK (Fp ah h)]
def Fs(ah:List Nat)(h:List af)(j:Nat)(k:af->α):α:=aZ h j (k .gone) fun b=>Fq ah h b k
theorem TC(ah:List Nat)(h:List af)(j:Nat)(k:af->α):Fs ah h j k=k (match ee h j with|some b=>qV ah h b|none => .gone):=by
 unfold Fs;rw[wQ];generalize ee h j=o;cases o with
 |none=>rfl
 |some b=>exact TB ah h b k
def BS(ah:List Nat)(h:List af)(k:List af->α):α:=jt (Fs ah h) ah k
theorem KM(ah:List Nat)(h:List af)(k:List af->α):BS ah h k=k (jW ah h):=by
 unfold BS jW;rw[pK (TC ah h)];all_goals rfl
def uK(ah:List Nat)(h:List af)(i:Nat)(k:Nat->α):α:=aZ ah i (qY h 0 fun n=>qY ah 0 fun m=>k (n+(i-m))) k
theorem TD(ah:List Nat)(h:List af)(i:Nat)(k:Nat->α):uK ah h i k=k (ig ah h i):=by
 unfold uK ig;rw[wQ];simp only[wP,Nat.zero_add];generalize ee ah i=o;cases o<;>rfl
def BU(h:List af)(j:Nat)(k:Nat->α):α:=aZ h j (k 0) fun
 | .arr g _ _=>k g
 |_=>k 0
theorem KN(h:List af)(j:Nat)(k:Nat->α):BU h j k=k (qU h j):=by
 unfold BU qU;rw[wQ];generalize ee h j=o;cases o with
 |none=>rfl
 |some b=>cases b<;>rfl
def zk(ah:List Nat)(h:List af)(i:Nat)(k:Nat->α):α:=aZ ah i (k 0) fun j=>BU h j k
theorem TE(ah:List Nat)(h:List af)(i:Nat)(k:Nat->α):zk ah h i k=k (uG ah h i):=by
 unfold zk uG;rw[wQ];generalize ee ah i=o;cases o with
 |none=>rfl
 |some b=>exact KN h b k
def sF(ah:List Nat)(h:List af)(x:AV)(k:AV->α):α :=
 match x with
 | .own i g=>uK ah h i fun j=>zk ah h i fun g0=>k (.own j (g0+g))
 | .ptr i off=>uK ah h i fun j=>k (.ptr j off)
 | .cD i g n off=>uK ah h i fun j=>zk ah h i fun g0=>k (.cD j (g0+g) n off)
 | .cut i g n q=>uK ah h i fun j=>zk ah h i fun g0=>k (.cut j (g0+g) n q)
 | .map i=>uK ah h i fun j=>k (.map j)
 | .d x=>k (.d x)
 | .b9 e off=>k (.b9 e off)
 |_=>k .any
theorem Ft(ah:List Nat)(h:List af)(x:AV)(k:AV->α):sF ah h x k=k (nS ah h x):=by
 unfold sF nS;cases x<;>simp only[TD,TE]
def BV(ah:List Nat)(h:List af)(x:AV)(k:AV->α):α :=
 match x with
 | .agg l=>jt (sF ah h) l fun l'=>k (.agg l')
 | .aJ l=>jt (sF ah h) l fun l'=>k (.aJ l')
 | .fn f a b=>jt (sF ah h) a fun a'=>jt (sF ah h) b fun b'=>k (.fn f a' b')
 |x=>sF ah h x k
theorem KO(ah:List Nat)(h:List af)(x:AV)(k:AV->α):BV ah h x k=k (wL ah h x):=by
 unfold BV wL;cases x<;>simp only[pK (Ft ah h),Ft]
def uL(ah:List Nat)(h:List af)(x:AV)(k:AV->α):α :=
 match x with
 | .aJ l=>jt (BV ah h) l fun l'=>k (.aJ l')
 |x=>BV ah h x k
theorem BW(ah:List Nat)(h:List af)(x:AV)(k:AV->α):uL ah h x k=k (jX ah h x):=by
 unfold uL jX;cases x<;>simp only[pK (KO ah h),KO]
def BX(ah:List Nat)(h:List af)(g0:Nat)(b:af)(k:af->α):α :=
 match b with
 | .arr g ts l=>k (.arr (g0+g) ts l)
 | .cells cs=>jt (sF ah h) cs fun cs'=>k (.cells cs')
 | .map es=>k (.map es)
 | .gone=>k .gone
theorem KP(ah:List Nat)(h:List af)(g0:Nat)(b:af)(k:af->α):BX ah h g0 b k=k (pH ah h g0 b):=by
 unfold BX pH;cases b<;>simp only[pK (Ft ah h)]
def wR(ah:List Nat)(h h1:List af):Nat->List af->(List af->α)->α
 |_,[],k=>k []
 |j,b::r,k=>qZ ah j 0 (wR ah h h1 (j+1) r fun r'=>k (b::r')) fun i=>aZ h1 i (wR ah h h1 (j+1) r fun r'=>k (.gone::r')) fun b1=>BU h j fun g=>BX ah h g b1 fun b2=>wR ah h h1 (j+1) r fun r'=>k (b2::r')
theorem KQ(ah:List Nat)(h h1:List af):∀ (j:Nat) (r:List af) (k:List af->α),wR ah h h1 j r k=k (pI ah h h1 j r)
 |_,[],_=>rfl
 |j,b::r,k=>by
  simp only[wR,Fm,wQ,KN,KP,KQ ah h h1 (j+1) r,Nat.zero_add,pI];generalize dV ah j=a;cases a with
  |none=>rfl
  |some i =>
   dsimp only;generalize ee h1 i=o;cases o<;>rfl
def uM(ah:List Nat)(h h1:List af)(k:List af->α):α:=wR ah h h1 0 h fun a=>qY ah 0 fun n=>qC n h1 fun h2=>jt (BX ah h 0) h2 fun b=>uJ a b k
theorem BY(ah:List Nat)(h h1:List af)(k:List af->α):uM ah h h1 k=k (fW ah h h1):=by
 unfold uM fW;simp only[KQ,wP,Nat.zero_add,yp,pK (KP ah h 0),zj]
def wS(d:Nat):List Nat->Bool
 |[]=>false
 |a::l=>match Nat.beq a d with
  |true=>true
  |false=>wS d l
def uN(j:Nat)(ah:List Nat)(k:List Nat->α):α:=match wS j ah with
 |true=>k ah
 |false=>uJ ah [j] k
def BZ(h:List af)(x:AV)(ah:List Nat)(k:List Nat->α):α :=
 match x with
 | .own j g=>aZ h j (k ah) fun
  | .arr g' _ _=>match Nat.beq g g' with
   |true=>uN j ah k
   |false=>k ah
  |_=>k ah
 | .ptr j _=>aZ h j (k ah) fun
  | .cells _=>uN j ah k
  |_=>k ah
 | .cD j g _ _=>aZ h j (k ah) fun
  | .arr g' _ _=>match Nat.beq g g' with
   |true=>uN j ah k
   |false=>k ah
  |_=>k ah
 | .cut j g _ _=>aZ h j (k ah) fun
  | .arr g' _ _=>match Nat.beq g g' with
   |true=>uN j ah k
   |false=>k ah
  |_=>k ah
 | .map j=>aZ h j (k ah) fun
  | .map _=>uN j ah k
  |_=>k ah
 |_=>k ah
def sG(h:List af):List AV->List Nat->(List Nat->α)->α
 |[],ah,k=>k ah
 |x::l,ah,k=>BZ h x ah fun oM=>sG h l oM k
def sH(h:List af):List AV->List Nat->(List Nat->α)->α
 |[],ah,k=>k ah
 |x::l,ah,k=>match x with
  | .agg c=>sG h c ah fun oM=>sH h l oM k
  | .aJ c=>sG h c ah fun oM=>sH h l oM k
  | .fn _ a b=>sG h a ah fun oM=>sG h b oM fun TF=>sH h l TF k
  |x=>BZ h x ah fun oM=>sH h l oM k
def uO(h:List af):Nat->Nat->List Nat->(List Nat->α)->α
 |0,_,ah,k=>k ah
 |n+1,p,ah,k=>aZ ah p (k ah) fun j=>aZ h j (uO h n (p+1) ah k) fun
  | .cells cs=>sG h cs ah fun oM=>uO h n (p+1) oM k
  |_=>uO h n (p+1) ah k
def zm(n:Nat):List Nat->Bool
 |[]=>true
 |j::l=>match wS j l,Nat.blt j n with
  |false,true=>zm n l
  |_,_=>false
end Ed
theorem KR{d:Nat}:∀ {l:List Nat},wS d l=true↔d∈l
 |[]=>by simp[wS]
 |a::l=>by
  simp only[wS];split
  ·rename_i q;simp[Nat.eq_of_beq_eq_true q]
  ·rename_i q;have aH:d≠a:=fun e=>by rw[e,Nat.beq_refl]at q;cases q
   rw[KR (l:=l)];simp[aH]
theorem Fu{n:Nat}:∀ {l:List Nat},zm n l=true->l.Nodup/\∀ j∈l,j<n
 |[],_=>⟨.nil,fun j hj=>by simp at hj⟩
 |j::l,H=>by
  simp only[zm]at H;split at H
  ·rename_i q1 q2;obtain⟨h1,h2⟩:=Fu H;refine⟨List.nodup_cons.2 ⟨fun hm=>?_,h1⟩,fun i hi=>?_⟩
   ·rw[KR.2 hm]at q1;cases q1
   ·rcases List.mem_cons.1 hi with rfl|hi
    ·exact Nat.le_of_ble_eq_true q2
    ·exact h2 i hi
  ·cases H
@[irreducible] def wT (E : Env) (f : FuncId) (h0 : List af) (args : List AV) (K : AV -> List af -> Prop) : Prop := ∃ Q, aB E f h0 args Q /\ ∀ r h1, Q r h1 -> K r h1
theorem sJ{E:Env}{f:FuncId}{h0:List af}{args:List AV}{K Q:AV->List af->Prop}(H:aB E f h0 args Q)(hk:∀ r h1,Q r h1->K r h1):wT E f h0 args K:=by unfold wT;exact⟨Q,H,hk⟩
theorem bJ{E:Env}{f:FuncId}{h0:List af}{args:List AV}{K:AV->List af->Prop}{r:AV}{h1:List af}(H:aB E f h0 args (fun a b=>a=r/\b=h1))(hk:K r h1):wT E f h0 args K:=sJ H fun _ _ ⟨e1,e2⟩=>by subst e1;subst e2;exact hk
def B0(E:Env)(f:FuncId)(eX:List AV)(h:List af)(stop:Prop)(k:AV->List af->Prop):Prop :=
 sH h eX [] fun Fv=>uO h 20 0 Fv fun ah=>qY h 0 fun n=>match zm n ah with
  |true=>BS ah h fun h0=>jt (BR ah h) eX fun Fw=>wT E f h0 Fw fun r h1=>uL ah h r fun v=>uM ah h h1 fun h'=>k v h'
  |false=>stop
theorem KS{h:List af}{x:AV}{ah:List Nat}{k:List Nat->Prop}(H:BZ h x ah k):∃ l,k l:=by
 have B1:∀ {j:Nat},uN j ah k->∃ l,k l:=fun{j} H=>by
  unfold uN at H;split at H
  ·exact⟨_,H⟩
  ·rw[zj]at H;exact⟨_,H⟩
 unfold BZ at H;split at H;all_goals first
  |exact⟨_,H⟩
  |(rcases bl H with H|⟨_, _, H⟩
    · exact⟨_, H⟩
    split at H
    · first
      |exact B1 H
      |(split at H
        · exact B1 H
        · exact⟨_, H⟩)
    · exact⟨_, H⟩)
theorem wU{h:List af}:∀ {l:List AV} {ah:List Nat} {k:List Nat->Prop},sG h l ah k->∃ l,k l
 |[],_,_,H=>⟨_,H⟩
 |_::_,_,_,H=>by
  simp only[sG]at H;obtain⟨_,H⟩:=KS H;exact wU H
theorem wV{h:List af}:∀ {l:List AV} {ah:List Nat} {k:List Nat->Prop},sH h l ah k->∃ l,k l
 |[],_,_,H=>⟨_,H⟩
 |x::_,_,_,H=>by
  simp only[sH]at H;split at H
  ·obtain⟨_,H⟩:=wU H;exact wV H
  ·obtain⟨_,H⟩:=wU H;exact wV H
  ·obtain⟨_,H⟩:=wU H;obtain⟨_,H⟩:=wU H;exact wV H
  ·obtain⟨_,H⟩:=KS H;exact wV H
theorem zn{h:List af}:∀ {n p:Nat} {ah:List Nat} {k:List Nat->Prop},uO h n p ah k->∃ l,k l
 |0,_,_,_,H=>⟨_,H⟩
 |n+1,p,ah,k,H=>by
  simp only[uO]at H;rcases bl H with H|⟨j,_,H⟩
  ·exact⟨_,H⟩
  rcases bl H with H|⟨b,_,H⟩
  ·exact zn H
  split at H
  ·obtain⟨_,H⟩:=wU H;exact zn H
  ·exact zn H
theorem TG{E:Env}{f:FuncId}{eX:List AV}{h:List af}{stop:Prop}{k:AV->List af->Prop}(H:B0 E f eX h stop k):stop\/∃ (ah:List Nat) (Q:AV->List af->Prop),
  aB E f (jW ah h) (eX.map (lu ah h)) Q/\ah.Nodup/\(∀ j∈ah,j<h.length)/\∀ r h1,Q r h1->k (jX ah h r) (fW ah h h1):=by
 unfold B0 at H;obtain⟨s0,H⟩:=wV H;obtain⟨ah,H⟩:=zn H;rw[wP,Nat.zero_add]at H;split at H
 ·rename_i q;obtain⟨h1,h2⟩:=Fu q;rw[KM,pK (KL ah h)]at H;unfold wT at H;obtain⟨Q,h3,h4⟩:=H;refine .inr ⟨ah,Q,h3,h1,h2,fun r h1 hq=>?_⟩;have:=h4 r h1 hq;dsimp only at this;rw[BW,BY]at this;exact this
 ·exact .inl H
section
variable {E:Env} {f0:FuncId} {ae:iG} {k:List aK} {s:List AV} {cls:List cu} {h:List af} {R:bZ}
theorem AW.oN{ops:Array Oper}{o:Oper}{l:List Oper}{fx:Operand}{args:Array Operand}{ts:Array TypeId}{f:FuncId}{a1 a2 av:List AV}{ah:List Nat}{Q:AV->List af->Prop}(hw:iH ops o s true)(ho:o.op=.call { callee := .value fx,args:=args,argTypes:=ts })
  (hf:bh E.G s fx (.fn (.func f) a1 a2)) (ha:iy E.G s args.toList av) (hc:aB E f (jW ah h) ((a1++av++a2).map (lu ah h)) Q) (hn:ah.Nodup) (ai:∀ j∈ah,j<h.length)
  (H:∀ r h1,Q r h1->AW E f0 ⟨ae,.bF ops l::k,bL s o.dst (jX ah h r)⟩ cls (fW ah h h1) R):AW E f0 ⟨ae,.bF ops (o::l)::k,s⟩ cls h R:=by
 unfold AW at H ⊢;intro c0 c t ts h0 h1 h2 h3 hr cb h4 h5 cs;obtain⟨i,hi,dS,aN⟩:=mS (h1 _ (List.mem_cons_self ..));obtain⟨v1,v2,e1,e2,e3⟩:=l8 (hf c ⟨t,marks ae.aL⟩ h3 h4);have e4:=ha c ⟨t,marks ae.aL⟩ h3 h4;have e5:=(e2.append e4).append e3;have hb:qM E.P f:=by unfold aB at hc;exact hc.1
 obtain⟨e,w',fr,⟨c',r,hp,v,rfl,rfl,hQ,B3,hv,cU,aV⟩,EG,yP,EH⟩:=hc.at (c:=c) hn ai h2 h3 e5 ((bf ae).atR ⟨t,marks ae.aL⟩ (.inRegion ops (i::(List.range ops.size).drop (ops.size-l.length))::k.map aK.bQ)::(fq cls ts++cs));have um:VS c' (bL s o.dst (jX ah h r)) ((⟨t,marks ae.aL⟩:Act).put o.dst v).tmps:=VS.bL (a:=⟨t,marks ae.aL⟩) (aV.vs h4) o.dst hv;obtain⟨c2,uo,r2,u2,q1,q2,q3,uq,q4,q5,q6⟩:=H r hp hQ c0 c' _ ts h0 (gR aN (dY h1)) B3 cU (hr.step aV) (cb.step h3 aV) um (aV.cr h5) cs;refine⟨c2,uo,r2,u2,q1,q2,q3,uq,?_,q5,q6⟩;have cV:=yN (P:=E.P) (w:=c.w) (a:=⟨t,marks ae.aL⟩) ho e1 hb;have jU:(v1.toArray++args.map (⟨t,marks ae.aL⟩:Act).eval++v2.toArray)=(v1++args.toList.map (⟨t,marks ae.aL⟩:Act).eval++v2).toArray:=by
  apply Array.ext';simp
 rw[jU]at cV;have s1:=EF (P:=E.P) (b:=bf ae) (k:=k.map aK.bQ) (cs:=fq cls ts++cs) (rest:=(List.range ops.size).drop (ops.size-l.length)) hi (hw c t h4) cV;have s2:=step_leave_returned (c:=(bf ae).atR ⟨t,marks ae.aL⟩ (.inRegion ops (i::(List.range ops.size).drop (ops.size-l.length))::k.map aK.bQ)) (cs:=fq cls ts++cs) EH;rw[Frame.finish_atR,hi]at s2;have EI:(⟨ae,.bF ops (o::l)::k,s⟩:cu).bQ t=(bf ae).atR ⟨t,marks ae.aL⟩ (.inRegion ops (i::(List.range ops.size).drop (ops.size-l.length))::k.map aK.bQ):=by
  simp only[cu.bQ,List.map_cons,dS]
 rw[EI];refine .head s1 (Steps.trans EG (.head s2 ?_));have bc:(bf ae).atR ((⟨t,marks ae.aL⟩:Act).put ((some o).bind (·.dst)) v) (.inRegion ops ((List.range ops.size).drop (ops.size-l.length))::k.map aK.bQ)=(⟨ae,.bF ops l::k,bL s o.dst (jX ah h r)⟩:cu).bQ ((⟨t,marks ae.aL⟩:Act).put o.dst v).tmps:=by
  simp only[cu.bQ,List.map_cons,aK.bQ,Option.bind_some];rw[put_defers]
 rw[bc];exact q4
end
end Go.aA
end
section
namespace Go.aA
open Go Go.RowKit
@[irreducible] def lv (b : Bool) (A B : Prop) : Prop := (b = true -> A) /\ (b = false -> B)
theorem ar{b:Bool}{A B:Prop}(h1:b=true->A)(h2:b=false->B):lv b A B:=by unfold lv;exact⟨h1,h2⟩
theorem bp{A B:Prop}(h:A):lv true A B:=ar (fun _=>h) (fun h=>by cases h)
theorem aY{A B:Prop}(h:B):lv false A B:=ar (fun h=>by cases h) (fun _=>h)
theorem aI{b:Bool}{A B:Prop}(hb:b=true)(h:A):lv b A B:=by subst hb;exact bp h
theorem aO{b:Bool}{A B:Prop}(hb:b=false)(h:B):lv b A B:=by subst hb;exact aY h
theorem zo{b:Bool}{A B C:Prop}(h:lv b A B)(h1:b=true->A->C)(h2:b=false->B->C):C:=by
 unfold lv at h;cases hb:b
 ·exact h2 hb (h.2 hb)
 ·exact h1 hb (h.1 hb)
@[irreducible] def ra (E : Env) (f : FuncId) (ds : List DV) (h : List af) (K : AV -> List af -> Prop) : Prop :=
 (∃ R1,au E f ds R1/\∀ r,R1 r->K (.d r) h)\/∃ Q,aB E f [] (ds.map .d) Q/\∀ r h1,Q r h1->K (jX [] h r) (fW [] h h1)
theorem uP{E:Env}{f:FuncId}{ds:List DV}{h:List af}{K:AV->List af->Prop}{R1:DV->Prop}(hc:au E f ds R1)(hk:∀ r,R1 r->K (.d r) h):ra E f ds h K:=by unfold ra;exact .inl ⟨R1,hc,hk⟩
theorem aj{E:Env}{f:FuncId}{ds:List DV}{h:List af}{K:AV->List af->Prop}{r:DV}(hc:au E f ds (· = r))(hk:K (.d r) h):ra E f ds h K:=uP hc fun _ e=>e ▸ hk
theorem wW{E:Env}{f:FuncId}{ds:List DV}{h:List af}{K:AV->List af->Prop}{Q:AV->List af->Prop}(hc:aB E f [] (ds.map .d) Q)(hk:∀ r h1,Q r h1->uL [] h r fun v=>uM [] h h1 fun h'=>K v h'):ra E f ds h K:=by
 unfold ra;refine .inr ⟨Q,hc,fun r h1 hq=>?_⟩;have:=hk r h1 hq;rw[BW,BY]at this;exact this
theorem lA{E:Env}{f:FuncId}{ds:List DV}{h:List af}{K:AV->List af->Prop}{r:AV}{h1:List af}{args:List AV}(hc:aB E f [] args (fun a b=>a=r/\b=h1))(ha:args=ds.map .d)(hk:uL [] h r fun v=>uM [] h h1 fun h'=>K v h'):ra E f ds h K :=
 wW (ha ▸ hc) fun _ _ ⟨e1,e2⟩=>by subst e1;subst e2;exact hk
def bV(d:Nat):List Nat->Bool
 |[]=>false
 |a::l=>match Nat.beq a d with
  |true=>true
  |false=>bV d l
def ju(G:List (Nat × DV))(s:List AV)(o:Oper)(stop:Prop)(k:FuncId->List AV->Prop):Prop :=
 match o.op with
 | .call { callee := .value fx,args:=args,.. }=>cL G s fx stop fun
  | .fn (.func f) a1 a2=>tS G s args.toList stop fun av=>uJ a1 av fun a3=>uJ a3 a2 fun a4=>k f a4
  | .d (.fn (.func f))=>tS G s args.toList stop fun av=>k f av
  |_=>stop
 |_=>stop
def Fx(inl:List FuncId)(E:Env)(s:List AV)(h:List af)(o:Oper)(stop:Prop)(k:AV->List af->Prop):Prop :=
 ju E.G s o stop fun f eX=>match bV f inl with
  |true=>stop
  |false=>mL eX (B0 E f eX h stop k) fun ds=>ra E f ds h k
theorem B4{G:List (Nat × DV)}{s:List AV}{o:Oper}{stop:Prop}{k:FuncId->List AV->Prop}(H:ju G s o stop k):stop\/∃ (fx:Operand) (args:Array Operand) (ts:Array TypeId) (f:FuncId) (a1 av a2:List AV),
  o.op=.call { callee := .value fx,args:=args,argTypes:=ts }/\bh G s fx (.fn (.func f) a1 a2)/\iy G s args.toList av/\k f (a1++av++a2):=by
 unfold ju at H;split at H
 ·rename_i fx args ts bX;rcases cM H with H|⟨v,hv,H⟩
  ·exact .inl H
  split at H
  ·rename_i f a1 a2;rcases yC H with H|⟨av,kF,H⟩
   ·exact .inl H
   rw[zj,zj]at H;exact .inr ⟨fx,args,ts,f,a1,av,a2,bX,hv,kF,H⟩
  ·rename_i f;rcases yC H with H|⟨av,kF,H⟩
   ·exact .inl H
   refine .inr ⟨fx,args,ts,f,[],av,[],bX,fun c a h1 h2=>?_,kF,by simpa using H⟩;have:=hv c a h1 h2;generalize a.eval fx=u at this;cases this with
   |d _ _ hx =>
    cases hx;exact .fn _ _ _ _ _ rfl rfl (fun j x v hx=>by simp at hx) (fun j x v hx=>by simp at hx)
  ·exact .inl H
 ·exact .inl H
def sK(ops:Array Oper)(g:Option (Nat × Bool))(no stop:Prop)(k:Nat->Bool->Prop):Prop :=
 match g with
 |none=>no
 |some (j,b)=>aZ ops.toList j stop fun o=>match o.dst with
  |some d=>k d b
  |none=>stop
def B5:Bool->Bool->Bool
 |true,true=>true
 |false,false=>true
 |_,_=>false
def zp(id:Nat):List aK->(stop:Prop)->(List aK->Prop)->Prop
 | .inBlock i::r,stop,k=>match Nat.beq i id with
  |true=>k r
  |false=>zp id r stop k
 |_::r,stop,k=>zp id r stop k
 |[],stop,_=>stop
theorem uQ{id:Nat}{stop:Prop}{k:List aK->Prop}:∀ {l:List aK},zp id l stop k->stop\/∃ r,pD id l=some r/\k r
 |[],H => .inl H
 | .inBlock i::l,H=>by
  simp only[zp]at H;split at H
  ·rename_i q;exact .inr ⟨l,by simp only[pD,q],H⟩
  ·rename_i q;rcases uQ H with h|⟨r,hr,h⟩
   ·exact .inl h
   ·exact .inr ⟨r,by simp only[pD,q];exact hr,h⟩
 | .code c::l,H=>uQ (l:=l) H
 | .inLoop c::l,H=>uQ (l:=l) H
 | .qI c::l,H=>uQ (l:=l) H
 | .ue::l,H=>uQ (l:=l) H
 | .bF ops q::l,H=>uQ (l:=l) H
@[irreducible] def aa (E : Env) (ae : FuncId) (R : bZ) (Fy : List Nat) (td : List aK) (s : List AV) (h : List af) : Prop := AW E R.fx.f0 ⟨⟨ae, R.fx.cG, R.fx.aL⟩, td, s⟩ R.fx.cls h R
theorem aa.of{E:Env}{ae:FuncId}{R:bZ}{lits:List Nat}{td:List aK}{s:List AV}{h:List af}(H:AW E R.fx.f0 ⟨⟨ae,R.fx.cG,R.fx.aL⟩,td,s⟩ R.fx.cls h R):aa E ae R lits td s h:=by unfold aa;exact H
theorem aa.to{E:Env}{ae:FuncId}{R:bZ}{lits:List Nat}{td:List aK}{s:List AV}{h:List af}(H:aa E ae R lits td s h):AW E R.fx.f0 ⟨⟨ae,R.fx.cG,R.fx.aL⟩,td,s⟩ R.fx.cls h R:=by unfold aa at H;exact H
def zq(ae:FuncId)(x:FX):Bool:=match x.cG,x.aL,x.cls with
 |none,[],[]=>Nat.beq x.f0 ae
 |_,_,_=>false
theorem TH{ae:FuncId}{x:FX}(h:zq ae x=true):x.cG=none/\x.aL=[]/\x.cls=[]/\x.f0=ae:=by
 unfold zq at h;split at h
 ·rename_i a b c;exact⟨a,b,c,Nat.eq_of_beq_eq_true h⟩
 ·cases h
def runK(E:Env)(ae:FuncId)(rs:List ResultVar)(R:bZ):Nat->List Nat->List aK->List AV->List af->Prop
 |0,lits,td,s,h=>aa E ae R lits td s h
 |n+1,lits,td,s,h =>
  match td with
  |[]=>match zq ae R.fx with
   |true=>nG E.T s h rs (aa E ae R lits td s h) R.Q
   |false=>aa E ae R lits td s h
  | .inBlock _::r=>runK E ae rs R n lits r s h
  | .inLoop _::_=>aa E ae R lits td s h
  | .qI _::_=>aa E ae R lits td s h
  | .ue::_=>aa E ae R lits td s h
  | .code c::r=>match c with
   | .skip=>runK E ae rs R n lits r s h
   | .seq a b=>runK E ae rs R n lits (.code a :: .code b::r) s h
   | .block id b=>runK E ae rs R n lits (.code b :: .inBlock id::r) s h
   | .exit id=>zp id r (aa E ae R lits td s h) fun r'=>runK E ae rs R n lits r' s h
   | .region _ ops false=>runK E ae rs R n lits (.bF ops ops.toList::r) s h
   | .ret=>match zq ae R.fx with
    |true=>nG E.T s h rs (aa E ae R lits td s h) R.Q
    |false=>aa E ae R lits td s h
   | .cond x a b=>cL E.G s x (aa E ae R lits td s h) fun
    | .d (.bool t)=>lv t (aa E ae R lits (.code a::r) s h) (aa E ae R lits (.code b::r) s h)
    |_=>aa E ae R lits td s h
   |_=>aa E ae R lits td s h
  | .bF _ []::r=>runK E ae rs R n lits r s h
  | .bF ops (o::l)::r =>
   let go:Prop:=fo E.T E.G o.op s h (oI E o.op s h (gy E o.op s h (Fx R.fx.inl E s h o (aa E ae R lits td s h) fun v h'=>bK s o.dst v fun s'=>aa E ae R lits (.bF ops l::r) s' h')
     fun v h'=>bK s o.dst v fun s'=>aa E ae R lits (.bF ops l::r) s' h')
     fun v h'=>bK s o.dst v fun s'=>runK E ae rs R n lits (.bF ops l::r) s' h')
    fun v h'=>bK s o.dst v fun s'=>runK E ae rs R n lits (.bF ops l::r) s' h'
   sK ops o.guard go (aa E ae R lits td s h) fun d b=>aZ s d (aa E ae R lits td s h) fun
    | .d (.bool t)=>match bV d lits with
     |false=>lv t (fL s d (.d (.bool true)) fun s'=>aa E ae R (d::lits) td s' h) (fL s d (.d (.bool false)) fun s'=>aa E ae R (d::lits) td s' h)
     |true=>match B5 t b with
      |true=>go
      |false=>bK s o.dst (.d .undef) fun s'=>runK E ae rs R n lits (.bF ops l::r) s' h
    | .d .undef=>bK s o.dst (.d .undef) fun s'=>runK E ae rs R n lits (.bF ops l::r) s' h
    |_=>aa E ae R lits td s h
section
variable {E:Env} {ae:FuncId} {R:bZ}
theorem lB{β:Type}:∀ {l:List β} {d:Nat} {x:β},l[d]?=some x->l.set d x=l
 |[],_,_,h=>by simp at h
 |a::l,0,x,h=>by simp at h;subst h;rfl
 |a::l,d+1,x,h=>by simp only[List.set_cons_succ];rw[lB (by simpa using h)]
theorem Fz(hE:E.OK){fn:Func}(hf:E.P.funcs[ae]?=some fn):∀ (n:Nat) (lits:List Nat) (td:List aK) (s:List AV) (h:List af),
  runK E ae fn.results.toList R n lits td s h->AW E R.fx.f0 ⟨⟨ae,R.fx.cG,R.fx.aL⟩,td,s⟩ R.fx.cls h R:=by
 have ret:∀ (lits:List Nat) (td:List aK) (s:List AV) (h:List af),(td=[]\/∃ r,td=.code .ret::r)->(match zq ae R.fx with|true=>nG E.T s h fn.results.toList (aa E ae R lits td s h) R.Q|false=>aa E ae R lits td s h)->AW E R.fx.f0 ⟨⟨ae,R.fx.cG,R.fx.aL⟩,td,s⟩ R.fx.cls h R:=by
  intro lits td s h oD H;split at H
  ·rename_i q;by_cases hA:aa E ae R lits td s h
   ·exact hA.to
   ·rw[eq_false hA]at H;obtain⟨q1,q2,q3,q4⟩:=TH q;rw[q1,q2,q3,q4];rcases oD with rfl|⟨r,rfl⟩
    ·exact .Sr hE hf H
    ·exact .ret hE hf H
  ·exact H.to
 intro n
 induction n with
 |zero=>intro lits td s h H;exact aa.to H
 |succ n ih =>
  intro lits td s h H;unfold runK at H;split at H
  ·exact ret _ _ s h (.inl rfl) H
  ·exact .inBlock (ih _ _ _ _ H)
  ·exact aa.to H
  ·exact aa.to H
  ·exact aa.to H
  ·rename_i c r;split at H
   ·exact .skip (ih _ _ _ _ H)
   ·exact .seq (ih _ _ _ _ H)
   ·exact .block (ih _ _ _ _ H)
   ·rcases uQ H with h'|⟨r',hr,H⟩
    ·exact h'.to
    ·exact .exit hr (ih _ _ _ _ H)
   ·exact .region (ih _ _ _ _ H)
   ·exact ret _ _ s h (.inr ⟨_,rfl⟩) H
   ·rcases cM H with h'|⟨v,hv,H⟩
    ·exact h'.to
    split at H
    ·rename_i t;refine zo H (fun e H2=>?_) (fun e H2=>?_)
     ·subst e;exact .cond hv (by simpa using H2.to)
     ·subst e;exact .cond hv (by simpa using H2.to)
    ·exact aa.to H
   ·exact aa.to H
  ·exact .Sh (ih _ _ _ _ H)
  ·rename_i ops o l r
   have go : iH ops o s true -> (fo E.T E.G o.op s h (oI E o.op s h (gy E o.op s h (Fx R.fx.inl E s h o (aa E ae R lits (.bF ops (o :: l) :: r) s h) fun v h' => bK s o.dst v fun s' => aa E ae R lits (.bF ops l :: r) s' h')
         fun v h' => bK s o.dst v fun s' => aa E ae R lits (.bF ops l :: r) s' h')
         fun v h' => bK s o.dst v fun s' => runK E ae fn.results.toList R n lits (.bF ops l :: r) s' h')
     fun v h'=>bK s o.dst v fun s'=>runK E ae fn.results.toList R n lits (.bF ops l::r) s' h')->AW E R.fx.f0 ⟨⟨ae,R.fx.cG,R.fx.aL⟩,.bF ops (o::l)::r,s⟩ R.fx.cls h R:=by
    intro hw H;rcases ud hE H with H|⟨v,h',H,ho⟩
    ·rcases yZ hE H with H|⟨v,h',H,ho⟩
     case inr =>
      rw[df]at H;exact .op hw ho (ih _ _ _ _ H)
     rcases uE hE H with H|⟨v,h',H,ho⟩
     case inr =>
      rw[df]at H;exact .op hw ho H.to
     unfold Fx at H;rcases B4 H with H|⟨fx,args,ts,f,a1,av,a2,bX,hv,kF,H⟩
     ·exact aa.to H
     split at H
     ·exact aa.to H
     rcases tR (a1++av++a2) (B0 E f (a1++av++a2) h (aa E ae R lits (.bF ops (o::l)::r) s h) fun v h'=>bK s o.dst v fun s'=>aa E ae R lits (.bF ops l::r) s' h') (fun ds=>ra E f ds h fun v h'=>bK s o.dst v fun s'=>aa E ae R lits (.bF ops l::r) s' h')with⟨ds,e1,e2⟩|e2
     ·rw[e2]at H;unfold ra at H;rcases H with⟨R1,hc,hk⟩|⟨Q,hc,hk⟩
      ·refine .call hw bX hv kF e1 hc fun u hu=>?_;have:=hk u hu;simp only[df]at this;exact this.to
      ·refine .oN (ah:=[]) hw bX hv kF (Q:=Q) ?_ List.nodup_nil (fun j hj=>by simp at hj) fun u h1 hu=>?_
       ·have e3:(a1++av++a2).map (lu [] h)=ds.map .d:=by rw[e1,List.map_map];rfl
        rw[e3];exact hc
       ·have:=hk u h1 hu;simp only[df]at this;exact this.to
     ·rw[e2]at H;rcases TG H with H|⟨ah,Q,hc,hn,ai,hk⟩
      ·exact aa.to H
      refine .oN hw bX hv kF hc hn ai fun u h1 hu=>?_;have:=hk u h1 hu;simp only[df]at this;exact this.to
    ·rw[df]at H;exact .op hw ho (ih _ _ _ _ H)
   dsimp only at H;unfold sK at H;split at H
   ·rename_i hg;exact go (eC hg) H
   ·rename_i j b hg;rcases bl H with H|⟨oj,kG,H⟩
    ·exact aa.to H
    split at H
    ·rename_i d hd;rcases bl H with H|⟨x,hx,H⟩
     ·exact aa.to H
     split at H
     ·rename_i t;split at H
      ·refine zo H (fun e H2=>?_) (fun e H2=>?_)
       ·subst e;rw[gL,lB hx]at H2;exact aa.to H2
       ·subst e;rw[gL,lB hx]at H2;exact aa.to H2
      ·have hw:=Bz hg kG hd hx;split at H
       ·rename_i q;have:(t==b)=true:=by cases t<;>cases b<;>first|rfl|cases q
        rw[this]at hw;exact go hw H
       ·rename_i q;have:(t==b)=false:=by cases t<;>cases b<;>first|rfl|cases q
        rw[this]at hw;rw[df]at H;exact .JW hw (ih _ _ _ _ H)
     ·rw[df]at H;exact .JW (yM hg kG hd hx) (ih _ _ _ _ H)
     ·exact aa.to H
    ·exact aa.to H
theorem aa.run(hE:E.OK){fn:Func}(hf:E.P.funcs[ae]?=some fn)(n:Nat){lits:List Nat}{td:List aK}{s:List AV}{h:List af}(H:runK E ae fn.results.toList R n lits td s h):aa E ae R lits td s h := .of (Fz hE hf n lits td s h H)
theorem au.run (hE : E.OK) {fn : Func} (hf : E.P.funcs[ae]? = some fn) {body : Code} (hb : fn.body = some body) (hn : (fn.name == "runtime.NumGoroutine") = false) (n : Nat) {args : List DV} {R : DV -> Prop}
  (H:ov .d args fun a=>runK E ae fn.results.toList ⟨0,yR R,[],⟨ae,none,[],[],[],[]⟩⟩ n [] [.code body] (nE a fn.ntmps) []):au E ae args R:=by
 rw[qD]at H;exact .Sq (.JX hf hb hn (fun i g ts l h=>by simp at h) (Fz hE hf n _ _ _ _ H))
def rb:List af->Bool
 |[]=>true
 | .arr g _ _::l=>match Nat.beq g 0 with
  |true=>rb l
  |false=>false
 |_::l=>rb l
theorem oO:∀ {h:List af},rb h=true->yK h
 |[],_=>fun i g ts l h=>by simp at h
 |b::r,H=>by
  have hr:rb r=true:=by
   unfold rb at H;split at H
   ·rename_i e;cases e
   ·rename_i e;cases e;split at H
    ·exact H
    ·cases H
   ·rename_i e;cases e;exact H
  intro i g ts l h;cases i with
  |zero =>
   simp at h;subst h;simp only[rb]at H;split at H
   ·rename_i q;exact Nat.eq_of_beq_eq_true q
   ·cases H
  |succ i=>exact oO hr i g ts l (by simpa using h)
theorem aB.run (hE : E.OK) {fn : Func} (hf : E.P.funcs[ae]? = some fn) {body : Code} (hb : fn.body = some body) (hn : (fn.name == "runtime.NumGoroutine") = false) (n : Nat) {h : List af} (nF : rb h = true) {args : List AV} {Q : AV -> List af -> Prop}
  (H:runK E ae fn.results.toList ⟨h.length,Q,[],⟨ae,none,[],[],[],[]⟩⟩ n [] [.code body] (nE args fn.ntmps) h):aB E ae h args Q :=
 .JX hf hb hn (oO nF) (Fz hE hf n _ _ _ _ H)
end
def wX(h h':List af)(x y:AV)(K:Prop):Prop :=
 match y with
 | .any=>K
 | .d b=>match x with
  | .d a=>a=b/\K
  |_=>False
 | .own b' g'=>match x with
  | .own b g=>match Nat.beq b b' with
   |true=>aZ h b False fun
    | .arr g0 _ _=>aZ h' b False fun
     | .arr g1 _ _=>match Nat.beq g g0,Nat.beq g' g1 with
      |true,true=>K
      |_,_=>False
     |_=>False
    |_=>False
   |false=>False
  |_=>False
 | .ptr b' FA=>match x with
  | .ptr b off=>match Nat.beq b b',Nat.beq off FA with
   |true,true=>aZ h b False fun
    | .cells _=>aZ h' b False fun
     | .cells _=>K
     |_=>False
    |_=>False
   |_,_=>False
  |_=>False
 | .b9 e' FA=>match x with
  | .b9 e off=>match Nat.beq off FA with
   |true=>e=e'/\K
   |false=>False
  |_=>False
 | .map b'=>match x with
  | .map b=>match Nat.beq b b' with
   |true=>aZ h b False fun
    | .map _=>aZ h' b False fun
     | .map _=>K
     |_=>False
    |_=>False
   |false=>False
  |_=>False
 | .cut b' g' k' q'=>match x with
  | .cut b g k q=>match Nat.beq b b' with
   |true=>aZ h b False fun
    | .arr g0 _ _=>aZ h' b False fun
     | .arr g1 _ _=>match Nat.beq g g0,Nat.beq g' g1 with
      |true,true=>k=k'/\q=q'/\K
      |_,_=>False
     |_=>False
    |_=>False
   |false=>False
  |_=>False
 |_=>False
def pL(h h':List af):List AV->List AV->Prop->Prop
 |[],[],K=>K
 |x::l,y::l',K=>wX h h' x y (pL h h' l l' K)
 |_,_,_=>False
def FB(h h':List af)(x y:AV)(K:Prop):Prop :=
 match y with
 | .agg l'=>match x with
  | .agg l=>pL h h' l l' K
  |_=>False
 | .aJ l'=>match x with
  | .aJ l=>pL h h' l l' K
  |_=>False
 | .fn f' a' b'=>match x with
  | .fn f a b=>f=f'/\pL h h' a a' (pL h h' b b' K)
  |_=>False
 |y=>wX h h' x y K
def B6(h h':List af):List AV->List AV->Prop->Prop
 |[],[],K=>K
 |x::l,y::l',K=>FB h h' x y (B6 h h' l l' K)
 |_,_,_=>False
def KT(g g':Nat):Bool:=match Nat.beq g' 0 with
 |true=>Nat.beq g 0
 |false=>true
theorem TI{g g':Nat}(h:KT g g'=true):g'=0->g=0:=fun e=>by
 subst e;exact Nat.eq_of_beq_eq_true h
def B7(h h':List af)(x y:af)(K:Prop):Prop :=
 match y with
 | .gone=>K
 | .cells l'=>match x with
  | .cells l=>pL h h' l l' K
  |_=>False
 | .arr g' dX l'=>match x with
  | .arr g ts l=>match KT g g' with
   |true=>ts=dX/\l=l'/\K
   |false=>False
  |_=>False
 | .map er=>match x with
  | .map es=>es=er/\K
  |_=>False
def sL(h h':List af):List af->List af->Prop->Prop
 |_,[],K=>K
 |x::l,y::l',K=>B7 h h' x y (sL h h' l l' K)
 |_,_,_=>False
def B8(own:Nat->Option (Nat × Nat))(h':List af)(i:Nat):Option (Nat × Nat):=match h'[i]? with
 |none=>none
 |some .gone=>none
 |some _=>own i
def Cx.cut(c:Cx)(h':List af):Cx:={ c with own:=B8 c.own h',heap:=h' }
def KU(x y:af):Prop:=match y with
 | .gone=>True
 | .cells l'=>∃ l,x=.cells l/\l.length=l'.length
 | .arr g' dX l'=>∃ g,x=.arr g dX l'/\(g'=0->g=0)
 | .map er=>x=.map er
def HSub(h h':List af):Prop:=∀ (i:Nat) (y:af),h'[i]?=some y->∃ x,h[i]?=some x/\KU x y
theorem lC{c:Cx}{h':List af}{i:Nat}{y:af}(hy:h'[i]?=some y)(hg:y ≠ .gone):(c.cut h').own i=c.own i:=by
 simp only[Cx.cut,B8,hy]
theorem rf{c:Cx}{h':List af}{i:Nat}{p:Nat × Nat}(hi:(c.cut h').own i=some p):c.own i=some p/\∃ y,h'[i]?=some y/\y ≠ .gone:=by
 simp only[Cx.cut,B8]at hi;split at hi
 ·cases hi
 ·cases hi
 ·rename_i y aH hy;exact⟨hi,y,hy,fun e=>aH (by rw[<- e])⟩
theorem pM{c:Cx}{h':List af}{x:DV}{v:Value}(hv:VD c.bad c.w x v):VD (c.cut h').bad (c.cut h').w x v :=
 hv.mono fun _ _ hn=>⟨fun hb=>hn (hb.elim .inl fun⟨i,n,hi⟩ => .inr ⟨i,n,(rf hi).1⟩),rfl⟩
theorem KV{h h':List af}{x y:AV}{K:Prop}(H:wX h h' x y K)(hs:HSub h h'):K/\∀ (c:Cx) (v:Value),c.heap=h->VR c x v->VR (c.cut h') y v:=by
 unfold wX at H;split at H
 ·exact⟨H,fun c v _ _ => .any v⟩
 ·split at H
  ·obtain⟨rfl,H⟩:=H;exact⟨H,fun c v _ hv=>by cases hv with|d _ _ hv=>exact .d _ _ (pM hv)⟩
  ·exact H.elim
 ·rename_i b' g';split at H
  ·rename_i b g;split at H
   ·rename_i q;have:=Nat.eq_of_beq_eq_true q;subst this;rcases bl H with H1|⟨bx,hb,H1⟩
    ·exact H1.elim
    clear H;split at H1
    ·rename_i g0 ts l;rcases bl H1 with H2|⟨FC,cT,H2⟩
     ·exact H2.elim
     clear H1;split at H2
     ·rename_i g1 dX l';split at H2
      ·rename_i q1 q2;have q1:=Nat.eq_of_beq_eq_true q1;have q2:=Nat.eq_of_beq_eq_true q2;subst q1;subst q2;refine⟨H2,fun c v hc hv=>?_⟩;obtain⟨x0,k1,gx,k2,-⟩:=hs b _ cT;rw[hb]at k1;cases k1;cases k2;subst hc;have ho:=lC (c:=c) cT (by simp);rcases nK hb hv with⟨blk,cap,r1,rfl⟩|⟨rfl,rfl,r1⟩
       ·exact .own b _ _ _ blk cap cT (ho.trans r1)
       ·exact .iW b _ _ cT (ho.trans r1)
      ·exact H2.elim
     ·exact H2.elim
    ·exact H1.elim
   ·exact H.elim
  ·exact H.elim
 ·split at H
  ·split at H
   ·rename_i q1 q2;have q1:=Nat.eq_of_beq_eq_true q1;have q2:=Nat.eq_of_beq_eq_true q2;subst q1;subst q2;rcases bl H with H|⟨bx,hb,H⟩
    ·exact H.elim
    split at H
    ·rcases bl H with H|⟨FC,cT,H⟩
     ·exact H.elim
     split at H
     ·refine⟨H,fun c v hc hv=>?_⟩;subst hc;have ho:=lC (c:=c) cT (by simp);cases hv with
      |ptr _ _ cs blk cap k1 k2=>exact .ptr _ _ _ blk cap cT (ho.trans k2)
      |jn _ _ _ k1 _=>rw[hb]at k1;cases k1
     ·exact H.elim
    ·exact H.elim
   ·exact H.elim
  ·exact H.elim
 ·split at H
  ·split at H
   ·rename_i q;have:=Nat.eq_of_beq_eq_true q;subst this;obtain⟨rfl,H⟩:=H;refine⟨H,fun c v hc hv=>?_⟩;cases hv with
    |b9 _ _ blk o f k1 k2 k3 k4=>exact .b9 _ _ blk o f (fun hb=>k1 (hb.elim .inl fun⟨i,n,hi⟩ => .inr ⟨i,n,(rf hi).1⟩)) k2 k3 (fun j x hx=>pM (k4 j x hx))
   ·exact H.elim
  ·exact H.elim
 ·split at H
  ·split at H
   ·rename_i q1;have q1:=Nat.eq_of_beq_eq_true q1;subst q1;rcases bl H with H|⟨bx,hb,H⟩
    ·exact H.elim
    split at H
    ·rcases bl H with H|⟨FC,cT,H⟩
     ·exact H.elim
     split at H
     ·refine⟨H,fun c v hc hv=>?_⟩;subst hc;have ho:=lC (c:=c) cT (by simp);cases hv with
      |map _ es blk cap k1 k2=>exact .map _ _ blk cap cT (ho.trans k2)
      |nC _ _ k1 _=>rw[hb]at k1;cases k1
     ·exact H.elim
    ·exact H.elim
   ·exact H.elim
  ·exact H.elim
 ·rename_i b' g' k' q';split at H
  ·rename_i b g k qq;split at H
   ·rename_i q;have:=Nat.eq_of_beq_eq_true q;subst this;rcases bl H with H1|⟨bx,hb,H1⟩
    ·exact H1.elim
    clear H;split at H1
    ·rename_i g0 ts l;rcases bl H1 with H2|⟨FC,cT,H2⟩
     ·exact H2.elim
     clear H1;split at H2
     ·rename_i g1 dX l';split at H2
      ·rename_i q1 q2;have q1:=Nat.eq_of_beq_eq_true q1;have q2:=Nat.eq_of_beq_eq_true q2;subst q1;subst q2;obtain⟨rfl,rfl,H2⟩:=H2;refine⟨H2,fun c v hc hv=>?_⟩;obtain⟨x0,k1,gx,k2,-⟩:=hs b _ cT;rw[hb]at k1;cases k1;cases k2;subst hc;have ho:=lC (c:=c) cT (by simp);cases hv with
       |cut _ _ _ _ _ l2 blk cap o r1 r2 r3 r4 r5=>rw[hb]at r1;cases r1;exact .cut b _ k _ _ _ blk cap o cT (ho.trans r2) r3 r4 r5
       |mJ _ _ g2 _ _ _ _ _ r1 r2 _=>rw[hb]at r1;cases r1;omega
       |mK _ _ _ _ _ r1 _=>rw[hb]at r1;cases r1
      ·exact H2.elim
     ·exact H2.elim
    ·exact H1.elim
   ·exact H.elim
  ·exact H.elim
 ·exact H.elim
theorem wY{h h':List af}{K:Prop}(hs:HSub h h'):∀ {l l':List AV},pL h h' l l' K->K/\l.length=l'.length/\∀ (c:Cx) (vs:List Value),c.heap=h->VL c l vs->VL (c.cut h') l' vs
 |[],[],H=>⟨H,rfl,fun c vs _ hv=>⟨hv.1,fun j x v hx=>by simp at hx⟩⟩
 |x::l,y::l',H=>by
  simp only[pL]at H;obtain⟨H,h1⟩:=KV H hs;obtain⟨H,h2,h3⟩:=wY hs H;refine⟨H,by simp[h2],fun c vs hc hv=>?_⟩;cases vs with
  |nil=>have:=hv.1;simp at this
  |cons v vs=>exact .cons (h1 c v hc hv.head.1) (h3 c vs hc hv.head.2)
 |[],_::_,H=>H.elim
 |_::_,[],H=>H.elim
theorem TJ{h h':List af}{x y:AV}{K:Prop}(H:FB h h' x y K)(hs:HSub h h'):K/\∀ (c:Cx) (v:Value),c.heap=h->VR c x v->VR (c.cut h') y v:=by
 unfold FB at H;split at H
 ·split at H
  ·obtain⟨H,-,h1⟩:=wY hs H;refine⟨H,fun c v hc hv=>?_⟩;obtain⟨vs,rfl,fC⟩:=sj hv;exact yr (h1 c vs hc fC)
  ·exact H.elim
 ·split at H
  ·obtain⟨H,-,h1⟩:=wY hs H;refine⟨H,fun c v hc hv=>?_⟩;cases hv with
   |aJ _ vs hl bW =>
    have:=h1 c vs.toList hc ⟨by simpa using hl,fun j x v hx hv=>bW j x v hx (by simpa using hv)⟩;exact .aJ _ vs (by simpa using this.1) (fun j x v hx hv=>this.2 j x v hx (by simpa using hv))
  ·exact H.elim
 ·split at H
  ·obtain⟨rfl,H⟩:=H;obtain⟨H,-,h1⟩:=wY hs H;obtain⟨H,-,h2⟩:=wY hs H;refine⟨H,fun c v hc hv=>?_⟩;obtain⟨v1,v2,rfl,r1,r2⟩:=l8 hv;have r1:=h1 c v1 hc r1;have r2:=h2 c v2 hc r2;exact .fn _ _ _ _ _ (by simpa using r1.1) (by simpa using r2.1) (fun j x v hx hv=>r1.2 j x v hx (by simpa using hv)) (fun j x v hx hv=>r2.2 j x v hx (by simpa using hv))
  ·exact H.elim
 ·exact KV H hs
theorem KW{h h':List af}{K:Prop}(hs:HSub h h'):∀ {l l':List AV},B6 h h' l l' K->K/\∀ (c:Cx) (vs:List Value),c.heap=h->VL c l vs->VL (c.cut h') l' vs
 |[],[],H=>⟨H,fun c vs _ hv=>⟨hv.1,fun j x v hx=>by simp at hx⟩⟩
 |x::l,y::l',H=>by
  simp only[B6]at H;obtain⟨H,h1⟩:=TJ H hs;obtain⟨H,h3⟩:=KW hs H;refine⟨H,fun c vs hc hv=>?_⟩;cases vs with
  |nil=>have:=hv.1;simp at this
  |cons v vs=>exact .cons (h1 c v hc hv.head.1) (h3 c vs hc hv.head.2)
 |[],_::_,H=>H.elim
 |_::_,[],H=>H.elim
theorem FD{h h':List af}{K:Prop}:∀ {l l':List AV},pL h h' l l' K->l.length=l'.length/\K
 |[],[],H=>⟨rfl,H⟩
 |x::l,y::l',H=>by
  have hK:∀ {Q:Prop},wX h h' x y Q->Q:=fun{Q} H=>by
   unfold wX at H;repeat' split at H
   all_goals first
    |exact H
    |exact H.elim
    |exact H.2
    |(rcases bl H with H|⟨_, _, H⟩
      · exact H.elim
      split at H
      · rcases bl H with H|⟨_, _, H⟩
        · exact H.elim
        repeat' split at H
        all_goals first|exact H|exact H.elim|exact H.2.2|exact H.2
      all_goals exact H.elim)
  simp only[pL]at H;obtain⟨h1,h2⟩:=FD (hK H);exact⟨by simp[h1],h2⟩
 |[],_::_,H=>H.elim
 |_::_,[],H=>H.elim
theorem KX{h h':List af}{K:Prop}:∀ {l l':List af},sL h h' l l' K->HSub l l'/\K
 |[],[],H=>⟨fun i y hy=>by simp at hy,H⟩
 |_::_,[],H=>⟨fun i y hy=>by simp at hy,H⟩
 |x::l,y::l',H=>by
  simp only[sL]at H;have key:KU x y/\sL h h' l l' K:=by
   unfold B7 at H;split at H
   ·exact⟨trivial,H⟩
   ·split at H
    ·obtain⟨h1,h2⟩:=FD H;exact⟨⟨_,rfl,h1⟩,h2⟩
    ·exact H.elim
   ·split at H
    ·split at H
     ·rename_i q;obtain⟨rfl,rfl,H⟩:=H;exact⟨⟨_,rfl,TI q⟩,H⟩
     ·exact H.elim
    ·exact H.elim
   ·split at H
    ·obtain⟨rfl,H⟩:=H;exact⟨rfl,H⟩
    ·exact H.elim
  obtain⟨h1,h2⟩:=KX key.2;refine⟨fun i z hz=>?_,h2⟩;cases i with
  |zero=>simp at hz;subst hz;exact⟨x,rfl,key.1⟩
  |succ i=>obtain⟨w,k1,k2⟩:=h1 i z (by simpa using hz);exact⟨w,by simpa using k1,k2⟩
 |[],_::_,H=>H.elim
theorem KY{h h':List af}{K:Prop}(hs:HSub h h'):∀ {l l':List af},sL h h' l l' K->∀ (i:Nat) (cs:List AV),l'[i]?=some (.cells cs)->∃ pN,l[i]?=some (.cells pN)/\∀ (c:Cx) (vs:List Value),c.heap=h->VL c pN vs->VL (c.cut h') cs vs
 |_,[],H=>fun i y hy=>by simp at hy
 |x::l,y::l',H=>by
  simp only[sL]at H;intro i cs hi;cases i with
  |zero =>
   simp at hi;subst hi;simp only[B7]at H;split at H
   ·obtain⟨-,-,h3⟩:=wY hs H;exact⟨_,rfl,h3⟩
   ·exact H.elim
  |succ i =>
   have uC:sL h h' l l' K:=by
    unfold B7 at H;split at H
    ·exact H
    ·split at H
     ·exact(FD H).2
     ·exact H.elim
    ·split at H
     ·split at H
      ·exact H.2.2
      ·exact H.elim
     ·exact H.elim
    ·split at H
     ·exact H.2
     ·exact H.elim
   obtain⟨pN,k1,k2⟩:=KY hs uC i cs (by simpa using hi);exact⟨pN,by simpa using k1,k2⟩
 |[],_::_,H=>H.elim
theorem aD.cut{G:List (Nat × DV)}{c:Cx}(ho:aD G c){h':List af}(hs:HSub c.heap h')(wv:∀ (i:Nat) (cs:List AV),h'[i]?=some (.cells cs)->∃ pN,c.heap[i]?=some (.cells pN)/\∀ (vs:List Value),VL c pN vs->VL (c.cut h') cs vs):aD G (c.cut h') where
 bE:=ho.bE
 bH:=fun i b n hi=>by
  obtain⟨h1,y,h2,-⟩:=rf hi;exact⟨(ho.bH i b n h1).1,aX h2⟩
 inj:=fun i j b n m hi hj=>ho.inj i j b n m (rf hi).1 (rf hj).1
 sep:=fun i b n hi=>ho.sep i b n (rf hi).1
 box:=fun i bx hi=>by
  have cS:h'[i]?=some bx:=hi;obtain⟨x,hx,hb⟩:=hs i bx cS;cases bx with
  |gone=>show(c.cut h').own i=none;simp only[Cx.cut,B8,cS]
  |cells cs =>
   obtain⟨pN,k1,k2⟩:=wv i cs cS;obtain⟨blk,cap,vs,ty,g1,g2,g3⟩:=ho.cells k1;have:=k2 vs.toList g3;exact⟨blk,cap,vs,ty,(lC cS (by simp)).trans g1,g2,by simpa using this.1.symm,fun j x v hx hv=>this.2 j x v hx (by simpa using hv)⟩
  |arr g ts l =>
   obtain⟨g0,rfl,-⟩:=hb;obtain⟨q0,q1,q2⟩:=ho.box i _ hx;refine⟨q0,q1,?_⟩;have cU:=lC (c:=c) cS (by simp);rcases q2 with⟨q2,q3⟩|⟨blk,cap,vs,q2,q3,q4,q5,q6,q7⟩
   ·exact .inl ⟨cU.trans q2,q3⟩
   ·refine .inr ⟨blk,cap,vs,cU.trans q2,q3,q4,q5,q6,fun i j e x he hx=>?_⟩;obtain⟨v,r1,r2,r3⟩:=q7 i j e x he hx;exact⟨v,r1,r2,pM r3⟩
  |map es =>
   obtain rfl:x=.map es:=hb;obtain⟨blk,cap,en,ck,k1,k2,k3,k4⟩:=ho.box i _ hx;exact⟨blk,cap,en,ck,(lC cS (by simp)).trans k1,k2,k3,fun j k x m hx hm=>⟨pM (k4 j k x m hx hm).1,pM (k4 j k x m hx hm).2⟩⟩
 fB:=fun g e hg=>by
  have hp:∀ p,VR c (.b9 e 0) p->VR (c.cut h') (.b9 e 0) p:=fun p hp=>by
   cases hp with
   |b9 _ _ blk o' fv k1 k2 k3 k4=>exact .b9 _ _ blk o' fv (fun hb=>k1 (hb.elim .inl fun⟨i,n,hi⟩ => .inr ⟨i,n,(rf hi).1⟩)) k2 k3 (fun j x hx=>pM (k4 j x hx))
  exact hp _ (ho.fB g e hg)
def uR(n:Nat)(h:List af)(s:List AV)(h':List af)(s':List AV):Prop:=match Nat.ble n h'.length with
 |true=>sL h h' h h' (B6 h h' s s' True)
 |false=>False
theorem eU.cut{c0 c:Cx}(hr:eU c0 c){h':List af}(hn:c0.heap.length<=h'.length)(hs:HSub c.heap h'):eU c0 (c.cut h') where
 lim:=hr.lim
 l5:=hr.l5
 ak:=hr.ak
 oA:=hr.oA
 os:=hr.os
 tape:=hr.tape
 output:=hr.output
 size:=hr.size
 keep:=hr.keep
 dw:=fun i b n hi hb=>hr.dw i b n (rf hi).1 hb
 boxes:=fun i bx hi=>by
  have ai:i<h'.length:=Nat.lt_of_lt_of_le (aX hi) hn;obtain⟨y,hy⟩:∃ y,h'[i]?=some y:=⟨h'[i],by simp[ai]⟩;obtain⟨x,hx,hb⟩:=hs i y hy;have gv:(c.cut h').heap[i]?=some y:=hy;have h1:=hr.boxes i bx hi;have fN:y=.gone->yJ c0 (c.cut h') i bx:=fun e=>by
   subst e;cases bx with
   |cells cs=>exact .inr gv
   |arr g sz l=>exact .inr gv
   |map es=>exact .inr gv
   |gone=>exact gv
  cases y with
  |gone=>exact fN rfl
  |cells cs' =>
   obtain⟨cs1,rfl,hl⟩:=hb;have ho:=lC (c:=c) hy (by simp);cases bx with
   |cells cs =>
    rcases h1 with⟨cs2,h1,h2,h3⟩|h1
    ·rw[hx]at h1;cases h1;exact .inl ⟨cs',gv,ho.trans h2,by omega⟩
    ·rw[hx]at h1;cases h1
   |arr g sz l =>
    rcases h1 with⟨_,_,h1,_⟩|h1<;>(rw[hx]at h1;cases h1)
   |map es=>rcases h1 with⟨_,h1,_⟩|h1<;>(rw[hx]at h1;cases h1)
   |gone=>have h1:c.heap[i]?=some .gone:=h1;rw[hx]at h1;cases h1
  |arr g' dX l' =>
   obtain⟨g1,rfl,hl⟩:=hb;have ho:=lC (c:=c) hy (by simp);cases bx with
   |cells cs=>rcases h1 with⟨_,h1,_⟩|h1<;>(rw[hx]at h1;cases h1)
   |arr g sz l =>
    rcases h1 with⟨g2,l2,h1,h2⟩|h1
    ·rw[hx]at h1;cases h1;refine .inl ⟨g',l',gv,?_⟩;by_cases hz:g'=0
     ·have:=hl hz;rcases h2 with h2|⟨h2,h3,h4⟩
      ·omega
      ·exact .inr ⟨hz,h3,ho.trans h4⟩
     ·left;omega
    ·rw[hx]at h1;cases h1
   |map es=>rcases h1 with⟨_,h1,_⟩|h1<;>(rw[hx]at h1;cases h1)
   |gone=>have h1:c.heap[i]?=some .gone:=h1;rw[hx]at h1;cases h1
  |map er =>
   obtain rfl:x=.map er:=hb;have ho:=lC (c:=c) hy (by simp);cases bx with
   |cells cs=>rcases h1 with⟨_,h1,_⟩|h1<;>(rw[hx]at h1;cases h1)
   |arr g sz l=>rcases h1 with⟨_,_,h1,_⟩|h1<;>(rw[hx]at h1;cases h1)
   |map es =>
    rcases h1 with⟨KZ,h1,h2⟩|h1
    ·rw[hx]at h1;cases h1;exact .inl ⟨er,gv,ho.trans h2⟩
    ·rw[hx]at h1;cases h1
   |gone=>have h1:c.heap[i]?=some .gone:=h1;rw[hx]at h1;cases h1
def wZ(h h':List af)(x:AV)(K:Prop):Prop :=
 match x with
 | .any=>K
 | .d _=>K
 | .own b g=>aZ h' b False fun
  | .gone=>K
  | .arr g1 _ _=>aZ h b False fun
   | .arr g0 _ _=>match Nat.blt g g1 with
    |true=>match Nat.ble g g0 with
     |true=>K
     |false=>False
    |false=>match Nat.beq g g0,Nat.beq g g1 with
     |true,true=>K
     |_,_=>False
   |_=>False
  |_=>False
 | .ptr b _=>aZ h' b False fun
  | .gone=>K
  | .cells _=>aZ h b False fun
   | .cells _=>K
   |_=>False
  |_=>False
 | .b9 _ _=>K
 | .map b=>aZ h' b False fun
  | .gone=>K
  | .map _=>aZ h b False fun
   | .map _=>K
   |_=>False
  |_=>False
 | .cut b g _ _=>aZ h' b False fun
  | .gone=>K
  | .arr g1 _ _=>aZ h b False fun
   | .arr g0 _ _=>match Nat.blt g g1 with
    |true=>match Nat.ble g g0 with
     |true=>K
     |false=>False
    |false=>match Nat.beq g g0,Nat.beq g g1 with
     |true,true=>K
     |_,_=>False
   |_=>False
  |_=>False
 | .cD b g _ _=>aZ h' b False fun
  | .gone=>K
  | .arr g1 _ _=>aZ h b False fun
   | .arr g0 _ _=>match Nat.blt g g1 with
    |true=>match Nat.ble g g0 with
     |true=>K
     |false=>False
    |false=>match Nat.beq g g0,Nat.beq g g1 with
     |true,true=>K
     |_,_=>False
   |_=>False
  |_=>False
 |_=>False
def uS(h h':List af):List AV->Prop->Prop
 |[],K=>K
 |x::l,K=>wZ h h' x (uS h h' l K)
def zr(h h':List af)(x:AV)(K:Prop):Prop :=
 match x with
 | .agg l=>uS h h' l K
 | .aJ l=>uS h h' l K
 | .fn _ a b=>uS h h' a (uS h h' b K)
 |x=>wZ h h' x K
def zt(h h':List af):List AV->Prop->Prop
 |[],K=>K
 |x::l,K=>zr h h' x (zt h h' l K)
def B9(h h':List af):List cu->Prop->Prop
 |[],K=>K
 |f::l,K=>zt h h' f.jr (B9 h h' l K)
def w5(h h':List af):List bT->Prop->Prop
 |[],K=>K
 | .loop i::l,K=>zt h h' i.jr (w5 h h' l K)
 | .mark _::l,K=>w5 h h' l K
 |_::_,_=>False
def w6(h h':List af)(x:FX)(K:Prop):Prop:=B9 h h' x.cls (w5 h h' x.loops K)
theorem w7{β:Type}{l:List β}{i:Nat}{k:β->Prop}{K:Prop}(hk:∀ x,k x->K)(H:aZ l i False k):K:=by
 rcases bl H with H|⟨x,_,H⟩
 ·exact H.elim
 ·exact hk x H
theorem K0{h h':List af}{x:AV}{K:Prop}(H:wZ h h' x K):K:=by
 have arr:∀ (b g:Nat),(aZ h' b False fun
  | .gone=>K
  | .arr g1 _ _=>aZ h b False fun
   | .arr g0 _ _=>match Nat.blt g g1 with
    |true=>match Nat.ble g g0 with
     |true=>K
     |false=>False
    |false=>match Nat.beq g g0,Nat.beq g g1 with
     |true,true=>K
     |_,_=>False
   |_=>False
  |_=>False)->K:=fun b g H=>w7 (fun y H=>by
   split at H
   ·exact H
   ·refine w7 (fun z H=>?_) H;split at H
    ·split at H
     ·split at H
      ·exact H
      ·exact H.elim
     ·split at H
      ·exact H
      ·exact H.elim
    ·exact H.elim
   ·exact H.elim) H
 cases x with
 |own b g=>exact arr b g H
 |cD b g i off=>exact arr b g H
 |cut b g k q=>exact arr b g H
 |ptr b off =>
  exact w7 (fun y H=>by
   split at H
   ·exact H
   ·refine w7 (fun z H=>?_) H;split at H
    ·exact H
    ·exact H.elim
   ·exact H.elim) H
 |map b =>
  exact w7 (fun y H=>by
   split at H
   ·exact H
   ·refine w7 (fun z H=>?_) H;split at H
    ·exact H
    ·exact H.elim
   ·exact H.elim) H
 |any=>exact H
 |d x=>exact H
 |b9 e off=>exact H
 |agg l=>exact H.elim
 |aJ l=>exact H.elim
 |fn f a b=>exact H.elim
theorem zu{h h':List af}:∀ {l:List AV} {K:Prop},uS h h' l K->K
 |[],_,H=>H
 |_::_,_,H=>zu (K0 H)
theorem TL{h h':List af}{x:AV}{K:Prop}(H:zr h h' x K):K:=by
 unfold zr at H;split at H
 ·exact zu H
 ·exact zu H
 ·exact zu (zu H)
 ·exact K0 H
theorem FE{h h':List af}:∀ {l:List AV} {K:Prop},zt h h' l K->K
 |[],_,H=>H
 |_::_,_,H=>FE (TL H)
theorem K3{h h':List af}:∀ {l:List cu} {K:Prop},B9 h h' l K->K
 |[],_,H=>H
 |_::_,_,H=>K3 (FE H)
theorem FF{h h':List af}:∀ {l:List bT} {K:Prop},w5 h h' l K->K
 |[],_,H=>H
 | .loop _::_,_,H=>FF (FE H)
 | .mark _::l,_,H=>FF (l:=l) H
 | .row _::_,_,H=>H.elim
 | .iter _::_,_,H=>H.elim
theorem K4{h h':List af}(hs:HSub h h'){x:AV}{K:Prop}(H:wZ h h' x K):K/\∀ (c:Cx),c.heap=h->∀ v,VR c x v->VR (c.cut h') x v:=by
 have own:∀ (b g:Nat) (K:Prop),(aZ h' b False fun
  | .gone=>K
  | .arr g1 _ _=>aZ h b False fun
   | .arr g0 _ _=>match Nat.blt g g1 with
    |true=>match Nat.ble g g0 with
     |true=>K
     |false=>False
    |false=>match Nat.beq g g0,Nat.beq g g1 with
     |true,true=>K
     |_,_=>False
   |_=>False
  |_=>False)->K/\(h'[b]?=some .gone\/∃ g0 g1 ts l,h[b]?=some (.arr g0 ts l)/\h'[b]?=some (.arr g1 ts l)/\(g<g1\/g=g0/\g=g1)):=fun b g K H=>by
  rcases bl H with H|⟨y,hy,H⟩
  ·exact H.elim
  split at H
  ·exact⟨H,.inl hy⟩
  ·rename_i g1 ts1 l1;rcases bl H with H|⟨x,hx,H⟩
   ·exact H.elim
   split at H
   ·rename_i g0 ts0 l0;obtain⟨x',eK,q⟩:=hs b _ hy;rw[hx]at eK;cases eK;obtain⟨g2,q,-⟩:=q;cases q;split at H
    ·rename_i q1;split at H
     ·exact⟨H,.inr ⟨_,_,_,_,hx,hy,.inl (Nat.le_of_ble_eq_true q1)⟩⟩
     ·exact H.elim
    ·split at H
     ·rename_i q1 q2;exact⟨H,.inr ⟨_,_,_,_,hx,hy,.inr ⟨Nat.eq_of_beq_eq_true q1,Nat.eq_of_beq_eq_true q2⟩⟩⟩
     ·exact H.elim
   ·exact H.elim
  ·exact H.elim
 cases x with
 |any=>exact⟨H,fun c _ v _ => .any v⟩
 |d x=>exact⟨H,fun c _ v hv=>by cases hv with|d _ _ hv=>exact .d _ _ (pM hv)⟩
 |b9 e off=>exact⟨H,fun c _ v hv=>by cases hv with|b9 _ _ blk o f k1 k2 k3 k4=>exact .b9 _ _ blk o f (fun hb=>k1 (hb.elim .inl fun⟨i,n,hi⟩ => .inr ⟨i,n,(rf hi).1⟩)) k2 k3 (fun j x hx=>pM (k4 j x hx))⟩
 |own b g =>
  obtain⟨hK,hq⟩:=own b g K H;refine⟨hK,fun c hc v hv=>?_⟩;subst hc;rcases hq with hq|⟨g0,g1,ts,l,q1,q2,q3⟩
  ·have cj:v.oneCell'=true:=by cases hv<;>first|rfl|assumption
   exact .jM b g v hq cj
  ·have ho:=lC (c:=c) q2 (by simp);rcases q3 with q3|⟨rfl,rfl⟩
   ·have cj:v.oneCell'=true:=by cases hv<;>first|rfl|assumption
    exact .kx b g g1 ts l v q2 q3 cj
   ·cases hv with
    |own _ _ sz l' blk cap hb cU=>rw[q1]at hb;cases hb;exact .own b g ts l blk cap q2 (ho.trans cU)
    |iW _ _ sz hb cU=>rw[q1]at hb;cases hb;exact .iW b g ts q2 (ho.trans cU)
    |kx _ _ g' sz l' v hb hg hv=>rw[q1]at hb;cases hb;omega
    |jM _ _ v hb hv=>rw[q1]at hb;cases hb
    |mI _ _ _ _ _ _ hb _ _=>rw[q1]at hb;cases hb
 |cut b g k qq =>
  obtain⟨hK,hq⟩:=own b g K H;refine⟨hK,fun c hc v hv=>?_⟩;subst hc;rcases hq with hq|⟨g0,g1,ts,l,q1,q2,q3⟩
  ·have cj:v.oneCell'=true:=by cases hv<;>first|rfl|assumption
   exact .mK b g k qq v hq cj
  ·have ho:=lC (c:=c) q2 (by simp);rcases q3 with q3|⟨rfl,rfl⟩
   ·have cj:v.oneCell'=true:=by cases hv<;>first|rfl|assumption
    exact .mJ b g g1 k qq ts l v q2 q3 cj
   ·cases hv with
    |cut _ _ _ _ sz l' blk cap o hb cU hk tO TM=>rw[q1]at hb;cases hb;exact .cut b g k qq ts l blk cap o q2 (ho.trans cU) hk tO TM
    |mJ _ _ g' _ _ sz l' v hb hg hv=>rw[q1]at hb;cases hb;omega
    |mK _ _ _ _ v hb hv=>rw[q1]at hb;cases hb
 |cD b g i off =>
  obtain⟨hK,hq⟩:=own b g K H;refine⟨hK,fun c hc v hv=>?_⟩;subst hc;rcases hq with hq|⟨g0,g1,ts,l,q1,q2,q3⟩
  ·have cj:v.oneCell'=true:=by cases hv<;>first|rfl|assumption
   exact .lX b g i off v hq cj
  ·have ho:=lC (c:=c) q2 (by simp);rcases q3 with q3|⟨rfl,rfl⟩
   ·have cj:v.oneCell'=true:=by cases hv<;>first|rfl|assumption
    exact .lW b g g1 i off ts l v q2 q3 cj
   ·cases hv with
    |cD _ _ _ _ sz l' blk cap hb cU hi=>rw[q1]at hb;cases hb;exact .cD b g i off ts l blk cap q2 (ho.trans cU) hi
    |lW _ _ g' _ _ sz l' v hb hg hv=>rw[q1]at hb;cases hb;omega
    |lX _ _ _ _ v hb hv=>rw[q1]at hb;cases hb
 |ptr b off =>
  simp only[wZ]at H;rcases bl H with H|⟨y,hy,H⟩
  ·exact H.elim
  split at H
  ·refine⟨H,fun c _ v hv=>?_⟩;have cj:v.oneCell'=true:=by cases hv<;>first|rfl|assumption
   exact .jn b off v hy cj
  ·rcases bl H with H|⟨x,hx,H⟩
   ·exact H.elim
   split at H
   ·refine⟨H,fun c hc v hv=>?_⟩;subst hc;have ho:=lC (c:=c) hy (by simp);cases hv with
    |ptr _ _ cs blk cap hb cU=>exact .ptr b off _ blk cap hy (ho.trans cU)
    |jn _ _ v hb hv=>rw[hx]at hb;cases hb
   ·exact H.elim
  ·exact H.elim
 |map b =>
  simp only[wZ]at H;rcases bl H with H|⟨y,hy,H⟩
  ·exact H.elim
  split at H
  ·refine⟨H,fun c _ v hv=>?_⟩;have cj:v.oneCell'=true:=by cases hv<;>first|rfl|assumption
   exact .nC b v hy cj
  ·rcases bl H with H|⟨x,hx,H⟩
   ·exact H.elim
   split at H
   ·refine⟨H,fun c hc v hv=>?_⟩;subst hc;have ho:=lC (c:=c) hy (by simp);cases hv with
    |map _ es blk cap hb cU=>exact .map b _ blk cap hy (ho.trans cU)
    |nC _ v hb hv=>rw[hx]at hb;cases hb
   ·exact H.elim
  ·exact H.elim
 |agg l=>exact H.elim
 |aJ l=>exact H.elim
 |fn f a b=>exact H.elim
theorem zw{h h':List af}(hs:HSub h h'):∀ {l:List AV} {K:Prop},uS h h' l K->K/\∀ (c:Cx),c.heap=h->∀ (j:Nat) x v,l[j]?=some x->VR c x v->VR (c.cut h') x v
 |[],K,H=>⟨H,fun c _ j x v hx=>by simp at hx⟩
 |y::l,K,H=>by
  obtain⟨H,h1⟩:=K4 hs H;obtain⟨H,h2⟩:=zw hs H;refine⟨H,fun c hc j x v hx hv=>?_⟩;cases j with
  |zero=>simp at hx;subst hx;exact h1 c hc v hv
  |succ j=>exact h2 c hc j x v (by simpa using hx) hv
theorem TN{h h':List af}(hs:HSub h h'){x:AV}{K:Prop}(H:zr h h' x K):K/\∀ (c:Cx),c.heap=h->∀ v,VR c x v->VR (c.cut h') x v:=by
 unfold zr at H;split at H
 ·obtain⟨H,h1⟩:=zw hs H;exact⟨H,fun c hc v hv=>by cases hv with|agg _ vs hl bW=>exact .agg _ vs hl fun j x v hx hu=>h1 c hc j x v hx (bW j x v hx hu)⟩
 ·obtain⟨H,h1⟩:=zw hs H;exact⟨H,fun c hc v hv=>by cases hv with|aJ _ vs hl bW=>exact .aJ _ vs hl fun j x v hx hu=>h1 c hc j x v hx (bW j x v hx hu)⟩
 ·obtain⟨H,h1⟩:=zw hs H;obtain⟨H,h2⟩:=zw hs H;exact⟨H,fun c hc v hv=>by cases hv with|fn _ _ _ v1 v2 k1 k2 k3 k4=>exact .fn _ _ _ v1 v2 k1 k2 (fun j x v hx hu=>h1 c hc j x v hx (k3 j x v hx hu)) (fun j x v hx hu=>h2 c hc j x v hx (k4 j x v hx hu))⟩
 ·exact K4 hs H
theorem FG{h h':List af}(hs:HSub h h'):∀ {l:List AV} {K:Prop},zt h h' l K->K/\∀ (c:Cx),c.heap=h->∀ t,VS c l t->VS (c.cut h') l t
 |[],K,H=>⟨H,fun c _ t ht=>⟨ht.1,fun j x v hx=>by simp at hx⟩⟩
 |y::l,K,H=>by
  obtain⟨H,h1⟩:=TN hs H;obtain⟨H,h2⟩:=FG hs H;refine⟨H,fun c hc t ht=>⟨ht.1,fun j x v hx hv=>?_⟩⟩;cases j with
  |zero=>simp at hx;subst hx;exact h1 c hc v (ht.2 0 _ v rfl hv)
  |succ j =>
   have iv:(t.extract 1)[j]?=some v:=by
    rw[Array.getElem?_extract];have:=(Array.getElem?_eq_some_iff.1 hv).1;rw[if_pos (by omega),Nat.add_comm];exact hv
   have:=h2 c hc (t.extract 1) ⟨by have:=ht.1;simp at this ⊢;omega,fun i x v hx hv=>ht.2 (i+1) x v (by simpa using hx) (by
    rw[Array.getElem?_extract]at hv;split at hv
    ·rw[Nat.add_comm]at hv;exact hv
    ·cases hv)⟩
   exact this.2 j x v (by simpa using hx) iv
theorem K5{h h':List af}(hs:HSub h h'):∀ {l:List cu} {K:Prop},B9 h h' l K->K/\∀ (c:Cx),c.heap=h->∀ ts,CR c l ts->CR (c.cut h') l ts
 |[],K,H=>⟨H,fun c _ ts ht=>by cases ts with|nil=>trivial|cons t ts=>exact ht.elim⟩
 |f::l,K,H=>by
  obtain⟨H,h1⟩:=FG hs H;obtain⟨H,h2⟩:=K5 hs H;refine⟨H,fun c hc ts ht=>?_⟩;cases ts with
  |nil=>exact ht.elim
  |cons t ts=>exact⟨h1 c hc t ht.1,ht.2.1,h2 c hc ts ht.2.2⟩
theorem FH{h h':List af}(hs:HSub h h'):∀ {l:List bT} {K:Prop},w5 h h' l K->K/\∀ (lim:Nat) (c:Cx),c.heap=h->∀ g∈l,iY lim c g->iY lim (c.cut h') g
 |[],K,H=>⟨H,fun lim c _ g hg=>by simp at hg⟩
 | .loop i::l,K,H=>by
  obtain⟨H,h1⟩:=FG hs H;obtain⟨H,h2⟩:=FH hs H;refine⟨H,fun lim c hc g hg hk=>?_⟩;rcases List.mem_cons.1 hg with rfl|hg
  ·obtain⟨k1,k2,k3,k4⟩:=(show oC lim c i from hk);exact(show oC lim (c.cut h') i from ⟨k1,k2,k3,h1 c hc _ k4⟩)
  ·exact h2 lim c hc g hg hk
 | .mark d::l,K,H=>by
  obtain⟨H,h2⟩:=FH (l:=l) hs H;refine⟨H,fun lim c hc g hg hk=>?_⟩;rcases List.mem_cons.1 hg with rfl|hg
  ·obtain⟨k1,k2,k3⟩:=(show sr lim c d from hk);exact(show sr lim (c.cut h') d from ⟨k1,k2,k3⟩)
  ·exact h2 lim c hc g hg hk
 | .row _::_,_,H=>H.elim
 | .iter _::_,_,H=>H.elim
theorem iY.TO{lim:Nat}{c:Cx}{h':List af}:∀ {g:bT},iY lim c g->g.flat->iY lim (c.cut h') g
 | .row r,h,_=>qK.gen (c:=c) h (qK.ak (c:=c) h) rfl (fun _ _=>pM)
 | .iter i,h,_=>l7.gen (c:=c) h (l7.EB (c:=c) h) (l7.yL (c:=c) h) rfl rfl (fun _ _=>pM)
 | .loop _,_,h=>h.elim
 | .mark d,h,_=>by obtain⟨k1,k2,k3⟩:=(show sr lim c d from h);exact(show sr lim (c.cut h') d from ⟨k1,k2,k3⟩)
section
variable {E:Env} {ae:FuncId} {R:bZ} {td:List aK} {s s':List AV} {h h':List af}
theorem ef.cut{lim:Nat}{c:Cx}{rows loops:List bT}(h:ef lim c rows loops){h':List af}(hl:∀ g∈loops,iY lim c g->iY lim (c.cut h') g):ef lim (c.cut h') rows loops :=
 ⟨⟨fun g hg=>(List.mem_append.1 hg).elim (fun mV=>(h.all.each g hg).TO (h.flat g mV)) (fun mV=>hl g mV (h.all.each g hg)),h.all.nodup⟩,h.flat⟩
theorem AW.weaken{f0:FuncId}{fd:iG}(hs:w6 h h' R.fx (uR R.n h s h' s'))(H:AW E f0 ⟨fd,td,s'⟩ R.fx.cls h' R):AW E f0 ⟨fd,td,s⟩ R.fx.cls h R:=by
 unfold AW at H ⊢;intro c0 c t ts h0 h1 h2 h3 hr cb h4 h5 cs;subst h2;unfold w6 at hs;have rh:=hs;replace hs:=FF (K3 hs);unfold uR at hs;split at hs
 case h_2=>exact hs.elim
 rename_i q;have hn:=Nat.le_of_ble_eq_true q;obtain⟨k1,k2⟩:=KX hs;have k3:=KY k1 hs;obtain⟨-,k4⟩:=KW k1 k2;obtain⟨uT,f1⟩:=K5 k1 rh;obtain⟨-,f2⟩:=FH k1 uT;have hv:=k4 c t.toList rfl ⟨by simpa using h4.1,fun j x v hx hv=>h4.2 j x v hx (by simpa using hv)⟩;have aN:=h3.cut k1 (fun i cs hi=>by obtain⟨pN,r1,r2⟩:=k3 i cs hi;exact⟨pN,r1,fun vs hv=>r2 c vs rfl hv⟩);exact H c0 (c.cut h') t ts h0 h1 rfl aN (hr.cut (by omega) k1) (cb.cut fun g hg=>f2 _ c rfl g hg) ⟨by simpa using hv.1,fun j x v hx hu=>hv.2 j x v hx (by simpa using hu)⟩ (f1 c rfl ts h5) cs
def anyS:List Nat->List AV->List AV
 |[],s=>s
 |d::l,s=>anyS l (s.set d .any)
def lD:List (Nat × AV)->List AV->List AV
 |[],s=>s
 |(d,v)::l,s=>lD l (s.set d v)
def lE:List (Nat × af)->List af->List af
 |[],h=>h
 |(d,v)::l,h=>lE l (h.set d v)
def Ca{α:Sort _}:List Nat->List AV->(List AV->α)->α
 |[],s,k=>k s
 |d::l,s,k=>fL s d .any fun s'=>Ca l s' k
theorem K6{α:Sort _}:∀ (l:List Nat) (s:List AV) (k:List AV->α),Ca l s k=k (anyS l s)
 |[],_,_=>rfl
 |d::l,s,k=>by simp only[Ca,gL,anyS,K6 l]
def uU{α:Sort _}{β:Type}:List (Nat × β)->List β->(List β->α)->α
 |[],s,k=>k s
 |(d,v)::l,s,k=>fL s d v fun s'=>uU l s' k
theorem K7{α:Sort _}:∀ (l:List (Nat × AV)) (s:List AV) (k:List AV->α),uU l s k=k (lD l s)
 |[],_,_=>rfl
 |(d,v)::l,s,k=>by simp only[uU,gL,lD,K7 l]
theorem K8{α:Sort _}:∀ (l:List (Nat × af)) (s:List af) (k:List af->α),uU l s k=k (lE l s)
 |[],_,_=>rfl
 |(d,v)::l,s,k=>by simp only[uU,gL,lE,K8 l]
def zA(ks:List Nat):AV->Bool
 | .own j _=>bV j ks
 | .cut j _ _ _=>bV j ks
 | .cD j _ _ _=>bV j ks
 |_=>false
def K9(ks:List Nat):AV->Bool
 | .agg l=>l.any (zA ks)
 | .aJ l=>l.any (zA ks)
 | .fn _ a b=>a.any (zA ks)||b.any (zA ks)
 |x=>zA ks x
def lF(ks:List Nat):List AV->List AV
 |[]=>[]
 |x::s=>(match K9 ks x with|true => .any|false=>x)::lF ks s
def zB{α:Sort _}(ks:List Nat):List AV->(List AV->α)->α
 |[],k=>k []
 |x::s,k=>match K9 ks x with
  |true=>zB ks s fun s'=>k (.any::s')
  |false=>zB ks s fun s'=>k (x::s')
theorem La{α:Sort _}(ks:List Nat):∀ (s:List AV) (k:List AV->α),zB ks s k=k (lF ks s)
 |[],_=>rfl
 |x::s,k=>by
  simp only[zB,lF];split<;>rename_i q<;>rw[La ks s]<;>simp only[q]
def mW:List (Nat × af)->List Nat
 |[]=>[]
 |p::l=>p.1::mW l
def ri{α:Sort _}(fE ks:List Nat)(vars:List (Nat × AV))(boxes:List (Nat × af))(s:List AV)(h:List af)(k:List AV->List af->α):α :=
 zB ks s fun s0=>Ca fE s0 fun s1=>uU vars s1 fun s2=>uU boxes h fun h2=>k s2 h2
theorem w8{α:Sort _}(fE ks:List Nat)(vars:List (Nat × AV))(boxes:List (Nat × af))(s:List AV)(h:List af)(k:List AV->List af->α):ri fE ks vars boxes s h k=k (lD vars (anyS fE (lF ks s))) (lE boxes h):=by
 simp only[ri,La,K6,K7,K8]
theorem aa.loop{lits:List Nat}{b:Code}{k:List aK}{κ:Type}(fE:List Nat)(vars:κ->List (Nat × AV))(boxes:κ->List (Nat × af))(Φ:κ->Prop)(μ:κ->Nat)(x0:κ)(h0:Φ x0)
  (sM:ri fE (mW (boxes x0)) (vars x0) (boxes x0) s h fun s' h'=>w6 h h' R.fx (uR R.n h s h' s'))
  (sN:∀ x,Φ x->(∀ y,Φ y->μ y<μ x->aa E ae R [] (.inLoop b::k) (lD (vars y) (anyS fE (lF (mW (boxes x0)) s))) (lE (boxes y) h))->aa E ae R [] (.code b :: .inLoop b::k) (lD (vars x) (anyS fE (lF (mW (boxes x0)) s))) (lE (boxes x) h)) :
  aa E ae R lits (.code (.loop b)::k) s h:=by
 have main:∀ n x,μ x<n->Φ x->aa E ae R [] (.inLoop b::k) (lD (vars x) (anyS fE (lF (mW (boxes x0)) s))) (lE (boxes x) h):=by
  intro n
  induction n with
  |zero=>intro x hx;omega
  |succ n ih=>intro x hx hP;exact .of (.inLoop (sN x hP fun y hy hm=>ih y (by omega) hy).to)
 rw[w8]at sM;exact .of (.loop (.weaken sM (sN x0 h0 fun y hy _=>main (μ y+1) y (by omega) hy).to))
theorem aa.head(hE:E.OK){fn:Func}(hf:E.P.funcs[ae]?=some fn)(n:Nat){lits fE ks:List Nat}{vars:List (Nat × AV)}{boxes:List (Nat × af)}{s0:List AV}{h0:List af}
  (H:ri fE ks vars boxes s0 h0 fun s' h'=>runK E ae fn.results.toList R n lits td s' h'):aa E ae R lits td (lD vars (anyS fE (lF ks s0))) (lE boxes h0):=by
 rw[w8]at H;exact .run hE hf n H
theorem aa.back{lits TP fE ks:List Nat}{vars:List (Nat × AV)}{boxes:List (Nat × af)}{s0:List AV}{h0:List af}(H:aa E ae R lits td (lD vars (anyS fE (lF ks s0))) (lE boxes h0))
  (hs:ri fE ks vars boxes s0 h0 fun s' h'=>w6 h h' R.fx (uR R.n h s h' s')):aa E ae R TP td s h:=by
 rw[w8]at hs;exact .of (.weaken hs H.to)
theorem aa.jV{lits:List Nat}(d:Nat)(ts:Nat × Nat)(mT:0<ts.2)(hd:s[d]?=some (.d .a7))(H:aa E ae R lits td (s.set d (.own h.length 0)) (h++[.arr 0 ts []])):aa E ae R lits td s h:=by
 replace H:=H.to;refine .of (.jS (fun c t dX h1 h2 h3 h4 h5=>?_) H);subst h2
 let c':Cx:={ c with heap:=c.heap++[.arr 0 ts []] }
 have dE:c.own c.heap.length=none:=by
  cases ho:c.own c.heap.length with
  |none=>rfl
  |some p=>have:=(h3.bH _ p.1 p.2 ho).2;omega
 have aV:Step c c':=⟨rfl,h3.bE,rfl,rfl,rfl,Nat.le_refl _,fun _ _ _=>rfl,fun i b n hi _=>⟨n,hi⟩,fun i bx hi=>by
  have h':c'.heap[i]?=some bx:=by show(c.heap++_)[i]?=_;rw[List.getElem?_append_left (aX hi)];exact hi
  cases bx with
  |cells cs=>exact .inl ⟨cs,h',rfl,rfl⟩
  |arr g sz l=>exact .inl ⟨g,l,h',.inr ⟨rfl,rfl,rfl⟩⟩
  |map es=>exact .inl ⟨es,h',rfl⟩
  |gone=>exact h'⟩
 have mU:c'.heap[c.heap.length]?=some (.arr 0 ts []):=by show(c.heap++_)[_]?=_;simp
 have aN:aD E.G c':=h3.next aV (fun i b n hi=>⟨(h3.bH i b n hi).1,by have:=(h3.bH i b n hi).2;show i<(c.heap++_).length;simp;omega⟩) h3.inj (fun i bx hi=>by
  by_cases iX:i=c.heap.length
  ·subst iX;rw[mU]at hi;cases hi;exact .inr ⟨mT,fun i e he=>by simp at he,.inl ⟨dE,rfl⟩⟩
  ·have ai : i < c.heap.length := by have := aX hi;have h2 : c'.heap.length=c.heap.length+1 := by show(c.heap ++ _).length=_;simp
                                     omega
   have cS:(c.heap++[.arr 0 ts []])[i]?=some bx:=hi;rw[List.getElem?_append_left ai]at cS
   exact .inl ⟨cS,rfl,fun _ _ _=>rfl⟩)
 refine⟨c',t,dX,h1,rfl,aN,?_,aV.cr h5,aV,fun _ => .refl _ _⟩;have ev:d<t.size:=by rw[<- h4.1];exact aX hd
 have hv:t[d]=.slice none 0 0:=by
  have:=h4.2 d _ t[d] hd (by simp[ev]);generalize t[d]=u at this;cases this with
  |d _ _ hv=>cases hv;rfl
 have:=VS.put (aV.vs h4) d (x := .own c.heap.length 0) (v:=t[d]) (by rw[hv];exact .iW _ _ ts mU dE)
 simpa [Array.setIfInBounds,ev]using this
end
section
variable {α:Sort _}
def Cb(b g:Nat)(l:List DV)(x:AV)(k:AV->α):α:=match x with
 | .own j g'=>match Nat.beq j b,Nat.beq g' g with
  |true,true=>k (.d (.sl l))
  |_,_=>k (.own j g')
 |x=>k x
def uV(b g:Nat)(l:List DV):List AV->(List AV->α)->α
 |[],k=>k []
 |x::r,k=>Cb b g l x fun y=>uV b g l r fun r'=>k (y::r')
def FI(b g:Nat)(l:List DV)(x:AV)(k:AV->α):α:=match x with
 | .agg c=>uV b g l c fun c'=>wg c' k
 | .aJ c=>uV b g l c fun c'=>k (.aJ c')
 | .fn f a1 a2=>uV b g l a1 fun Lb=>uV b g l a2 fun Lc=>k (.fn f Lb Lc)
 |x=>Cb b g l x k
def FJ(b g:Nat)(l:List DV):List AV->(List AV->α)->α
 |[],k=>k []
 |x::r,k=>FI b g l x fun y=>FJ b g l r fun r'=>k (y::r')
def zC(b g:Nat)(l:List DV):List af->(List af->α)->α
 |[],k=>k []
 |x::r,k=>match x with
  | .cells c=>uV b g l c fun c'=>zC b g l r fun r'=>k (.cells c'::r')
  |x=>zC b g l r fun r'=>k (x::r')
end
def Ld(b:Nat)(s:List AV)(h:List af)(k:List AV->List af->Prop):Prop:=aZ h b False fun
 | .arr g _ l=>FJ b g l s fun s'=>zC b g l h fun h'=>fL h' b .gone fun qF=>k s' qF
 |_=>False
structure w9(b g:Nat)(l:List DV)(c c':Cx):Prop where
 step:Step c c'
 own:∀ v,VR c (.own b g) v->VR c' (.d (.sl l)) v
section
variable {b g:Nat} {l:List DV}
theorem Le{x:AV}{k:AV->Prop}(H:Cb b g l x k):∃ y,k y/\∀ c c',w9 b g l c c'->∀ v,VR c x v->VR c' y v:=by
 unfold Cb at H;split at H
 ·split at H
  ·rename_i q1 q2;have q1:=Nat.eq_of_beq_eq_true q1;have q2:=Nat.eq_of_beq_eq_true q2;subst q1;subst q2;exact⟨_,H,fun c c' hf v hv=>hf.own v hv⟩
  ·exact⟨_,H,fun c c' hf v hv=>hf.step.vr hv⟩
 ·exact⟨_,H,fun c c' hf v hv=>hf.step.vr hv⟩
theorem xa:∀ {r:List AV} {k:List AV->Prop},uV b g l r k->∃ r',k r'/\r'.length=r.length/\∀ c c',w9 b g l c c'->∀ vs,VL c r vs->VL c' r' vs
 |[],_,H=>⟨[],H,rfl,fun _ _ _ _ hv=>⟨hv.1,fun j x v hx=>by simp at hx⟩⟩
 |x::r,k,H=>by
  obtain⟨y,H,hy⟩:=Le H;obtain⟨r',H,hl,hr⟩:=xa H;refine⟨y::r',H,by simp[hl],fun c c' hf vs hv=>?_⟩;cases vs with
  |nil=>have:=hv.1;simp at this
  |cons v vs=>exact .cons (hy c c' hf v hv.head.1) (hr c c' hf vs hv.head.2)
theorem TQ{x:AV}{k:AV->Prop}(H:FI b g l x k):∃ y,k y/\∀ c c',w9 b g l c c'->∀ v,VR c x v->VR c' y v:=by
 unfold FI at H;split at H
 ·obtain⟨r',H,-,hr⟩:=xa H;obtain⟨y,H,hy⟩:=yu H;refine⟨y,H,fun c c' hf v hv=>?_⟩;obtain⟨vs,rfl,fC⟩:=sj hv;exact hy c' vs (hr c c' hf vs fC)
 ·obtain⟨r',H,-,hr⟩:=xa H;refine⟨_,H,fun c c' hf v hv=>?_⟩;cases hv with
  |aJ _ vs hl bW =>
   have:=hr c c' hf vs.toList ⟨by simpa using hl,fun j x v hx hv=>bW j x v hx (by simpa using hv)⟩;exact .aJ _ vs (by simpa using this.1) (fun j x v hx hv=>this.2 j x v hx (by simpa using hv))
 ·obtain⟨Lb,H,-,h1⟩:=xa H;obtain⟨Lc,H,-,h2⟩:=xa H;refine⟨_,H,fun c c' hf v hv=>?_⟩;obtain⟨v1,v2,rfl,r1,r2⟩:=l8 hv;have r1:=h1 c c' hf v1 r1;have r2:=h2 c c' hf v2 r2;exact .fn _ _ _ _ _ (by simpa using r1.1) (by simpa using r2.1) (fun j x v hx hv=>r1.2 j x v hx (by simpa using hv)) (fun j x v hx hv=>r2.2 j x v hx (by simpa using hv))
 ·exact Le H
theorem Lf:∀ {r:List AV} {k:List AV->Prop},FJ b g l r k->∃ r',k r'/\∀ c c',w9 b g l c c'->∀ vs,VL c r vs->VL c' r' vs
 |[],_,H=>⟨[],H,fun _ _ _ _ hv=>⟨hv.1,fun j x v hx=>by simp at hx⟩⟩
 |x::r,k,H=>by
  obtain⟨y,H,hy⟩:=TQ H;obtain⟨r',H,hr⟩:=Lf H;refine⟨y::r',H,fun c c' hf vs hv=>?_⟩;cases vs with
  |nil=>have:=hv.1;simp at this
  |cons v vs=>exact .cons (hy c c' hf v hv.head.1) (hr c c' hf vs hv.head.2)
def Cc(b g:Nat)(l:List DV)(x y:af):Prop:=match x with
 | .cells cs=>∃ cs',y=.cells cs'/\cs'.length=cs.length/\∀ c c',w9 b g l c c'->∀ vs,VL c cs vs->VL c' cs' vs
 |x=>y=x
theorem FK:∀ {r:List af} {k:List af->Prop},zC b g l r k->∃ r',k r'/\r'.length=r.length/\∀ (i:Nat) (x:af),r[i]?=some x->∃ y,r'[i]?=some y/\Cc b g l x y
 |[],_,H=>⟨[],H,rfl,fun i x hx=>by simp at hx⟩
 |x::r,k,H=>by
  unfold zC at H;have fin:∀ {y:af} {r':List af},Cc b g l x y->(∀ (i:Nat) (x:af),r[i]?=some x->∃ y,r'[i]?=some y/\Cc b g l x y)->∀ (i:Nat) (z:af),(x::r)[i]?=some z->∃ y',(y::r')[i]?=some y'/\Cc b g l z y':=fun{y r'} h1 h2 i z hz=>by
   cases i with
   |zero=>simp at hz;subst hz;exact⟨y,rfl,h1⟩
   |succ i=>obtain⟨y',k1,k2⟩:=h2 i z (by simpa using hz);exact⟨y',by simpa using k1,k2⟩
  split at H
  ·obtain⟨c',H,hl,hr⟩:=xa H;obtain⟨r',H,zi,uk⟩:=FK H;exact⟨_,H,by simp[zi],fin ⟨c',rfl,hl,hr⟩ uk⟩
  ·rename_i aH;obtain⟨r',H,zi,uk⟩:=FK H;refine⟨_,H,by simp[zi],fin ?_ uk⟩;cases x with
   |cells c=>exact absurd rfl (aH c)
   |arr _ _ _=>rfl
   |map _=>rfl
   |gone=>rfl
end
section
variable {E:Env} {ae:FuncId} {R:bZ} {td:List aK} {s:List AV} {h:List af}
theorem aa.freeze{lits:List Nat}(b:Nat)(H:Ld b s h fun s' h'=>aa E ae R lits td s' h'):aa E ae R lits td s h:=by
 unfold Ld at H;rcases bl H with H|⟨bx,hb,H⟩
 ·exact H.elim
 split at H
 case h_2=>exact H.elim
 rename_i g ts l;obtain⟨s',H,Cd⟩:=Lf H;obtain⟨h',H,hlen,B3⟩:=FK H;rw[gL]at H;refine .of (.jS (fun c t dX h1 h2 h3 h4 h5=>?_) H.to);subst h2;have eu:=aX hb
 let c':Cx:={ c with own:=fun i=>if i=b then none else c.own i,heap:=h'.set b .gone }
 have fN:c'.heap[b]?=some .gone:=by show(h'.set b .gone)[b]?=_;rw[List.getElem?_set_self (by omega)]
 have oH:∀ i,i≠b->c'.heap[i]?=h'[i]? := fun i hi=>by show(h'.set b .gone)[i]?=_;rw[List.getElem?_set_ne (Ne.symm hi)]
 have bI:∀ i,i≠b->c'.own i=c.own i:=fun i hi=>by simp only[c',if_neg hi]
 have js:∀ i p,c'.own i=some p->i≠b/\c.own i=some p:=fun i p hp=>by
  simp only[c']at hp;split at hp
  ·cases hp
  ·rename_i q;exact⟨q,hp⟩
 have aV:Step c c':=⟨rfl,h3.bE,rfl,rfl,rfl,Nat.le_refl _,fun _ _ _=>rfl,fun i x n hi _=>⟨n,(js i _ hi).2⟩,fun i bx hi=>by
  by_cases bP:i=b
  ·subst bP;cases bx with
   |cells cs=>exact .inr fN
   |arr g sz l=>exact .inr fN
   |map es=>exact .inr fN
   |gone=>exact fN
  ·obtain⟨y,k1,k2⟩:=B3 i bx hi;rw[<- oH i bP]at k1;cases bx with
   |cells cs=>obtain⟨cs',rfl,e,-⟩:=k2;exact .inl ⟨cs',k1,bI i bP,e⟩
   |arr g sz l=>obtain rfl:y=_:=k2;exact .inl ⟨g,l,k1,.inr ⟨rfl,rfl,bI i bP⟩⟩
   |map es=>obtain rfl:y=_:=k2;exact .inl ⟨es,k1,bI i bP⟩
   |gone=>obtain rfl:y=_:=k2;exact k1⟩
 have fk:∀ x,c'.bad x->c.bad x:=fun x hx=>hx.elim .inl fun⟨i,n,hi⟩ => .inr ⟨i,n,(js i _ hi).2⟩
 have Ce:w9 b g l c c':=⟨aV,fun v hv=>by
  obtain⟨q0,q1,q2⟩:=h3.box b _ hb;rcases nK hb hv with⟨blk,cap,r1,rfl⟩|⟨rfl,rfl,r1⟩
  ·rcases q2 with⟨q2,-⟩|⟨la,jN,vs,q2,q3,q4,q5,q6,q7⟩
   ·rw[r1]at q2;cases q2
   rw[r1]at q2;cases q2;refine .d _ _ (.sl l blk 0 cap ts.2 (fun i j=>(vs[i*ts.2+j]?).getD undef) (fun _ ie=>?_) q0 q5 (fun i e he=>q1 i e he) (fun i j e x he hx=>?_) (fun i j e x he hx=>?_) (fun i j e x he hx=>?_))
   ·rcases ie with ie|⟨i,n,hi⟩
    ·exact h3.sep b blk cap r1 ie
    ·obtain⟨k1,k2⟩:=js i _ hi;exact k1 (h3.inj i b blk n cap k2 r1)
   ·obtain⟨v,p1,p2,p3⟩:=q7 i j e x he hx;rw[p1,Option.getD_some];exact mM q3 _ v (by simpa using p1)
   ·obtain⟨v,p1,p2,p3⟩:=q7 i j e x he hx;simp only[p1,Option.getD_some];exact aV.vd p3
   ·obtain⟨v,p1,p2,p3⟩:=q7 i j e x he hx;simp only[p1,Option.getD_some];exact p2
  ·exact .d _ _ .slnil⟩
 have aN:aD E.G c':=by
  refine h3.next aV (fun i x n hi=>?_) (fun i j x n m hi hj=>h3.inj i j x n m (js i _ hi).2 (js j _ hj).2) (fun i bx hi=>?_)
  ·have:=h3.bH i x n (js i _ hi).2;refine⟨this.1,?_⟩;show i<(h'.set b .gone).length;rw[List.length_set,hlen];exact this.2
  ·right;by_cases bP:i=b
   ·subst bP;rw[fN]at hi;cases hi;show c'.own i=none;simp[c']
   ·rw[oH i bP]at hi;have iX:i<c.heap.length:=by rw[<- hlen];exact aX hi
    obtain⟨y,k1,k2⟩:=B3 i c.heap[i] (by simp[iX]);rw[hi]at k1;cases k1;have iw:c.heap[i]?=some c.heap[i]:=by simp[iX]
    generalize c.heap[i]=x at k2 iw;cases x with
    |cells cs =>
     obtain⟨cs',rfl,e,hv⟩:=k2;obtain⟨blk,cap,vs,ty,g1,g2,g3⟩:=h3.cells iw;have:=hv c c' Ce vs.toList g3;exact⟨blk,cap,vs,ty,(bI i bP).trans g1,g2,by simpa using this.1.symm,fun j x v hx hv=>this.2 j x v hx (by simpa using hv)⟩
    |arr _ _ _=>obtain rfl:bx=_:=k2;exact(h3.box i _ iw).keep aV (bI i bP) (fun _ _ _=>rfl)
    |map _=>obtain rfl:bx=_:=k2;exact(h3.box i _ iw).keep aV (bI i bP) (fun _ _ _=>rfl)
    |gone=>obtain rfl:bx=_:=k2;exact(h3.box i _ iw).keep aV (bI i bP) (fun _ _ _=>rfl)
 have hv:=Cd c c' Ce t.toList ⟨by simpa using h4.1,fun j x v hx hv=>h4.2 j x v hx (by simpa using hv)⟩;exact⟨c',t,dX,h1,rfl,aN,⟨by simpa using hv.1,fun j x v hx hu=>hv.2 j x v hx (by simpa using hu)⟩,aV.cr h5,aV,fun _ => .refl _ _⟩
theorem aa.uW{lits:List Nat}{b:Code}{k:List aK}(H:aa E ae R [] (.code b :: .inLoop b::k) s h):aa E ae R lits (.code (.loop b)::k) s h := .of (.loop H.to)
theorem aa.again{lits:List Nat}{b:Code}{k:List aK}(H:aa E ae R [] (.code b :: .inLoop b::k) s h):aa E ae R lits (.inLoop b::k) s h := .of (.inLoop H.to)
end
def Cf:DV->Bool
 | .int _ _=>true
 | .bool _=>true
 | .str _=>true
 | .undef=>true
 | .a7=>true
 |_=>false
def FL:DV->Bool
 | .aJ c=>c.all Cf
 | .agg c=>c.all Cf
 |x=>Cf x
theorem Lg{x:DV}(hx:Cf x=true){bad wa:Nat->Prop}{w w':World}{v:Value}(hv:VD bad w x v):VD wa w' x v:=by
 cases hv<;>first|(cases hx;done)|(constructor;done)
theorem TR{x:DV}(hx:FL x=true){bad wa:Nat->Prop}{w w':World}{v:Value}(hv:VD bad w x v):VD wa w' x v:=by
 cases hv with
 |agg c vs hl bW=>exact .agg c vs hl fun j x v h1 h2=>Lg (List.all_eq_true.1 hx x (List.mem_of_getElem? h1)) (bW j x v h1 h2)
 |aJ c vs hl bW=>exact .aJ c vs hl fun j x v h1 h2=>Lg (List.all_eq_true.1 hx x (List.mem_of_getElem? h1)) (bW j x v h1 h2)
 |_=>first|(cases hx;done)|(constructor;done)
def rj(h:List af):List AV->Option (List DV)
 |[]=>some []
 | .d x::l=>match rj h l with
  |some r=>some (x::r)
  |none=>none
 | .own b _::l=>match ee h b with
  |some (.arr _ _ m)=>match rj h l with
   |some r=>some (.sl m::r)
   |none=>none
  |_=>none
 |_::_=>none
def xb:List AV->Bool
 |[]=>true
 | .own _ g::l=>match Nat.beq g 0 with
  |true=>xb l
  |false=>false
 |_::l=>xb l
theorem FM{G:List (Nat × DV)}{c:Cx}(ho:aD G c)(hf:yK c.heap):∀ {args:List AV} {ds:List DV} {vs:List Value},rj c.heap args=some ds->xb args=true->VL c args vs->jT c.ak c.w ds vs
 |[],ds,vs,h,_,hv=>by cases h;exact⟨hv.1,fun j x v hx=>by simp at hx⟩
 |x::l,ds,vs,h,hg,hv=>by
  cases vs with
  |nil=>have:=hv.1;simp at this
  |cons v vs =>
   obtain⟨iP,uX⟩:=hv.head
   have fin:∀ {d:DV} {r:List DV},VD c.ak c.w d v->jT c.ak c.w r vs->jT c.ak c.w (d::r) (v::vs):=fun{d r} h1 h2=>⟨by simp[h2.1],fun j x u hx hu=>by
    cases j with
    |zero=>simp at hx hu;subst hx;subst hu;exact h1
    |succ j=>exact h2.2 j x u (by simpa using hx) (by simpa using hu)⟩
   have less:∀ {d:DV} {u:Value},VD c.bad c.w d u->VD c.ak c.w d u:=fun hd=>hd.mono fun b _ hn=>⟨fun hb=>hn (.inl hb),rfl⟩;cases x with
   |d x =>
    simp only[rj]at h;cases hr:rj c.heap l with
    |none=>rw[hr]at h;cases h
    |some r =>
     rw[hr]at h;cases h;cases iP with
     |d _ _ hd=>exact fin (less hd) (FM ho hf hr hg uX)
   |own b g =>
    simp only[rj,gm]at h;simp only[xb]at hg;split at hg
    case h_2=>cases hg
    rename_i q;have q:=Nat.eq_of_beq_eq_true q;subst q;split at h
    case h_2=>cases h
    rename_i g' ts m hb;obtain rfl:=hf b g' ts m hb;cases hr:rj c.heap l with
    |none=>rw[hr]at h;cases h
    |some r =>
     rw[hr]at h;cases h;refine fin ?_ (FM ho hf hr hg uX);obtain⟨q0,q1,q2⟩:=ho.box b _ hb;rcases nK hb iP with⟨blk,cap,r1,rfl⟩|⟨rfl,rfl,r1⟩
     ·rcases q2 with⟨q2,-⟩|⟨la,jN,cR,q2,q3,q4,q5,q6,q7⟩
      ·rw[r1]at q2;cases q2
      rw[r1]at q2;cases q2;refine .sl m blk 0 cap ts.2 (fun i j=>(cR[i*ts.2+j]?).getD undef) (fun _ ie=>ho.sep b blk cap r1 ie) q0 q5 (fun i e he=>q1 i e he) (fun i j e x he hx=>?_) (fun i j e x he hx=>?_) (fun i j e x he hx=>?_)
      ·obtain⟨v,p1,p2,p3⟩:=q7 i j e x he hx;rw[p1,Option.getD_some];exact mM q3 _ v (by simpa using p1)
      ·obtain⟨v,p1,p2,p3⟩:=q7 i j e x he hx;simp only[p1,Option.getD_some];exact less p3
      ·obtain⟨v,p1,p2,p3⟩:=q7 i j e x he hx;simp only[p1,Option.getD_some];exact p2
     ·exact .slnil
   |_=>cases h
theorem au.eY{E:Env}{f:FuncId}{ds:List DV}{h:List af}{args:List AV}{R:DV->Prop}(H:au E f ds R)(nF:rb h=true)(hd:rj h args=some ds)(hg:xb args=true)(hr:∀ r,R r->FL r=true):aB E f h args (fun a b=>∃ r,R r/\a=.d r/\b=h):=by
 unfold au at H;unfold aB;refine⟨H.1,oO nF,fun c vs h1 h2 h3=>?_⟩;subst h1;have iQ:uj E.G c.ak c.w:=fun g e aG=>by
  have hp:∀ p,VR c (.b9 e 0) p->VR ⟨fun _=>none,[],c.ak,c.w⟩ (.b9 e 0) p:=fun p hp=>by
   cases hp with
   |b9 _ _ blk o' fv k1 k2 k3 k4=>exact .b9 _ _ blk o' fv (fun hb=>k1 (.inl (wy.1 hb))) k2 k3 (fun j x hx=>wz ((k4 j x hx).mono fun b _ hn=>⟨fun hb=>hn (.inl hb),rfl⟩))
  exact hp _ (h2.fB g e aG)
 refine(H.2 c.ak c.w vs h2.bE iQ (FM h2 (oO nF) hd hg h3)).mono fun e w' ⟨v,r,k1,k2,k3,k4⟩=>?_;obtain⟨q1,q2⟩:=h2.grow k4;exact⟨c.dG w',.d r,v,k1,rfl,⟨r,k2,rfl,rfl⟩,.d _ _ (TR (hr r k2) k3),q1,(Rel.refl c (oO nF)).step q2⟩
theorem Lh{E:Env}{f:FuncId}{h0:List af}{args:List AV}{ds:List DV}{r:DV}{K:AV->List af->Prop}(H:au E f ds (· = r))(hd:rj h0 args=some ds)(hr:FL r=true)(hg:xb args=true)(nF:rb h0=true)(hk:K (.d r) h0):wT E f h0 args K :=
 sJ (H.eY nF hd hg (fun _ e=>e ▸ hr)) fun a b ⟨r',e1,e2,e3⟩=>by subst e1;subst e2;subst e3;exact hk
end Go.aA
end
section
section
namespace Go.aA
open Go Go.RowKit
inductive kH (ops:Array Oper):Nat->Nat->Prop
 |one {j:Nat} {o:Oper} {e:Edge} (hj:ops[j]?=some o) (he:e∈o.after) (hb:Region.binds .any e=true):kH ops e.on j
 |step {i j:Nat} {o:Oper} {e:Edge} (h:kH ops i e.on) (hj:ops[j]?=some o) (he:e∈o.after) (hb:Region.binds .any e=true):kH ops i j
def FN(acc:List Nat)(o:Oper):Nat:=o.after.toList.foldl (fun m e=>if Region.binds .any e then m ||| 2 ^ e.on ||| acc.getD e.on 0 else m) 0
def bits:List Oper->List Nat->List Nat
 |[],acc=>acc
 |o::l,acc=>bits l (acc++[FN acc o])
theorem TS{acc:List Nat}{o:Oper}{i:Nat}(h:(FN acc o).testBit i=true):∃ e∈o.after,Region.binds .any e=true/\(i=e.on\/(acc.getD e.on 0).testBit i=true):=by
 have gen:∀ (l:List Edge) (m:Nat),(l.foldl (fun m e=>if Region.binds .any e then m ||| 2 ^ e.on ||| acc.getD e.on 0 else m) m).testBit i=true->m.testBit i=true\/∃ e∈l,Region.binds .any e=true/\(i=e.on\/(acc.getD e.on 0).testBit i=true):=by
  intro l
  induction l with
  |nil=>intro m h;exact .inl h
  |cons e l ih =>
   intro m h;rw[List.foldl_cons]at h;rcases ih _ h with h|⟨e',wG,hb⟩
   ·split at h
    ·rename_i hb;simp only[Nat.testBit_or,Bool.or_eq_true,Nat.testBit_two_pow,decide_eq_true_eq]at h;rcases h with(h|h)|h
     ·exact .inl h
     ·exact .inr ⟨e,List.mem_cons_self ..,hb,.inl h.symm⟩
     ·exact .inr ⟨e,List.mem_cons_self ..,hb,.inr h⟩
    ·exact .inl h
   ·exact .inr ⟨e',List.mem_cons_of_mem _ wG,hb⟩
 rcases gen _ _ h with h|⟨e,he,hb⟩
 ·simp at h
 ·exact⟨e,by simpa using he,hb⟩
theorem zD(ops:Array Oper):∀ (l:List Oper) (acc:List Nat),ops.toList.drop acc.length=l->(∀ j i,(acc.getD j 0).testBit i=true->kH ops i j)->∀ j i,((bits l acc).getD j 0).testBit i=true->kH ops i j
 |[],acc,_,ha=>ha
 |o::l,acc,hl,ha=>by
  have ho:ops[acc.length]?=some o:=by
   have:=congrArg (·[0]?) hl
   simpa using this
  refine zD ops l (acc++[FN acc o]) (by rw[List.length_append,List.length_singleton,<- List.drop_drop,hl];rfl) (fun j i h=>?_);rcases Nat.lt_trichotomy j acc.length with hj|hj|hj
  ·rw[List.getD,List.getElem?_append_left hj]at h;exact ha j i h
  ·subst hj;rw[List.getD,List.getElem?_append_right (Nat.le_refl _),Nat.sub_self]at h;obtain⟨e,he,hb,h|h⟩:=TS (by simpa using h)
   ·subst h;exact .one ho he hb
   ·exact .step (ha _ _ h) ho he hb
  ·rw[List.getD,List.getElem?_eq_none (by simp;omega)]at h;simp at h
def tmpsOf(o:Op):List Nat:=o.operands.toList.filterMap fun | .tmp t=>some t|_=>none
def TT(ops:Array Oper):Option (Nat × Bool)->List Nat
 |none=>[]
 |some (j,_)=>match (ops[j]?).bind (·.dst)with
  |some d=>[d]
  |none=>[]
def ca(ops:Array Oper)(o:Oper):List Nat:=tmpsOf o.op++TT ops o.guard
def jv(ops:Array Oper)(a b:Oper):Bool:=(match a.dst with|some d=>bV d (b.dst.toList++ca ops b)|none=>false)||(match b.dst with|some d=>bV d (ca ops a)|none=>false)
def pO(ops:Array Oper)(m:Nat):Bool :=
 let bs:=bits ops.toList []
 (List.range ops.size).all fun j=>match ops[j]? with
  |none=>true
  |some oj=>(oj.after.toList.all fun e => !Region.binds .any e||decide (e.on<j))&&(List.range j).all fun i=>match ops[i]? with
   |none=>true
   |some oi=>(bs.getD j 0).testBit i||(decide (j<m) && !jv ops oi oj)
theorem Cg{d:Nat}:∀ {l:List Nat},bV d l=true↔d∈l
 |[]=>by simp[bV]
 |a::l=>by
  simp only[bV];split
  ·rename_i q;simp[Nat.eq_of_beq_eq_true q]
  ·rename_i q;have aH:d≠a:=fun e=>by rw[e,Nat.beq_refl]at q;cases q
   rw[Cg (l:=l)];simp[aH]
structure xc(ops:Array Oper)(m:Nat):Prop where
 low:∀ j o e,ops[j]?=some o->e∈o.after->Region.binds .any e=true->e.on<j
 pair:∀ i j oi oj,i<j->ops[i]?=some oi->ops[j]?=some oj->jv ops oi oj=true->kH ops i j
 ba:∀ i j oi oj,i<j->m<=j->ops[i]?=some oi->ops[j]?=some oj->kH ops i j
theorem TU{ops:Array Oper}{m:Nat}(h:pO ops m=true):xc ops m:=by
 have hb:=zD ops ops.toList [] rfl (fun j i h=>by simp at h);have aW:∀ j oj,ops[j]?=some oj->(oj.after.toList.all fun e => !Region.binds .any e||decide (e.on<j))=true/\∀ i oi,i<j->ops[i]?=some oi->((bits ops.toList []).getD j 0).testBit i=true\/(j<m/\jv ops oi oj=false):=fun j oj hj=>by
  have ai:j<ops.size:=(Array.getElem?_eq_some_iff.1 hj).1;have h1:=List.all_eq_true.1 h j (List.mem_range.2 ai);simp only[hj,Bool.and_eq_true]at h1;refine⟨h1.1,fun i oi hi dZ=>?_⟩;have h2:=List.all_eq_true.1 h1.2 i (List.mem_range.2 hi);simp only[dZ,Bool.or_eq_true,Bool.and_eq_true,decide_eq_true_eq,Bool.not_eq_true']at h2;exact h2
 refine⟨fun j o e hj he ie=>?_,fun i j oi oj dq hi hj hc=>?_,fun i j oi oj dq hm hi hj=>?_⟩
 ·have:=List.all_eq_true.1 (aW j o hj).1 e (by simpa using he)
  simpa [ie]using this
 ·rcases(aW j oj hj).2 i oi dq hi with h|⟨-,h⟩
  ·exact hb j i h
  ·rw[hc]at h;cases h
 ·rcases(aW j oj hj).2 i oi dq hi with h|⟨h,-⟩
  ·exact hb j i h
  ·omega
def cur:List (Oper × AV)->(Nat->Bool)->Nat->List AV->List AV
 |[],_,_,s=>s
 |(o,v)::l,L,i,s=>cur l L (i+1) (if L i then bL s o.dst v else s)
theorem mc:∀ (pl:List (Oper × AV)) (L:Nat->Bool) (i:Nat) (s:List AV),(cur pl L i s).length=s.length
 |[],_,_,_=>rfl
 |(o,v)::l,L,i,s=>by
  rw[cur,mc l];split
  ·cases o.dst<;>simp[bL]
  ·rfl
theorem FO{s:List AV}{d:Option Nat}{v:AV}{t:Nat}(h:d≠some t):(bL s d v)[t]?=s[t]? := by
 cases d with
 |none=>rfl
 |some d=>exact List.getElem?_set_ne (fun e=>h (by rw[e]))
theorem Li{s s':List AV}{d:Option Nat}{v:AV}{t:Nat}(hl:s.length=s'.length)(h:s[t]?=s'[t]?):(bL s d v)[t]?=(bL s' d v)[t]? := by
 cases d with
 |none=>exact h
 |some d =>
  by_cases hd:d=t
  ·subst hd;simp only[bL,List.getElem?_set,hl,if_true]
  ·simp only[bL,List.getElem?_set_ne hd,h]
theorem rk{t:Nat}:∀ (pl:List (Oper × AV)) (L L':Nat->Bool) (i:Nat) (s s':List AV),s.length=s'.length->s[t]?=s'[t]? -> (∀ k o v,pl[k]?=some (o,v)->o.dst=some t->L (i+k)=L' (i+k))->(cur pl L i s)[t]?=(cur pl L' i s')[t]?
 |[],_,_,_,_,_,_,hs,_=>hs
 |(o,v)::l,L,L',i,s,s',hl,hs,hw=>by
  rw[cur,cur];have hlen:∀ (b:Bool) (q:List AV),(if b then bL q o.dst v else q).length=q.length:=fun b q=>by cases b<;>cases o.dst<;>simp[bL]
  refine rk l L L' (i+1) _ _ (by rw[hlen,hlen,hl]) ?_ (fun k o' v' hk hd=>by have:=hw (k+1) o' v' (by simpa using hk) hd;rwa [show i+(k+1)=i+1+k by omega]at this);by_cases hd:o.dst=some t
  ·have:=hw 0 o v rfl hd;rw[Nat.add_zero]at this;rw[this];split
   ·exact Li hl hs
   ·exact hs
  ·split<;>split<;>simp only[FO hd,hs]
theorem jY:∀ (pl:List (Oper × AV)) (i:Nat) (s:List AV) (L:Nat->Bool),(∀ k,k<pl.length->L (i+k)=false)->cur pl L i s=s
 |[],_,_,_,_=>rfl
 |(o,v)::l,i,s,L,h=>by
  have h0:=h 0 (by simp);rw[Nat.add_zero]at h0;rw[cur,h0];exact jY l (i+1) s L (fun k hk=>by have:=h (k+1) (by simpa using hk);rwa [show i+(k+1)=i+1+k by omega]at this)
theorem Ch:∀ (pl:List (Oper × AV)) (i j:Nat) (s:List AV) (o:Oper) (v:AV),pl[j]?=some (o,v)->cur pl (fun k=>decide (k<i+j+1)) i s=bL (cur pl (fun k=>decide (k<i+j)) i s) o.dst v
 |[],_,_,_,_,_,h=>by simp at h
 |(o',v')::l,i,0,s,o,v,h=>by
  simp at h;obtain⟨rfl,rfl⟩:=h;rw[cur,cur];simp only[Nat.add_zero,Nat.lt_irrefl,decide_false,Bool.false_eq_true,if_false,Nat.lt_succ_self,decide_true,if_true];rw[jY l (i+1) _ _ (fun k _=>decide_eq_false (by omega)),jY l (i+1) s _ (fun k _=>decide_eq_false (by omega))]
 |(o',v')::l,i,j+1,s,o,v,h=>by
  rw[cur,cur];have e1:(decide (i<i+(j+1)+1))=true:=decide_eq_true (by omega);have e2:(decide (i<i+(j+1)))=true:=by simp
  simp only[e1,e2,if_true];have:=Ch l (i+1) j (bL s o'.dst v') o v (by simpa using h);rw[show i+(j+1)+1=i+1+j+1 by omega,show i+(j+1)=i+1+j by omega];exact this
def bY(keep:List Nat):Nat->List AV->List AV
 |_,[]=>[]
 |i,x::s=>(match bV i keep with|true=>x|false => .any)::bY keep (i+1) s
theorem Ci(keep:List Nat):∀ (i:Nat) (s:List AV),(bY keep i s).length=s.length
 |_,[]=>rfl
 |i,_::s=>by simp[bY,Ci keep (i+1) s]
theorem uY(keep:List Nat):∀ (i t:Nat) (s:List AV) (x:AV),(bY keep i s)[t]?=some x->x=.any\/(i+t∈keep/\s[t]?=some x)
 |_,_,[],_,h=>by simp[bY]at h
 |i,0,y::s,x,h=>by
  simp only[bY,List.getElem?_cons_zero,Option.some.injEq]at h;split at h
  ·rename_i q;subst h;exact .inr ⟨by simpa using Cg.1 q,rfl⟩
  ·exact .inl h.symm
 |i,t+1,y::s,x,h=>by
  simp only[bY,List.getElem?_cons_succ]at h;rcases uY keep (i+1) t s x h with h|⟨h1,h2⟩
  ·exact .inl h
  ·exact .inr ⟨by rwa [show i+(t+1)=i+1+t by omega],by simpa using h2⟩
theorem VS.mask{c:Cx}{s:List AV}{t:Array Value}(h:VS c s t){keep:List Nat}:VS c (bY keep 0 s) t:=by
 refine⟨by rw[Ci];exact h.1,fun i x v hx hv=>?_⟩;rcases uY _ 0 i _ x hx with rfl|⟨-,hx⟩
 ·exact .any v
 ·exact h.2 i x v hx hv
def jZ(o:Oper):Bool:=match o.op,o.guard with
 | .extract _ _,none=>true
 | .move _,none=>true
 | .assign _,none=>true
 |_,_=>false
def dz(E:Env)(ops:Array Oper)(o:Oper)(s:List AV)(h:List af)(v:AV):Prop :=
 ∀ (c:Cx) (a:Act),aD E.G c->c.heap=h->a.defers=[]->VS c (bY (ca ops o) 0 s) a.tmps->∀ (j:Nat),ops[j]?=some o->∀ (K:Act->World->Prop) (Q:Exit->Act->World->Prop),
  (∀ (c':Cx) (u:Value),aD E.G c'->c'.heap=h->Step c c'->VR c' v u->K (a.put o.dst u) c'.w)->wpOp E.P ops Q j K a c.w
def dm(E:Env)(ops:Array Oper)(o:Oper)(s:List AV)(h:List af)(v:AV)(h':List af):Prop :=
 ∀ (c:Cx) (a:Act),aD E.G c->c.heap=h->a.defers=[]->VS c (bY (ca ops o) 0 s) a.tmps->∀ (j:Nat),ops[j]?=some o->∀ (K:Act->World->Prop) (Q:Exit->Act->World->Prop),
  (∀ (c':Cx) (u:Value),aD E.G c'->c'.heap=h'->Step c c'->VR c' v u->K (a.put o.dst u) c'.w)->wpOp E.P ops Q j K a c.w
def pP(E:Env)(o:Oper)(h:List af)(v:AV)(h':List af):Prop :=
 ∀ t,o.op=.alloc t->o.guard=none->v=.ptr h.length 0/\∃ i:bD,E.T[t]?=some i/\i.zero.length=i.size/\0<i.size/\h'=h++[.cells (i.zero.map .d)]
def kI(E:Env)(ops:Array Oper)(h:List af)(K:List AV->Prop):List Oper->List AV->Prop
 |[],s=>K s
 |o::l,s=>∃ v,dz E ops o s h v/\(jZ o=true->∀ h',dz E ops o s h' v)/\kI E ops h K l (bL s o.dst v)
def gE(E:Env)(ops:Array Oper)(K:List AV->List af->Prop):List Oper->List AV->List af->Prop
 |[],s,h=>K s h
 |o::l,s,h=>∃ v h',dm E ops o s h v h'/\pP E o h v h'/\gE E ops K l (bL s o.dst v) h'
theorem kI.lay{E:Env}{ops:Array Oper}{h:List af}{K:List AV->Prop}:∀ {l:List Oper} {s:List AV},kI E ops h K l s->∃ pl:List (Oper × AV),pl.map (·.1)=l/\K (cur pl (fun k=>decide (k<pl.length)) 0 s)/\∀ j o v,pl[j]?=some (o,v)->dz E ops o (cur pl (fun k=>decide (k<j)) 0 s) h v/\(jZ o=true->∀ h',dz E ops o (cur pl (fun k=>decide (k<j)) 0 s) h' v)
 |[],s,H=>⟨[],rfl,H,fun j o v hj=>by simp at hj⟩
 |o::l,s,H=>by
  obtain⟨v,h1,gw,H⟩:=H;obtain⟨pl,k1,k2,k3⟩:=kI.lay H;have shift:∀ (pl:List (Oper × AV)) (n i:Nat) (s:List AV),cur pl (fun k=>decide (k<n+1)) (i+1) s=cur pl (fun k=>decide (k<n)) i s:=by
   intro pl
   induction pl with
   |nil=>intro n i s;rfl
   |cons p pl ih =>
    intro n i s;obtain⟨o',v'⟩:=p;rw[cur,cur,ih]
    congr 1
    simp
  refine⟨(o,v)::pl,by simp[k1],?_,fun j o' v' hj=>?_⟩
  ·rw[cur];simp only[List.length_cons,Nat.zero_lt_succ,decide_true,if_true];rw[shift];exact k2
  ·cases j with
   |zero =>
    simp at hj;obtain⟨rfl,rfl⟩:=hj;rw[jY _ _ _ _ (fun k _=>decide_eq_false (by omega))];exact⟨h1,gw⟩
   |succ j =>
    have:=k3 j o' v' (by simpa using hj);rw[cur];simp only[Nat.zero_lt_succ,decide_true,if_true];rw[shift];exact this
section
variable {E:Env} {ops:Array Oper} {m:Nat}
def aT(listed:Array Bool)(i:Nat):Bool:=listed.getD i false
def DC(ops:Array Oper)(listed:Array Bool):Prop:=listed.size=ops.size/\∀ j o e,ops[j]?=some o->aT listed j=true->e∈o.after->Region.binds .any e=true->aT listed e.on=true
theorem DC.dep{listed:Array Bool}(hd:DC ops listed){i j:Nat}(h:kH ops i j)(hj:aT listed j=true):aT listed i=true:=by
 induction h with
 |one ho he hb=>exact hd.2 _ _ _ ho hj he hb
 |step h ho he hb ih=>exact ih (hd.2 _ _ _ ho hj he hb)
theorem DC.ready{listed:Array Bool}(hd:DC ops listed){i j:Nat}(hj:j∈Region.ready .any ops listed)(h:kH ops i j):aT listed i=true:=by
 obtain⟨-,o,ho,aW⟩:=mem_ready.1 hj;cases h with
 |one cU he hb=>rw[ho]at cU;cases cU;exact aW _ he hb
 |step h cU he hb=>rw[ho]at cU;cases cU;exact hd.dep h (aW _ he hb)
theorem DC.set{listed:Array Bool}(hd:DC ops listed){j:Nat}(hj:j∈Region.ready .any ops listed):DC ops (listed.setIfInBounds j true):=by
 refine⟨by simpa using hd.1,fun i o e hi hl he hb=>?_⟩;by_cases dq:j=i
 ·subst dq;obtain⟨-,o',cU,aW⟩:=mem_ready.1 hj;rw[hi]at cU;cases cU;exact getD_set_true (aW e he hb)
 ·have:aT listed i=true:=by unfold aT at hl ⊢;rwa [getD_set_ne false dq]at hl
  exact getD_set_true (hd.2 i o e hi this he hb)
theorem sO{listed:Array Bool}{j i:Nat}(hj:j<listed.size):aT (listed.setIfInBounds j true) i=(aT listed i||decide (i=j)):=by
 unfold aT;by_cases h:j=i
 ·subst h;simp[hj]
 ·rw[getD_set_ne false h];simp[Ne.symm h]
theorem mX{listed:Array Bool}(hd:DC ops listed){j:Nat}(hj:j∈Region.ready .any ops listed):aT listed j=false/\j<ops.size:=by
 obtain⟨h1,o,ho,-⟩:=mem_ready.1 hj;have ai:j<ops.size:=(Array.getElem?_eq_some_iff.1 ho).1;refine⟨?_,ai⟩;have:j<listed.size:=by rw[hd.1];exact ai
 unfold aT;simp[this]at h1 ⊢;exact h1
theorem uZ(hc:xc ops m){listed:Array Bool}(hd:DC ops listed){j:Nat}(hj:j<ops.size)(hn:aT listed j=false):∃ i,i<=j/\i∈Region.ready .any ops listed:=by
 induction j using Nat.strongRecOn with
 |ind j ih =>
  by_cases aW:∀ i,i<j->aT listed i=true
  ·refine⟨j,Nat.le_refl _,mem_ready.2 ⟨?_,ops[j],by simp[hj],fun e he hb=>aW _ (hc.low j _ e (by simp[hj]) he hb)⟩⟩;have:j<listed.size:=by rw[hd.1];exact hj
   unfold aT at hn;simp[this]at hn ⊢;exact hn
  ·have:∃ i,i<j/\aT listed i=false:=by
    apply Classical.byContradiction;intro aH;exact aW fun i hi=>by
     cases hl:aT listed i with
     |true=>rfl
     |false=>exact absurd ⟨i,hi,hl⟩ aH
   obtain⟨i,hi,hl⟩:=this;obtain⟨k,hk,hr⟩:=ih i hi (by omega) hl;exact⟨k,by omega,hr⟩
theorem FP(hc:xc ops m){Q:Exit->Act->World->Prop}{Kf:List AV->List af->Prop}{c0:Cx}
  (hQ:∀ (a:Act) (c:Cx) (s:List AV) (h:List af),Kf s h->aD E.G c->c.heap=h->a.defers=[]->VS c s a.tmps->Step c0 c->Q .normal a c.w) :
  ∀ (l:List Oper) (j:Nat) (s:List AV) (h:List af),m<=j->ops.toList.drop j=l->j<=ops.size->gE E ops Kf l s h->∀ (listed:Array Bool) (a:Act) (c:Cx),aD E.G c->c.heap=h->a.defers=[]->VS c s a.tmps->Step c0 c ->
   DC ops listed->(∀ i,aT listed i=decide (i<j))->∀ f,ops.size-j<=f->wpAny E.P .any ops Q f listed a c.w
 |[],j,s,h,hm,hl,hj,H,listed,a,c,h1,h2,h3,h4,h5,hd,dC,f,hf=>by
  have Cj:j=ops.size:=by
   have:=congrArg List.length hl;simp at this;omega
  subst Cj;have sP:Region.ready .any ops listed=[]:=by
   apply List.eq_nil_iff_forall_not_mem.2;intro i hi;obtain⟨k1,k2⟩:=mX hd hi;rw[dC]at k1;simp at k1;omega
  cases f with
  |zero=>exact⟨sP,hQ a c s h H h1 h2 h3 h4 h5⟩
  |succ f=>exact⟨fun _=>hQ a c s h H h1 h2 h3 h4 h5,fun i hi=>by rw[sP]at hi;cases hi⟩
 |o::l,j,s,h,hm,hl,hj,H,listed,a,c,h1,h2,h3,h4,h5,hd,dC,f,sB=>by
  have Cj:j<ops.size:=by
   have:=congrArg List.length hl;simp at this;omega
  have ho:ops[j]?=some o:=by
   have:=congrArg (·[0]?) hl
   simpa using this
  have TV:∀ i,i∈Region.ready .any ops listed->i=j:=fun i hi=>by
   obtain⟨k1,k2⟩:=mX hd hi;rw[dC]at k1;simp at k1;rcases Nat.lt_or_ge j i with ai|aG
   ·have:=hd.ready hi (hc.ba j i o ops[i] ai (by omega) ho (by simp[k2]));rw[dC]at this;simp at this
   ·omega
  obtain⟨v,h',hf,-,H⟩:=H;obtain⟨f,rfl⟩:∃ g,f=g+1:=⟨f-1,by omega⟩;refine⟨fun hr=>?_,fun i hi=>?_⟩
  ·obtain⟨i,-,hi⟩:=uZ hc hd Cj (by rw[dC];simp);rw[hr]at hi;cases hi
  ·obtain rfl:=TV i hi;refine hf c a h1 h2 h3 h4.mask i ho _ _ (fun c' u k1 k2 k3 k4=>?_);refine FP hc hQ l (i+1) (bL s o.dst v) h' (by omega) (by rw[<- List.drop_drop,hl];rfl) (by omega) H _ _ c' k1 k2 ?_ (VS.bL (k3.vs h4) o.dst k4) (h5.trans k3) (hd.set hi) (fun k=>?_) f (by omega)
   ·cases iB:o.dst<;>simp[Act.put,h3]
   ·rw[sO (by rw[hd.1];exact Cj),dC];by_cases hk:k=i
    ·subst hk;simp
    ·simp[hk];omega
def eh(L:Nat->Bool):Nat->Nat
 |0=>0
 |n+1=>eh L n+if L n then 0 else 1
theorem va{L L':Nat->Bool}{j:Nat}(h:∀ i,i≠j->L' i=L i)(hj:L j=false)(dI:L' j=true):∀ n,(j<n->eh L' n+1=eh L n)/\(n<=j->eh L' n=eh L n)
 |0=>⟨fun h=>by omega,fun _=>rfl⟩
 |n+1=>by
  obtain⟨h1,h2⟩:=va h hj dI n;simp only[eh];by_cases hn:n=j
  ·subst hn;refine⟨fun _=>?_,fun h=>by omega⟩;rw[h2 (Nat.le_refl _),hj,dI];simp
  ·rw[h n hn];exact⟨fun hl=>by have:=h1 (by omega);omega,fun hl=>by rw[h2 (by omega)]⟩
theorem FQ{L:Nat->Bool}{j:Nat}(hj:L j=false):∀ n,j<n->0<eh L n
 |0,h=>by omega
 |n+1,h=>by
  simp only[eh];by_cases hn:n=j
  ·subst hn;rw[hj];simp
  ·have:=FQ hj n (by omega);omega
theorem Lj(m:Nat):∀ n,m<=n->eh (fun i=>decide (i<m)) n=n-m
 |0,h=>by simp[eh]
 |n+1,h=>by
  simp only[eh];by_cases hm:m<=n
  ·rw[Lj m n hm];simp[show ¬ n<m by omega];omega
  ·obtain rfl:m=n+1:=by omega
   have:∀ k,k<=n->eh (fun i=>decide (i<n+1)) k=0:=by
    intro k
    induction k with
    |zero=>intro _;rfl
    |succ k ih=>intro hk;simp only[eh,ih (by omega)];simp;omega
   rw[this n (Nat.le_refl _)];simp
theorem Lk{L L':Nat->Bool}(h:∀ i,L i=L' i):∀ n,eh L n=eh L' n
 |0=>rfl
 |n+1=>by simp only[eh,Lk h n,h n]
theorem sQ{a b:Oper}{d:Nat}(ha:a.dst=some d)(hb:d∈b.dst.toList++ca ops b):jv ops a b=true:=by
 simp only[jv,ha,Cg.2 hb,Bool.true_or]
theorem Ll{a b:Oper}{d:Nat}(hb:b.dst=some d)(ha:d∈ca ops a):jv ops a b=true:=by
 simp only[jv,hb,Cg.2 ha,Bool.or_true]
theorem TW(hc:xc ops m)(oP:m<=ops.size){Q:Exit->Act->World->Prop}{Kf:List AV->List af->Prop}{c0:Cx}{s0:List AV}{h:List af}
  (hQ:∀ (a:Act) (c:Cx) (s:List AV) (h:List af),Kf s h->aD E.G c->c.heap=h->a.defers=[]->VS c s a.tmps->Step c0 c->Q .normal a c.w)
  (pl:List (Oper × AV)) (jq:pl.map (·.1)=ops.toList.take m) (fM:gE E ops Kf (ops.toList.drop m) (cur pl (fun k=>decide (k<pl.length)) 0 s0) h) (rl:∀ j o v,pl[j]?=some (o,v)->dz E ops o (cur pl (fun k=>decide (k<j)) 0 s0) h v) :
  ∀ (f:Nat) (listed:Array Bool) (a:Act) (c:Cx),aD E.G c->c.heap=h->a.defers=[]->VS c (cur pl (aT listed) 0 s0) a.tmps->Step c0 c->DC ops listed->(∀ i,m<=i->aT listed i=false)->eh (aT listed) ops.size<=f->wpAny E.P .any ops Q f listed a c.w:=by
 have hlen:pl.length=m:=by
  have:=congrArg List.length jq;simp at this;omega
 have dF:∀ j o v,pl[j]?=some (o,v)->ops[j]?=some o/\j<m:=fun j o v hj=>by
  have Lm:j<m:=by rw[<- hlen];exact aX hj
  have:=congrArg (·[j]?) jq;simp only[List.getElem?_map,hj,Option.map_some,List.getElem?_take,Lm,if_true]at this;exact⟨by simpa using this.symm,Lm⟩
 intro f
 induction f with
 |zero =>
  intro listed a c h1 h2 h3 h4 h5 hd hs iR;by_cases aW:∀ i,i<ops.size->aT listed i=true
  ·have hm:m=ops.size:=by
    rcases Nat.lt_or_ge m ops.size with ai|aG
    ·have:=hs m (Nat.le_refl _);rw[aW m ai]at this;cases this
    ·omega
   have dC:∀ i,aT listed i=decide (i<m):=fun i=>by
    rcases Nat.lt_or_ge i m with hi|hi
    ·rw[aW i (by omega)];simp[hi]
    ·rw[hs i hi];simp;omega
   refine FP hc hQ _ m _ h (Nat.le_refl _) rfl oP fM listed a c h1 h2 h3 ?_ h5 hd dC 0 (by omega);have:cur pl (aT listed) 0 s0=cur pl (fun k=>decide (k<pl.length)) 0 s0:=by
    congr 1
    funext i;rw[dC,hlen]
   rw[<- this];exact h4
  ·exfalso;apply aW;intro i hi;cases hl:aT listed i with
   |true=>rfl
   |false=>have:=FQ hl ops.size hi;omega
 |succ f ih =>
  intro listed a c h1 h2 h3 h4 h5 hd hs iR;by_cases aW:∀ i,i<m->aT listed i=true
  ·have dC:∀ i,aT listed i=decide (i<m):=fun i=>by
    rcases Nat.lt_or_ge i m with hi|hi
    ·rw[aW i hi];simp[hi]
    ·rw[hs i hi];simp;omega
   have dS:eh (aT listed) ops.size=ops.size-m:=by rw[Lk dC,Lj m _ oP]
   refine FP hc hQ _ m _ h (Nat.le_refl _) rfl oP fM listed a c h1 h2 h3 ?_ h5 hd dC (f+1) (by omega);have:cur pl (aT listed) 0 s0=cur pl (fun k=>decide (k<pl.length)) 0 s0:=by
    congr 1
    funext i;rw[dC,hlen]
   rw[<- this];exact h4
  ·have:∃ i,i<m/\aT listed i=false:=by
    apply Classical.byContradiction;intro aH;exact aW fun i hi=>by
     cases hl:aT listed i with
     |true=>rfl
     |false=>exact absurd ⟨i,hi,hl⟩ aH
   obtain⟨i0,fU,gX⟩:=this;refine⟨fun hr=>?_,fun i hi=>?_⟩
   ·obtain⟨i,-,hi⟩:=uZ hc hd (by omega) gX;rw[hr]at hi;cases hi
   obtain⟨dC,dN⟩:=mX hd hi;have FR:i<m:=by
    rcases Nat.lt_or_ge i m with h|h
    ·exact h
    ·have:=hd.ready hi (hc.ba i0 i ops[i0] ops[i] (by omega) h (by simp) (by simp[dN]));rw[gX]at this;cases this
   obtain⟨⟨o,v⟩,dj⟩:∃ p,pl[i]?=some p:=⟨pl[i]'(by omega),by simp⟩;obtain⟨dZ,-⟩:=dF i o v dj;have wr:∀ k o' v',pl[k]?=some (o',v')->(k<i->jv ops o' o=true->aT listed k=true)/\(i<k->jv ops o o'=true->aT listed k=false):=fun k o' v' hk=>by
    obtain⟨aN,-⟩:=dF k o' v' hk;refine⟨fun ai vb=>hd.ready hi (hc.pair k i o' o ai aN dZ vb),fun ai vb=>?_⟩;cases hl:aT listed k with
    |false=>rfl
    |true=>have:=hd.dep (hc.pair i k o o' ai dZ aN vb) hl;rw[dC]at this;cases this
   have kJ:VS c (bY (ca ops o) 0 (cur pl (fun k=>decide (k<i)) 0 s0)) a.tmps:=by
    refine⟨by rw[Ci,mc];have:=h4.1;rwa [mc]at this,fun t x u hx hu=>?_⟩;rcases uY _ 0 t _ x hx with rfl|⟨hk,hx⟩
    ·exact .any u
    ·rw[Nat.zero_add]at hk;refine h4.2 t x u ?_ hu;rw[<- hx];refine rk pl _ _ 0 s0 s0 rfl rfl (fun k o' v' gu fX=>?_);rw[Nat.zero_add];rcases Nat.lt_trichotomy k i with ai|rfl|qR
     ·rw[(wr k o' v' gu).1 ai (sQ fX (List.mem_append_right _ hk))];simp[ai]
     ·rw[dC];simp
     ·rw[(wr k o' v' gu).2 qR (Ll fX hk)];simp;omega
   refine rl i o v dj c a h1 h2 h3 kJ i dZ _ _ (fun c' u k1 k2 k3 k4=>?_);have bS:i<listed.size:=by rw[hd.1];exact dN
   have cQ:=fun q=>sO (i:=q) bS;refine ih _ _ c' k1 k2 ?_ ?_ (h5.trans k3) (hd.set hi) (fun q hq=>by rw[cQ,hs q hq];simp;omega) ?_
   ·cases iB:o.dst<;>simp[Act.put,h3]
   ·refine⟨by rw[mc];have:=h4.1;rw[mc]at this;cases iB:o.dst<;>simp[Act.put,this],fun t x u' hx qN=>?_⟩;by_cases ev:o.dst=some t
    ·have e1:(cur pl (aT (listed.setIfInBounds i true)) 0 s0)[t]?=(cur pl (fun k=>decide (k<0+i+1)) 0 s0)[t]? := by
      refine rk pl _ _ 0 s0 s0 rfl rfl (fun k o' v' gu fX=>?_);rw[Nat.zero_add,Nat.zero_add,cQ];rcases Nat.lt_trichotomy k i with ai|rfl|qR
      ·rw[(wr k o' v' gu).1 ai (sQ fX (List.mem_append_left _ (by simp[ev])))];simp;omega
      ·simp
      ·rw[(wr k o' v' gu).2 qR (sQ ev (List.mem_append_left _ (by simp[fX])))];simp;omega
     rw[e1,Ch pl 0 i s0 o v dj,ev]at hx;have jw:t<(cur pl (fun k=>decide (k<0+i)) 0 s0).length:=by
      have:=aX hx
      simpa [bL]using this
     rw[bL,List.getElem?_set_self jw]at hx;cases hx;have FT:t<a.tmps.size:=by rw[<- h4.1,mc];rwa [mc]at jw
     have vc:(a.tmps.setIfInBounds t u)[t]?=some u':=by simpa [Act.put,ev]using qN
     rw[Array.getElem?_setIfInBounds_self_of_lt FT]at vc;cases vc;exact k4
    ·have e1:(cur pl (aT (listed.setIfInBounds i true)) 0 s0)[t]?=(cur pl (aT listed) 0 s0)[t]? := by
      refine rk pl _ _ 0 s0 s0 rfl rfl (fun k o' v' gu fX=>?_);rw[Nat.zero_add,cQ];have:k≠i:=fun e=>by
       subst e;rw[dj]at gu;cases gu;exact ev fX
      simp[this]
     rw[e1]at hx;refine k3.vr (h4.2 t x u' hx ?_);cases iB:o.dst with
     |none=>simpa [Act.put,iB]using qN
     |some d =>
      rw[iB]at ev;have aH:d≠t:=fun e=>ev (by rw[e])
      simpa [Act.put,iB,Array.getElem?_setIfInBounds_ne aH]using qN
   ·have:=(va (L:=aT listed) (L':=aT (listed.setIfInBounds i true)) (j:=i) (fun q hq=>by rw[cQ];simp[hq]) dC (by rw[cQ];simp) ops.size).1 dN;omega
end
end Go.aA
end
section
namespace Go.aA
open Go Go.RowKit
section
variable {E:Env} {ae:FuncId} {R:bZ} {ops:Array Oper} {s:List AV} {h:List af}
theorem AW.draw{f0:FuncId}{cls:List cu}{id m:Nat}{k:List aK}(hm:E.P.follows .mixedOrders=true)(ka:pO ops m=true)(oP:m<=ops.size)
  (H:kI E ops h (fun s'=>gE E ops (fun s2 h2=>AW E f0 ⟨⟨ae,none,[]⟩,k,s2⟩ cls h2 R) (ops.toList.drop m) s' h) (ops.toList.take m) s):AW E f0 ⟨⟨ae,none,[]⟩,.code (.region id ops true)::k,s⟩ cls h R:=by
 unfold AW;intro c0 c t ts h0 h1 h2 h3 hr cb h4 h5 cs;obtain⟨pl,p1,p2,p3⟩:=kI.lay H
 let Q:Exit->Act->World->Prop:=fun e a w=>e=.normal/\∃ (c':Cx) (s':List AV) (h':List af),AW E f0 ⟨⟨ae,none,[]⟩,k,s'⟩ cls h' R/\aD E.G c'/\c'.heap=h'/\a.defers=[]/\VS c' s' a.tmps/\Step c c'/\w=c'.w
 have hx:Proofs.YtcmnpelmmekdkaaGreatDoor.Ext c.w { c.w with drawn:=c.w.drawn+1 }:=⟨rfl,rfl,rfl,Nat.le_refl _,fun _ _=>rfl⟩;obtain⟨g1,g2⟩:=h3.grow hx;have FU:(Code.region id ops true).wp E.P Q ⟨t,[]⟩ c.w:=by
  refine wp_region_any hm ?_;refine TW (E:=E) (TU ka) oP (c0:=c) (s0:=s) (h:=h) (Kf:=fun s2 h2=>AW E f0 ⟨⟨ae,none,[]⟩,k,s2⟩ cls h2 R) (fun a c' s' h' hK r1 r2 r3 r4 r5=>⟨rfl,c',s',h',hK,r1,r2,r3,r4,r5,rfl⟩) pl p1 p2 (fun j o v hj=>(p3 j o v hj).1) ops.size (Array.replicate ops.size false) ⟨t,[]⟩ (c.dG { c.w with drawn:=c.w.drawn+1 }) g1 h2 rfl ?_ g2 ?_ ?_ ?_
  ·have:cur pl (aT (Array.replicate ops.size false)) 0 s=s:=jY pl 0 s _ (fun i _=>by unfold aT;simp[Array.getElem?_replicate];split<;>rfl);rw[this];exact g2.vs h4
  ·exact⟨by simp,fun j o e _ hl=>by unfold aT at hl;simp[Array.getElem?_replicate]at hl;split at hl<;>cases hl⟩
  ·intro i _;unfold aT;simp[Array.getElem?_replicate];split<;>rfl
  ·have:∀ n,eh (aT (Array.replicate ops.size false)) n<=n:=by
    intro n
    induction n with
    |zero=>exact Nat.le_refl _
    |succ n ih=>simp only[eh];split<;>omega
   exact this _
 obtain⟨e,a',w',⟨rfl,c',s',h',hA,r1,r2,r3,r4,r5,rfl⟩,FV⟩:=FU (bf ⟨ae,none,[]⟩) (k.map aK.bQ) (fq cls ts++cs);unfold AW at hA;obtain⟨c2,fr,r,v,q1,q2,q3,uq,q4,q5,q6⟩:=hA c0 c' a'.tmps ts h0 (dY h1) r2 r1 (hr.step r5) (cb.step h3 r5) r4 (r5.cr h5) cs;refine⟨c2,fr,r,v,q1,q2,q3,uq,?_,q5,q6⟩;have zg:a'=⟨a'.tmps,[]⟩:=by cases a';simp only at r3;subst r3;rfl
 have:Steps E.P (lone ((bf ⟨ae,none,[]⟩).at ⟨t,[]⟩ (.code (.region id ops true)::k.map aK.bQ)) (fq cls ts++cs) c.w) (lone ((bf ⟨ae,none,[]⟩).at a' (k.map aK.bQ)) (fq cls ts++cs) c'.w):=FV;rw[zg]at this;exact this.trans q4
theorem dz.of{o:Oper}{v:AV}(hw:iH ops o (bY (ca ops o) 0 s) true)(ho:aQ E o.op (bY (ca ops o) 0 s) h v h):dz E ops o s h v:=fun c a h1 h2 _ h4 j hj K Q hK=>by
 obtain⟨c',u,k1,k2,k3,k4,k5⟩:=ho o c a rfl h2 h1 h4;unfold wpOp;simp only[hj,hw c a.tmps h4,if_true];left;have:=hK c' u k3 k2 k5 k4;unfold Oper.wp;rcases k1 with k1|⟨k1,rfl⟩
 ·rw[k1];exact this
 ·rw[k1];exact this
theorem dz.skip{o:Oper}(hw:iH ops o (bY (ca ops o) 0 s) false):dz E ops o s h (.d .undef):=fun c a h1 h2 _ h4 j hj K Q hK=>by
 unfold wpOp;simp only[hj,hw c a.tmps h4,Bool.false_eq_true,if_false];exact hK c Go.undef h1 h2 (Step.refl c h1.bE) (.d _ _ .undef)
theorem dm.of{o:Oper}{v:AV}{h':List af}(hw:iH ops o (bY (ca ops o) 0 s) true)(ho:aQ E o.op (bY (ca ops o) 0 s) h v h'):dm E ops o s h v h':=fun c a h1 h2 _ h4 j hj K Q hK=>by
 obtain⟨c',u,k1,k2,k3,k4,k5⟩:=ho o c a rfl h2 h1 h4;unfold wpOp;simp only[hj,hw c a.tmps h4,if_true];left;have:=hK c' u k3 k2 k5 k4;unfold Oper.wp;rcases k1 with k1|⟨k1,rfl⟩
 ·rw[k1];exact this
 ·rw[k1];exact this
theorem dm.skip{o:Oper}(hw:iH ops o (bY (ca ops o) 0 s) false):dm E ops o s h (.d .undef) h:=fun c a h1 h2 _ h4 j hj K Q hK=>by
 unfold wpOp;simp only[hj,hw c a.tmps h4,Bool.false_eq_true,if_false];exact hK c Go.undef h1 h2 (Step.refl c h1.bE) (.d _ _ .undef)
theorem Ln{s:List AV}{o:Oper}{fx:Operand}{args:Array Operand}{ts:Array TypeId}{f:FuncId}{a1 a2 av:List AV}{ds:List DV}{r:DV}(ho:o.op=.call { callee := .value fx,args:=args,argTypes:=ts })
  (hf:bh E.G s fx (.fn (.func f) a1 a2)) (ha:iy E.G s args.toList av) (hd:a1++av++a2=ds.map .d) (hc:au E f ds (· = r)) {c:Cx} {a:Act} (h1:aD E.G c) (h4:VS c s a.tmps) {K:Act->World->Prop} {Q:Exit->Act->World->Prop}
  (hK:∀ (c':Cx) (u:Value),aD E.G c'->c'.heap=c.heap->Step c c'->VR c' (.d r) u->K (a.put o.dst u) c'.w):o.wp E.P a c.w K Q:=by
 unfold au at hc;obtain⟨v1,v2,e1,e2,e3⟩:=l8 (hf c a h1 h4);have e4:=ha c a h1 h4;have e5:=(e2.append e4).append e3;rw[hd]at e5;have eN:∀ b,c.bad b->b<c.w.heap.size:=fun b hb=>hb.elim (h1.bE b) fun⟨j,n,hj⟩=>(h1.bH j b n hj).1;have yO:uj E.G c.bad c.w:=fun g e hg=>by
  have hp:∀ p,VR c (.b9 e 0) p->VR ⟨fun _=>none,[],c.bad,c.w⟩ (.b9 e 0) p:=fun p hp=>by
   cases hp with
   |b9 _ _ blk o' fv k1 k2 k3 k4=>exact .b9 _ _ blk o' fv (fun hb=>k1 (wy.1 hb)) k2 k3 (fun j x hx=>wz (k4 j x hx))
  exact hp _ (h1.fB g e hg)
 have jd:=hc.2 c.bad c.w _ eN yO ⟨by simpa using e5.1,e5.pA⟩;have cV:=yN (P:=E.P) (w:=c.w) (a:=a) ho e1 hc.1;have jU:(v1.toArray++args.map a.eval++v2.toArray)=(v1++args.toList.map a.eval++v2).toArray:=by
  apply Array.ext';simp
 rw[jU]at cV;unfold Oper.wp;rw[cV,Oper.upon_enter];refine jd.mono fun e w' he=>?_;obtain⟨v,r',rfl,rfl,hv,hx⟩:=he;obtain⟨k1,k2⟩:=h1.grow hx;exact hK (c.dG w') v k1 rfl k2 (.d _ _ hv)
theorem dz.call{o:Oper}{fx:Operand}{args:Array Operand}{ts:Array TypeId}{f:FuncId}{a1 a2 av:List AV}{ds:List DV}{r:DV}(hw:iH ops o (bY (ca ops o) 0 s) true)(ho:o.op=.call { callee := .value fx,args:=args,argTypes:=ts })
  (hf:bh E.G (bY (ca ops o) 0 s) fx (.fn (.func f) a1 a2)) (ha:iy E.G (bY (ca ops o) 0 s) args.toList av) (hd:a1++av++a2=ds.map .d) (hc:au E f ds (· = r)):dz E ops o s h (.d r):=fun c a h1 h2 _ h4 j hj K Q hK=>by
 unfold wpOp;simp only[hj,hw c a.tmps h4,if_true];left;exact Ln ho hf ha hd hc h1 h4 fun c' u k1 k2 k3 k4=>hK c' u k1 (k2.trans h2) k3 k4
theorem dm.call{o:Oper}{fx:Operand}{args:Array Operand}{ts:Array TypeId}{f:FuncId}{a1 a2 av:List AV}{ds:List DV}{r:DV}(hw:iH ops o (bY (ca ops o) 0 s) true)(ho:o.op=.call { callee := .value fx,args:=args,argTypes:=ts })
  (hf:bh E.G (bY (ca ops o) 0 s) fx (.fn (.func f) a1 a2)) (ha:iy E.G (bY (ca ops o) 0 s) args.toList av) (hd:a1++av++a2=ds.map .d) (hc:au E f ds (· = r)):dm E ops o s h (.d r) h:=fun c a h1 h2 _ h4 j hj K Q hK=>by
 unfold wpOp;simp only[hj,hw c a.tmps h4,if_true];left;exact Ln ho hf ha hd hc h1 h4 fun c' u k1 k2 k3 k4=>hK c' u k1 (k2.trans h2) k3 k4
theorem dm.oN{o:Oper}{fx:Operand}{args:Array Operand}{ts:Array TypeId}{f:FuncId}{a1 a2 av:List AV}{ah:List Nat}{r:AV}{h1:List af}(hw:iH ops o (bY (ca ops o) 0 s) true)(ho:o.op=.call { callee := .value fx,args:=args,argTypes:=ts })
  (hf:bh E.G (bY (ca ops o) 0 s) fx (.fn (.func f) a1 a2)) (ha:iy E.G (bY (ca ops o) 0 s) args.toList av) (hc:aB E f (jW ah h) ((a1++av++a2).map (lu ah h)) (fun a b=>a=r/\b=h1)) (hn:ah.Nodup) (ai:∀ j∈ah,j<h.length):dm E ops o s h (jX ah h r) (fW ah h h1):=fun c a k1 h2 _ h4 j hj K Q hK=>by
 unfold wpOp;simp only[hj,hw c a.tmps h4,if_true];left;obtain⟨v1,v2,e1,e2,e3⟩:=l8 (hf c a k1 h4);have e4:=ha c a k1 h4;have e5:=(e2.append e4).append e3;have hb:qM E.P f:=by unfold aB at hc;exact hc.1
 have jd:=hc.at (c:=c) hn ai h2 k1 e5;have cV:=yN (P:=E.P) (w:=c.w) (a:=a) ho e1 hb;have jU:(v1.toArray++args.map a.eval++v2.toArray)=(v1++args.toList.map a.eval++v2).toArray:=by
  apply Array.ext';simp
 rw[jU]at cV;unfold Oper.wp;rw[cV,Oper.upon_enter];refine jd.mono fun e w' he=>?_;obtain⟨c',r',gw,v,rfl,rfl,⟨rfl,rfl⟩,q1,q2,q3,q4⟩:=he;exact hK c' v q3 q1 q4 q2
end
@[irreducible] def pQ (E : Env) (f : FuncId) (ds : List DV) (K : DV -> Prop) : Prop := ∃ r, au E f ds (· = r) /\ K r
theorem bj{E:Env}{f:FuncId}{ds:List DV}{K:DV->Prop}{r:DV}(h:au E f ds (· = r))(hk:K r):pQ E f ds K:=by unfold pQ;exact⟨r,h,hk⟩
@[irreducible] def Ck (E : Env) (f : FuncId) (h0 : List af) (args : List AV) (K : AV -> List af -> Prop) : Prop := ∃ r h1, aB E f h0 args (fun a b => a = r /\ b = h1) /\ K r h1
theorem oQ{E:Env}{f:FuncId}{h0:List af}{args:List AV}{K:AV->List af->Prop}{r:AV}{h1:List af}(H:aB E f h0 args (fun a b=>a=r/\b=h1))(hk:K r h1):Ck E f h0 args K:=by unfold Ck;exact⟨r,h1,H,hk⟩
def sR(E:Env)(f:FuncId)(eX:List AV)(h:List af)(stop:Prop)(k:AV->List af->Prop):Prop :=
 sH h eX [] fun Fv=>uO h 20 0 Fv fun ah=>qY h 0 fun n=>match zm n ah with
  |true=>BS ah h fun h0=>jt (BR ah h) eX fun Fw=>Ck E f h0 Fw fun r h1=>uL ah h r fun v=>uM ah h h1 fun h'=>k v h'
  |false=>stop
theorem Lo{E:Env}{f:FuncId}{eX:List AV}{h:List af}{stop:Prop}{k:AV->List af->Prop}(H:sR E f eX h stop k):stop\/∃ (ah:List Nat) (r:AV) (h1:List af),
  aB E f (jW ah h) (eX.map (lu ah h)) (fun a b=>a=r/\b=h1)/\ah.Nodup/\(∀ j∈ah,j<h.length)/\k (jX ah h r) (fW ah h h1):=by
 unfold sR at H;obtain⟨s0,H⟩:=wV H;obtain⟨ah,H⟩:=zn H;rw[wP,Nat.zero_add]at H;split at H
 ·rename_i q;obtain⟨h1,h2⟩:=Fu q;rw[KM,pK (KL ah h)]at H;unfold Ck at H;obtain⟨r,hp,h3,h4⟩:=H;rw[BW,BY]at h4;exact .inr ⟨ah,r,hp,h3,h1,h2,h4⟩
 ·exact .inl H
def kb:Op->Bool
 | .box .. => false
 | .alloc .. => false
 | .store .. => false
 | .makeSlice .. => false
 | .makeMap .. => false
 | .mapUpdate .. => false
 | .call { callee := .builtin .append,.. }=>false
 |_=>true
def sS{α:Sort _}(keep:List Nat):Nat->List AV->(List AV->α)->α
 |_,[],k=>k []
 |i,x::s,k=>match bV i keep with
  |true=>sS keep (i+1) s fun s'=>k (x::s')
  |false=>sS keep (i+1) s fun s'=>k (.any::s')
theorem zE{α:Sort _}(keep:List Nat):∀ (i:Nat) (s:List AV) (k:List AV->α),sS keep i s k=k (bY keep i s)
 |_,[],_=>rfl
 |i,x::s,k=>by
  simp only[sS,bY];split<;>rename_i q<;>rw[zE keep (i+1)]<;>simp only[q]
@[irreducible] def cg (E : Env) (ae : FuncId) (R : bZ) (ops : Array Oper) (k : List aK) (Fy : List Nat) (pre ba : List Oper) (s : List AV) (h : List af) : Prop :=
 kI E ops h (fun s'=>gE E ops (fun s2 h2=>aa E ae R [] k s2 h2) ba s' h) pre s
@[irreducible] def cJ (E : Env) (ae : FuncId) (R : bZ) (ops : Array Oper) (k : List aK) (Fy : List Nat) (ba : List Oper) (s : List AV) (h : List af) : Prop :=
 gE E ops (fun s2 h2=>aa E ae R [] k s2 h2) ba s h
def me(E:Env)(ae:FuncId)(R:bZ)(ops:Array Oper)(k:List aK):Nat->List Nat->List Oper->List Oper->List AV->List af->Prop
 |0,lits,pre,ba,s,h=>cg E ae R ops k lits pre ba s h
 |n+1,lits,pre,ba,s,h =>
  match pre with
  |[]=>cJ E ae R ops k lits ba s h
  |o::l=>sS (ca ops o) 0 s fun so =>
   let go:Prop:=match kb o.op with
    |true=>fo E.T E.G o.op so h (kD E o.op so (gy E o.op so h (ju E.G so o (cg E ae R ops k lits pre ba s h) fun f eX=>mL eX (cg E ae R ops k lits pre ba s h) fun ds=>pQ E f ds fun v=>bK s o.dst (.d v) fun s'=>cg E ae R ops k lits l ba s' h)
      fun v _=>bK s o.dst v fun s'=>cg E ae R ops k lits l ba s' h)
      fun v=>bK s o.dst v fun s'=>me E ae R ops k n lits l ba s' h)
     fun v _=>bK s o.dst v fun s'=>me E ae R ops k n lits l ba s' h
    |false=>cg E ae R ops k lits pre ba s h
   sK ops o.guard go (cg E ae R ops k lits pre ba s h) fun d b=>aZ so d (cg E ae R ops k lits pre ba s h) fun
    | .d (.bool t)=>match bV d lits with
     |false=>lv t (fL s d (.d (.bool true)) fun s'=>cg E ae R ops k (d::lits) pre ba s' h) (fL s d (.d (.bool false)) fun s'=>cg E ae R ops k (d::lits) pre ba s' h)
     |true=>match B5 t b with
      |true=>go
      |false=>bK s o.dst (.d .undef) fun s'=>me E ae R ops k n lits l ba s' h
    | .d .undef=>bK s o.dst (.d .undef) fun s'=>me E ae R ops k n lits l ba s' h
    |_=>cg E ae R ops k lits pre ba s h
theorem Lp{T:List bD}{G:List (Nat × DV)}{o:Op}{s:List AV}{h:List af}{stop:Prop}{K:AV->Prop}(ho:kb o=true)(H:fo T G o s h stop (fun v _=>K v)):fo T G o s h stop (fun v h'=>h'=h/\K v):=by
 cases o
 case box=>cases ho
 case alloc=>cases ho
 case store=>cases ho
 case unOp op t x=>cases op<;>simpa only[fo,true_and]using H
 case call c =>
  obtain⟨callee,args,ts⟩:=c;cases callee with
  |builtin b=>cases b<;>simpa only[fo,true_and]using H
  |_=>simpa only[fo]using H
 all_goals simpa only[fo,true_and]using H
theorem TX{T:List bD}{G:List (Nat × DV)}{o:Op}{s:List AV}{h:List af}{stop:Prop}{K:AV->Prop}(ho:kb o=true)(H:l9 T G o s h stop (fun v _=>K v)):l9 T G o s h stop (fun v h'=>h'=h/\K v):=by
 cases o
 case store=>cases ho
 case makeSlice=>cases ho
 case slice t x lo hi mx=>cases mx<;>simpa only[l9,nJ,true_and]using H
 case call c =>
  obtain⟨callee,args,ts⟩:=c;cases callee with
  |builtin b=>cases b<;>first|(simpa only[l9,nJ]using H)|(simp[kb]at ho)
  |_=>simpa only[l9,nJ]using H
 all_goals simpa only[l9,nJ,true_and]using H
theorem TY{E:Env}{o:Op}{s:List AV}{h:List af}{stop:Prop}{K:AV->Prop}(ho:kb o=true):oK E o s h stop (fun v h'=>h'=h/\K v)=oK E o s h stop (fun v _=>K v):=by
 unfold oK;split
 ·simp[kb]at ho
 ·simp only[true_and]
 ·simp only[true_and]
 ·simp[kb]at ho
 ·rfl
theorem Lq{E:Env}{o:Op}{s:List AV}{h:List af}{stop:Prop}{K:AV->Prop}(ho:kb o=true)(H:gy E o s h stop (fun v _=>K v)):gy E o s h stop (fun v h'=>h'=h/\K v):=by
 unfold gy at H ⊢;rw[TY ho];have:=TX ho H;have e:(fun v=>h=h/\K v)=K:=by funext v;simp
 rw[e];exact this
theorem cJ.is{E:Env}{ae:FuncId}{R:bZ}{ops:Array Oper}{k:List aK}{lits:List Nat}{ba:List Oper}{s:List AV}{h:List af}(H:cJ E ae R ops k lits ba s h):cJ E ae R ops k lits ba s h:=H
theorem cg.is{E:Env}{ae:FuncId}{R:bZ}{ops:Array Oper}{k:List aK}{lits:List Nat}{pre ba:List Oper}{s:List AV}{h:List af}(H:cg E ae R ops k lits pre ba s h):cg E ae R ops k lits pre ba s h:=H
theorem cJ.to{E:Env}{ae:FuncId}{R:bZ}{ops:Array Oper}{k:List aK}{lits:List Nat}{ba:List Oper}{s:List AV}{h:List af}(H:cJ E ae R ops k lits ba s h):gE E ops (fun s2 h2=>aa E ae R [] k s2 h2) ba s h:=by unfold cJ at H;exact H
theorem cg.to{E:Env}{ae:FuncId}{R:bZ}{ops:Array Oper}{k:List aK}{lits:List Nat}{pre ba:List Oper}{s:List AV}{h:List af}(H:cg E ae R ops k lits pre ba s h):kI E ops h (fun s'=>gE E ops (fun s2 h2=>aa E ae R [] k s2 h2) ba s' h) pre s:=by unfold cg at H;exact H
theorem Lr{E:Env}{o:Oper}{so:List AV}{h:List af}{A stop:Prop}{K:AV->Prop}{B:AV->List af->Prop}{C:(f:FuncId)->List AV->Prop}{D:AV->Prop}(hF:jZ o=true)
  (H:match kb o.op with
    |true=>fo E.T E.G o.op so h (kD E o.op so (gy E o.op so h (ju E.G so o stop C) B) D) fun v _=>K v
    |false=>A) (hA:A->stop):stop\/∃ v,K v/\∀ h',aQ E o.op so h' v h':=by
 obtain⟨dst,op,type,pos,after,guard⟩:=o;cases op<;>first|(cases guard<;>cases hF;done)|skip
 case extract x i =>
  simp only[kb,fo,kD,gy,l9,nJ,sA,oK,ju]at H;rcases cM H with H|⟨v,hv,H⟩
  ·exact .inl H
  split at H
  ·rename_i l;rcases bl H with H|⟨u,hu,H⟩
   ·exact .inl H
   ·exact .inr ⟨_,H,fun h'=>JK hv hu⟩
  ·rename_i l;rcases bl H with H|⟨u,hu,H⟩
   ·exact .inl H
   ·exact .inr ⟨_,H,fun h'=>JM hv hu⟩
  ·exact .inl H
 case move x =>
  simp only[kb,fo,kD,gy,l9,nJ,sA,oK,ju]at H;rcases cM H with H|⟨v,hv,H⟩
  ·exact .inl H
  ·exact .inr ⟨_,H,fun h'=>JD hv⟩
 case assign x =>
  simp only[kb,fo,kD,gy,l9,nJ,sA,oK,ju]at H;rcases cM H with H|⟨v,hv,H⟩
  ·exact .inl H
  ·exact .inr ⟨_,H,fun h'=>JE hv⟩
theorem FW{E:Env}(hE:E.OK){ae:FuncId}{R:bZ}{ops:Array Oper}{k:List aK}:∀ (n:Nat) (lits:List Nat) (pre ba:List Oper) (s:List AV) (h:List af),
  me E ae R ops k n lits pre ba s h->kI E ops h (fun s'=>gE E ops (fun s2 h2=>aa E ae R [] k s2 h2) ba s' h) pre s:=by
 intro n
 induction n with
 |zero=>intro lits pre ba s h H;exact cg.to H
 |succ n ih =>
  intro lits pre ba s h H;unfold me at H;split at H
  ·exact cJ.to H
  rename_i o l;rw[zE]at H;have rm:∀ (d:Nat) (x:AV),(bY (ca ops o) 0 s)[d]?=some x->x ≠ .any->s[d]?=some x:=fun d x hx aH=>by
   rcases uY _ 0 d s x hx with h|⟨-,h⟩
   ·exact absurd h aH
   ·exact h
  have go:iH ops o (bY (ca ops o) 0 s) true->(match kb o.op with
    |true=>fo E.T E.G o.op (bY (ca ops o) 0 s) h (kD E o.op (bY (ca ops o) 0 s) (gy E o.op (bY (ca ops o) 0 s) h (ju E.G (bY (ca ops o) 0 s) o (cg E ae R ops k lits (o::l) ba s h) fun f eX=>mL eX (cg E ae R ops k lits (o::l) ba s h) fun ds=>pQ E f ds fun v=>bK s o.dst (.d v) fun s'=>cg E ae R ops k lits l ba s' h)
      fun v _=>bK s o.dst v fun s'=>cg E ae R ops k lits l ba s' h)
      fun v=>bK s o.dst v fun s'=>me E ae R ops k n lits l ba s' h)
     fun v _=>bK s o.dst v fun s'=>me E ae R ops k n lits l ba s' h
    |false=>cg E ae R ops k lits (o::l) ba s h)->kI E ops h (fun s'=>gE E ops (fun s2 h2=>aa E ae R [] k s2 h2) ba s' h) (o::l) s:=by
   intro hw H;by_cases hF:jZ o=true
   ·rcases Lr hF H id with H|⟨v,H,ho⟩
    ·exact cg.to H
    ·rw[df]at H;exact⟨v,dz.of hw (ho h),fun _ h'=>dz.of hw (ho h'),ih _ _ _ _ _ H⟩
   have FY:∀ {v:AV},jZ o=true->∀ h',dz E ops o s h' v:=fun e=>absurd e hF;split at H
   ·rename_i aV;rcases ud hE (Lp (K:=fun v=>bK s o.dst v fun s'=>me E ae R ops k n lits l ba s' h) aV H)with H|⟨v,h',⟨rfl,H⟩,ho⟩
    ·rcases E3 hE H with H|⟨v,H,ho⟩
     case inr =>
      rw[df]at H;exact⟨v,dz.of hw (ho h),fun _ h'=>dz.of hw (ho h'),ih _ _ _ _ _ H⟩
     rcases uE hE (Lq (K:=fun v=>bK s o.dst v fun s'=>cg E ae R ops k lits l ba s' h) aV H)with H|⟨v,h',⟨rfl,H⟩,ho⟩
     ·rcases B4 H with H|⟨fx,args,ts,f,a1,av,a2,bX,hv,kF,H⟩
      ·exact cg.to H
      rcases tR (a1++av++a2) (cg E ae R ops k lits (o::l) ba s h) (fun ds=>pQ E f ds fun v=>bK s o.dst (.d v) fun s'=>cg E ae R ops k lits l ba s' h)with⟨ds,e1,e2⟩|e2
      ·rw[e2]at H;unfold pQ at H;obtain⟨r,hc,hk⟩:=H;simp only[df]at hk;exact⟨_,dz.call hw bX hv kF e1 hc,FY,cg.to hk⟩
      ·rw[e2]at H;exact cg.to H
     ·rw[df]at H;exact⟨v,dz.of hw ho,FY,cg.to H⟩
    ·rw[df]at H;exact⟨v,dz.of hw ho,FY,ih _ _ _ _ _ H⟩
   ·exact cg.to H
  dsimp only at H;unfold sK at H;split at H
  ·rename_i hg;exact go (eC hg) H
  ·rename_i j b hg;rcases bl H with H|⟨oj,kG,H⟩
   ·exact cg.to H
   split at H
   ·rename_i d hd;rcases bl H with H|⟨x,hx,H⟩
    ·exact cg.to H
    split at H
    ·rename_i t;have oz:=rm d _ hx (by simp);split at H
     ·refine zo H (fun e H2=>?_) (fun e H2=>?_)
      ·subst e;rw[gL,lB oz]at H2;exact cg.to H2
      ·subst e;rw[gL,lB oz]at H2;exact cg.to H2
     ·have hw:=Bz hg kG hd hx;split at H
      ·rename_i q;have:(t==b)=true:=by cases t<;>cases b<;>first|rfl|cases q
       rw[this]at hw;exact go hw H
      ·rename_i q;have:(t==b)=false:=by cases t<;>cases b<;>first|rfl|cases q
       rw[this]at hw;rw[df]at H;exact⟨_,dz.skip hw,fun _ _=>dz.skip hw,ih _ _ _ _ _ H⟩
    ·rw[df]at H;exact⟨_,dz.skip (yM hg kG hd hx),fun _ _=>dz.skip (yM hg kG hd hx),ih _ _ _ _ _ H⟩
    ·exact cg.to H
   ·exact cg.to H
def oR(E:Env)(ae:FuncId)(R:bZ)(ops:Array Oper)(k:List aK):Nat->List Nat->List Oper->List AV->List af->Prop
 |0,lits,ba,s,h=>cJ E ae R ops k lits ba s h
 |n+1,lits,ba,s,h =>
  match ba with
  |[]=>aa E ae R [] k s h
  |o::l=>sS (ca ops o) 0 s fun so =>
   let go : Prop := fo E.T E.G o.op so h (oI E o.op so h (gy E o.op so h (ju E.G so o (cJ E ae R ops k lits ba s h) fun f eX => mL eX (sR E f eX h (cJ E ae R ops k lits ba s h) fun v h' => bK s o.dst v fun s' => cJ E ae R ops k lits l s' h') fun ds => pQ E f ds fun v => bK s o.dst (.d v) fun s' => cJ E ae R ops k lits l s' h)
         fun v h' => bK s o.dst v fun s' => cJ E ae R ops k lits l s' h')
         fun v h' => bK s o.dst v fun s' => oR E ae R ops k n lits l s' h')
     fun v h'=>bK s o.dst v fun s'=>oR E ae R ops k n lits l s' h'
   sK ops o.guard go (cJ E ae R ops k lits ba s h) fun d b=>aZ so d (cJ E ae R ops k lits ba s h) fun
    | .d (.bool t)=>match bV d lits with
     |false=>lv t (fL s d (.d (.bool true)) fun s'=>cJ E ae R ops k (d::lits) ba s' h) (fL s d (.d (.bool false)) fun s'=>cJ E ae R ops k (d::lits) ba s' h)
     |true=>match B5 t b with
      |true=>go
      |false=>bK s o.dst (.d .undef) fun s'=>oR E ae R ops k n lits l s' h
    | .d .undef=>bK s o.dst (.d .undef) fun s'=>oR E ae R ops k n lits l s' h
    |_=>cJ E ae R ops k lits ba s h
theorem TZ{E:Env}(hE:E.OK){ae:FuncId}{R:bZ}{ops:Array Oper}{k:List aK}:∀ (n:Nat) (lits:List Nat) (ba:List Oper) (s:List AV) (h:List af),
  oR E ae R ops k n lits ba s h->gE E ops (fun s2 h2=>aa E ae R [] k s2 h2) ba s h:=by
 intro n
 induction n with
 |zero=>intro lits ba s h H;exact cJ.to H
 |succ n ih =>
  intro lits ba s h H;unfold oR at H;split at H
  ·exact H
  rename_i o l;rw[zE]at H;have rm:∀ (d:Nat) (x:AV),(bY (ca ops o) 0 s)[d]?=some x->x ≠ .any->s[d]?=some x:=fun d x hx aH=>by
   rcases uY _ 0 d s x hx with h|⟨-,h⟩
   ·exact absurd h aH
   ·exact h
  have go : iH ops o (bY (ca ops o) 0 s) true -> (fo E.T E.G o.op (bY (ca ops o) 0 s) h (oI E o.op (bY (ca ops o) 0 s) h (gy E o.op (bY (ca ops o) 0 s) h (ju E.G (bY (ca ops o) 0 s) o (cJ E ae R ops k lits (o :: l) s h) fun f eX => mL eX (sR E f eX h (cJ E ae R ops k lits (o :: l) s h) fun v h' => bK s o.dst v fun s' => cJ E ae R ops k lits l s' h') fun ds => pQ E f ds fun v => bK s o.dst (.d v) fun s' => cJ E ae R ops k lits l s' h)
          fun v h' => bK s o.dst v fun s' => cJ E ae R ops k lits l s' h')
          fun v h' => bK s o.dst v fun s' => oR E ae R ops k n lits l s' h')
     fun v h'=>bK s o.dst v fun s'=>oR E ae R ops k n lits l s' h')->gE E ops (fun s2 h2=>aa E ae R [] k s2 h2) (o::l) s h:=by
   intro hw H;by_cases hA:∃ t,o.op=.alloc t
   ·obtain⟨t,e⟩:=hA;simp only[e,fo,oI,kD,yY,gy,l9,nJ,sA,oK,ju]at H;rcases bl H with H|⟨i,hi,H⟩
    ·exact cJ.to H
    split at H
    ·rename_i q1 q2;rw[qD,nD,df,Nat.zero_add]at H;have hz:=Nat.eq_of_beq_eq_true q1;have hp:0<i.size:=sy q2;exact⟨_,_,dm.of hw (by rw[e];exact Er hE hi hz hp),fun t' e' _=>by rw[e]at e';cases e';exact⟨rfl,i,hi,hz,hp,rfl⟩,ih _ _ _ _ H⟩
    ·exact cJ.to H
   have pR:∀ (h:List af) (v:AV) (h':List af),pP E o h v h':=fun h v h' t e=>absurd ⟨t,e⟩ hA;rcases ud hE H with H|⟨v,h',H,ho⟩
   ·rcases yZ hE H with H|⟨v,h',H,ho⟩
    case inr =>
     rw[df]at H;exact⟨v,h',dm.of hw ho,pR _ _ _,ih _ _ _ _ H⟩
    rcases uE hE H with H|⟨v,h',H,ho⟩
    ·rcases B4 H with H|⟨fx,args,ts,f,a1,av,a2,bX,hv,kF,H⟩
     ·exact cJ.to H
     rcases tR (a1++av++a2) (sR E f (a1++av++a2) h (cJ E ae R ops k lits (o::l) s h) fun v h'=>bK s o.dst v fun s'=>cJ E ae R ops k lits l s' h') (fun ds=>pQ E f ds fun v=>bK s o.dst (.d v) fun s'=>cJ E ae R ops k lits l s' h)with⟨ds,e1,e2⟩|e2
     ·rw[e2]at H;unfold pQ at H;obtain⟨r,hc,hk⟩:=H;simp only[df]at hk;exact⟨_,_,dm.call hw bX hv kF e1 hc,pR _ _ _,cJ.to hk⟩
     ·rw[e2]at H;rcases Lo H with H|⟨ah,r,hp,hc,hn,ai,hk⟩
      ·exact cJ.to H
      rw[df]at hk;exact⟨_,_,dm.oN hw bX hv kF hc hn ai,pR _ _ _,cJ.to hk⟩
    ·rw[df]at H;exact⟨v,h',dm.of hw ho,pR _ _ _,cJ.to H⟩
   ·rw[df]at H;exact⟨v,h',dm.of hw ho,pR _ _ _,ih _ _ _ _ H⟩
  dsimp only at H;unfold sK at H;split at H
  ·rename_i hg;exact go (eC hg) H
  ·rename_i j b hg;rcases bl H with H|⟨oj,kG,H⟩
   ·exact cJ.to H
   split at H
   ·rename_i d hd;rcases bl H with H|⟨x,hx,H⟩
    ·exact cJ.to H
    split at H
    ·rename_i t;have oz:=rm d _ hx (by simp);split at H
     ·refine zo H (fun e H2=>?_) (fun e H2=>?_)
      ·subst e;rw[gL,lB oz]at H2;exact cJ.to H2
      ·subst e;rw[gL,lB oz]at H2;exact cJ.to H2
     ·have hw:=Bz hg kG hd hx;split at H
      ·rename_i q;have:(t==b)=true:=by cases t<;>cases b<;>first|rfl|cases q
       rw[this]at hw;exact go hw H
      ·rename_i q;have:(t==b)=false:=by cases t<;>cases b<;>first|rfl|cases q
       rw[this]at hw;rw[df]at H;exact⟨_,_,dm.skip hw,fun _ _ e=>(by rw[hg]at e;cases e),ih _ _ _ _ H⟩
    ·rw[df]at H;exact⟨_,_,dm.skip (yM hg kG hd hx),fun _ _ e=>(by rw[hg]at e;cases e),ih _ _ _ _ H⟩
    ·exact cJ.to H
   ·exact cJ.to H
section
variable {E:Env} {ae:FuncId} {R:bZ} {ops:Array Oper} {k:List aK} {lits:List Nat} {pre ba:List Oper} {s:List AV} {h:List af}
theorem cg.run(hE:E.OK)(n:Nat)(H:me E ae R ops k n lits pre ba s h):cg E ae R ops k lits pre ba s h:=by
 unfold cg;exact FW hE n lits pre ba s h H
theorem cJ.run(hE:E.OK)(n:Nat)(H:oR E ae R ops k n lits ba s h):cJ E ae R ops k lits ba s h:=by
 unfold cJ;exact TZ hE n lits ba s h H
theorem aa.draw(hE:E.OK)(hm:E.P.follows .mixedOrders=true)(m n:Nat){id:Nat}(ka:(pO ops m&&Nat.ble m ops.size)=true)(H:si m ops.toList fun pre=>qC m ops.toList fun ba=>me E ae R ops k n [] pre ba s h)(dJ:R.fx.cG=none:=by rfl)(dH:R.fx.aL=[]:=by rfl):aa E ae R lits (.code (.region id ops true)::k) s h:=by
 rw[Bl,yp]at H;rw[Bool.and_eq_true]at ka;have e:(⟨ae,R.fx.cG,R.fx.aL⟩:iG)=⟨ae,none,[]⟩:=by rw[dJ,dH]
 refine .of ?_;rw[e];refine AW.draw (m:=m) hm ka.1 (Nat.le_of_ble_eq_true ka.2) ?_;have conv:∀ {l:List Oper} {s:List AV} {h:List af},gE E ops (fun s2 h2=>aa E ae R [] k s2 h2) l s h->gE E ops (fun s2 h2=>AW E R.fx.f0 ⟨⟨ae,R.fx.cG,R.fx.aL⟩,k,s2⟩ R.fx.cls h2 R) l s h:=by
  intro l
  induction l with
  |nil=>intro s h H;exact aa.to H
  |cons o l ih=>intro s h H;obtain⟨v,h',h1,gw,h2⟩:=H;exact⟨v,h',h1,gw,ih h2⟩
 have T0:∀ {l:List Oper} {s:List AV},kI E ops h (fun s'=>gE E ops (fun s2 h2=>aa E ae R [] k s2 h2) (ops.toList.drop m) s' h) l s->kI E ops h (fun s'=>gE E ops (fun s2 h2=>AW E R.fx.f0 ⟨⟨ae,R.fx.cG,R.fx.aL⟩,k,s2⟩ R.fx.cls h2 R) (ops.toList.drop m) s' h) l s:=by
  intro l
  induction l with
  |nil=>intro s H;exact conv H
  |cons o l ih=>intro s H;obtain⟨v,h1,gw,h2⟩:=H;exact⟨v,h1,gw,ih h2⟩
 have H2:=T0 (FW hE n [] _ _ s h H);simp only[e]at H2;exact H2
end
end Go.aA
end
section
namespace Go.aA
open Go Go.RowKit
theorem FZ{c1 c2 Ls F0:Cx}{i:Nat}{bx:af}(h1:Ls.own i=c1.own i)(h2:F0.heap[i]?=c2.heap[i]?)(h3:F0.own i=c2.own i)(h:tP c1 c2 i bx):tP Ls F0 i bx:=by
 cases bx<;>simp only[tP,h1,h2,h3]at h ⊢ <;> exact h
def Cx.cH(c:Cx)(o:Obj):Cx:=⟨c.own,c.heap,fun b=>c.ak b\/b=c.w.heap.size,c.w.alloc o⟩
def Cx.bare(c:Cx)(bx:af)(blk:Nat)(ak:Nat->Prop):Cx:=⟨fun i=>if i=c.heap.length then some (blk,0)else c.own i,c.heap++[bx],ak,c.w⟩
section
variable {G:List (Nat × DV)} {c:Cx} {o:Obj}
theorem Lt(b:Nat)(hb:b<c.w.heap.size)(hn:¬ c.bad b):¬ (c.cH o).bad b/\(c.cH o).w.heap[b]?=c.w.heap[b]? := by
 refine⟨?_,Below.heap_alloc c.w o b hb⟩;rintro((h|h)|⟨i,n,h⟩)
 ·exact hn (.inl h)
 ·omega
 ·exact hn (.inr ⟨i,n,h⟩)
theorem sT{x:AV}{v:Value}(hv:VR c x v):VR (c.cH o) x v:=sh Lt (fun _ _ hi=>mQ hi rfl rfl) hv
theorem Cl{x:DV}{v:Value}(hv:VD c.bad c.w x v):VD (c.cH o).bad (c.cH o).w x v:=hv.mono Lt
theorem aD.cH(ho:aD G c):aD G (c.cH o) where
 bE:=fun b hb=>by
  have hs:(c.cH o).w.heap.size=c.w.heap.size+1:=by simp[Cx.cH]
  rcases hb with hb|hb
  ·have:=ho.bE b hb;omega
  ·omega
 bH:=fun i b n hi=>by
  have hs:(c.cH o).w.heap.size=c.w.heap.size+1:=by simp[Cx.cH]
  have:=ho.bH i b n hi;exact⟨by omega,this.2⟩
 inj:=ho.inj
 sep:=fun i b n hi hb=>hb.elim (ho.sep i b n hi) (fun e=>by have:=(ho.bH i b n hi).1;omega)
 box:=fun i bx hx=>(ho.box i bx hx).gen (fun _ _=>sT) (fun _ _=>Cl) rfl (fun b n hn=>Below.heap_alloc c.w o b (ho.bH i b n hn).1)
 fB:=fun g e hg=>sT (ho.fB g e hg)
variable {bx:af} {blk:Nat} {ak:Nat->Prop}
theorem T1(ho:aD G c)(eN:∀ b,c.ak b↔ak b\/b=blk)(b:Nat):(c.bare bx blk ak).bad b↔c.bad b:=by
 constructor
 ·rintro(h|⟨i,n,h⟩)
  ·exact .inl ((eN b).2 (.inl h))
  ·simp only[Cx.bare]at h;split at h
   ·cases h;exact .inl ((eN _).2 (.inr rfl))
   ·exact .inr ⟨i,n,h⟩
 ·rintro(h|⟨i,n,h⟩)
  ·rcases(eN b).1 h with h|rfl
   ·exact .inl h
   ·exact .inr ⟨c.heap.length,0,by simp[Cx.bare]⟩
  ·refine .inr ⟨i,n,?_⟩;have:=(ho.bH i b n h).2;simp only[Cx.bare];rw[if_neg (by omega)];exact h
theorem Lu(ho:aD G c)(eN:∀ b,c.ak b↔ak b\/b=blk)(b:Nat)(_:b<c.w.heap.size)(hn:¬ c.bad b):¬ (c.bare bx blk ak).bad b/\(c.bare bx blk ak).w.heap[b]?=c.w.heap[b]? :=
 ⟨fun h=>hn ((T1 ho eN b).1 h),rfl⟩
theorem T2{i:Nat}{b:af}(hi:c.heap[i]?=some b):(c.bare bx blk ak).heap[i]?=c.heap[i]? := List.getElem?_append_left (aX hi)
theorem Lv{i:Nat}{b:af}(hi:c.heap[i]?=some b):(c.bare bx blk ak).own i=c.own i:=by
 have:=aX hi;simp only[Cx.bare];rw[if_neg (by omega)]
theorem zF(ho:aD G c)(eN:∀ b,c.ak b↔ak b\/b=blk){x:AV}{v:Value}(hv:VR c x v):VR (c.bare bx blk ak) x v:=sh (Lu ho eN) (fun _ _ hi=>mQ hi (T2 hi) (Lv hi)) hv
theorem T3(ho:aD G c)(eN:∀ b,c.ak b↔ak b\/b=blk){x:DV}{v:Value}(hv:VD c.bad c.w x v):VD (c.bare bx blk ak).bad (c.bare bx blk ak).w x v:=hv.mono (Lu ho eN)
theorem aD.bare(ho:aD G c)(eN:∀ b,c.ak b↔ak b\/b=blk)(mY:¬ ak blk)(iw:jo (c.bare bx blk ak) c.heap.length bx):aD G (c.bare bx blk ak) where
 bE:=fun b hb=>ho.bE b ((eN b).2 (.inl hb))
 bH:=fun i b n hi=>by
  have hl:(c.bare bx blk ak).heap.length=c.heap.length+1:=by simp[Cx.bare]
  simp only[Cx.bare]at hi;split at hi
  ·cases hi;exact⟨ho.bE _ ((eN _).2 (.inr rfl)),by omega⟩
  ·have:=ho.bH i b n hi;exact⟨this.1,by omega⟩
 inj:=fun i j b n m hi hj=>by
  simp only[Cx.bare]at hi hj;split at hi<;>split at hj
  ·omega
  ·cases hi;exact absurd ((eN _).2 (.inr rfl)) (ho.sep j _ m hj)
  ·cases hj;exact absurd ((eN _).2 (.inr rfl)) (ho.sep i _ n hi)
  ·exact ho.inj i j b n m hi hj
 sep:=fun i b n hi hb=>by
  simp only[Cx.bare]at hi;split at hi
  ·cases hi;exact mY hb
  ·exact ho.sep i b n hi ((eN b).2 (.inl hb))
 box:=fun i b hx=>by
  rcases Nat.lt_trichotomy i c.heap.length with hi|rfl|hi
  ·have eK:c.heap[i]?=some b:=by
    have:(c.bare bx blk ak).heap[i]?=c.heap[i]? := List.getElem?_append_left hi
    rwa [this]at hx
   exact(ho.box i b eK).gen (fun _ _=>zF ho eN) (fun _ _=>T3 ho eN) (Lv eK) (fun _ _ _=>rfl)
  ·have:b=bx:=by simp[Cx.bare]at hx;exact hx.symm
   subst this;exact iw
  ·rw[List.getElem?_eq_none (by simp[Cx.bare];omega)]at hx;cases hx
 fB:=fun g e hg=>zF ho eN (ho.fB g e hg)
theorem T4{c2:Cx}{us:List Value}{ty:TypeId}{z:List AV}(ho:aD G c)(hs:Step (c.cH (.cells us.toArray ty)) c2)(ve:aD G c2)(hh:c2.heap=c.heap)(hz:VL (c2.bare (.cells z) c.w.heap.size c.ak) z us) :
  aD G (c2.bare (.cells z) c.w.heap.size c.ak)/\Step c (c2.bare (.cells z) c.w.heap.size c.ak)/\(∀ x v,VR c2 x v->VR (c2.bare (.cells z) c.w.heap.size c.ak) x v)/\VR (c2.bare (.cells z) c.w.heap.size c.ak) (.ptr c.heap.length 0) (.pointer (some ⟨c.w.heap.size,0,none⟩)):=by
 have eN:∀ b,c2.ak b↔c.ak b\/b=c.w.heap.size:=fun b=>by rw[hs.ak];exact Iff.rfl
 have mY:¬ c.ak c.w.heap.size:=fun h=>by have:=ho.bE _ h;omega
 have bS:(c.cH (.cells us.toArray ty)).w.heap.size=c.w.heap.size+1:=by simp[Cx.cH]
 have bI:(c2.bare (.cells z) c.w.heap.size c.ak).own c.heap.length=some (c.w.heap.size,0):=by simp[Cx.bare,hh]
 have dF:(c2.bare (.cells z) c.w.heap.size c.ak).heap[c.heap.length]?=some (.cells z):=by simp[Cx.bare,hh]
 have hblk:c2.w.heap[c.w.heap.size]?=some (.cells us.toArray ty (0,0)):=by
  rw[hs.keep _ (by omega) (fun i n hi=>by have:=(ho.bH i _ n hi).1;omega)];exact heap_alloc_new _ _
 refine⟨ve.bare eN mY ?_,?_,fun _ _=>zF ve eN,.ptr _ _ z _ 0 dF bI⟩
 ·rw[hh];exact⟨c.w.heap.size,0,us.toArray,ty,bI,hblk,by simpa using hz.1.symm,fun j x v hx hu=>hz.2 j x v hx (by simpa using hu)⟩
 ·exact{
   ak:=rfl
   bE:=ho.bE
   os:=hs.os
   tape:=hs.tape
   output:=hs.output
   size:=by have:=hs.size;show c.w.heap.size<=c2.w.heap.size;omega
   keep:=fun b hb hn=>by
    show c2.w.heap[b]?=_;rw[hs.keep b (by omega) hn];exact Below.heap_alloc c.w _ b hb
   dw:=fun i b n hi hb=>by
    simp only[Cx.bare]at hi;split at hi
    ·cases hi;omega
    ·exact hs.dw i b n hi (by omega)
   boxes:=fun i b hi=>by
    have:=hs.boxes i b hi;have ai:=aX hi
    exact FZ (c1:=c.cH (.cells us.toArray ty)) rfl (List.getElem?_append_left (by rw[hh];exact ai)) (by simp only[Cx.bare];rw[if_neg (by rw[hh];omega)]) this }
end
section
variable {E:Env} {ops:Array Oper}
theorem xd(Lw:∀ i j oi oj,i<j->ops[i]?=some oi->ops[j]?=some oj->jv ops oi oj=true->kH ops i j){q:List (Oper × AV)}(dF:∀ (k:Nat) (o:Oper) (v:AV),q[k]?=some (o,v)->ops[k]?=some o){listed:Array Bool}(hd:DC ops listed){i:Nat}(hi:i∈Region.ready .any ops listed)
  {o:Oper} {v:AV} (dj:q[i]?=some (o,v)) {s0:List AV} {c:Cx} {a:Act} (h4:VS c (cur q (aT listed) 0 s0) a.tmps) :
  (∀ (c':Cx) (u:Value),(∀ x v,VR c x v->VR c' x v)->VR c' v u->VS c' (cur q (aT (listed.setIfInBounds i true)) 0 s0) (a.put o.dst u).tmps)/\VS c (bY (ca ops o) 0 (cur q (fun k=>decide (k<i)) 0 s0)) a.tmps:=by
 obtain⟨dC,dN⟩:=mX hd hi;have dZ:=dF i o v dj;have wr:∀ k o' v',q[k]?=some (o',v')->(k<i->jv ops o' o=true->aT listed k=true)/\(i<k->jv ops o o'=true->aT listed k=false):=fun k o' v' hk=>by
  have aN:=dF k o' v' hk;refine⟨fun ai vb=>hd.ready hi (Lw k i o' o ai aN dZ vb),fun ai vb=>?_⟩;cases hl:aT listed k with
  |false=>rfl
  |true=>have:=hd.dep (Lw i k o o' ai dZ aN vb) hl;rw[dC]at this;cases this
 have bS:i<listed.size:=by rw[hd.1];exact dN
 have cQ:=fun q=>sO (i:=q) bS;refine⟨fun c' u k3 k4=>?_,?_⟩
 ·refine⟨by rw[mc];have:=h4.1;rw[mc]at this;cases iB:o.dst<;>simp[Act.put,this],fun t x u' hx qN=>?_⟩;by_cases ev:o.dst=some t
  ·have e1:(cur q (aT (listed.setIfInBounds i true)) 0 s0)[t]?=(cur q (fun k=>decide (k<0+i+1)) 0 s0)[t]? := by
    refine rk _ _ _ 0 s0 s0 rfl rfl (fun k o' v' gu fX=>?_);rw[Nat.zero_add,Nat.zero_add,cQ];rcases Nat.lt_trichotomy k i with ai|rfl|qR
    ·rw[(wr k o' v' gu).1 ai (sQ fX (List.mem_append_left _ (by simp[ev])))];simp;omega
    ·simp
    ·rw[(wr k o' v' gu).2 qR (sQ ev (List.mem_append_left _ (by simp[fX])))];simp;omega
   rw[e1,Ch _ 0 i s0 o v dj,ev]at hx;have jw:t<(cur q (fun k=>decide (k<0+i)) 0 s0).length:=by
    have:=aX hx
    simpa [bL]using this
   rw[bL,List.getElem?_set_self jw]at hx;cases hx;have FT:t<a.tmps.size:=by rw[<- h4.1,mc];rwa [mc]at jw
   have vc:(a.tmps.setIfInBounds t u)[t]?=some u':=by simpa [Act.put,ev]using qN
   rw[Array.getElem?_setIfInBounds_self_of_lt FT]at vc;cases vc;exact k4
  ·have e1:(cur q (aT (listed.setIfInBounds i true)) 0 s0)[t]?=(cur q (aT listed) 0 s0)[t]? := by
    refine rk _ _ _ 0 s0 s0 rfl rfl (fun k o' v' gu fX=>?_);rw[Nat.zero_add,cQ];have:k≠i:=fun e=>by
     subst e;rw[dj]at gu;cases gu;exact ev fX
    simp[this]
   rw[e1]at hx;refine k3 _ _ (h4.2 t x u' hx ?_);cases iB:o.dst with
   |none=>simpa [Act.put,iB]using qN
   |some d =>
    rw[iB]at ev;have aH:d≠t:=fun e=>ev (by rw[e])
    simpa [Act.put,iB,Array.getElem?_setIfInBounds_ne aH]using qN
 ·refine⟨by rw[Ci,mc];have:=h4.1;rwa [mc]at this,fun t x u hx hu=>?_⟩;rcases uY _ 0 t _ x hx with rfl|⟨hk,hx⟩
  ·exact .any u
  ·rw[Nat.zero_add]at hk;refine h4.2 t x u ?_ hu;rw[<- hx];refine rk _ _ _ 0 s0 s0 rfl rfl (fun k o' v' gu fX=>?_);rw[Nat.zero_add];rcases Nat.lt_trichotomy k i with ai|rfl|qR
   ·rw[(wr k o' v' gu).1 ai (sQ fX (List.mem_append_right _ hk))];simp[ai]
   ·rw[dC];simp
   ·rw[(wr k o' v' gu).2 qR (Ll fX hk)];simp;omega
structure zG(ops:Array Oper)(m M:Nat):Prop where
 low:∀ j o e,ops[j]?=some o->e∈o.after->Region.binds .any e=true->e.on<j
 pair:∀ i j oi oj,i<j->ops[i]?=some oi->ops[j]?=some oj->jv ops oi oj=true->kH ops i j
 ba:∀ i j oi oj,i<j->M<=j->ops[i]?=some oi->ops[j]?=some oj->(i<m/\jZ oi=true)\/kH ops i j
theorem zG.pO{m M:Nat}(h:zG ops m M):xc ops ops.size:=⟨h.low,h.pair,fun i j oi oj _ hj _ kG=>by
 have:=(Array.getElem?_eq_some_iff.1 kG).1;omega⟩
structure XP(E:Env)(ops:Array Oper)(m M:Nat)(s0:List AV)(h:List af)(pl:List (Oper × AV))(hp:Nat->List af):Prop where
 F1:pl.map (·.1)=ops.toList
 mf:∀ j o v,j<m->pl[j]?=some (o,v)->jZ o=true->∀ h',dz E ops o (cur pl (fun k=>decide (k<j)) 0 s0) h' v
 pre:∀ j o v,j<m->pl[j]?=some (o,v)->jZ o=false->dz E ops o (cur pl (fun k=>decide (k<j)) 0 s0) h v
 ba:∀ j o v,M<=j->pl[j]?=some (o,v)->dm E ops o (cur pl (fun k=>decide (k<j)) 0 s0) (hp j) v (hp (j+1))
theorem rn{pl:List (Oper × AV)}(jq:pl.map (·.1)=ops.toList):pl.length=ops.size/\∀ (k:Nat) (o:Oper) (v:AV),pl[k]?=some (o,v)->ops[k]?=some o:=by
 refine⟨by have:=congrArg List.length jq;simpa using this,fun k o v hk=>?_⟩;have:=congrArg (·[k]?) jq;simp only[List.getElem?_map,hk,Option.map_some]at this
 simpa using this.symm
theorem zH{L:Nat->Bool}{n i:Nat}(h:eh L n<=0)(hi:i<n):L i=true:=by
 cases hl:L i with
 |true=>rfl
 |false=>have:=FQ hl n hi;omega
theorem T5{m M:Nat}(hc:zG ops m M)(T6:m<=M){s0:List AV}{h:List af}{pl:List (Oper × AV)}{hp:Nat->List af}(hx:XP E ops m M s0 h pl hp)
  {Q:Exit->Act->World->Prop} {Kf:List AV->List af->Prop} {c0:Cx} (fM:Kf (cur pl (fun k=>decide (k<pl.length)) 0 s0) (hp ops.size))
  (hQ:∀ (a:Act) (c:Cx) (s:List AV) (h:List af),Kf s h->aD E.G c->c.heap=h->a.defers=[]->VS c s a.tmps->Step c0 c->Q .normal a c.w) :
  ∀ (f:Nat) (listed:Array Bool) (a:Act) (c:Cx) (J:Nat),M<=J->J<=ops.size->aD E.G c->c.heap=hp J->a.defers=[]->VS c (cur pl (aT listed) 0 s0) a.tmps->Step c0 c->DC ops listed ->
   (∀ i o,ops[i]?=some o->i<J->aT listed i=true\/(i<m/\jZ o=true))->(∀ i,J<=i->aT listed i=false)->eh (aT listed) ops.size<=f->wpAny E.P .any ops Q f listed a c.w:=by
 obtain⟨hlen,dF⟩:=rn hx.F1;have done:∀ (listed:Array Bool) (a:Act) (c:Cx) (J:Nat),J<=ops.size->aD E.G c->c.heap=hp J->a.defers=[]->VS c (cur pl (aT listed) 0 s0) a.tmps->Step c0 c->(∀ i,J<=i->aT listed i=false)->(∀ i,i<ops.size->aT listed i=true)->Q .normal a c.w:=by
  intro listed a c J hJ h1 h2 h3 h4 h5 hn aW;have T7:J=ops.size:=by
   rcases Nat.lt_or_ge J ops.size with h|h
   ·have:=aW J h;rw[hn J (Nat.le_refl _)]at this;cases this
   ·omega
  subst T7;have e:cur pl (aT listed) 0 s0=cur pl (fun k=>decide (k<pl.length)) 0 s0:=by
   congr 1
   funext i;rcases Nat.lt_or_ge i ops.size with h|h
   ·rw[aW i h];simp[hlen,h]
   ·rw[hn i h];simp[hlen];omega
  rw[e]at h4;exact hQ a c _ _ fM h1 h2 h3 h4 h5
 intro f
 induction f with
 |zero =>
  intro listed a c J F2 hJ h1 h2 h3 h4 h5 hd gW fw iR;have aW:∀ i,i<ops.size->aT listed i=true:=fun i hi=>zH iR hi;refine⟨?_,done listed a c J hJ h1 h2 h3 h4 h5 fw aW⟩;apply List.eq_nil_iff_forall_not_mem.2;intro i hi;obtain⟨k1,k2⟩:=mX hd hi;rw[aW i k2]at k1;cases k1
 |succ f ih =>
  intro listed a c J F2 hJ h1 h2 h3 h4 h5 hd gW fw iR;refine⟨fun hr=>?_,fun i hi=>?_⟩
  ·refine done listed a c J hJ h1 h2 h3 h4 h5 fw (fun i hi=>?_);cases hl:aT listed i with
   |true=>rfl
   |false =>
    obtain⟨k,-,hk⟩:=uZ hc.pO hd hi hl;rw[hr]at hk;cases hk
  obtain⟨dC,dN⟩:=mX hd hi;obtain⟨⟨o,v⟩,dj⟩:∃ p,pl[i]?=some p:=⟨pl[i]'(by omega),by rw[List.getElem?_eq_getElem]⟩;have dZ:=dF i o v dj;obtain⟨lG,kJ⟩:=xd hc.pair dF hd hi dj h4;have bS:i<listed.size:=by rw[hd.1];exact dN
  have cQ:=fun q=>sO (i:=q) bS;have mg:eh (aT (listed.setIfInBounds i true)) ops.size<=f:=by
   have:=(va (L:=aT listed) (L':=aT (listed.setIfInBounds i true)) (j:=i) (fun q hq=>by rw[cQ];simp[hq]) dC (by rw[cQ];simp) ops.size).1 dN;omega
  have mZ:∀ u:Value,(a.put o.dst u).defers=[]:=fun u=>by cases iB:o.dst<;>simp[Act.put,h3]
  rcases Nat.lt_or_ge i J with ai|aG
  ·rcases gW i o dZ ai with hl|⟨FR,gq⟩
   ·rw[dC]at hl;cases hl
   ·refine hx.mf i o v FR dj gq (hp J) c a h1 h2 h3 kJ i dZ _ _ (fun c' u k1 k2 k3 k4=>?_);refine ih _ _ c' J F2 hJ k1 k2 (mZ u) (lG c' u (fun _ _=>k3.vr) k4) (h5.trans k3) (hd.set hi) (fun q o' hq oS=>?_) (fun q hq=>by rw[cQ,fw q hq];simp;omega) mg;rcases gW q o' hq oS with hl|hl
    ·rw[cQ,hl];simp
    ·exact .inr hl
  ·have T8:i=J:=by
    rcases Nat.lt_or_ge J i with ai|hle
    ·obtain⟨oJ,T9⟩:∃ oJ,ops[J]?=some oJ:=⟨ops[J]'(by omega),by simp⟩;rcases hc.ba J i oJ o ai (by omega) T9 dZ with⟨h,-⟩|h
     ·omega
     ·have:=hd.ready hi h;rw[fw J (Nat.le_refl _)]at this;cases this
    ·omega
   subst T8;refine hx.ba i o v F2 dj c a h1 h2 h3 kJ i dZ _ _ (fun c' u k1 k2 k3 k4=>?_);refine ih _ _ c' (i+1) (by omega) (by omega) k1 k2 (mZ u) (lG c' u (fun _ _=>k3.vr) k4) (h5.trans k3) (hd.set hi) (fun q o' hq oS=>?_) (fun q hq=>by rw[cQ,fw q (by omega)];simp;omega) mg;by_cases mh:q=i
   ·subst mh;left;rw[cQ];simp
   ·rcases gW q o' hq (by omega)with hl|hl
    ·left;rw[cQ,hl];simp
    ·exact .inr hl
def Mid(G:List (Nat × DV))(c0:Cx)(d:Option Nat)(us:List Value)(ty:TypeId)(h:List af)(done:Bool)(a:Act)(c:Cx):Prop:=match done with
 |false=>Step c0 c
 |true=>∃ cA:Cx,aD G cA/\cA.heap=h/\Step c0 cA/\Step (cA.cH (.cells us.toArray ty)) c/\∀ t,d=some t->t<a.tmps.size->a.tmps[t]?=some (.pointer (some ⟨cA.w.heap.size,0,none⟩))
def vf(pl:List (Oper × AV))(m:Nat)(ox:Oper):List (Oper × AV):=pl.set m (ox,.any)
theorem T'{pl:List (Oper × AV)}{m i:Nat}{ox:Oper}(hi:i<=m)(s:List AV):cur (vf pl m ox) (fun k=>decide (k<i)) 0 s=cur pl (fun k=>decide (k<i)) 0 s:=by
 have gen:∀ (pl:List (Oper × AV)) (m j:Nat) (s:List AV),i<=j+m->cur (pl.set m (ox,.any)) (fun k=>decide (k<i)) j s=cur pl (fun k=>decide (k<i)) j s:=by
  intro pl
  induction pl with
  |nil=>intro m j s _;simp
  |cons p pl ih =>
   intro m j s hm;cases m with
   |zero =>
    obtain⟨o,v⟩:=p;have e:decide (j<i)=false:=decide_eq_false (by omega);simp only[List.set_cons_zero,cur,e,Bool.false_eq_true,if_false]
   |succ m =>
    obtain⟨o,v⟩:=p;simp only[List.set_cons_succ,cur];exact ih m (j+1) _ (by omega)
 exact gen pl m 0 s (by omega)
theorem Ua(hE:E.OK){m:Nat}(hc:zG ops m (m+1))(oP:m+1<=ops.size){ox:Oper}(oT:ops[m]?=some ox){ty:TypeId}(bX:ox.op=.alloc ty)(Cm:ox.guard=none){ti:bD}(cm:E.T[ty]?=some ti)(hz:ti.zero.length=ti.size)(cB:0<ti.size)
  {s0:List AV} {h:List af} {pl:List (Oper × AV)} {hp:Nat->List af} (hx:XP E ops m (m+1) s0 h pl hp) (Lx:pl[m]?=some (ox,.ptr h.length 0)) (Ub:hp (m+1)=h++[.cells (ti.zero.map .d)])
  {Q:Exit->Act->World->Prop} {Kf:List AV->List af->Prop} {c0:Cx} (fM:Kf (cur pl (fun k=>decide (k<pl.length)) 0 s0) (hp ops.size))
  (hQ:∀ (a:Act) (c:Cx) (s:List AV) (h:List af),Kf s h->aD E.G c->c.heap=h->a.defers=[]->VS c s a.tmps->Step c0 c->Q .normal a c.w) :
  ∃ us:List Value,∀ (f:Nat) (listed:Array Bool) (a:Act) (c:Cx),aD E.G c->c.heap=h->a.defers=[]->VS c (cur (vf pl m ox) (aT listed) 0 s0) a.tmps->Mid E.G c0 ox.dst us ty h (aT listed m) a c->DC ops listed ->
   (∀ i,m+1<=i->aT listed i=false)->eh (aT listed) ops.size<=f->wpAny E.P .any ops Q f listed a c.w:=by
 obtain⟨z,jP,ix⟩:=Ep (hE.types ty ti cm) hz cB;obtain⟨us,pB,-⟩:=ix c0;have jO:∀ c:Cx,VL c (ti.zero.map .d) us:=fun c=>by
  obtain⟨Uc,e,hv⟩:=ix c;rw[pB]at e;have:us=Uc:=by simpa using e
  rw[this];exact hv
 refine⟨us,?_⟩;obtain⟨hlen,dF⟩:=rn hx.F1;have Ly:(vf pl m ox)[m]?=some (ox,.any):=List.getElem?_set_self (by omega);have eV:∀ k,k≠m->(vf pl m ox)[k]?=pl[k]? := fun k hk=>List.getElem?_set_ne (Ne.symm hk);have LA:∀ k o v,(vf pl m ox)[k]?=some (o,v)->ops[k]?=some o:=fun k o v hk=>by
  by_cases F4:k=m
  ·subst F4;rw[Ly]at hk;cases hk;exact oT
  ·rw[eV k F4]at hk;exact dF k o v hk
 have fin:∀ (f:Nat) (listed:Array Bool) (a:Act) (c:Cx),aD E.G c->c.heap=h->a.defers=[]->VS c (cur (vf pl m ox) (aT listed) 0 s0) a.tmps->Mid E.G c0 ox.dst us ty h (aT listed m) a c->DC ops listed->(∀ i o,ops[i]?=some o->i<m+1->aT listed i=true\/(i<m/\jZ o=true))->(∀ i,m+1<=i->aT listed i=false)->eh (aT listed) ops.size<=f->wpAny E.P .any ops Q f listed a c.w:=by
  intro f listed a c h1 h2 h3 h4 h5 hd aW hs iR;have pS:aT listed m=true:=by
   rcases aW m ox oT (by omega)with hl|⟨hl,-⟩
   ·exact hl
   ·omega
  rw[pS]at h5;obtain⟨cA,k1,k2,k3,k4,k5⟩:=h5;obtain⟨q1,q2,q3,q4⟩:=T4 (z:=ti.zero.map .d) k1 k4 h1 (h2.trans k2.symm) (jO _);refine T5 hc (by omega) hx fM hQ f listed a (c.bare (.cells (ti.zero.map .d)) cA.w.heap.size cA.ak) (m+1) (Nat.le_refl _) oP q1 (by rw[Ub];simp[Cx.bare,h2]) h3 ?_ (k3.trans q2) hd aW hs iR;refine⟨by have:=h4.1;rw[mc]at this ⊢;exact this,fun t x v zI hv=>?_⟩;by_cases ev:ox.dst=some t
  ·have jw:t<a.tmps.size:=(Array.getElem?_eq_some_iff.1 hv).1;have Ud:∀ k o' v',pl[k]?=some (o',v')->o'.dst=some t->k<=m->(k=m\/aT listed k=true):=fun k o' v' hk fX F4=>by
    rcases Nat.lt_or_ge k m with ai|aG
    ·exact .inr (hd.dep (hc.pair k m o' ox ai (dF k o' v' hk) oT (sQ fX (List.mem_append_left _ (by simp[ev])))) pS)
    ·exact .inl (by omega)
   have e1:(cur pl (aT listed) 0 s0)[t]?=(cur pl (fun k=>decide (k<0+m+1)) 0 s0)[t]? := by
    refine rk _ _ _ 0 s0 s0 rfl rfl (fun k o' v' gu fX=>?_);rw[Nat.zero_add,Nat.zero_add];rcases Nat.lt_or_ge k (m+1)with ai|aG
    ·rcases Ud k o' v' gu fX (by omega)with rfl|hl
     ·rw[pS];simp
     ·rw[hl];simp[ai]
    ·rw[hs k aG];simp;omega
   rw[e1,Ch _ 0 m s0 ox _ Lx,ev]at zI;have Ue:t<(cur pl (fun k=>decide (k<0+m)) 0 s0).length:=by
    have:=aX zI
    simpa [bL]using this
   rw[bL,List.getElem?_set_self Ue]at zI;cases zI;rw[k5 t ev jw]at hv;cases hv;rw[<- k2];exact q4
  ·refine q3 x v (h4.2 t x v ?_ hv);rw[<- zI];have gen:∀ (q:List (Oper × AV)) (m' j:Nat) (s s':List AV),s.length=s'.length->s[t]?=s'[t]? -> (∀ o v,q[m']?=some (o,v)->o.dst≠some t)->(cur (q.set m' (ox,.any)) (aT listed) j s)[t]?=(cur q (aT listed) j s')[t]? := by
    intro q
    induction q with
    |nil=>intro m' j s s' _ hs _;exact hs
    |cons p q ih =>
     intro m' j s s' hl hs hq;obtain⟨po,pv⟩:=p;have lk:∀ (b:Bool) (r:List AV) (o:Oper) (v:AV),(if b then bL r o.dst v else r).length=r.length:=fun b r o v=>by cases b<;>cases o.dst<;>simp[bL]
     cases m' with
     |zero =>
      simp only[List.set_cons_zero,cur];refine rk _ _ _ _ _ _ (by rw[lk,lk,hl]) ?_ (fun _ _ _ _ _=>rfl);have:=hq po pv rfl;cases aT listed j<;>simp[FO this,FO ev,hs]
     |succ m' =>
      simp only[List.set_cons_succ,cur];refine ih m' (j+1) _ _ (by rw[lk,lk,hl]) ?_ (fun o v ho=>hq o v (by simpa using ho));cases aT listed j
      ·simpa using hs
      ·simp only[if_true];exact Li hl hs
   exact gen pl m 0 s0 s0 rfl rfl (fun o v ho=>by rw[Lx]at ho;cases ho;exact ev)
 intro f
 induction f with
 |zero =>
  intro listed a c h1 h2 h3 h4 h5 hd hs iR;exact fin 0 listed a c h1 h2 h3 h4 h5 hd (fun i o ho _ => .inl (zH iR (Array.getElem?_eq_some_iff.1 ho).1)) hs iR
 |succ f ih =>
  intro listed a c h1 h2 h3 h4 h5 hd hs iR;by_cases aW:∀ i o,ops[i]?=some o->i<m+1->aT listed i=true\/(i<m/\jZ o=true)
  ·exact fin (f+1) listed a c h1 h2 h3 h4 h5 hd aW hs iR
  ·have:∃ i o,ops[i]?=some o/\i<m+1/\aT listed i=false/\¬ (i<m/\jZ o=true):=by
    apply Classical.byContradiction;intro aH;apply aW;intro i o ho hi;cases hl:aT listed i with
    |true=>exact .inl rfl
    |false =>
     right;apply Classical.byContradiction;intro hf;exact aH ⟨i,o,ho,hi,hl,hf⟩
   obtain⟨i0,o0,Uf,fU,gX,Ug⟩:=this;refine⟨fun hr=>?_,fun i hi=>?_⟩
   ·obtain⟨i,-,hi⟩:=uZ hc.pO hd (by omega) gX;rw[hr]at hi;cases hi
   obtain⟨dC,dN⟩:=mX hd hi;have FR:i<m+1:=by
    rcases Nat.lt_or_ge i (m+1)with h|h
    ·exact h
    ·rcases hc.ba i0 i o0 ops[i] (by omega) h Uf (by simp[dN])with hf|kK
     ·exact absurd hf Ug
     ·have:=hd.ready hi kK;rw[gX]at this;cases this
   have bS:i<listed.size:=by rw[hd.1];exact dN
   have cQ:=fun q=>sO (i:=q) bS;have mg:eh (aT (listed.setIfInBounds i true)) ops.size<=f:=by
    have:=(va (L:=aT listed) (L':=aT (listed.setIfInBounds i true)) (j:=i) (fun q hq=>by rw[cQ];simp[hq]) dC (by rw[cQ];simp) ops.size).1 dN;omega
   have Cd:∀ q,m+1<=q->aT (listed.setIfInBounds i true) q=false:=fun q hq=>by rw[cQ,hs q hq];simp;omega
   rcases Nat.lt_or_ge i m with ai|aG
   ·obtain⟨⟨o,v⟩,dj⟩:∃ p,pl[i]?=some p:=⟨pl[i]'(by omega),by rw[List.getElem?_eq_getElem]⟩;have dZ:=dF i o v dj;have Uh:(vf pl m ox)[i]?=some (o,v):=by rw[eV i (by omega)];exact dj
    obtain⟨lG,kJ⟩:=xd hc.pair LA hd hi Uh h4;rw[T' (by omega)]at kJ;have mZ:∀ u:Value,(a.put o.dst u).defers=[]:=fun u=>by cases iB:o.dst<;>simp[Act.put,h3]
    have rl:dz E ops o (cur pl (fun k=>decide (k<i)) 0 s0) h v:=by
     cases gq:jZ o with
     |true=>exact hx.mf i o v ai dj gq h
     |false=>exact hx.pre i o v ai dj gq
    refine rl c a h1 h2 h3 kJ i dZ _ _ (fun c' u k1 k2 k3 k4=>?_);refine ih _ _ c' k1 k2 (mZ u) (lG c' u (fun _ _=>k3.vr) k4) ?_ (hd.set hi) Cd mg;have F5:aT (listed.setIfInBounds i true) m=aT listed m:=by rw[cQ];simp;omega
    rw[F5];cases F6:aT listed m with
    |false=>rw[F6]at h5;exact Step.trans h5 k3
    |true =>
     rw[F6]at h5;obtain⟨cA,p1,p2,p3,p4,p5⟩:=h5;refine⟨cA,p1,p2,p3,p4.trans k3,fun t ht jw=>?_⟩;have aH:o.dst≠some t:=fun e=>by
      have:=hd.dep (hc.pair i m o ox ai dZ oT (sQ e (List.mem_append_left _ (by simp[ht])))) F6;rw[dC]at this;cases this
     cases iB:o.dst with
     |none=>rw[iB]at jw;simp only[Act.put]at jw ⊢;exact p5 t ht jw
     |some d =>
      have F7:d≠t:=fun e=>aH (by rw[iB,e]);rw[iB]at jw;simp only[Act.put,Array.size_setIfInBounds]at jw;simp only[Act.put,Array.getElem?_setIfInBounds_ne F7];exact p5 t ht jw
   ·obtain rfl:i=m:=by omega
    obtain⟨lG,-⟩:=xd hc.pair LA hd hi Ly h4;rw[dC]at h5;have h5:Step c0 c:=h5;have cV:(execOp a.eval ox).run E.P c.w=.ok (.value (.pointer (some ⟨c.w.heap.size,0,none⟩))) (c.w.alloc (.cells us.toArray ty)):=by
     simp only[execOp,bX,Instr.alloc,newVar,newRow,newObj,Sem.run_bind,Sem.run,Result.andThen_ok,Sem.run_pure,jP,pB];rfl
    unfold wpOp;have Ui:Region.wanted ox (yielded ops a.tmps)=true:=by simp[Region.wanted,Cm]
    simp only[oT,Ui,if_true];left;unfold Oper.wp;rw[cV];refine ih _ _ (c.cH (.cells us.toArray ty)) h1.cH h2 (by cases iB:ox.dst<;>simp[Act.put,h3]) (lG _ _ (fun _ _=>sT) (.any _)) ?_ (hd.set hi) Cd mg;have F5:aT (listed.setIfInBounds i true) i=true:=by rw[cQ];simp
    rw[F5];refine⟨c,h1,h2,h5,Step.refl _ h1.cH.bE,fun t ht jw=>?_⟩;rw[ht]at jw ⊢;simp only[Act.put,Array.size_setIfInBounds]at jw;simp only[Act.put];exact Array.getElem?_setIfInBounds_self_of_lt jw
end
end Go.aA
end
section
namespace Go.aA
open Go Go.RowKit
def LB(ops:Array Oper)(m M:Nat):Bool :=
 let bs:=bits ops.toList []
 (List.range ops.size).all fun j=>match ops[j]? with
  |none=>true
  |some oj=>(oj.after.toList.all fun e => !Region.binds .any e||decide (e.on<j))&&(List.range j).all fun i=>match ops[i]? with
   |none=>true
   |some oi=>(bs.getD j 0).testBit i||(!jv ops oi oj&&(decide (j<M)||(decide (i<m)&&jZ oi)))
theorem Uj{ops:Array Oper}{m M:Nat}(h:LB ops m M=true):zG ops m M:=by
 have hb:=zD ops ops.toList [] rfl (fun j i h=>by simp at h);have aW:∀ j oj,ops[j]?=some oj->(oj.after.toList.all fun e => !Region.binds .any e||decide (e.on<j))=true/\∀ i oi,i<j->ops[i]?=some oi->((bits ops.toList []).getD j 0).testBit i=true\/(jv ops oi oj=false/\(j<M\/(i<m/\jZ oi=true))):=fun j oj hj=>by
  have ai:j<ops.size:=(Array.getElem?_eq_some_iff.1 hj).1;have h1:=List.all_eq_true.1 h j (List.mem_range.2 ai);simp only[hj,Bool.and_eq_true]at h1;refine⟨h1.1,fun i oi hi dZ=>?_⟩;have h2:=List.all_eq_true.1 h1.2 i (List.mem_range.2 hi);simp only[dZ,Bool.or_eq_true,Bool.and_eq_true,decide_eq_true_eq,Bool.not_eq_true']at h2;exact h2
 refine⟨fun j o e hj he ie=>?_,fun i j oi oj dq hi hj hc=>?_,fun i j oi oj dq hm hi hj=>?_⟩
 ·have:=List.all_eq_true.1 (aW j o hj).1 e (by simpa using he)
  simpa [ie]using this
 ·rcases(aW j oj hj).2 i oi dq hi with h|⟨h,-⟩
  ·exact hb j i h
  ·rw[hc]at h;cases h
 ·rcases(aW j oj hj).2 i oi dq hi with h|⟨-,h|h⟩
  ·exact .inr (hb j i h)
  ·omega
  ·exact .inl h
theorem F8:∀ (a b:List (Oper × AV)) (L:Nat->Bool) (i:Nat) (s:List AV),cur (a++b) L i s=cur b L (i+a.length) (cur a L i s)
 |[],b,L,i,s=>rfl
 |(o,v)::a,b,L,i,s=>by
  rw[List.cons_append,cur,cur,F8 a b L (i+1),List.length_cons,show i+1+a.length=i+(a.length+1) by omega]
theorem LC:∀ (a:List (Oper × AV)) (L L':Nat->Bool) (i:Nat) (s:List AV),(∀ k,k<a.length->L (i+k)=L' (i+k))->cur a L i s=cur a L' i s
 |[],_,_,_,_,_=>rfl
 |(o,v)::a,L,L',i,s,h=>by
  have h0:=h 0 (by simp);rw[Nat.add_zero]at h0;rw[cur,cur,h0];exact LC a L L' (i+1) _ (fun k hk=>by have:=h (k+1) (by simpa using hk);rwa [show i+(k+1)=i+1+k by omega]at this)
theorem xe(d:Nat):∀ (a:List (Oper × AV)) (L:Nat->Bool) (i:Nat) (s:List AV),cur a L (i+d) s=cur a (fun k=>L (k+d)) i s
 |[],_,_,_=>rfl
 |(o,v)::a,L,i,s=>by
  rw[cur,cur,show i+d+1=i+1+d by omega,xe d a L (i+1)]
section
variable {E:Env} {ops:Array Oper}
theorem gE.lay{K:List AV->List af->Prop}:∀ {l:List Oper} {s:List AV} {h:List af},gE E ops K l s h->∃ (pl:List (Oper × AV)) (hs:Nat->List af),pl.map (·.1)=l/\hs 0=h/\K (cur pl (fun k=>decide (k<pl.length)) 0 s) (hs pl.length) /\
  ∀ (j:Nat) (o:Oper) (v:AV),pl[j]?=some (o,v)->dm E ops o (cur pl (fun k=>decide (k<j)) 0 s) (hs j) v (hs (j+1))/\pP E o (hs j) v (hs (j+1))
 |[],s,h,H=>⟨[],fun _=>h,rfl,rfl,H,fun j o v hj=>by simp at hj⟩
 |o::l,s,h,H=>by
  obtain⟨v,h',h1,gw,H⟩:=H;obtain⟨pl,hs,k1,k2,k3,k4⟩:=gE.lay H;have shift:∀ (n:Nat) (s:List AV),cur pl (fun k=>decide (k<n+1)) (0+1) s=cur pl (fun k=>decide (k<n)) 0 s:=fun n s=>by
   rw[xe 1]
   congr 1
   funext k;simp
  refine⟨(o,v)::pl,fun n=>match n with|0=>h|n+1=>hs n,by simp[k1],rfl,?_,fun j o' v' hj=>?_⟩
  ·rw[cur];simp only[List.length_cons,Nat.zero_lt_succ,decide_true,if_true];rw[shift];exact k3
  ·cases j with
   |zero =>
    simp at hj;obtain⟨rfl,rfl⟩:=hj;rw[jY _ _ _ _ (fun k _=>decide_eq_false (by omega))];simp only[k2];exact⟨h1,gw⟩
   |succ j =>
    have:=k4 j o' v' (by simpa using hj);rw[cur];simp only[Nat.zero_lt_succ,decide_true,if_true];rw[shift];exact this
theorem Uk{m M:Nat}(T6:m<=M){s:List AV}{h:List af}{K:List AV->List af->Prop}(hm:m<=ops.size)(H:kI E ops h (fun s'=>gE E ops K (ops.toList.drop m) s' h) (ops.toList.take m) s) :
  ∃ (pl:List (Oper × AV)) (hp:Nat->List af),XP E ops m M s h pl hp/\hp m=h/\K (cur pl (fun k=>decide (k<pl.length)) 0 s) (hp ops.size)/\∀ (o:Oper) (v:AV),pl[m]?=some (o,v)->pP E o h v (hp (m+1)):=by
 obtain⟨p1,a1,H2,a3⟩:=kI.lay H;obtain⟨p2,hs,b1,b2,b3,b4⟩:=gE.lay H2;have gh:p1.length=m:=by
  have:=congrArg List.length a1;simp at this;omega
 have se:p2.length=ops.size-m:=by
  have:=congrArg List.length b1
  simpa using this
 have low:∀ j,j<=m->cur (p1++p2) (fun k=>decide (k<j)) 0 s=cur p1 (fun k=>decide (k<j)) 0 s:=fun j hj=>by
  rw[F8,jY p2 _ _ _ (fun k _=>decide_eq_false (by omega))]
 have high:∀ j,cur (p1++p2) (fun k=>decide (k<m+j)) 0 s=cur p2 (fun k=>decide (k<j)) 0 (cur p1 (fun k=>decide (k<p1.length)) 0 s):=fun j=>by
  rw[F8,xe,gh];have e1:(fun k=>decide (k+m<m+j))=(fun k=>decide (k<j)):=by funext k;simp;omega
  rw[e1]
  congr 1
  refine LC p1 _ _ 0 s (fun k hk=>?_);have e2:0+k<m:=by omega
  have e3:0+k<m+j:=by omega
  simp only[e2,e3]
 have LD:∀ j,j<m->(p1++p2)[j]?=p1[j]? := fun j hj=>List.getElem?_append_left (by omega);have LF:∀ j,(p1++p2)[m+j]?=p2[j]? := fun j=>by rw[List.getElem?_append_right (by omega),gh,Nat.add_sub_cancel_left]
 refine⟨p1++p2,fun j=>hs (j-m),⟨?_,?_,?_,?_⟩,by simp[b2],?_,?_⟩
 ·rw[List.map_append,a1,b1,List.take_append_drop]
 ·intro j o v hj dj gq h';rw[LD j hj]at dj;rw[low j (by omega)];exact(a3 j o v dj).2 gq h'
 ·intro j o v hj dj _;rw[LD j hj]at dj;rw[low j (by omega)];exact(a3 j o v dj).1
 ·intro j o v hj dj;obtain⟨i,rfl⟩:∃ i,j=m+i:=⟨j-m,by omega⟩;rw[LF]at dj;have:=(b4 i o v dj).1;rw[high];simp only[Nat.add_sub_cancel_left,show m+i+1-m=i+1 by omega];exact this
 ·have e:(p1++p2).length=m+p2.length:=by rw[List.length_append,gh]
  rw[e,high];show K _ (hs (ops.size-m));rw[show ops.size-m=p2.length from se.symm];exact b3
 ·intro o v dj;have:=LF 0;rw[Nat.add_zero]at this;rw[this]at dj;have:=(b4 0 o v dj).2;rw[b2]at this
  simpa using this
variable {ae:FuncId} {R:bZ} {s:List AV} {h:List af}
theorem AW.zJ{id:Nat}{k:List aK}(hm:E.P.follows .mixedOrders=true)(dJ:R.fx.cG=none)(dH:R.fx.aL=[])
  (H:∀ (c:Cx) (t:Array Value) (Q:Exit->Act->World->Prop),(∀ (a:Act) (c':Cx) (s':List AV) (h':List af),AW E R.fx.f0 ⟨⟨ae,R.fx.cG,R.fx.aL⟩,k,s'⟩ R.fx.cls h' R->aD E.G c'->c'.heap=h'->a.defers=[]->VS c' s' a.tmps->Step c c'->Q .normal a c'.w)->aD E.G c->c.heap=h->VS c s t->wpAny E.P .any ops Q ops.size (Array.replicate ops.size false) ⟨t,[]⟩ c.w) :
  AW E R.fx.f0 ⟨⟨ae,R.fx.cG,R.fx.aL⟩,.code (.region id ops true)::k,s⟩ R.fx.cls h R:=by
 have e:(⟨ae,R.fx.cG,R.fx.aL⟩:iG)=⟨ae,none,[]⟩:=by rw[dJ,dH]
 simp only[e]at H ⊢;unfold AW;intro c0 c t ts h0 h1 h2 h3 hr cb h4 h5 cs;have hx:Proofs.YtcmnpelmmekdkaaGreatDoor.Ext c.w { c.w with drawn:=c.w.drawn+1 }:=⟨rfl,rfl,rfl,Nat.le_refl _,fun _ _=>rfl⟩;obtain⟨g1,g2⟩:=h3.grow hx;have FU:(Code.region id ops true).wp E.P (fun e a w=>e=.normal/\∃ (c':Cx) (s':List AV) (h':List af),AW E R.fx.f0 ⟨⟨ae,none,[]⟩,k,s'⟩ R.fx.cls h' R/\aD E.G c'/\c'.heap=h'/\a.defers=[]/\VS c' s' a.tmps/\Step c c'/\w=c'.w) ⟨t,[]⟩ c.w:=by
  refine wp_region_any hm ?_;exact H (c.dG { c.w with drawn:=c.w.drawn+1 }) t _ (fun a c' s' h' hK r1 r2 r3 r4 r5=>⟨rfl,c',s',h',hK,r1,r2,r3,r4,g2.trans r5,rfl⟩) g1 h2 (g2.vs h4)
 obtain⟨e,a',w',⟨rfl,c',s',h',hA,r1,r2,r3,r4,r5,rfl⟩,FV⟩:=FU (bf ⟨ae,none,[]⟩) (k.map aK.bQ) (fq R.fx.cls ts++cs);unfold AW at hA;obtain⟨c2,fr,r,v,q1,q2,q3,uq,q4,q5,q6⟩:=hA c0 c' a'.tmps ts h0 (dY h1) r2 r1 (hr.step r5) (cb.step h3 r5) r4 (r5.cr h5) cs;refine⟨c2,fr,r,v,q1,q2,q3,uq,?_,q5,q6⟩;have zg:a'=⟨a'.tmps,[]⟩:=by cases a';simp only at r3;subst r3;rfl
 have:Steps E.P (lone ((bf ⟨ae,none,[]⟩).at ⟨t,[]⟩ (.code (.region id ops true)::k.map aK.bQ)) (fq R.fx.cls ts++cs) c.w) (lone ((bf ⟨ae,none,[]⟩).at a' (k.map aK.bQ)) (fq R.fx.cls ts++cs) c'.w):=FV;rw[zg]at this;exact this.trans q4
theorem kL(n i:Nat):aT (Array.replicate n false) i=false:=by
 unfold aT;simp[Array.getElem?_replicate];split<;>rfl
theorem Cn(n:Nat):∀ k,eh (aT (Array.replicate n false)) k<=k:=by
 intro k
 induction k with
 |zero=>exact Nat.le_refl _
 |succ k ih=>simp only[eh];split<;>omega
variable {k:List aK} {lits:List Nat}
theorem Ul{l:List Oper}{s:List AV}{h:List af}(H:gE E ops (fun s2 h2=>aa E ae R [] k s2 h2) l s h):gE E ops (fun s2 h2=>AW E R.fx.f0 ⟨⟨ae,R.fx.cG,R.fx.aL⟩,k,s2⟩ R.fx.cls h2 R) l s h:=by
 induction l generalizing s h with
 |nil=>exact aa.to H
 |cons o l ih=>obtain⟨v,h',h1,gw,h2⟩:=H;exact⟨v,h',h1,gw,ih h2⟩
theorem Um{ba l:List Oper}{s:List AV}{h:List af}(H:kI E ops h (fun s'=>gE E ops (fun s2 h2=>aa E ae R [] k s2 h2) ba s' h) l s):kI E ops h (fun s'=>gE E ops (fun s2 h2=>AW E R.fx.f0 ⟨⟨ae,R.fx.cG,R.fx.aL⟩,k,s2⟩ R.fx.cls h2 R) ba s' h) l s:=by
 induction l generalizing s with
 |nil=>exact Ul H
 |cons o l ih=>obtain⟨v,h1,gw,h2⟩:=H;exact⟨v,h1,gw,ih h2⟩
def LG(o:Oper):Bool:=match o.op,o.guard with
 | .alloc _,none=>true
 |_,_=>false
theorem aa.Un(hE:E.OK)(hm:E.P.follows .mixedOrders=true)(m n:Nat){id:Nat}(ka:(LB ops m (m+1)&&Nat.ble (m+1) ops.size&&(match ops[m]? with|some o=>LG o|none=>false))=true)(H:si m ops.toList fun pre=>qC m ops.toList fun ba=>me E ae R ops k n [] pre ba s h)(dJ:R.fx.cG=none:=by rfl)(dH:R.fx.aL=[]:=by rfl):aa E ae R lits (.code (.region id ops true)::k) s h:=by
 rw[Bl,yp]at H;rw[Bool.and_eq_true,Bool.and_eq_true]at ka;obtain⟨⟨jR,Co⟩,vg⟩:=ka;have oP:=Nat.le_of_ble_eq_true Co;cases oT:ops[m]? with
 |none=>rw[oT]at vg;cases vg
 |some ox =>
  rw[oT]at vg;obtain⟨ty,bX,Cm⟩:∃ ty,ox.op=.alloc ty/\ox.guard=none:=by
   have vg:LG ox=true:=vg;clear oT;obtain⟨dst,op,type,pos,after,guard⟩:=ox;cases op<;>first|(cases guard<;>first|exact⟨_,rfl,rfl⟩|cases vg)|cases vg
  obtain⟨pl,hp,x1,x2,x3,x4⟩:=Uk (M:=m+1) (by omega) (by omega) (Um (FW hE n [] _ _ s h H));obtain⟨hlen,dF⟩:=rn x1.F1;obtain⟨⟨o,v⟩,dj⟩:∃ p,pl[m]?=some p:=⟨pl[m]'(by omega),by rw[List.getElem?_eq_getElem]⟩;have LH:=dF m o v dj;rw[oT]at LH;cases LH;obtain⟨rfl,ti,t1,t2,t3,hh⟩:=x4 ox v dj ty bX Cm;refine .of (AW.zJ hm dJ dH fun c t Q hQ h1 h2 h4=>?_);obtain⟨us,aN⟩:=Ua hE (Uj jR) oP oT bX Cm t1 t2 t3 x1 dj hh (Kf:=fun s2 h2=>AW E R.fx.f0 ⟨⟨ae,R.fx.cG,R.fx.aL⟩,k,s2⟩ R.fx.cls h2 R) (c0:=c) (Q:=Q) x3 hQ;refine aN ops.size _ ⟨t,[]⟩ c h1 h2 rfl ?_ (by rw[kL];exact Step.refl c h1.bE) ⟨by simp,fun j o e _ hl=>by rw[kL]at hl;cases hl⟩ (fun i _=>kL _ i) (Cn _ _);rw[jY _ 0 s _ (fun i _=>kL _ _)];exact h4
end
end Go.aA
end
section
namespace Go.aA
open Go Go.RowKit
section
variable {E:Env} {s:List AV} {h:List af} {c:Cx} {G:List (Nat × DV)}
theorem LI(hE:E.OK){t e len:Nat}{i ei:bD}(hi:E.T[t]?=some i)(cd:E.T[e]?=some ei)(hk:i.k=.slice e){parts:Array (Nat × Operand)}{ps:List (Nat × AV)}(eM:yD E.G s parts.toList ps)
  (hz:ei.zero.length=ei.size) (cB:0<ei.size) (hlen:0<len) (Bx:len*ei.size<=16777216) {z:DV} (tZ:z.cells=ei.zero) (gN:∀ y∈ei.zero,y.fm=true) {stop:Prop} {k:List DV->Prop} (H:ow ei.size ps (List.replicate len z) stop k) :
  stop\/∃ l,k l/\aQ E (.buildSlice t len parts) s h (.own h.length 0) (h++[.arr 0 (e,ei.size) l]):=by
 have dM:gP ei.size (List.replicate len z):=fun j e' h'=>by
  rw[List.getElem?_replicate]at h';split at h'
  ·cases h';rw[tZ,hz]
  ·cases h'
 have mP:pC (List.replicate len z):=fun j e' h'=>by
  rw[List.getElem?_replicate]at h';split at h'
  ·cases h';rw[tZ];exact gN
  ·cases h'
 rcases Ez dM mP H with h'|⟨l,h1,h2,iF,h3,h4⟩
 ·exact .inl h'
 refine .inr ⟨l,h1,fun o c ac e1 e2 e3 e4=>?_⟩;subst e2;obtain⟨ti,zv,g1,g2,g3,g4⟩:=zeroOf (hE.types e ei cd) hz cB;obtain⟨zs,yF,fT⟩:=g4 c;obtain⟨p1,p2⟩:=eM c ac e3 e4;have l4:zs.length=ei.size:=by rw[<- fT.1];simpa using hz
 have yG:VL c ((flat (List.replicate len z)).map .d) ((Array.range (len*ti.size)).map (zv.cells[· % zv.cells.size]!)).toList:=by
  refine .tW (by rw[lg dM];simp[g3]) (fun j x v hx hv=>?_);have hj:j<len*ei.size:=by
   have:=lg dM;rw[List.length_replicate]at this;rw[<- this];rcases Nat.lt_or_ge j (flat (List.replicate len z)).length with h|h
   ·exact h
   ·rw[List.getElem?_eq_none h]at hx;cases hx
  have hd:j / ei.size<len:=Nat.div_lt_of_lt_mul (by rw[Nat.mul_comm];exact hj);have hm:j % ei.size<ei.size:=Nat.mod_lt _ cB;have h5:=flat_get dM (i:=j / ei.size) (j:=j % ei.size) (e:=z) (by simp[hd]) hm;rw[Nat.mul_comm,Nat.div_add_mod,hx,tZ]at h5;have iv:v=zs[j % ei.size]'(by omega):=by
   have dI:j<len*ti.size:=by rw[<- g3];exact hj
   simp[dI,yF,l4]at hv;rw[<- hv];simp[l4,hm]
  rw[iv];exact fT.pA (j % ei.size) x _ h5.symm (by simp[l4,hm])
 obtain⟨cR,f1,f2⟩:=h4 c _ _ yG p2;obtain⟨yH,d,q1,q2,q3,-⟩:=cO (hE.types t i hi);obtain rfl:=lZ (hk.symm.trans q3);have eq:(parts.map fun(i,x)=>(i,ac.eval x)).toList=(ps.map (·.1)).zip (parts.toList.map fun p=>ac.eval p.2):=by
  rw[p1,Array.toList_map];generalize parts.toList=q
  induction q with
  |nil=>rfl
  |cons a q ih=>simp only[List.map_cons,List.zip_cons_cons,ih]
 have yI:Instr.fill (fun i=>some (i*ti.size,ti.size)) ((Array.range (len*ti.size)).map (zv.cells[· % zv.cells.size]!)) (parts.map fun(i,x)=>(i,ac.eval x)).toList=some cR.toArray:=by
  rw[eq,<- f1,g3]
 have cV:=run_buildSlice (P:=E.P) c.w t e len (parts.map fun(i,x)=>(i,ac.eval x)) cR.toArray ti zv q2 g1 g2 (by rw[<- g3];omega) (by rw[<- g3];have:=Nat.mul_pos hlen cB;omega) yI;have uc:l.length=len:=by rw[h3];simp
 obtain⟨k1,k2⟩:=e3.add (.arr 0 (e,ei.size) l) len (.cells cR.toArray e);have bI:(c.add (.arr 0 (e,ei.size) l) len (.cells cR.toArray e)).own c.heap.length=some (c.w.heap.size,len):=by simp[Cx.add]
 have kB:(c.add (.arr 0 (e,ei.size) l) len (.cells cR.toArray e)).heap[c.heap.length]?=some (.arr 0 (e,ei.size) l):=by simp[Cx.add]
 have bS:cR.length=len*ei.size:=by
  have:=f2.1;simp only[List.length_map]at this;rw[<- this,lg h2,uc]
 have dT:jo (c.add (.arr 0 (e,ei.size) l) len (.cells cR.toArray e)) c.heap.length (.arr 0 (e,ei.size) l):=by
  refine⟨cB,h2,.inr ⟨c.w.heap.size,len,cR.toArray,bI,heap_alloc_new _ _,by simpa using bS,by omega,by unfold maxLen;have:=Nat.le_mul_of_pos_right len cB;omega,fun i j e' x he hx=>?_⟩⟩;have hj:j<ei.size:=by
   have:=aX hx;rw[h2 i e' he]at this;exact this
  have hf:=flat_get h2 he hj;rw[hx]at hf;have ai:i*ei.size+j<cR.length:=by
   have:=f2.1;simp only[List.length_map]at this;rw[<- this];exact aX hf
  refine⟨cR[i*ei.size+j],by simp[ai],yw (f2.pA _ x _ hf (by simp[ai])) (iF i e' he x (List.mem_of_getElem? hx)),k1.vd (f2.pA _ x _ hf (by simp[ai]))⟩
 refine⟨_,.slice (some ⟨c.w.heap.size,0,none⟩) len len,.inl (by simp only[execOp,e1,Sem.run_bind,cV,Result.andThen_ok,Sem.run_pure];rfl),rfl,k2 dT,?_,k1⟩;have:=VR.own (c:=c.add (.arr 0 (e,ei.size) l) len (.cells cR.toArray e)) c.heap.length 0 (e,ei.size) l c.w.heap.size len kB bI;rw[uc]at this;exact this
def F'(E:Env)(o:Op)(s:List AV)(h:List af)(stop:Prop)(k:AV->List af->Prop):Prop :=
 match o with
 | .buildSlice t len parts=>aZ E.T t stop fun i=>match i.k with
  | .slice e=>aZ E.T e stop fun ei=>match Nat.beq ei.zero.length ei.size,Nat.blt 0 ei.size,Nat.blt 0 len,Nat.ble (len*ei.size) 16777216,ei.zero.all DV.fm with
   |true,true,true,true,true=>tU E.G s parts.toList stop fun ps =>
    match ei.zero with
    |[z]=>tT len z fun zs=>ow ei.size ps zs stop fun l=>lY h (.arr 0 (e,ei.size) l) 0 fun h' n=>k (.own n 0) h'
    |zl=>tT len (.agg zl) fun zs=>ow ei.size ps zs stop fun l=>lY h (.arr 0 (e,ei.size) l) 0 fun h' n=>k (.own n 0) h'
   |_,_,_,_,_=>stop
  |_=>stop
 |_=>stop
theorem Uo(hE:E.OK){o:Op}{stop:Prop}{k:AV->List af->Prop}(H:F' E o s h stop k):stop\/∃ v h',k v h'/\aQ E o s h v h':=by
 unfold F' at H;split at H
 ·rcases bl H with h|⟨i,hi,H⟩
  ·exact .inl h
  split at H
  ·rename_i e hk;rcases bl H with h|⟨ei,cd,H⟩
   ·exact .inl h
   split at H
   ·rename_i q1 q2 q3 q4 q5;rcases yE H with h|⟨ps,eM,H⟩
    ·exact .inl h
    simp only[nD,Nat.zero_add]at H;split at H
    ·rename_i z jP;rw[Bw]at H;have gN:z.fm=true:=by rw[jP]at q5;simpa using q5
     rcases LI hE hi cd hk eM (Nat.eq_of_beq_eq_true q1) (iz q2) (iz q3) (Nat.le_of_ble_eq_true q4) (z:=z) (by rw[jP];cases z<;>first|rfl|cases gN) (fun y hy=>List.all_eq_true.1 q5 y hy) H with h|⟨l,H,hl⟩
     ·exact .inl h
     exact .inr ⟨_,_,H,hl⟩
    ·rw[Bw]at H;rcases LI hE hi cd hk eM (Nat.eq_of_beq_eq_true q1) (iz q2) (iz q3) (Nat.le_of_ble_eq_true q4) (z := .agg ei.zero) rfl (fun y hy=>List.all_eq_true.1 q5 y hy) H with h|⟨l,H,hl⟩
     ·exact .inl h
     exact .inr ⟨_,_,H,hl⟩
   ·exact .inl H
  ·exact .inl H
 ·exact .inl H
theorem aa.kM(hE:E.OK){ae:FuncId}{R:bZ}{lits:List Nat}{ops:Array Oper}{o:Oper}{l:List Oper}{r:List aK}(hg:o.guard=none)
  (H:F' E o.op s h False fun v h'=>bK s o.dst v fun s'=>aa E ae R lits (.bF ops l::r) s' h'):aa E ae R lits (.bF ops (o::l)::r) s h:=by
 rcases Uo hE H with h|⟨v,h',H,ho⟩
 ·exact h.elim
 ·rw[df]at H;exact .of (.op (eC hg) ho H.to)
end
mutual
def norm:DV->DV
 | .a7 => .sl []
 | .agg c => .agg (sU c)
 | .aJ c => .aJ (sU c)
 |x=>x
def sU:List DV->List DV
 |[]=>[]
 |x::l=>norm x::sU l
end
theorem Ga:∀ (l:List DV),sU l=l.map norm
 |[]=>rfl
 |x::l=>by rw[sU,Ga l];rfl
theorem Up{bad:Nat->Prop}{w:World}{x:DV}{v:Value}(h:VD bad w x v):VD bad w (norm x) v:=by
 induction h with
 |a7=>exact .slnil
 |agg c vs hlen bW ih =>
  rw[norm,Ga];refine .agg _ _ (by simpa using hlen) fun j y v hy hv=>?_;rw[List.getElem?_map]at hy;cases hc:c[j]? with
  |none=>rw[hc]at hy;cases hy
  |some z=>rw[hc]at hy;cases hy;exact ih j z v hc hv
 |aJ c vs hlen bW ih =>
  rw[norm,Ga];refine .aJ _ _ (by simpa using hlen) fun j y v hy hv=>?_;rw[List.getElem?_map]at hy;cases hc:c[j]? with
  |none=>rw[hc]at hy;cases hy
  |some z=>rw[hc]at hy;cases hy;exact ih j z v hc hv
 |undef=>exact .undef
 |bool b=>exact .bool b
 |int k n=>exact .int k n
 |str l=>exact .str l
 |slnil=>exact .slnil
 |kZ a=>exact .kZ a
 |sl l blk off cap sz f hb bS jm hlen dP bW cj ih=>exact .sl l blk off cap sz f hb bS jm hlen dP bW cj
 |eB=>exact .eB
 |aF=>exact .aF
 |iu=>exact .iu
 |mH=>exact .mH
 |fn f=>exact .fn f
 |raw v h=>exact .raw v h
theorem au.norm{E:Env}{f:FuncId}{args:List DV}{y:DV}(H:au E f args (fun r=>aA.norm r=y)):au E f args (· = y):=by
 unfold au at H ⊢;exact⟨H.1,fun ak w vs h1 h2 h3=>(H.2 ak w vs h1 h2 h3).mono fun e w' ⟨v,r,k1,k2,k3,k4⟩=>⟨v,y,k1,rfl,k2 ▸ Up k3,k4⟩⟩
end Go.aA
end
section
namespace Go.aA
open Go Go.RowKit
inductive OT where
 |leaf
 |alt (i:Nat) (t r:OT)
def OT.vh:OT->List Nat
 | .leaf=>[]
 | .alt i _ r=>i::r.vh
def OT.depth:OT->Nat
 | .leaf=>0
 | .alt _ t r=>max (t.depth+1) r.depth
def vi(ops:Array Oper):Array Bool->OT->Bool
 |_,.leaf=>true
 |listed,.alt i t r=>(Region.ready .any ops (listed.setIfInBounds i true)==t.vh)&&vi ops (listed.setIfInBounds i true) t&&vi ops listed r
section
variable {E:Env} {ops:Array Oper} {K:List AV->List af->Prop}
def rp(E:Env)(ops:Array Oper)(K:List AV->List af->Prop):OT->List AV->List af->Prop
 | .leaf,_,_=>True
 | .alt i t r,s,h=>(∃ o v h',ops[i]?=some o/\dm E ops o s h v h'/\(t=.leaf->K (bL s o.dst v) h')/\rp E ops K t (bL s o.dst v) h')/\rp E ops K r s h
@[irreducible] def ik (E : Env) (ops : Array Oper) (K : List AV -> List af -> Prop) (t : OT) (s : List AV) (h : List af) : Prop := (t = .leaf -> K s h) /\ rp E ops K t s h
theorem ik.leaf{s:List AV}{h:List af}(H:K s h):ik E ops K .leaf s h:=by unfold ik;exact⟨fun _=>H,trivial⟩
theorem ik.fst{s0:List AV}{h0:List af}{q:List AV × List af}:ik E ops (fun s h=>(s,h)∈[(s0,h0),q]) .leaf s0 h0:=ik.leaf (List.Mem.head _)
theorem ik.snd{s0:List AV}{h0:List af}{p:List AV × List af}:ik E ops (fun s h=>(s,h)∈[p,(s0,h0)]) .leaf s0 h0:=ik.leaf (List.Mem.tail _ (List.Mem.head _))
theorem ik.to{t:OT}{s:List AV}{h:List af}(H:ik E ops K t s h):(t=.leaf->K s h)/\rp E ops K t s h:=by unfold ik at H;exact H
def Gb(E:Env)(ops:Array Oper)(K:List AV->List af->Prop):OT->List AV->List af->Prop
 | .leaf,_,_=>True
 | .alt i t r,s,h=>(aZ ops.toList i False fun o=>match o.guard with
   |none=>sS (ca ops o) 0 s fun so=>fo E.T E.G o.op so h (oI E o.op so h (gy E o.op so h False fun v h'=>bK s o.dst v fun s'=>ik E ops K t s' h') fun v h'=>bK s o.dst v fun s'=>ik E ops K t s' h') fun v h'=>bK s o.dst v fun s'=>ik E ops K t s' h'
   |some _=>False)/\Gb E ops K r s h
theorem LJ(hE:E.OK):∀ (t:OT) {s:List AV} {h:List af},Gb E ops K t s h->rp E ops K t s h
 | .leaf,_,_,_=>trivial
 | .alt i t r,s,h,H=>by
  obtain⟨H,hr⟩:=H;refine⟨?_,LJ hE r hr⟩;rcases bl H with H|⟨o,ho,H⟩
  ·exact H.elim
  split at H
  ·rename_i hg;rw[zE]at H;have key:∀ v h',(bK s o.dst v fun s'=>ik E ops K t s' h')->aQ E o.op (bY (ca ops o) 0 s) h v h'->∃ o v h',ops[i]?=some o/\dm E ops o s h v h'/\(t=.leaf->K (bL s o.dst v) h')/\rp E ops K t (bL s o.dst v) h':=fun v h' H aN=>by
    rw[df]at H;exact⟨o,v,h',by simpa using ho,dm.of (eC hg) aN,H.to.1,H.to.2⟩
   rcases ud hE H with H|⟨v,h',H,aN⟩
   ·rcases yZ hE H with H|⟨v,h',H,aN⟩
    ·rcases uE hE H with H|⟨v,h',H,aN⟩
     ·exact H.elim
     ·exact key v h' H aN
    ·exact key v h' H aN
   ·exact key v h' H aN
  ·exact H.elim
theorem ik.step(hE:E.OK){i:Nat}{t r:OT}{s:List AV}{h:List af}(H:Gb E ops K (.alt i t r) s h):ik E ops K (.alt i t r) s h:=by
 unfold ik;exact⟨fun e=>(by cases e),LJ hE _ H⟩
theorem LK{listed:Array Bool}:∀ {t:OT} {s:List AV} {h:List af} {i:Nat},vi ops listed t=true->rp E ops K t s h->i∈t.vh ->
  ∃ t',vi ops (listed.setIfInBounds i true) t'=true/\Region.ready .any ops (listed.setIfInBounds i true)=t'.vh/\t'.depth+1<=t.depth/\∃ o v h',ops[i]?=some o/\dm E ops o s h v h'/\(t'=.leaf->K (bL s o.dst v) h')/\rp E ops K t' (bL s o.dst v) h'
 | .leaf,_,_,_,_,_,hi=>by simp[OT.vh]at hi
 | .alt j t r,s,h,i,aN,hp,hi=>by
  simp only[vi,Bool.and_eq_true,beq_iff_eq]at aN;rcases List.mem_cons.1 hi with rfl|hi
  ·exact⟨t,aN.1.2,aN.1.1,by simp only[OT.depth];omega,hp.1⟩
  ·obtain⟨t',h1,h2,h3,h4⟩:=LK aN.2 hp.2 hi;exact⟨t',h1,h2,by simp only[OT.depth];omega,h4⟩
theorem Uq{c c':Cx}{s:List AV}{a:Act}{dst:Option Nat}{v:AV}{u:Value}(aV:Step c c')(h:VS c s a.tmps)(hv:VR c' v u):VS c' (bL s dst v) (a.put dst u).tmps:=by
 cases dst with
 |none=>exact aV.vs h
 |some d=>exact(aV.vs h).put d hv
theorem Ur{Q:Exit->Act->World->Prop}{c0:Cx}(hQ:∀ (a:Act) (c:Cx) (s:List AV) (h:List af),K s h->aD E.G c->c.heap=h->a.defers=[]->VS c s a.tmps->Step c0 c->Q .normal a c.w) :
  ∀ (f:Nat) (t:OT) (listed:Array Bool) (a:Act) (c:Cx) (s:List AV) (h:List af),vi ops listed t=true->Region.ready .any ops listed=t.vh->t.depth<=f->(t=.leaf->K s h)->rp E ops K t s h->aD E.G c->c.heap=h->a.defers=[]->VS c s a.tmps->Step c0 c->wpAny E.P .any ops Q f listed a c.w:=by
 intro f
 induction f with
 |zero =>
  intro t listed a c s h h1 h2 h3 h4 h5 k1 k2 k3 k4 k5;cases t with
  |leaf=>exact⟨h2,hQ a c s h (h4 rfl) k1 k2 k3 k4 k5⟩
  |alt i t r=>simp only[OT.depth]at h3;omega
 |succ f ih =>
  intro t listed a c s h h1 h2 h3 h4 h5 k1 k2 k3 k4 k5;refine⟨fun hr=>?_,fun i hi=>?_⟩
  ·cases t with
   |leaf=>exact hQ a c s h (h4 rfl) k1 k2 k3 k4 k5
   |alt i t r=>rw[hr]at h2;cases h2
  ·rw[h2]at hi;obtain⟨t',g1,g2,g3,o,v,h',g4,g5,g6,g7⟩:=LK h1 h5 hi;refine g5 c a k1 k2 k3 k4.mask i g4 _ _ (fun c' u m1 m2 m3 m4=>?_);exact ih t' _ _ c' _ h' g1 g2 (by omega) g6 g7 m1 m2 (by cases iB:o.dst<;>simp[Act.put,k3]) (Uq m3 k4 m4) (k5.trans m3)
theorem aa.Us(hE:E.OK)(hm:E.P.follows .mixedOrders=true){ae:FuncId}{R:bZ}{lits:List Nat}{k:List aK}{s:List AV}{h:List af}{id:Nat}(T:OT)(p q:List AV × List af)
  (ka:((Region.ready .any ops (Array.replicate ops.size false)==T.vh)&&vi ops (Array.replicate ops.size false) T&&Nat.ble T.depth ops.size)=true)
  (H:ik E ops (fun s h=>(s,h)∈[p,q]) T s h) (H1:aa E ae R [] k p.1 p.2) (H2:aa E ae R [] k q.1 q.2) (dJ:R.fx.cG=none:=by rfl) (dH:R.fx.aL=[]:=by rfl):aa E ae R lits (.code (.region id ops true)::k) s h:=by
 simp only[Bool.and_eq_true,beq_iff_eq]at ka;obtain⟨⟨c1,c2⟩,c3⟩:=ka;refine .of (AW.zJ hm dJ dH fun c t Q hQ h1 h2 h4=>?_);refine Ur (K:=fun s h=>(s,h)∈[p,q]) (fun a c' s' h' hK=>hQ a c' s' h' ?_) ops.size T _ ⟨t,[]⟩ c s h c2 c1 (Nat.le_of_ble_eq_true c3) H.to.1 H.to.2 h1 h2 rfl h4 (Step.refl c h1.bE);rcases List.mem_cons.1 hK with e|hK
 ·cases e;exact H1.to
 ·rcases List.mem_cons.1 hK with e|hK
  ·cases e;exact H2.to
  ·cases hK
end
end Go.aA
end
end
