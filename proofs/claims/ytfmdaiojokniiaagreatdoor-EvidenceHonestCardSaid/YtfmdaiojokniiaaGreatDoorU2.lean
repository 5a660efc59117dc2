/- Lemmas of mine. Conditions: as stated. -/
import Derived.Test.YtfmdaiojokniiaaGreatDoorU1
import Derived.Orders
import Derived.OrdersIn
set_option linter.unusedVariables false
set_option linter.unusedSimpArgs false
section
namespace Go.ay
open Go Go.RowKit
def dh:List Nat->Nat->Option Nat
 |[],_=>none
 |a::l,j=>match Nat.beq a j with
  |true=>some 0
  |false=>(dh l j).map (· + 1)
theorem jP:∀ {l:List Nat} {j i:Nat},dh l j=some i->l[i]?=some j
 |a::l,j,i,h=>by
  simp only[dh]at h;split at h
  ·rename_i q;cases h;simp[Nat.eq_of_beq_eq_true q]
  ·cases hx:dh l j with
   |none=>rw[hx]at h;cases h
   |some k=>rw[hx]at h;cases h;simpa using jP hx
theorem uh:∀ {l:List Nat} {j i:Nat},l.Nodup->l[i]?=some j->dh l j=some i
 |[],_,_,_,h=>by simp at h
 |a::l,j,0,_,h=>by simp at h;subst h;simp[dh]
 |a::l,j,i+1,hn,h=>by
  have hl:l[i]?=some j:=by simpa using h
  have aI:(Nat.beq a j)=false:=by
   cases hb:Nat.beq a j with
   |false=>rfl
   |true =>
    have:=Nat.eq_of_beq_eq_true hb;subst this;exact absurd (List.mem_of_getElem? hl) (List.nodup_cons.1 hn).1
  simp only[dh,aI,uh (List.nodup_cons.1 hn).2 hl];rfl
theorem EF{l:List Nat}{j:Nat}(h:dh l j=none)(hn:l.Nodup):j ∉ l:=fun hm=>by
 obtain⟨i,hi,he⟩:=List.getElem_of_mem hm;rw[uh hn (i:=i) (by simp[hi,he])]at h;cases h
def mV(h:List af)(j:Nat):Nat:=match dI h j with
 |some (.arr g _ _)=>g
 |_=>0
section
variable (J:List Nat) (h:List af)
def gE:AV->AV
 | .own j g=>match dh J j with
  |some i=>match dI h j with
   |some (.arr g' _ _)=>match Nat.beq g g' with
    |true => .own i 0
    |false => .any
   |_ => .any
  |none => .any
 | .ptr j off=>match dh J j with
  |some i=>match dI h j with
   |some (.cells _) => .ptr i off
   |_ => .any
  |none => .any
 | .cV j g k off=>match dh J j with
  |some i=>match dI h j with
   |some (.arr g' _ _)=>match Nat.beq g g' with
    |true => .cV i 0 k off
    |false => .any
   |_ => .any
  |none => .any
 | .cut j g k q=>match dh J j with
  |some i=>match dI h j with
   |some (.arr g' _ _)=>match Nat.beq g g' with
    |true => .cut i 0 k q
    |false => .any
   |_ => .any
  |none => .any
 | .map j=>match dh J j with
  |some i=>match dI h j with
   |some (.map _) => .map i
   |_ => .any
  |none => .any
 | .d x => .d x
 | .bO e off => .bO e off
 |_ => .any
def fV:AV->AV
 | .agg l => .agg (l.map (gE J h))
 | .aD l => .aD (l.map (gE J h))
 | .fn f a b => .fn f (a.map (gE J h)) (b.map (gE J h))
 |x=>gE J h x
def oM:af->af
 | .arr _ ts l => .arr 0 ts l
 | .cells cs => .cells (cs.map (gE J h))
 |b=>b
def ez:List af:=J.map fun j=>match dI h j with
 |some b=>oM J h b
 |none => .gone
def fW(i:Nat):Nat:=match dI J i with
 |some j=>j
 |none=>h.length+(i-J.length)
def nZ(i:Nat):Nat:=match dI J i with
 |some j=>mV h j
 |none=>0
def kG:AV->AV
 | .own i g => .own (fW J h i) (nZ J h i+g)
 | .ptr i off => .ptr (fW J h i) off
 | .cV i g k off => .cV (fW J h i) (nZ J h i+g) k off
 | .cut i g k q => .cut (fW J h i) (nZ J h i+g) k q
 | .map i => .map (fW J h i)
 | .d x => .d x
 | .bO e off => .bO e off
 |_ => .any
def wJ:AV->AV
 | .agg l => .agg (l.map (kG J h))
 | .aD l => .aD (l.map (kG J h))
 | .fn f a b => .fn f (a.map (kG J h)) (b.map (kG J h))
 |x=>kG J h x
def iT:AV->AV
 | .aD l => .aD (l.map (wJ J h))
 |x=>wJ J h x
def mf(g0:Nat):af->af
 | .arr g ts l => .arr (g0+g) ts l
 | .cells cs => .cells (cs.map (kG J h))
 |b=>b
def pv(h1:List af):Nat->List af->List af
 |_,[]=>[]
 |j,b::r=>(match dh J j with
  |some i=>match dI h1 i with
   |some b1=>mf J h (mV h j) b1
   |none => .gone
  |none=>b)::pv h1 (j+1) r
def eY(h1:List af):List af:=pv J h h1 0 h++(h1.drop J.length).map (mf J h 0)
end
section
variable {J:List Nat} {h:List af}
theorem wK(h1:List af):∀ (j:Nat) (r:List af),(pv J h h1 j r).length=r.length
 |_,[]=>rfl
 |j,b::r=>by simp[pv,wK h1 (j+1) r]
theorem EG(h1:List af):∀ (j k:Nat) (r:List af),(pv J h h1 j r)[k]?=(r[k]?).map fun b=>match dh J (j+k)with
  |some i=>match dI h1 i with
   |some b1=>mf J h (mV h (j+k)) b1
   |none => .gone
  |none=>b
 |_,_,[]=>by simp[pv]
 |j,0,b::r=>by simp[pv]
 |j,k+1,b::r=>by
  simp only[pv,List.getElem?_cons_succ];rw[EG h1 (j+1) k r,show j+1+k=j+(k+1) by omega]
theorem sj(h1:List af):(eY J h h1).length=h.length+(h1.length-J.length):=by simp[eY,wK]
theorem EH{h1:List af}{j:Nat}(hj:j<h.length)(hn:dh J j=none):(eY J h h1)[j]?=h[j]? := by
 rw[eY,List.getElem?_append_left (by rw[wK];exact hj),EG,Nat.zero_add,hn];simp
theorem Jo{h1:List af}{i j:Nat}(hj:j<h.length)(hi:dh J j=some i){b:af}(hb:h1[i]?=some b):(eY J h h1)[j]?=some (mf J h (mV h j) b):=by
 rw[eY,List.getElem?_append_left (by rw[wK];exact hj),EG,Nat.zero_add,hi];simp[ev,hb,hj]
theorem Rk{h1:List af}{k:Nat}:(eY J h h1)[h.length+k]?=(h1[J.length+k]?).map (mf J h 0):=by
 rw[eY,List.getElem?_append_right (by rw[wK];omega),wK];simp
def Cx.eF(c:Cx)(J:List Nat):Cx:=⟨fun i=>match J[i]? with|some j=>c.own j|none=>none,ez J c.heap,fun b=>c.az b\/∃ j n,j ∉ J/\c.own j=some (b,n),c.w⟩
def fX(w:List Nat)(src dst:List af):List af:=dst.mapIdx fun j b=>if j∈w then src[j]?.getD b else b
theorem Jp{w:List Nat}{src dst:List af}:(fX w src dst).length=dst.length:=by simp[fX]
theorem qB{w:List Nat}{src dst:List af}{j:Nat}:(fX w src dst)[j]?=dst[j]?.map fun b=>if j∈w then src[j]?.getD b else b:=by simp[fX]
theorem pw{w:List Nat}{src dst:List af}{j:Nat}(h:j ∉ w):(fX w src dst)[j]?=dst[j]? := by
 rw[qB];simp[h]
theorem yR{w:List Nat}{src dst:List af}{j:Nat}{b:af}(h:j∈w)(hl:j<dst.length)(hb:src[j]?=some b):(fX w src dst)[j]?=some b:=by
 rw[qB,List.getElem?_eq_getElem hl];simp[h,hb]
def dL(J:List Nat)(h h1:List af):List Nat:=List.range' h.length (h1.length-J.length)
theorem oN{J:List Nat}{h h1:List af}{j:Nat}:j∈dL J h h1↔h.length<=j/\j<h.length+(h1.length-J.length):=by simp[dL]
def Cx.take(c c1:Cx)(J:List Nat)(h:List af):Cx:=⟨fun j=>match dh J j with|some i=>c1.own i|none=>if j∈dL J h c1.heap then c1.own (J.length+(j-h.length))else c.own j,fX (J++dL J h c1.heap) (eY J h c1.heap) c.heap,c.az,c1.w⟩
variable {c c1:Cx} {G:List (Nat × DV)}
theorem Jq(b:Nat):(c.eF J).bad b↔c.bad b:=by
 constructor
 ·rintro((hb|⟨j,n,-,hj⟩)|⟨i,n,hi⟩)
  ·exact .inl hb
  ·exact .inr ⟨j,n,hj⟩
  ·simp only[Cx.eF]at hi;split at hi
   ·exact .inr ⟨_,n,hi⟩
   ·cases hi
 ·rintro(hb|⟨j,n,hj⟩)
  ·exact .inl (.inl hb)
  ·by_cases hm:j∈J
   ·obtain⟨i,hi,he⟩:=List.getElem_of_mem hm;refine .inr ⟨i,n,?_⟩;simp only[Cx.eF];rw[show J[i]?=some j by simp[hi,he]];exact hj
   ·exact .inl (.inr ⟨j,n,hm,hj⟩)
theorem yS{x:DV}{v:Value}(hv:VD c.bad c.w x v):VD (c.eF J).bad (c.eF J).w x v:=hv.mono fun b _ hn=>⟨fun hb=>hn ((Jq b).1 hb),rfl⟩
theorem sk{i j:Nat}{b:af}(hi:J[i]?=some j)(hb:h[j]?=some b):(ez J h)[i]?=some (oM J h b):=by
 simp[ez,hi,ev,hb]
theorem sq{i j:Nat}(hi:J[i]?=some j):(c.eF J).own i=c.own j:=by simp only[Cx.eF,hi]
theorem EI{x:AV}{v:Value}(hv:VR c x v):VR (c.eF J) (gE J c.heap x) v:=by
 unfold gE;split
 ·rename_i j g;split
  ·rename_i i hi;have hi:=jP hi;rw[ev];split
   ·rename_i g' ts l hb;split
    ·rename_i q;have q:=Nat.eq_of_beq_eq_true q;subst q;have cw:=sk hi hb;cases hv with
     |own _ _ _ l' blk cap k1 k2=>rw[hb]at k1;cases k1;exact .own i 0 ts l blk cap cw ((sq hi).trans k2)
     |iu _ _ _ k1 k2=>rw[hb]at k1;cases k1;exact .iu i 0 ts cw ((sq hi).trans k2)
     |kv _ _ g2 _ _ _ k1 k2 _=>rw[hb]at k1;cases k1;omega
     |jE _ _ _ k1 _=>rw[hb]at k1;cases k1
     |mM _ _ _ _ _ _ k1 _ _=>rw[hb]at k1;cases k1
    ·exact .any _
   ·exact .any _
  ·exact .any _
 ·rename_i j off;split
  ·rename_i i hi;have hi:=jP hi;rw[ev];split
   ·rename_i cs hb;have cw:=sk hi hb;cases hv with
    |ptr _ _ cs' blk cap k1 k2=>exact .ptr i off _ blk cap cw ((sq hi).trans k2)
    |iv _ _ _ k1 _=>rw[hb]at k1;cases k1
   ·exact .any _
  ·exact .any _
 ·rename_i j g k off;split
  ·rename_i i hi;have hi:=jP hi;rw[ev];split
   ·rename_i g' ts l hb;split
    ·rename_i q;have q:=Nat.eq_of_beq_eq_true q;subst q;have cw:=sk hi hb;cases hv with
     |cV _ _ _ _ _ l' blk cap k1 k2 k3=>rw[hb]at k1;cases k1;exact .cV i 0 k off ts l blk cap cw ((sq hi).trans k2) k3
     |lW _ _ g2 _ _ _ _ _ k1 k2 _=>rw[hb]at k1;cases k1;omega
     |lX _ _ _ _ _ k1 _=>rw[hb]at k1;cases k1
    ·exact .any _
   ·exact .any _
  ·exact .any _
 ·rename_i j g k qq;split
  ·rename_i i hi;have hi:=jP hi;rw[ev];split
   ·rename_i g' ts l hb;split
    ·rename_i q;have q:=Nat.eq_of_beq_eq_true q;subst q;have cw:=sk hi hb;cases hv with
     |cut _ _ _ _ _ l' blk cap o k1 k2 k3 k4 k5=>rw[hb]at k1;cases k1;exact .cut i 0 k qq ts l blk cap o cw ((sq hi).trans k2) k3 k4 k5
     |nI _ _ g2 _ _ _ _ _ k1 k2 _=>rw[hb]at k1;cases k1;omega
     |nJ _ _ _ _ _ k1 _=>rw[hb]at k1;cases k1
    ·exact .any _
   ·exact .any _
  ·exact .any _
 ·rename_i j;split
  ·rename_i i hi;have hi:=jP hi;rw[ev];split
   ·rename_i es hb;have cw:=sk hi hb;cases hv with
    |map _ dV blk cap k1 k2=>exact .map i _ blk cap cw ((sq hi).trans k2)
    |nK _ _ k1 _=>rw[hb]at k1;cases k1
   ·exact .any _
  ·exact .any _
 ·cases hv with|d _ _ hx=>exact .d _ _ (yS hx)
 ·cases hv with
  |bO _ _ blk o f k1 k2 k3 k4=>exact .bO _ _ blk o f (fun hb=>k1 ((Jq _).1 hb)) k2 k3 (fun j x hx=>yS (k4 j x hx))
 ·exact .any _
theorem yT{l:List AV}{vs:List Value}(hv:VL c l vs):VL (c.eF J) (l.map (gE J c.heap)) vs :=
 ⟨by simpa using hv.1,fun j x v hx hu=>by
  rw[List.getElem?_map]at hx;cases hy:l[j]? with
  |none=>rw[hy]at hx;cases hx
  |some y=>rw[hy]at hx;cases hx;exact EI (hv.2 j y v hy hu)⟩
theorem yU{l:List AV}{v:Value}(h:VR c (.aD l) v):∃ vs:List Value,v=.tuple vs.toArray/\VL c l vs:=by
 cases h with
 |aD _ vs hl hv=>exact⟨vs.toList,by simp,by simpa using hl,fun j x v hx hu=>hv j x v hx (by simpa using hu)⟩
theorem yV{l:List AV}{vs:List Value}(h:VL c l vs):VR c (.aD l) (.tuple vs.toArray) :=
 .aD l vs.toArray (by simpa using h.1) (fun j x v hx hv=>h.2 j x v hx (by simpa using hv))
theorem EJ{f:Fn}{a b:List AV}{v1 v2:List Value}(h1:VL c a v1)(h2:VL c b v2):VR c (.fn f a b) (.func f v1.toArray v2.toArray) :=
 .fn _ _ _ _ _ (by simpa using h1.1) (by simpa using h2.1) (fun j x v hx hv=>h1.2 j x v hx (by simpa using hv)) (fun j x v hx hv=>h2.2 j x v hx (by simpa using hv))
theorem Jr{x:AV}{v:Value}(hv:VR c x v):VR (c.eF J) (fV J c.heap x) v:=by
 unfold fV;split
 ·obtain⟨vs,rfl,h1⟩:=ph hv;exact v7 (yT h1)
 ·obtain⟨vs,rfl,h1⟩:=yU hv;exact yV (yT h1)
 ·obtain⟨v1,v2,rfl,h1,h2⟩:=ma hv;exact EJ (yT h1) (yT h2)
 ·exact EI hv
theorem Js{l:List AV}{vs:List Value}(hv:VL c l vs):VL (c.eF J) (l.map (fV J c.heap)) vs :=
 ⟨by simpa using hv.1,fun j x v hx hu=>by
  rw[List.getElem?_map]at hx;cases hy:l[j]? with
  |none=>rw[hy]at hx;cases hx
  |some y=>rw[hy]at hx;cases hx;exact Jr (hv.2 j y v hy hu)⟩
theorem Jt{l:List Nat}(hn:l.Nodup){i j a:Nat}(hi:l[i]?=some a)(hj:l[j]?=some a):i=j:=by
 have h1:=uh hn hi;have h2:=uh hn hj;rw[h1]at h2;cases h2;rfl
theorem aK.eF(ho:aK G c)(hn:J.Nodup):aK G (c.eF J) where
 bQ:=fun b hb=>hb.elim (ho.bQ b) fun⟨j,n,_,hj⟩=>(ho.bA j b n hj).1
 bA:=fun i b n hi=>by
  simp only[Cx.eF]at hi;split at hi
  ·rename_i j hj;exact⟨(ho.bA j b n hi).1,by show i<(ez J c.heap).length;simp only[ez,List.length_map];exact aQ hj⟩
  ·cases hi
 inj:=fun i j b n m hi hj=>by
  simp only[Cx.eF]at hi hj;split at hi
  ·rename_i a ha;split at hj
   ·rename_i a' yW;have:=ho.inj a a' b n m hi hj;subst this;exact Jt hn ha yW
   ·cases hj
  ·cases hi
 sep:=fun i b n hi hb=>by
  simp only[Cx.eF]at hi;split at hi
  ·rename_i a ha;rcases hb with hb|⟨j,m,hj,hb⟩
   ·exact ho.sep a b n hi hb
   ·have:=ho.inj a j b n m hi hb;subst this;exact hj (List.mem_of_getElem? ha)
  ·cases hi
 box:=fun i bx hi=>by
  have cg:(ez J c.heap)[i]?=some bx:=hi;simp only[ez,List.getElem?_map]at cg;cases hs:J[i]? with
  |none=>rw[hs]at cg;cases cg
  |some j =>
   rw[hs]at cg;simp only[Option.map_some,Option.some.injEq,ev]at cg;have bF:=sq (c:=c) hs;cases hb:c.heap[j]? with
   |none =>
    rw[hb]at cg;subst cg;show(c.eF J).own i=none;rw[bF];cases hx:c.own j with
    |none=>rfl
    |some p=>have:=(ho.bA j p.1 p.2 hx).2;rw[List.getElem?_eq_none_iff]at hb;omega
   |some b =>
    rw[hb]at cg;subst cg;have dq:=ho.box j b hb;cases b with
    |cells cs =>
     obtain⟨blk,cap,vs,ty,k1,k2,k3⟩:=ho.cells hb;have:=yT (J:=J) k3;exact⟨blk,cap,vs,ty,bF.trans k1,k2,by simpa using this.1.symm,fun j x v hx hv=>this.2 j x v hx (by simpa using hv)⟩
    |arr g ts l =>
     obtain⟨q0,q1,q2⟩:=dq;refine⟨q0,q1,?_⟩;rcases q2 with⟨q2,q3⟩|⟨blk,cap,vs,q2,q3,q4,q5,q6,q7⟩
     ·exact .inl ⟨bF.trans q2,q3⟩
     ·refine .inr ⟨blk,cap,vs,bF.trans q2,q3,q4,q5,q6,fun i j e x he hx=>?_⟩;obtain⟨v,r1,r2,r3⟩:=q7 i j e x he hx;exact⟨v,r1,r2,yS r3⟩
    |map es =>
     obtain⟨blk,cap,en,ck,k1,k2,k3,k4⟩:=dq;exact⟨blk,cap,en,ck,bF.trans k1,k2,k3,fun j k x m hx hm=>⟨yS (k4 j k x m hx hm).1,yS (k4 j k x m hx hm).2⟩⟩
    |gone=>exact bF.trans dq
    |hole=>exact bF.trans dq
 fJ:=fun g e hg=>by
  have:=EI (J:=J) (ho.fJ g e hg);exact this
theorem Rl:wm (ez J h):=fun i g ts l hi=>by
 simp only[ez,List.getElem?_map]at hi;cases hs:J[i]? with
 |none=>rw[hs]at hi;cases hi
 |some j =>
  rw[hs]at hi;simp only[Option.map_some,Option.some.injEq]at hi;split at hi
  ·rename_i b _;cases b<;>simp[oM]at hi;exact hi.1.symm
  ·cases hi
structure lz(c c1:Cx)(J:List Nat)(h:List af):Prop where
 nodup:J.Nodup
 lt:∀ j∈J,j<h.length
 len:h.length+(c1.heap.length-J.length)<=c.heap.length
 same:∀ j∈J,c.heap[j]?=h[j]?
 new:∀ j∈dL J h c1.heap,c.heap[j]?=some .hole
 rel:Rel (c.eF J) c1
 own:∀ i b n,c1.own i=some (b,n)->i<c1.heap.length
theorem Rm{h1:List af}{j:Nat}(ah:∀ j∈J,j<h.length)(hj:j∈dL J h h1):dh J j=none:=by
 cases hx:dh J j with
 |none=>rfl
 |some i=>have:=ah _ (List.mem_of_getElem? (jP hx));have:=oN.1 hj;omega
theorem Ju{i j:Nat}(hn:J.Nodup)(hi:J[i]?=some j):(c.take c1 J h).own j=c1.own i:=by
 simp only[Cx.take,uh hn hi]
theorem EK{j:Nat}(hn:dh J j=none)(hj:j ∉ dL J h c1.heap):(c.take c1 J h).own j=c.own j:=by
 simp only[Cx.take,hn,if_neg hj]
theorem Jv{i:Nat}(hs:J[i]?=none)(hi:i<c1.heap.length):h.length+(i-J.length)∈dL J h c1.heap:=by
 rw[List.getElem?_eq_none_iff]at hs;rw[oN];omega
theorem EL(hb:lz c c1 J h){i:Nat}(hi:i<c1.heap.length):(c.take c1 J h).own (fW J h i)=c1.own i:=by
 unfold fW;rw[ev];split
 ·rename_i j hj;exact Ju hb.nodup hj
 ·rename_i hj;have hm:=Jv (h:=h) hj hi;rw[List.getElem?_eq_none_iff]at hj;simp only[Cx.take,Rm hb.lt hm,if_pos hm]
  congr 1
  omega
theorem Bv(hb:lz c c1 J h){i:Nat}{b:af}(hi:c1.heap[i]?=some b):(c.take c1 J h).heap[fW J h i]?=some (mf J h (nZ J h i) b):=by
 unfold fW nZ;rw[ev];show(fX _ (eY J h c1.heap) c.heap)[_]?=_;have hlen:=hb.len;split
 ·rename_i j hj;have hl:=hb.lt j (List.mem_of_getElem? hj);exact yR (List.mem_append_left _ (List.mem_of_getElem? hj)) (by omega) (Jo hl (uh hb.nodup hj) hi)
 ·rename_i hj;have hm:=Jv (h:=h) hj (aQ hi);have Rn:=oN.1 hm;rw[List.getElem?_eq_none_iff]at hj;exact yR (List.mem_append_right _ hm) (by omega) (by rw[Rk,show J.length+(i-J.length)=i by omega,hi];rfl)
theorem wL(hb:lz c c1 J h){i j:Nat}{b:af}(hi:J[i]?=some j)(h1:c1.heap[i]?=some b):(c.take c1 J h).heap[j]?=some (mf J h (mV h j) b):=by
 have:=Bv hb h1
 simpa only[fW,nZ,ev,hi]using this
theorem Jw{j:Nat}(hn:dh J j=none)(cX:J.Nodup)(hj:j ∉ dL J h c1.heap):(c.take c1 J h).heap[j]?=c.heap[j]? :=
 pw fun hm=>(List.mem_append.1 hm).elim (EF hn cX) hj
theorem wM(hb:lz c c1 J h){j b n:Nat}(hj:(c.take c1 J h).own j=some (b,n)):(∃ i,j=fW J h i/\i<c1.heap.length/\c1.own i=some (b,n))\/(dh J j=none/\j ∉ dL J h c1.heap/\c.own j=some (b,n)):=by
 simp only[Cx.take]at hj;split at hj
 ·rename_i i hi;exact .inl ⟨i,by simp only[fW,ev,jP hi],hb.own i b n hj,hj⟩
 ·rename_i hx;split at hj
  ·rename_i hm;have hm:=oN.1 hm;refine .inl ⟨_,?_,hb.own _ b n hj,hj⟩;have:J[J.length+(j-h.length)]?=none:=List.getElem?_eq_none (by omega);simp only[fW,ev,this];omega
  ·rename_i hm;exact .inr ⟨hx,hm,hj⟩
theorem Jx(ho:aK G c)(hb:lz c c1 J h)(b:Nat):(c.take c1 J h).bad b↔c1.bad b:=by
 constructor
 ·rintro(hx|⟨j,n,hx⟩)
  ·refine .inl ?_;rw[hb.rel.az];exact .inl hx
  ·rcases wM hb hx with⟨i,-,-,hi⟩|⟨h1,-,h3⟩
   ·exact .inr ⟨i,n,hi⟩
   ·refine .inl ?_;rw[hb.rel.az];exact .inr ⟨j,n,EF h1 hb.nodup,h3⟩
 ·rintro(hx|⟨i,n,hx⟩)
  ·rw[hb.rel.az]at hx;rcases hx with hx|⟨j,n,hj,hx⟩
   ·exact .inl hx
   ·refine .inr ⟨j,n,?_⟩;have h1:dh J j=none:=by
     cases hi:dh J j with
     |none=>rfl
     |some i=>exact absurd (List.mem_of_getElem? (jP hi)) hj
    rw[EK h1 (fun hm=>by have:=ho.box j _ (hb.new j hm);rw[show c.own j=none from this]at hx;cases hx)];exact hx
  ·exact .inr ⟨_,n,(EL hb (hb.own i b n hx)).trans hx⟩
theorem yX(ho:aK G c)(hb:lz c c1 J h){x:DV}{v:Value}(hv:VD c1.bad c1.w x v):VD (c.take c1 J h).bad (c.take c1 J h).w x v :=
 hv.mono fun b _ hn=>⟨fun h=>hn ((Jx ho hb b).1 h),rfl⟩
theorem Jy(ho:aK G c)(hb:lz c c1 J h){x:AV}{v:Value}(hv:VR c1 x v):VR (c.take c1 J h) (kG J h x) v:=by
 have hp:∀ {i:Nat} {b:af},c1.heap[i]?=some b->(c.take c1 J h).heap[fW J h i]?=some (mf J h (nZ J h i) b):=fun k=>Bv hb k;have hw:∀ {i:Nat} {b:af},c1.heap[i]?=some b->(c.take c1 J h).own (fW J h i)=c1.own i:=fun k=>EL hb (aQ k);unfold kG;split
 ·rename_i i g;cases hv with
  |own _ _ ts l blk cap k1 k2=>exact .own _ _ ts l blk cap (hp k1) ((hw k1).trans k2)
  |iu _ _ ts k1 k2=>exact .iu _ _ ts (hp k1) ((hw k1).trans k2)
  |kv _ _ g2 ts l _ k1 k2 k3=>exact .kv _ _ _ ts l _ (hp k1) (by omega) k3
  |jE _ _ _ k1 k3=>exact .jE _ _ _ (hp k1) k3
  |mM _ _ cs blk cap m k1 k2 k3=>exact .mM _ _ _ blk cap m (hp k1) ((hw k1).trans k2) (by simpa using k3)
 ·rename_i i off;cases hv with
  |ptr _ _ cs blk cap k1 k2=>exact .ptr _ _ _ blk cap (hp k1) ((hw k1).trans k2)
  |iv _ _ _ k1 k3=>exact .iv _ _ _ (hp k1) k3
 ·rename_i i g k off;cases hv with
  |cV _ _ _ _ ts l blk cap k1 k2 k3=>exact .cV _ _ _ _ ts l blk cap (hp k1) ((hw k1).trans k2) k3
  |lW _ _ g2 _ _ ts l _ k1 k2 k3=>exact .lW _ _ _ _ _ ts l _ (hp k1) (by omega) k3
  |lX _ _ _ _ _ k1 k3=>exact .lX _ _ _ _ _ (hp k1) k3
 ·rename_i i g k qq;cases hv with
  |cut _ _ _ _ ts l blk cap o k1 k2 k3 k4 k5=>exact .cut _ _ _ _ ts l blk cap o (hp k1) ((hw k1).trans k2) k3 k4 k5
  |nI _ _ g2 _ _ ts l _ k1 k2 k3=>exact .nI _ _ _ _ _ ts l _ (hp k1) (by omega) k3
  |nJ _ _ _ _ _ k1 k3=>exact .nJ _ _ _ _ _ (hp k1) k3
 ·rename_i i;cases hv with
  |map _ es blk cap k1 k2=>exact .map _ es blk cap (hp k1) ((hw k1).trans k2)
  |nK _ _ k1 k3=>exact .nK _ _ (hp k1) k3
 ·cases hv with|d _ _ hx=>exact .d _ _ (yX ho hb hx)
 ·cases hv with
  |bO _ _ blk o f k1 k2 k3 k4=>exact .bO _ _ blk o f (fun h=>k1 ((Jx ho hb _).1 h)) k2 k3 (fun j x hx=>yX ho hb (k4 j x hx))
 ·exact .any _
theorem sr{c c':Cx}{f:AV->AV}(hf:∀ {x:AV} {v:Value},VR c x v->VR c' (f x) v){l:List AV}{vs:List Value}(hv:VL c l vs):VL c' (l.map f) vs :=
 ⟨by simpa using hv.1,fun j x v hx hu=>by
  rw[List.getElem?_map]at hx;cases hy:l[j]? with
  |none=>rw[hy]at hx;cases hx
  |some y=>rw[hy]at hx;cases hx;exact hf (hv.2 j y v hy hu)⟩
theorem Jz(ho:aK G c)(hb:lz c c1 J h){x:AV}{v:Value}(hv:VR c1 x v):VR (c.take c1 J h) (wJ J h x) v:=by
 have hA:∀ {x:AV} {v:Value},VR c1 x v->VR (c.take c1 J h) (kG J h x) v:=fun h=>Jy ho hb h;unfold wJ;split
 ·obtain⟨vs,rfl,h1⟩:=ph hv;exact v7 (sr hA h1)
 ·obtain⟨vs,rfl,h1⟩:=yU hv;exact yV (sr hA h1)
 ·obtain⟨v1,v2,rfl,h1,h2⟩:=ma hv;exact EJ (sr hA h1) (sr hA h2)
 ·exact hA hv
theorem EM(ho:aK G c)(hb:lz c c1 J h){x:AV}{v:Value}(hv:VR c1 x v):VR (c.take c1 J h) (iT J h x) v:=by
 unfold iT;split
 ·obtain⟨vs,rfl,h1⟩:=yU hv;exact yV (sr (fun h=>Jz ho hb h) h1)
 ·exact Jz ho hb hv
theorem jG.take(ho:aK G c)(hb:lz c c1 J h){i g:Nat}{b:af}(hi:i<c1.heap.length)(dq:jG c1 i b):jG (c.take c1 J h) (fW J h i) (mf J h g b):=by
 have bF:=EL hb hi;cases b with
 |cells cs =>
  obtain⟨blk,cap,vs,ty,k1,k2,k3,k4⟩:=dq;have:VL (c.take c1 J h) (cs.map (kG J h)) vs.toList:=sr (fun h=>Jy ho hb h) ⟨by simpa using k3.symm,fun j x v hx hv=>k4 j x v hx (by simpa using hv)⟩;exact⟨blk,cap,vs,ty,bF.trans k1,k2,by simpa using this.1.symm,fun j x v hx hv=>this.2 j x v hx (by simpa using hv)⟩
 |arr g ts l =>
  obtain⟨q0,q1,q2⟩:=dq;refine⟨q0,q1,?_⟩;rcases q2 with⟨q2,q3⟩|⟨blk,cap,vs,q2,q3,q4,q5,q6,q7⟩
  ·exact .inl ⟨bF.trans q2,q3⟩
  ·refine .inr ⟨blk,cap,vs,bF.trans q2,q3,q4,q5,q6,fun i j e x he hx=>?_⟩;obtain⟨v,r1,r2,r3⟩:=q7 i j e x he hx;exact⟨v,r1,r2,yX ho hb r3⟩
 |map es =>
  obtain⟨blk,cap,en,ck,k1,k2,k3,k4⟩:=dq;exact⟨blk,cap,en,ck,bF.trans k1,k2,k3,fun j k x m hx hm=>⟨yX ho hb (k4 j k x m hx hm).1,yX ho hb (k4 j k x m hx hm).2⟩⟩
 |gone=>exact bF.trans dq
 |hole=>exact bF.trans dq
theorem EN{i b n:Nat}(hi:(c.eF J).own i=some (b,n)):∃ k,J[i]?=some k/\c.own k=some (b,n):=by
 simp only[Cx.eF]at hi;split at hi
 ·rename_i k hs;exact⟨k,hs,hi⟩
 ·cases hi
theorem Bw(ho:aK G c)(hb:lz c c1 J h):Step c (c.take c1 J h) where
 az:=rfl
 bQ:=ho.bQ
 os:=hb.rel.os
 tape:=hb.rel.tape
 output:=hb.rel.output
 size:=hb.rel.size
 keep:=fun b ah hn=>hb.rel.keep b ah (fun i n hi=>by obtain⟨k,-,hk⟩:=EN hi;exact hn k n hk)
 dy:=fun j b n hj ah=>by
  rcases wM hb hj with⟨i,rfl,-,hi⟩|⟨-,-,h3⟩
  ·obtain⟨m,hk⟩:=hb.rel.dy i b n hi ah;obtain⟨k,hs,hk⟩:=EN hk;exact⟨m,by simpa only[fW,ev,hs]using hk⟩
  ·exact⟨n,h3⟩
 boxes:=fun j bx hj=>by
  cases hx:dh J j with
  |none =>
   by_cases hm:j∈dL J h c1.heap
   ·rw[hb.new j hm]at hj;cases hj;exact⟨_,qB.trans (by rw[hb.new j hm];rfl)⟩
   have h':(c.take c1 J h).heap[j]?=some bx:=(Jw hx hb.nodup hm).trans hj;have cU:=EK (c:=c) (c1:=c1) hx hm;cases bx with
   |cells cs=>exact .inl ⟨cs,h',cU,rfl⟩
   |arr g sz l=>exact .inl ⟨g,l,h',.inr ⟨rfl,rfl,cU⟩⟩
   |map es=>exact .inl ⟨es,h',cU⟩
   |gone=>exact h'
   |hole=>exact⟨_,h'⟩
  |some i =>
   have hi:=jP hx;have Ro:=hb.same j (List.mem_of_getElem? hi);have h1:=hb.rel.boxes i _ (sk hi hj);have cU:=Ju (c:=c) (c1:=c1) (h:=h) hb.nodup hi;have ui:=sq (c:=c) hi;have eW:c1.heap[i]?=some .gone->(c.take c1 J h).heap[j]?=some .gone:=fun h=>wL hb hi h;cases bx with
   |cells cs =>
    rcases h1 with⟨cs',h1,h2,h3⟩|h1
    ·exact .inl ⟨_,wL hb hi h1,cU.trans (h2.trans ui),by simpa [oM]using h3⟩
    ·exact .inr (eW h1)
   |arr g ts l =>
    rcases h1 with⟨g',l',h1,h2⟩|h1
    ·have aA:mV h j=g:=by simp only[mV,ev,<- Ro,hj]
     have h3:=wL hb hi h1;simp only[mf,aA]at h3;refine .inl ⟨g+g',l',h3,?_⟩;rcases h2 with h2|⟨h2,h4,h5⟩
     ·left;omega
     ·exact .inr ⟨by omega,h4,cU.trans (h5.trans ui)⟩
    ·exact .inr (eW h1)
   |map es =>
    rcases h1 with⟨dV,h1,h2⟩|h1
    ·exact .inl ⟨dV,wL hb hi h1,cU.trans (h2.trans ui)⟩
    ·exact .inr (eW h1)
   |gone=>exact eW h1
   |hole=>obtain⟨b,h1⟩:=h1;exact⟨_,wL hb hi h1⟩
theorem aK.take(ho:aK G c)(yY:aK G c1)(hb:lz c c1 J h):aK G (c.take c1 J h):=by
 refine ho.next (Bw ho hb) (fun j b n hj=>?_) (fun j j' b n m hj eK=>?_) (fun j bx hj=>?_)
 ·rcases wM hb hj with⟨i,rfl,h2,hi⟩|⟨-,-,h3⟩
  ·exact⟨(yY.bA i b n hi).1,aQ (Bv hb (List.getElem?_eq_getElem h2))⟩
  ·exact⟨Nat.lt_of_lt_of_le (ho.bA j b n h3).1 hb.rel.size,by show j<(fX _ _ _).length;rw[Jp];exact(ho.bA j b n h3).2⟩
 ·have JA:∀ j i n m,dh J j=none->c.own j=some (b,n)->c1.own i=some (b,m)->False:=fun j i n m hx hj hi=>by
   refine yY.sep i b m hi ?_;rw[hb.rel.az];exact .inr ⟨j,n,EF hx hb.nodup,hj⟩
  rcases wM hb hj with⟨i,rfl,-,hi⟩|⟨hx,-,JB⟩
  ·rcases wM hb eK with⟨i',rfl,-,cg⟩|⟨dX,-,EO⟩
   ·rw[yY.inj i i' b n m hi cg]
   ·exact(JA j' i m n dX EO hi).elim
  ·rcases wM hb eK with⟨i',rfl,-,cg⟩|⟨dX,-,EO⟩
   ·exact(JA j i' n m hx JB cg).elim
   ·exact ho.inj j j' b n m JB EO
 ·cases hx:dh J j with
  |none =>
   by_cases hm:j∈dL J h c1.heap
   ·right;have Rn:=oN.1 hm;have hl:J.length+(j-h.length)<c1.heap.length:=by omega
    have qC:fW J h (J.length+(j-h.length))=j:=by
     have:J[J.length+(j-h.length)]?=none:=List.getElem?_eq_none (by omega);simp only[fW,ev,this];omega
    have h2:=Bv hb (List.getElem?_eq_getElem hl);rw[qC,hj]at h2;cases h2;have:=(yY.box _ _ (List.getElem?_eq_getElem hl)).take (g:=nZ J h (J.length+(j-h.length))) ho hb hl
    rwa [qC]at this
   ·left;rw[Jw hx hb.nodup hm]at hj;refine⟨hj,EK hx hm,fun b n cw=>hb.rel.keep b (ho.bA j b n cw).1 (fun i m hi=>?_)⟩;obtain⟨k,hs,hk⟩:=EN hi;have:=ho.inj j k b n m cw hk;subst this;rw[uh hb.nodup hs]at hx;cases hx
  |some i =>
   right;have hi:=jP hx;have hl:=hb.lt j (List.mem_of_getElem? hi);obtain⟨b1,mW⟩:∃ b1,c1.heap[i]?=some b1:=by
    have mX:c.heap[j]?=some h[j]:=(hb.same j (List.mem_of_getElem? hi)).trans (List.getElem?_eq_getElem hl);have ss:=hb.rel.boxes i _ (sk hi mX);generalize oM J c.heap h[j]=bb at ss;cases bb with
    |cells cs=>rcases ss with⟨_,h,_⟩|h<;>exact⟨_,h⟩
    |arr g ts l=>rcases ss with⟨_,_,h,_⟩|h<;>exact⟨_,h⟩
    |map es=>rcases ss with⟨_,h,_⟩|h<;>exact⟨_,h⟩
    |gone=>exact⟨_,ss⟩
    |hole=>exact ss
   rw[wL hb hi mW]at hj;cases hj;have:=(yY.box i b1 mW).take (g:=mV h j) ho hb (aQ mW)
   rwa [show fW J h i=j by simp only[fW,ev,hi]]at this
theorem JC{H:List af}(hs:∀ j∈J,H[j]?=h[j]?)(x:AV):gE J H x=gE J h x:=by
 have e:∀ {j i:Nat},dh J j=some i->dI H j=dI h j:=fun hi=>by rw[ev,ev];exact hs _ (List.mem_of_getElem? (jP hi))
 cases x<;>simp only[gE];all_goals
  split
  ·rename_i hi;rw[e hi]
  ·rfl
theorem JD{H:List af}(hs:∀ j∈J,H[j]?=h[j]?)(x:AV):fV J H x=fV J h x:=by
 have e:gE J H=gE J h:=funext (JC hs);unfold fV;rw[e]
theorem EP{H:List af}(hs:∀ j∈J,H[j]?=h[j]?):ez J H=ez J h:=by
 have e:gE J H=gE J h:=funext (JC hs);refine List.map_congr_left fun j hj=>?_;rw[ev,ev,hs j hj];split
 ·unfold oM;rw[e]
 ·rfl
theorem ar.Rp{E:Env}{f:FuncId}{args:List AV}{Q:AV->List af->Prop}(H:ar E f (ez J h) (args.map (fV J h)) Q)(hn:J.Nodup)(ah:∀ j∈J,j<h.length)(hs:∀ j∈J,c.heap[j]?=h[j]?)
  (hr:∀ r h1,Q r h1->h.length+(h1.length-J.length)<=c.heap.length/\∀ j∈dL J h h1,c.heap[j]?=some .hole) (ho:aK E.G c) {vs:List Value} (hv:VL c args vs) :
  Calls E.P f vs.toArray c.w fun e w'=>∃ (c':Cx) (r:AV) (h1:List af) (v:Value),e=.returned v/\c'.w=w'/\Q r h1/\c'.heap=fX (J++dL J h h1) (eY J h h1) c.heap/\VR c' (iT J h r) v/\aK E.G c'/\Step c c':=by
 unfold ar at H;have eD:=Js (J:=J) hv;rw[show fV J c.heap=fV J h from funext (JD hs)]at eD;refine(H.2.2 (c.eF J) vs (EP hs) (ho.eF hn) eD).mono fun e w' ⟨c1,r,v,k1,k2,k3,k4,k5,k6⟩=>?_;obtain⟨h1,h2⟩:=hr _ _ k3;have hb:lz c c1 J h:=⟨hn,ah,h1,hs,h2,k6,fun i b n hi=>(k5.bA i b n hi).2⟩;exact⟨c.take c1 J h,r,c1.heap,v,k1,k2,k3,rfl,EM ho hb k4,ho.take k5 hb,Bw ho hb⟩
def Cx.pad(c:Cx)(k:Nat):Cx:={ c with heap:=c.heap++List.replicate k .hole }
theorem Bx{k i:Nat}{bx:af}(hi:c.heap[i]?=some bx):(c.pad k).heap[i]?=some bx:=(List.getElem?_append_left (aQ hi)).trans hi
theorem ER{k i:Nat}(h1:c.heap.length<=i)(h2:i<c.heap.length+k):(c.pad k).heap[i]?=some .hole:=by
 show(c.heap++_)[i]?=_;rw[List.getElem?_append_right h1,List.getElem?_replicate,if_pos (by omega)]
theorem By(ho:aK G c)(k:Nat):Step c (c.pad k):=⟨rfl,ho.bQ,rfl,rfl,rfl,Nat.le_refl _,fun _ _ _=>rfl,fun i b n h _=>⟨n,h⟩,fun i bx hi=>by
  have h':=Bx (k:=k) hi;cases bx with
  |cells cs=>exact .inl ⟨cs,h',rfl,rfl⟩
  |arr g sz l=>exact .inl ⟨g,l,h',.inr ⟨rfl,rfl,rfl⟩⟩
  |map es=>exact .inl ⟨es,h',rfl⟩
  |gone=>exact h'
  |hole=>exact⟨_,h'⟩⟩
theorem aK.pad(ho:aK G c)(k:Nat):aK G (c.pad k):=by
 refine ho.next (By ho k) (fun i b n hi=>⟨(ho.bA i b n hi).1,?_⟩) ho.inj fun i bx hi=>?_
 ·have:=(ho.bA i b n hi).2;show i<(c.heap++_).length;rw[List.length_append];omega
 ·rcases Nat.lt_or_ge i c.heap.length with hl|hl
  ·exact .inl ⟨by rw[<- hi,Bx (List.getElem?_eq_getElem hl)];exact List.getElem?_eq_getElem hl,rfl,fun _ _ _=>rfl⟩
  ·have h2:=aQ hi;rw[show(c.pad k).heap.length=c.heap.length+k by simp[Cx.pad]]at h2;rw[ER hl h2]at hi;cases hi;right;show c.own i=none;cases hx:c.own i with
   |none=>rfl
   |some p=>have:=(ho.bA i p.1 p.2 hx).2;omega
theorem ar.at{E:Env}{f:FuncId}{args:List AV}{Q:AV->List af->Prop}(H:ar E f (ez J h) (args.map (fV J h)) Q)(hn:J.Nodup)(ah:∀ j∈J,j<h.length)(hh:c.heap=h)(ho:aK E.G c){vs:List Value}(hv:VL c args vs) :
  Calls E.P f vs.toArray c.w fun e w'=>∃ (c':Cx) (r:AV) (h1:List af) (v:Value),e=.returned v/\c'.w=w'/\Q r h1/\c'.heap=eY J h h1/\VR c' (iT J h r) v/\aK E.G c'/\Step c c':=by
 subst hh;unfold ar at H;refine(H.2.2 (c.eF J) vs rfl (ho.eF hn) (Js hv)).mono fun e w' ⟨c1,r,v,k1,k2,k3,k4,k5,k6⟩=>?_;have hs:∀ j∈J,(c.pad (c1.heap.length-J.length)).heap[j]?=c.heap[j]? := fun j hj=>List.getElem?_append_left (ah j hj);have hg:(c.pad (c1.heap.length-J.length)).eF J=c.eF J:=by
  simp only[Cx.eF,EP hs];rfl
 have hb:lz (c.pad (c1.heap.length-J.length)) c1 J c.heap:=⟨hn,ah,by simp[Cx.pad],hs,fun j hj=>have hj:=oN.1 hj;ER hj.1 hj.2,by rw[hg];exact k6,fun i b n hi=>(k5.bA i b n hi).2⟩;have yZ:=ho.pad (c1.heap.length-J.length);refine⟨(c.pad (c1.heap.length-J.length)).take c1 J c.heap,r,c1.heap,v,k1,k2,k3,?_,EM yZ hb k4,yZ.take k5 hb,(By ho _).trans (Bw yZ hb)⟩;refine List.ext_getElem? fun j=>?_;show(fX _ _ _)[j]?=_;by_cases hm:j∈J++dL J c.heap c1.heap
 ·have hl:j<c.heap.length+(c1.heap.length-J.length):=(List.mem_append.1 hm).elim (fun h=>by have:=ah j h;omega) fun h=>(oN.1 h).2;obtain⟨b,hr⟩:∃ b,(eY J c.heap c1.heap)[j]?=some b:=⟨_,List.getElem?_eq_getElem (by rw[sj];exact hl)⟩;rw[yR hm (by show j<(c.heap++_).length;rw[List.length_append,List.length_replicate];exact hl) hr,hr]
 ·rw[pw hm];have kH:dh J j=none:=by
   cases hx:dh J j with
   |none=>rfl
   |some i=>exact absurd (List.mem_append_left _ (List.mem_of_getElem? (jP hx))) hm
  rcases Nat.lt_or_ge j c.heap.length with hl|hl
  ·rw[EH hl kH,Bx (List.getElem?_eq_getElem hl),List.getElem?_eq_getElem hl]
  ·have:¬ j<c.heap.length+(c1.heap.length-J.length):=fun h=>hm (List.mem_append_right _ (oN.2 ⟨hl,h⟩));rw[List.getElem?_eq_none (by show(c.heap++_).length<=j;rw[List.length_append,List.length_replicate];omega),List.getElem?_eq_none (by rw[sj];omega)]
end
end Go.ay
end
section
namespace Go.ay
open Go Go.RowKit
universe u
section DG
variable {α:Sort u} {β γ:Type}
def jt(f:β->(γ->α)->α):List β->(List γ->α)->α
 |[],k=>k []
 |a::l,k=>f a fun b=>jt f l fun l'=>k (b::l')
theorem px{f:β->(γ->α)->α}{g:β->γ}(h:∀ x k,f x k=k (g x)):∀ (l:List β) (k:List γ->α),jt f l k=k (l.map g)
 |[],_=>rfl
 |a::l,k=>by simp only[jt,h,px h l,List.map_cons]
def su:List β->List β->(List β->α)->α
 |[],m,k=>k m
 |a::l,m,k=>su l m fun l'=>k (a::l')
theorem wN:∀ (l m:List β) (k:List β->α),su l m k=k (l++m)
 |[],_,_=>rfl
 |a::l,m,k=>by simp only[su,wN l,List.cons_append]
def oO:List β->Nat->(Nat->α)->α
 |[],n,k=>k n
 |_::l,n,k=>oO l (n+1) k
theorem uj:∀ (l:List β) (n:Nat) (k:Nat->α),oO l n k=k (n+l.length)
 |[],_,_=>rfl
 |_::l,n,k=>by rw[oO,uj l,List.length_cons];congr 1;omega
def qD:List Nat->Nat->Nat->α->(Nat->α)->α
 |[],_,_,no,_=>no
 |a::l,j,n,no,k=>match Nat.beq a j with
  |true=>k n
  |false=>qD l j (n+1) no k
theorem ES:∀ (l:List Nat) (j n:Nat) (no:α) (k:Nat->α),qD l j n no k=match dh l j with
  |some i=>k (n+i)
  |none=>no
 |[],_,_,_,_=>rfl
 |a::l,j,n,no,k=>by
  simp only[qD,dh];cases Nat.beq a j with
  |true=>rfl
  |false =>
   rw[ES l];cases dh l j with
   |none=>rfl
   |some i=>simp only[Option.map_some];congr 1;omega
theorem wO{l:List β}{i:Nat}{no:α}{k:β->α}:aT l i no k=match dI l i with
  |some x=>k x
  |none=>no:=by
 rw[ev];cases h:l[i]? with
 |none=>exact Is h no k
 |some x=>exact AZ h no k
def sw(J:List Nat)(h:List af)(x:AV)(k:AV->α):α :=
 match x with
 | .own j g=>qD J j 0 (k .any) fun i=>aT h j (k .any) fun
  | .arr g' _ _=>match Nat.beq g g' with
   |true=>k (.own i 0)
   |false=>k .any
  |_=>k .any
 | .ptr j off=>qD J j 0 (k .any) fun i=>aT h j (k .any) fun
  | .cells _=>k (.ptr i off)
  |_=>k .any
 | .cV j g n off=>qD J j 0 (k .any) fun i=>aT h j (k .any) fun
  | .arr g' _ _=>match Nat.beq g g' with
   |true=>k (.cV i 0 n off)
   |false=>k .any
  |_=>k .any
 | .cut j g n q=>qD J j 0 (k .any) fun i=>aT h j (k .any) fun
  | .arr g' _ _=>match Nat.beq g g' with
   |true=>k (.cut i 0 n q)
   |false=>k .any
  |_=>k .any
 | .map j=>qD J j 0 (k .any) fun i=>aT h j (k .any) fun
  | .map _=>k (.map i)
  |_=>k .any
 | .d x=>k (.d x)
 | .bO e off=>k (.bO e off)
 |_=>k .any
theorem ET(J:List Nat)(h:List af)(x:AV)(k:AV->α):sw J h x k=k (gE J h x):=by
 unfold sw gE;simp only[ES,wO,Nat.zero_add];cases x with
 |own j g =>
  dsimp only;generalize dh J j=a;generalize dI h j=o;cases a with
  |none=>rfl
  |some i=>cases o with
   |none=>rfl
   |some b=>cases b with
    |arr g' _ _=>dsimp only;cases Nat.beq g g'<;>rfl
    |_=>rfl
 |ptr j off =>
  dsimp only;generalize dh J j=a;generalize dI h j=o;cases a with
  |none=>rfl
  |some i=>cases o with
   |none=>rfl
   |some b=>cases b<;>rfl
 |cut j g n q =>
  dsimp only;generalize dh J j=a;generalize dI h j=o;cases a with
  |none=>rfl
  |some i=>cases o with
   |none=>rfl
   |some b=>cases b with
    |arr g' _ _=>dsimp only;cases Nat.beq g g'<;>rfl
    |_=>rfl
 |cV j g n off =>
  dsimp only;generalize dh J j=a;generalize dI h j=o;cases a with
  |none=>rfl
  |some i=>cases o with
   |none=>rfl
   |some b=>cases b with
    |arr g' _ _=>dsimp only;cases Nat.beq g g'<;>rfl
    |_=>rfl
 |map j =>
  dsimp only;generalize dh J j=a;generalize dI h j=o;cases a with
  |none=>rfl
  |some i=>cases o with
   |none=>rfl
   |some b=>cases b<;>rfl
 |_=>rfl
def y0(J:List Nat)(h:List af)(x:AV)(k:AV->α):α :=
 match x with
 | .agg l=>jt (sw J h) l fun l'=>k (.agg l')
 | .aD l=>jt (sw J h) l fun l'=>k (.aD l')
 | .fn f a b=>jt (sw J h) a fun a'=>jt (sw J h) b fun b'=>k (.fn f a' b')
 |x=>sw J h x k
theorem EU(J:List Nat)(h:List af)(x:AV)(k:AV->α):y0 J h x k=k (fV J h x):=by
 unfold y0 fV;cases x<;>simp only[px (ET J h),ET]
def EV(J:List Nat)(h:List af)(b:af)(k:af->α):α :=
 match b with
 | .arr _ ts l=>k (.arr 0 ts l)
 | .cells cs=>jt (sw J h) cs fun cs'=>k (.cells cs')
 | .map es=>k (.map es)
 | .gone=>k .gone
 | .hole=>k .hole
theorem Rq(J:List Nat)(h:List af)(b:af)(k:af->α):EV J h b k=k (oM J h b):=by
 unfold EV oM;cases b<;>simp only[px (ET J h)]
def EW(J:List Nat)(h:List af)(j:Nat)(k:af->α):α:=aT h j (k .gone) fun b=>EV J h b k
theorem Rr(J:List Nat)(h:List af)(j:Nat)(k:af->α):EW J h j k=k (match dI h j with|some b=>oM J h b|none => .gone):=by
 unfold EW;rw[wO];generalize dI h j=o;cases o with
 |none=>rfl
 |some b=>exact Rq J h b k
def y3(J:List Nat)(h:List af)(k:List af->α):α:=jt (EW J h) J k
theorem EX(J:List Nat)(h:List af)(k:List af->α):y3 J h k=k (ez J h):=by
 unfold y3 ez;rw[px (Rr J h)];all_goals rfl
def uk(J:List Nat)(h:List af)(i:Nat)(k:Nat->α):α:=aT J i (oO h 0 fun n=>oO J 0 fun m=>k (n+(i-m))) k
theorem Rs(J:List Nat)(h:List af)(i:Nat)(k:Nat->α):uk J h i k=k (fW J h i):=by
 unfold uk fW;rw[wO];simp only[uj,Nat.zero_add];generalize dI J i=o;cases o<;>rfl
def Bz(h:List af)(j:Nat)(k:Nat->α):α:=aT h j (k 0) fun
 | .arr g _ _=>k g
 |_=>k 0
theorem JE(h:List af)(j:Nat)(k:Nat->α):Bz h j k=k (mV h j):=by
 unfold Bz mV;rw[wO];generalize dI h j=o;cases o with
 |none=>rfl
 |some b=>cases b<;>rfl
def y4(J:List Nat)(h:List af)(i:Nat)(k:Nat->α):α:=aT J i (k 0) fun j=>Bz h j k
theorem Rt(J:List Nat)(h:List af)(i:Nat)(k:Nat->α):y4 J h i k=k (nZ J h i):=by
 unfold y4 nZ;rw[wO];generalize dI J i=o;cases o with
 |none=>rfl
 |some b=>exact JE h b k
def sx(J:List Nat)(h:List af)(x:AV)(k:AV->α):α :=
 match x with
 | .own i g=>uk J h i fun j=>y4 J h i fun g0=>k (.own j (g0+g))
 | .ptr i off=>uk J h i fun j=>k (.ptr j off)
 | .cV i g n off=>uk J h i fun j=>y4 J h i fun g0=>k (.cV j (g0+g) n off)
 | .cut i g n q=>uk J h i fun j=>y4 J h i fun g0=>k (.cut j (g0+g) n q)
 | .map i=>uk J h i fun j=>k (.map j)
 | .d x=>k (.d x)
 | .bO e off=>k (.bO e off)
 |_=>k .any
theorem EY(J:List Nat)(h:List af)(x:AV)(k:AV->α):sx J h x k=k (kG J h x):=by
 unfold sx kG;cases x<;>simp only[Rs,Rt]
def BA(J:List Nat)(h:List af)(x:AV)(k:AV->α):α :=
 match x with
 | .agg l=>jt (sx J h) l fun l'=>k (.agg l')
 | .aD l=>jt (sx J h) l fun l'=>k (.aD l')
 | .fn f a b=>jt (sx J h) a fun a'=>jt (sx J h) b fun b'=>k (.fn f a' b')
 |x=>sx J h x k
theorem JF(J:List Nat)(h:List af)(x:AV)(k:AV->α):BA J h x k=k (wJ J h x):=by
 unfold BA wJ;cases x<;>simp only[px (EY J h),EY]
def fB(J:List Nat)(h:List af)(x:AV)(k:AV->α):α :=
 match x with
 | .aD l=>jt (BA J h) l fun l'=>k (.aD l')
 |x=>BA J h x k
theorem mY(J:List Nat)(h:List af)(x:AV)(k:AV->α):fB J h x k=k (iT J h x):=by
 unfold fB iT;cases x<;>simp only[px (JF J h),JF]
def BB(J:List Nat)(h:List af)(g0:Nat)(b:af)(k:af->α):α :=
 match b with
 | .arr g ts l=>k (.arr (g0+g) ts l)
 | .cells cs=>jt (sx J h) cs fun cs'=>k (.cells cs')
 | .map es=>k (.map es)
 | .gone=>k .gone
 | .hole=>k .hole
theorem JG(J:List Nat)(h:List af)(g0:Nat)(b:af)(k:af->α):BB J h g0 b k=k (mf J h g0 b):=by
 unfold BB mf;cases b<;>simp only[px (EY J h)]
def wP(J:List Nat)(h h1:List af):Nat->List af->(List af->α)->α
 |_,[],k=>k []
 |j,b::r,k=>qD J j 0 (wP J h h1 (j+1) r fun r'=>k (b::r')) fun i=>aT h1 i (wP J h h1 (j+1) r fun r'=>k (.gone::r')) fun b1=>Bz h j fun g=>BB J h g b1 fun b2=>wP J h h1 (j+1) r fun r'=>k (b2::r')
theorem JI(J:List Nat)(h h1:List af):∀ (j:Nat) (r:List af) (k:List af->α),wP J h h1 j r k=k (pv J h h1 j r)
 |_,[],_=>rfl
 |j,b::r,k=>by
  simp only[wP,ES,wO,JE,JG,JI J h h1 (j+1) r,Nat.zero_add,pv];generalize dh J j=a;cases a with
  |none=>rfl
  |some i =>
   dsimp only;generalize dI h1 i=o;cases o<;>rfl
def ju(J:List Nat)(h h1:List af)(k:List af->α):α:=wP J h h1 0 h fun a=>oO J 0 fun n=>tI n h1 fun h2=>jt (BB J h 0) h2 fun b=>su a b k
theorem qE(J:List Nat)(h h1:List af)(k:List af->α):ju J h h1 k=k (eY J h h1):=by
 unfold ju eY;simp only[JI,uj,Nat.zero_add,DH,px (JG J h 0),wN]
def um(d:Nat):List Nat->Bool
 |[]=>false
 |a::l=>match Nat.beq a d with
  |true=>true
  |false=>um d l
def uo(j:Nat)(J:List Nat)(k:List Nat->α):α:=match um j J with
 |true=>k J
 |false=>su J [j] k
def BC(h:List af)(x:AV)(J:List Nat)(k:List Nat->α):α :=
 match x with
 | .own j g=>aT h j (k J) fun
  | .arr g' _ _=>match Nat.beq g g' with
   |true=>uo j J k
   |false=>k J
  |_=>k J
 | .ptr j _=>aT h j (k J) fun
  | .cells _=>uo j J k
  |_=>k J
 | .cV j g _ _=>aT h j (k J) fun
  | .arr g' _ _=>match Nat.beq g g' with
   |true=>uo j J k
   |false=>k J
  |_=>k J
 | .cut j g _ _=>aT h j (k J) fun
  | .arr g' _ _=>match Nat.beq g g' with
   |true=>uo j J k
   |false=>k J
  |_=>k J
 | .map j=>aT h j (k J) fun
  | .map _=>uo j J k
  |_=>k J
 |_=>k J
def sy(h:List af):List AV->List Nat->(List Nat->α)->α
 |[],J,k=>k J
 |x::l,J,k=>BC h x J fun mZ=>sy h l mZ k
def qF(h:List af):List AV->List Nat->(List Nat->α)->α
 |[],J,k=>k J
 |x::l,J,k=>match x with
  | .agg c=>sy h c J fun mZ=>qF h l mZ k
  | .aD c=>sy h c J fun mZ=>qF h l mZ k
  | .fn _ a b=>sy h a J fun mZ=>sy h b mZ fun Ru=>qF h l Ru k
  |x=>BC h x J fun mZ=>qF h l mZ k
def sA(h:List af):Nat->Nat->List Nat->(List Nat->α)->α
 |0,_,J,k=>k J
 |n+1,p,J,k=>aT J p (k J) fun j=>aT h j (sA h n (p+1) J k) fun
  | .cells cs=>sy h cs J fun mZ=>sA h n (p+1) mZ k
  |_=>sA h n (p+1) J k
def wQ(n:Nat):List Nat->Bool
 |[]=>true
 |j::l=>match um j l,Nat.blt j n with
  |false,true=>wQ n l
  |_,_=>false
end DG
theorem BD{d:Nat}:∀ {l:List Nat},um d l=true↔d∈l
 |[]=>by simp[um]
 |a::l=>by
  simp only[um];split
  ·rename_i q;simp[Nat.eq_of_beq_eq_true q]
  ·rename_i q;have aI:d≠a:=fun e=>by rw[e,Nat.beq_refl]at q;cases q
   rw[BD (l:=l)];simp[aI]
theorem BE{n:Nat}:∀ {l:List Nat},wQ n l=true->l.Nodup/\∀ j∈l,j<n
 |[],_=>⟨.nil,fun j hj=>by simp at hj⟩
 |j::l,H=>by
  simp only[wQ]at H;split at H
  ·rename_i q1 q2;obtain⟨h1,h2⟩:=BE H;refine⟨List.nodup_cons.2 ⟨fun hm=>?_,h1⟩,fun i hi=>?_⟩
   ·rw[BD.2 hm]at q1;cases q1
   ·rcases List.mem_cons.1 hi with rfl|hi
    ·exact Nat.le_of_ble_eq_true q2
    ·exact h2 i hi
  ·cases H
@[irreducible] def wR (E : Env) (f : FuncId) (h0 : List af) (args : List AV) (K : AV -> List af -> Prop) : Prop := ∃ Q, ar E f h0 args Q /\ ∀ r h1, Q r h1 -> K r h1
theorem jv{E:Env}{f:FuncId}{h0:List af}{args:List AV}{K Q:AV->List af->Prop}(H:ar E f h0 args Q)(hk:∀ r h1,Q r h1->K r h1):wR E f h0 args K:=by unfold wR;exact⟨Q,H,hk⟩
theorem aO{E:Env}{f:FuncId}{h0:List af}{args:List AV}{K:AV->List af->Prop}{r:AV}{h1:List af}(H:ar E f h0 args (fun a b=>a=r/\b=h1))(hk:K r h1):wR E f h0 args K:=jv H fun _ _ ⟨e1,e2⟩=>by subst e1;subst e2;exact hk
def BF(E:Env)(f:FuncId)(hI:List AV)(h:List af)(stop:Prop)(k:AV->List af->Prop):Prop :=
 qF h hI [] fun y5=>sA h 20 0 y5 fun J=>oO h 0 fun n=>match wQ n J with
  |true=>y3 J h fun h0=>jt (y0 J h) hI fun EZ=>wR E f h0 EZ fun r h1=>fB J h r fun v=>ju J h h1 fun h'=>k v h'
  |false=>stop
theorem JJ{h:List af}{x:AV}{J:List Nat}{k:List Nat->Prop}(H:BC h x J k):∃ l,k l:=by
 have BG:∀ {j:Nat},uo j J k->∃ l,k l:=fun{j} H=>by
  unfold uo at H;split at H
  ·exact⟨_,H⟩
  ·rw[wN]at H;exact⟨_,H⟩
 unfold BC at H;split at H;all_goals first
  |exact⟨_,H⟩
  |(rcases bo H with H|⟨_, _, H⟩
    · exact⟨_, H⟩
    split at H
    · first
      |exact BG H
      |(split at H
        · exact BG H
        · exact⟨_, H⟩)
    · exact⟨_, H⟩)
theorem wS{h:List af}:∀ {l:List AV} {J:List Nat} {k:List Nat->Prop},sy h l J k->∃ l,k l
 |[],_,_,H=>⟨_,H⟩
 |_::_,_,_,H=>by
  simp only[sy]at H;obtain⟨_,H⟩:=JJ H;exact wS H
theorem uq{h:List af}:∀ {l:List AV} {J:List Nat} {k:List Nat->Prop},qF h l J k->∃ l,k l
 |[],_,_,H=>⟨_,H⟩
 |x::_,_,_,H=>by
  simp only[qF]at H;split at H
  ·obtain⟨_,H⟩:=wS H;exact uq H
  ·obtain⟨_,H⟩:=wS H;exact uq H
  ·obtain⟨_,H⟩:=wS H;obtain⟨_,H⟩:=wS H;exact uq H
  ·obtain⟨_,H⟩:=JJ H;exact uq H
theorem wT{h:List af}:∀ {n p:Nat} {J:List Nat} {k:List Nat->Prop},sA h n p J k->∃ l,k l
 |0,_,_,_,H=>⟨_,H⟩
 |n+1,p,J,k,H=>by
  simp only[sA]at H;rcases bo H with H|⟨j,_,H⟩
  ·exact⟨_,H⟩
  rcases bo H with H|⟨b,_,H⟩
  ·exact wT H
  split at H
  ·obtain⟨_,H⟩:=wS H;exact wT H
  ·exact wT H
theorem Rv{E:Env}{f:FuncId}{hI:List AV}{h:List af}{stop:Prop}{k:AV->List af->Prop}(H:BF E f hI h stop k):stop\/∃ (J:List Nat) (Q:AV->List af->Prop),
  ar E f (ez J h) (hI.map (fV J h)) Q/\J.Nodup/\(∀ j∈J,j<h.length)/\∀ r h1,Q r h1->k (iT J h r) (eY J h h1):=by
 unfold BF at H;obtain⟨s0,H⟩:=uq H;obtain⟨J,H⟩:=wT H;rw[uj,Nat.zero_add]at H;split at H
 ·rename_i q;obtain⟨h1,h2⟩:=BE q;rw[EX,px (EU J h)]at H;unfold wR at H;obtain⟨Q,h3,h4⟩:=H;refine .inr ⟨J,Q,h3,h1,h2,fun r h1 hq=>?_⟩;have:=h4 r h1 hq;dsimp only at this;rw[mY,qE]at this;exact this
 ·exact .inl H
section
variable {E:Env} {f0:FuncId} {ag:iP} {k:List aP} {s:List AV} {cls:List b8} {h:List af} {R:cF}
theorem AW.JK{ops:Array Oper}{o:Oper}{l:List Oper}{fx:Operand}{args:Array Operand}{ts:Array TypeId}{f:FuncId}{a1 a2 av:List AV}{J:List Nat}{Q:AV->List af->Prop}(hw:gW ops o s true)(ho:o.op=.call { callee := .value fx,args:=args,argTypes:=ts })
  (hf:aZ E.G s fx (.fn (.func f) a1 a2)) (ha:jn E.G s args.toList av) (hc:ar E f (ez J h) ((a1++av++a2).map (fV J h)) Q) (hn:J.Nodup) (ah:∀ j∈J,j<h.length)
  (H:∀ r h1,Q r h1->AW E f0 ⟨ag,.bu ops l::k,bX s o.dst (iT J h r)⟩ cls (eY J h h1) R):AW E f0 ⟨ag,.bu ops (o::l)::k,s⟩ cls h R:=by
 unfold AW at H ⊢;intro c0 c t ts h0 h1 h2 h3 hr bq h4 h5 cs;obtain⟨i,hi,ea,aM⟩:=mQ (h1 _ (List.mem_cons_self ..));obtain⟨v1,v2,e1,e2,e3⟩:=ma (hf c ⟨t,marks ag.aL⟩ h3 h4);have e4:=ha c ⟨t,marks ag.aL⟩ h3 h4;have e5:=(e2.append e4).append e3;have hb:lq E.P f:=by unfold ar at hc;exact hc.1
 obtain⟨e,w',fr,⟨c',r,hp,v,rfl,rfl,hQ,BH,hv,cU,bg⟩,D',Ea,Eb⟩:=hc.at (c:=c) hn ah h2 h3 e5 ((bf ag).atR ⟨t,marks ag.aL⟩ (.inRegion ops (i::(List.range ops.size).drop (ops.size-l.length))::k.map aP.bI)::(eL cls ts++cs));have jJ:VS c' (bX s o.dst (iT J h r)) ((⟨t,marks ag.aL⟩:Act).put o.dst v).tmps:=VS.bX (a:=⟨t,marks ag.aL⟩) (bg.vs h4) o.dst hv;obtain⟨c2,tX,r2,u2,q1,q2,q3,tY,q4,q5,q6⟩:=H r hp hQ c0 c' _ ts h0 (gC aM (dZ h1)) BH cU (hr.step bg) (bq.step h3 bg) jJ (bg.cr h5) cs;refine⟨c2,tX,r2,u2,q1,q2,q3,tY,?_,q5,q6⟩;have cI:=yr (P:=E.P) (w:=c.w) (a:=⟨t,marks ag.aL⟩) ho e1 hb;have jK:(v1.toArray++args.map (⟨t,marks ag.aL⟩:Act).eval++v2.toArray)=(v1++args.toList.map (⟨t,marks ag.aL⟩:Act).eval++v2).toArray:=by
  apply Array.ext';simp
 rw[jK]at cI;have s1:=D8 (P:=E.P) (b:=bf ag) (k:=k.map aP.bI) (cs:=eL cls ts++cs) (rest:=(List.range ops.size).drop (ops.size-l.length)) hi (hw c t h4) cI;have s2:=step_leave_returned (c:=(bf ag).atR ⟨t,marks ag.aL⟩ (.inRegion ops (i::(List.range ops.size).drop (ops.size-l.length))::k.map aP.bI)) (cs:=eL cls ts++cs) Eb;rw[Frame.finish_atR,hi]at s2;have Ec:(⟨ag,.bu ops (o::l)::k,s⟩:b8).bI t=(bf ag).atR ⟨t,marks ag.aL⟩ (.inRegion ops (i::(List.range ops.size).drop (ops.size-l.length))::k.map aP.bI):=by
  simp only[b8.bI,List.map_cons,ea]
 rw[Ec];refine .head s1 (Steps.trans D' (.head s2 ?_));have aF:(bf ag).atR ((⟨t,marks ag.aL⟩:Act).put ((some o).bind (·.dst)) v) (.inRegion ops ((List.range ops.size).drop (ops.size-l.length))::k.map aP.bI)=(⟨ag,.bu ops l::k,bX s o.dst (iT J h r)⟩:b8).bI ((⟨t,marks ag.aL⟩:Act).put o.dst v).tmps:=by
  simp only[b8.bI,List.map_cons,aP.bI,Option.bind_some];rw[put_defers]
 rw[aF];exact q4
end
end Go.ay
end
section
namespace Go.ay
open Go Go.RowKit
@[irreducible] def na (b : Bool) (A B : Prop) : Prop := (b = true -> A) /\ (b = false -> B)
theorem ai{b:Bool}{A B:Prop}(h1:b=true->A)(h2:b=false->B):na b A B:=by unfold na;exact⟨h1,h2⟩
theorem bj{A B:Prop}(h:A):na true A B:=ai (fun _=>h) (fun h=>by cases h)
theorem aR{A B:Prop}(h:B):na false A B:=ai (fun h=>by cases h) (fun _=>h)
theorem aU{b:Bool}{A B:Prop}(hb:b=true)(h:A):na b A B:=by subst hb;exact bj h
theorem aW{b:Bool}{A B:Prop}(hb:b=false)(h:B):na b A B:=by subst hb;exact aR h
theorem E0{b:Bool}{A B C:Prop}(h:na b A B)(h1:b=true->A->C)(h2:b=false->B->C):C:=by
 unfold na at h;cases hb:b
 ·exact h2 hb (h.2 hb)
 ·exact h1 hb (h.1 hb)
@[irreducible] def qG (E : Env) (f : FuncId) (ds : List DV) (h : List af) (K : AV -> List af -> Prop) : Prop :=
 (∃ R1,aq E f ds R1/\∀ r,R1 r->K (.d r) h)\/∃ Q,ar E f [] (ds.map .d) Q/\∀ r h1,Q r h1->K (iT [] h r) (eY [] h h1)
theorem wU{E:Env}{f:FuncId}{ds:List DV}{h:List af}{K:AV->List af->Prop}{R1:DV->Prop}(hc:aq E f ds R1)(hk:∀ r,R1 r->K (.d r) h):qG E f ds h K:=by unfold qG;exact .inl ⟨R1,hc,hk⟩
theorem ao{E:Env}{f:FuncId}{ds:List DV}{h:List af}{K:AV->List af->Prop}{r:DV}(hc:aq E f ds (· = r))(hk:K (.d r) h):qG E f ds h K:=wU hc fun _ e=>e ▸ hk
theorem JL{E:Env}{f:FuncId}{ds:List DV}{h:List af}{K:AV->List af->Prop}{Q:AV->List af->Prop}(hc:ar E f [] (ds.map .d) Q)(hk:∀ r h1,Q r h1->fB [] h r fun v=>ju [] h h1 fun h'=>K v h'):qG E f ds h K:=by
 unfold qG;refine .inr ⟨Q,hc,fun r h1 hq=>?_⟩;have:=hk r h1 hq;rw[mY,qE]at this;exact this
theorem wV{E:Env}{f:FuncId}{ds:List DV}{h:List af}{K:AV->List af->Prop}{r:AV}{h1:List af}{args:List AV}(hc:ar E f [] args (fun a b=>a=r/\b=h1))(ha:args=ds.map .d)(hk:fB [] h r fun v=>ju [] h h1 fun h'=>K v h'):qG E f ds h K :=
 JL (ha ▸ hc) fun _ _ ⟨e1,e2⟩=>by subst e1;subst e2;exact hk
def jQ(d:Nat):List Nat->Bool
 |[]=>false
 |a::l=>match Nat.beq a d with
  |true=>true
  |false=>jQ d l
def y6(G:List (Nat × DV))(s:List AV)(o:Oper)(stop:Prop)(k:FuncId->List AV->Prop):Prop :=
 match o.op with
 | .call { callee := .value fx,args:=args,.. }=>ca G s fx stop fun
  | .fn (.func f) a1 a2=>tK G s args.toList stop fun av=>su a1 av fun a3=>su a3 a2 fun a4=>k f a4
  | .d (.fn (.func f))=>tK G s args.toList stop fun av=>k f av
  |_=>stop
 |_=>stop
def E2(inl:List FuncId)(E:Env)(s:List AV)(h:List af)(o:Oper)(stop:Prop)(k:AV->List af->Prop):Prop :=
 y6 E.G s o stop fun f hI=>match jQ f inl with
  |true=>stop
  |false=>qd hI (BF E f hI h stop k) fun ds=>qG E f ds h k
theorem JM{G:List (Nat × DV)}{s:List AV}{o:Oper}{stop:Prop}{k:FuncId->List AV->Prop}(H:y6 G s o stop k):stop\/∃ (fx:Operand) (args:Array Operand) (ts:Array TypeId) (f:FuncId) (a1 av a2:List AV),
  o.op=.call { callee := .value fx,args:=args,argTypes:=ts }/\aZ G s fx (.fn (.func f) a1 a2)/\jn G s args.toList av/\k f (a1++av++a2):=by
 unfold y6 at H;split at H
 ·rename_i fx args ts cm;rcases cq H with H|⟨v,hv,H⟩
  ·exact .inl H
  split at H
  ·rename_i f a1 a2;rcases yk H with H|⟨av,n0,H⟩
   ·exact .inl H
   rw[wN,wN]at H;exact .inr ⟨fx,args,ts,f,a1,av,a2,cm,hv,n0,H⟩
  ·rename_i f;rcases yk H with H|⟨av,n0,H⟩
   ·exact .inl H
   refine .inr ⟨fx,args,ts,f,[],av,[],cm,fun c a h1 h2=>?_,n0,by simpa using H⟩;have:=hv c a h1 h2;generalize a.eval fx=u at this;cases this with
   |d _ _ hx =>
    cases hx;exact .fn _ _ _ _ _ rfl rfl (fun j x v hx=>by simp at hx) (fun j x v hx=>by simp at hx)
  ·exact .inl H
 ·exact .inl H
def BI(ops:Array Oper)(g:Option (Nat × Bool))(no stop:Prop)(k:Nat->Bool->Prop):Prop :=
 match g with
 |none=>no
 |some (j,b)=>aT ops.toList j stop fun o=>match o.dst with
  |some d=>k d b
  |none=>stop
def JN:Bool->Bool->Bool
 |true,true=>true
 |false,false=>true
 |_,_=>false
def y7(id:Nat):List aP->(stop:Prop)->(List aP->Prop)->Prop
 | .inBlock i::r,stop,k=>match Nat.beq i id with
  |true=>k r
  |false=>y7 id r stop k
 |_::r,stop,k=>y7 id r stop k
 |[],stop,_=>stop
theorem ur{id:Nat}{stop:Prop}{k:List aP->Prop}:∀ {l:List aP},y7 id l stop k->stop\/∃ r,mP id l=some r/\k r
 |[],H => .inl H
 | .inBlock i::l,H=>by
  simp only[y7]at H;split at H
  ·rename_i q;exact .inr ⟨l,by simp only[mP,q],H⟩
  ·rename_i q;rcases ur H with h|⟨r,hr,h⟩
   ·exact .inl h
   ·exact .inr ⟨r,by simp only[mP,q];exact hr,h⟩
 | .code c::l,H=>ur (l:=l) H
 | .inLoop c::l,H=>ur (l:=l) H
 | .pn c::l,H=>ur (l:=l) H
 | .ql::l,H=>ur (l:=l) H
 | .bu ops q::l,H=>ur (l:=l) H
@[irreducible] def I (E : Env) (ag : FuncId) (R : cF) (Rw : List Nat) (td : List aP) (s : List AV) (h : List af) : Prop := AW E R.fx.f0 ⟨⟨ag, R.fx.cB, R.fx.aL⟩, td, s⟩ R.fx.cls h R
theorem I.of{E:Env}{ag:FuncId}{R:cF}{lits:List Nat}{td:List aP}{s:List AV}{h:List af}(H:AW E R.fx.f0 ⟨⟨ag,R.fx.cB,R.fx.aL⟩,td,s⟩ R.fx.cls h R):I E ag R lits td s h:=by unfold I;exact H
theorem I.to{E:Env}{ag:FuncId}{R:cF}{lits:List Nat}{td:List aP}{s:List AV}{h:List af}(H:I E ag R lits td s h):AW E R.fx.f0 ⟨⟨ag,R.fx.cB,R.fx.aL⟩,td,s⟩ R.fx.cls h R:=by unfold I at H;exact H
def y8(ag:FuncId)(x:FX):Bool:=match x.cB,x.aL,x.cls with
 |none,[],[]=>Nat.beq x.f0 ag
 |_,_,_=>false
theorem Rx{ag:FuncId}{x:FX}(h:y8 ag x=true):x.cB=none/\x.aL=[]/\x.cls=[]/\x.f0=ag:=by
 unfold y8 at h;split at h
 ·rename_i a b c;exact⟨a,b,c,Nat.eq_of_beq_eq_true h⟩
 ·cases h
def runK(E:Env)(ag:FuncId)(rs:List ResultVar)(R:cF):Nat->List Nat->List aP->List AV->List af->Prop
 |0,lits,td,s,h=>I E ag R lits td s h
 |n+1,lits,td,s,h =>
  match td with
  |[]=>match y8 ag R.fx with
   |true=>nT E.T s h rs (I E ag R lits td s h) R.Q
   |false=>I E ag R lits td s h
  | .inBlock _::r=>runK E ag rs R n lits r s h
  | .inLoop _::_=>I E ag R lits td s h
  | .pn _::_=>I E ag R lits td s h
  | .ql::_=>I E ag R lits td s h
  | .code c::r=>match c with
   | .skip=>runK E ag rs R n lits r s h
   | .seq a b=>runK E ag rs R n lits (.code a :: .code b::r) s h
   | .block id b=>runK E ag rs R n lits (.code b :: .inBlock id::r) s h
   | .exit id=>y7 id r (I E ag R lits td s h) fun r'=>runK E ag rs R n lits r' s h
   | .region _ ops false=>runK E ag rs R n lits (.bu ops ops.toList::r) s h
   | .ret=>match y8 ag R.fx with
    |true=>nT E.T s h rs (I E ag R lits td s h) R.Q
    |false=>I E ag R lits td s h
   | .cond x a b=>ca E.G s x (I E ag R lits td s h) fun
    | .d (.bool t)=>na t (I E ag R lits (.code a::r) s h) (I E ag R lits (.code b::r) s h)
    |_=>I E ag R lits td s h
   |_=>I E ag R lits td s h
  | .bu _ []::r=>runK E ag rs R n lits r s h
  | .bu ops (o::l)::r =>
   let go:Prop:=jF E.T E.G o.op s h (yI E o.op s h (nY E o.op s h (E2 R.fx.inl E s h o (I E ag R lits td s h) fun v h'=>cd s o.dst v fun s'=>I E ag R lits (.bu ops l::r) s' h')
     fun v h'=>cd s o.dst v fun s'=>I E ag R lits (.bu ops l::r) s' h')
     fun v h'=>cd s o.dst v fun s'=>runK E ag rs R n lits (.bu ops l::r) s' h')
    fun v h'=>cd s o.dst v fun s'=>runK E ag rs R n lits (.bu ops l::r) s' h'
   BI ops o.guard go (I E ag R lits td s h) fun d b=>aT s d (I E ag R lits td s h) fun
    | .d (.bool t)=>match jQ d lits with
     |false=>na t (fz s d (.d (.bool true)) fun s'=>I E ag R (d::lits) td s' h) (fz s d (.d (.bool false)) fun s'=>I E ag R (d::lits) td s' h)
     |true=>match JN t b with
      |true=>go
      |false=>cd s o.dst (.d .undef) fun s'=>runK E ag rs R n lits (.bu ops l::r) s' h
    | .d .undef=>cd s o.dst (.d .undef) fun s'=>runK E ag rs R n lits (.bu ops l::r) s' h
    |_=>I E ag R lits td s h
section
variable {E:Env} {ag:FuncId} {R:cF}
theorem y9{β:Type}:∀ {l:List β} {d:Nat} {x:β},l[d]?=some x->l.set d x=l
 |[],_,_,h=>by simp at h
 |a::l,0,x,h=>by simp at h;subst h;rfl
 |a::l,d+1,x,h=>by simp only[List.set_cons_succ];rw[y9 (by simpa using h)]
theorem E3(hE:E.OK){fn:Func}(hf:E.P.funcs[ag]?=some fn):∀ (n:Nat) (lits:List Nat) (td:List aP) (s:List AV) (h:List af),
  runK E ag fn.results.toList R n lits td s h->AW E R.fx.f0 ⟨⟨ag,R.fx.cB,R.fx.aL⟩,td,s⟩ R.fx.cls h R:=by
 have ret:∀ (lits:List Nat) (td:List aP) (s:List AV) (h:List af),(td=[]\/∃ r,td=.code .ret::r)->(match y8 ag R.fx with|true=>nT E.T s h fn.results.toList (I E ag R lits td s h) R.Q|false=>I E ag R lits td s h)->AW E R.fx.f0 ⟨⟨ag,R.fx.cB,R.fx.aL⟩,td,s⟩ R.fx.cls h R:=by
  intro lits td s h nU H;split at H
  ·rename_i q;by_cases hA:I E ag R lits td s h
   ·exact hA.to
   ·rw[eq_false hA]at H;obtain⟨q1,q2,q3,q4⟩:=Rx q;rw[q1,q2,q3,q4];rcases nU with rfl|⟨r,rfl⟩
    ·exact .Qk hE hf H
    ·exact .ret hE hf H
  ·exact H.to
 intro n
 induction n with
 |zero=>intro lits td s h H;exact I.to H
 |succ n ih =>
  intro lits td s h H;unfold runK at H;split at H
  ·exact ret _ _ s h (.inl rfl) H
  ·exact .inBlock (ih _ _ _ _ H)
  ·exact I.to H
  ·exact I.to H
  ·exact I.to H
  ·rename_i c r;split at H
   ·exact .skip (ih _ _ _ _ H)
   ·exact .seq (ih _ _ _ _ H)
   ·exact .block (ih _ _ _ _ H)
   ·rcases ur H with h'|⟨r',hr,H⟩
    ·exact h'.to
    ·exact .exit hr (ih _ _ _ _ H)
   ·exact .region (ih _ _ _ _ H)
   ·exact ret _ _ s h (.inr ⟨_,rfl⟩) H
   ·rcases cq H with h'|⟨v,hv,H⟩
    ·exact h'.to
    split at H
    ·rename_i t;refine E0 H (fun e H2=>?_) (fun e H2=>?_)
     ·subst e;exact .cond hv (by simpa using H2.to)
     ·subst e;exact .cond hv (by simpa using H2.to)
    ·exact I.to H
   ·exact I.to H
  ·exact .Qc (ih _ _ _ _ H)
  ·rename_i ops o l r
   have go : gW ops o s true -> (jF E.T E.G o.op s h (yI E o.op s h (nY E o.op s h (E2 R.fx.inl E s h o (I E ag R lits (.bu ops (o :: l) :: r) s h) fun v h' => cd s o.dst v fun s' => I E ag R lits (.bu ops l :: r) s' h')
         fun v h' => cd s o.dst v fun s' => I E ag R lits (.bu ops l :: r) s' h')
         fun v h' => cd s o.dst v fun s' => runK E ag fn.results.toList R n lits (.bu ops l :: r) s' h')
     fun v h'=>cd s o.dst v fun s'=>runK E ag fn.results.toList R n lits (.bu ops l::r) s' h')->AW E R.fx.f0 ⟨⟨ag,R.fx.cB,R.fx.aL⟩,.bu ops (o::l)::r,s⟩ R.fx.cls h R:=by
    intro hw H;rcases Be hE H with H|⟨v,h',H,ho⟩
    ·rcases Jf hE H with H|⟨v,h',H,ho⟩
     case inr =>
      rw[dP]at H;exact .op hw ho (ih _ _ _ _ H)
     rcases yQ hE H with H|⟨v,h',H,ho⟩
     case inr =>
      rw[dP]at H;exact .op hw ho H.to
     unfold E2 at H;rcases JM H with H|⟨fx,args,ts,f,a1,av,a2,cm,hv,n0,H⟩
     ·exact I.to H
     split at H
     ·exact I.to H
     rcases ye (a1++av++a2) (BF E f (a1++av++a2) h (I E ag R lits (.bu ops (o::l)::r) s h) fun v h'=>cd s o.dst v fun s'=>I E ag R lits (.bu ops l::r) s' h') (fun ds=>qG E f ds h fun v h'=>cd s o.dst v fun s'=>I E ag R lits (.bu ops l::r) s' h')with⟨ds,e1,e2⟩|e2
     ·rw[e2]at H;unfold qG at H;rcases H with⟨R1,hc,hk⟩|⟨Q,hc,hk⟩
      ·refine .call hw cm hv n0 e1 hc fun u hu=>?_;have:=hk u hu;simp only[dP]at this;exact this.to
      ·refine .JK (J:=[]) hw cm hv n0 (Q:=Q) ?_ List.nodup_nil (fun j hj=>by simp at hj) fun u h1 hu=>?_
       ·have e3:(a1++av++a2).map (fV [] h)=ds.map .d:=by rw[e1,List.map_map];rfl
        rw[e3];exact hc
       ·have:=hk u h1 hu;simp only[dP]at this;exact this.to
     ·rw[e2]at H;rcases Rv H with H|⟨J,Q,hc,hn,ah,hk⟩
      ·exact I.to H
      refine .JK hw cm hv n0 hc hn ah fun u h1 hu=>?_;have:=hk u h1 hu;simp only[dP]at this;exact this.to
    ·rw[dP]at H;exact .op hw ho (ih _ _ _ _ H)
   dsimp only at H;unfold BI at H;split at H
   ·rename_i hg;exact go (fS hg) H
   ·rename_i j b hg;rcases bo H with H|⟨oj,wW,H⟩
    ·exact I.to H
    split at H
    ·rename_i d hd;rcases bo H with H|⟨x,hx,H⟩
     ·exact I.to H
     split at H
     ·rename_i t;split at H
      ·refine E0 H (fun e H2=>?_) (fun e H2=>?_)
       ·subst e;rw[gq,y9 hx]at H2;exact I.to H2
       ·subst e;rw[gq,y9 hx]at H2;exact I.to H2
      ·have hw:=wu hg wW hd hx;split at H
       ·rename_i q;have:(t==b)=true:=by cases t<;>cases b<;>first|rfl|cases q
        rw[this]at hw;exact go hw H
       ·rename_i q;have:(t==b)=false:=by cases t<;>cases b<;>first|rfl|cases q
        rw[this]at hw;rw[dP]at H;exact .IK hw (ih _ _ _ _ H)
     ·rw[dP]at H;exact .IK (IJ hg wW hd hx) (ih _ _ _ _ H)
     ·exact I.to H
    ·exact I.to H
theorem I.run(hE:E.OK){fn:Func}(hf:E.P.funcs[ag]?=some fn)(n:Nat){lits:List Nat}{td:List aP}{s:List AV}{h:List af}(H:runK E ag fn.results.toList R n lits td s h):I E ag R lits td s h := .of (E3 hE hf n lits td s h H)
theorem aq.run (hE : E.OK) {fn : Func} (hf : E.P.funcs[ag]? = some fn) {body : Code} (hb : fn.body = some body) (hn : (fn.name == "runtime.NumGoroutine") = false) (n : Nat) {args : List DV} {R : DV -> Prop}
  (H:oG .d args fun a=>runK E ag fn.results.toList ⟨0,ua R,[],⟨ag,none,[],[],[],[]⟩⟩ n [] [.code body] (nS a fn.ntmps) []):aq E ag args R:=by
 rw[tJ]at H;exact .Qj (.IL hf hb hn (fun i g ts l h=>by simp at h) (E3 hE hf n _ _ _ _ H))
def py:List af->Bool
 |[]=>true
 | .arr g _ _::l=>match Nat.beq g 0 with
  |true=>py l
  |false=>false
 |_::l=>py l
theorem jR:∀ {h:List af},py h=true->wm h
 |[],_=>fun i g ts l h=>by simp at h
 |b::r,H=>by
  have hr:py r=true:=by
   unfold py at H;split at H
   ·rename_i e;cases e
   ·rename_i e;cases e;split at H
    ·exact H
    ·cases H
   ·rename_i e;cases e;exact H
  intro i g ts l h;cases i with
  |zero =>
   simp at h;subst h;simp only[py]at H;split at H
   ·rename_i q;exact Nat.eq_of_beq_eq_true q
   ·cases H
  |succ i=>exact jR hr i g ts l (by simpa using h)
theorem ar.run (hE : E.OK) {fn : Func} (hf : E.P.funcs[ag]? = some fn) {body : Code} (hb : fn.body = some body) (hn : (fn.name == "runtime.NumGoroutine") = false) (n : Nat) {h : List af} (l9 : py h = true) {args : List AV} {Q : AV -> List af -> Prop}
  (H:runK E ag fn.results.toList ⟨h.length,Q,[],⟨ag,none,[],[],[],[]⟩⟩ n [] [.code body] (nS args fn.ntmps) h):ar E ag h args Q :=
 .IL hf hb hn (jR l9) (E3 hE hf n _ _ _ _ H)
end
def wX(h h':List af)(x y:AV)(K:Prop):Prop :=
 match y with
 | .any=>K
 | .d b=>match x with
  | .d a=>a=b/\K
  |_=>False
 | .own b' g'=>match x with
  | .own b g=>match Nat.beq b b' with
   |true=>aT h b False fun
    | .arr g0 _ _=>aT h' b False fun
     | .arr g1 _ _=>match Nat.beq g g0,Nat.beq g' g1 with
      |true,true=>K
      |_,_=>False
     |_=>False
    |_=>False
   |false=>False
  |_=>False
 | .ptr b' E4=>match x with
  | .ptr b off=>match Nat.beq b b',Nat.beq off E4 with
   |true,true=>aT h b False fun
    | .cells _=>aT h' b False fun
     | .cells _=>K
     |_=>False
    |_=>False
   |_,_=>False
  |_=>False
 | .bO e' E4=>match x with
  | .bO e off=>match Nat.beq off E4 with
   |true=>e=e'/\K
   |false=>False
  |_=>False
 | .map b'=>match x with
  | .map b=>match Nat.beq b b' with
   |true=>aT h b False fun
    | .map _=>aT h' b False fun
     | .map _=>K
     |_=>False
    |_=>False
   |false=>False
  |_=>False
 | .cut b' g' k' q'=>match x with
  | .cut b g k q=>match Nat.beq b b' with
   |true=>aT h b False fun
    | .arr g0 _ _=>aT h' b False fun
     | .arr g1 _ _=>match Nat.beq g g0,Nat.beq g' g1 with
      |true,true=>k=k'/\q=q'/\K
      |_,_=>False
     |_=>False
    |_=>False
   |false=>False
  |_=>False
 |_=>False
def sB(h h':List af):List AV->List AV->Prop->Prop
 |[],[],K=>K
 |x::l,y::l',K=>wX h h' x y (sB h h' l l' K)
 |_,_,_=>False
def zb(h h':List af)(x y:AV)(K:Prop):Prop :=
 match y with
 | .agg l'=>match x with
  | .agg l=>sB h h' l l' K
  |_=>False
 | .aD l'=>match x with
  | .aD l=>sB h h' l l' K
  |_=>False
 | .fn f' a' b'=>match x with
  | .fn f a b=>f=f'/\sB h h' a a' (sB h h' b b' K)
  |_=>False
 |y=>wX h h' x y K
def uu(h h':List af):List AV->List AV->Prop->Prop
 |[],[],K=>K
 |x::l,y::l',K=>zb h h' x y (uu h h' l l' K)
 |_,_,_=>False
def JO(g g':Nat):Bool:=match Nat.beq g' 0 with
 |true=>Nat.beq g 0
 |false=>true
theorem Ry{g g':Nat}(h:JO g g'=true):g'=0->g=0:=fun e=>by
 subst e;exact Nat.eq_of_beq_eq_true h
def BJ(h h':List af)(x y:af)(K:Prop):Prop :=
 match y with
 | .gone=>K
 | .cells l'=>match x with
  | .cells l=>uu h h' l l' K
  |_=>False
 | .arr g' ew l'=>match x with
  | .arr g ts l=>match JO g g' with
   |true=>ts=ew/\l=l'/\K
   |false=>False
  |_=>False
 | .map dV=>match x with
  | .map es=>es=dV/\K
  |_=>False
 | .hole=>False
def sD(h h':List af):List af->List af->Prop->Prop
 |_,[],K=>K
 |x::l,y::l',K=>BJ h h' x y (sD h h' l l' K)
 |_,_,_=>False
def BK(own:Nat->Option (Nat × Nat))(h':List af)(i:Nat):Option (Nat × Nat):=match h'[i]? with
 |none=>none
 |some .gone=>none
 |some _=>own i
def Cx.cut(c:Cx)(h':List af):Cx:={ c with own:=BK c.own h',heap:=h' }
def JP(x y:af):Prop:=match y with
 | .gone=>True
 | .cells l'=>∃ l,x=.cells l/\l.length=l'.length
 | .arr g' ew l'=>∃ g,x=.arr g ew l'/\(g'=0->g=0)
 | .map dV=>x=.map dV
 | .hole=>False
def HSub(h h':List af):Prop:=∀ (i:Nat) (y:af),h'[i]?=some y->∃ x,h[i]?=some x/\JP x y
theorem lA{c:Cx}{h':List af}{i:Nat}{y:af}(hy:h'[i]?=some y)(hg:y ≠ .gone):(c.cut h').own i=c.own i:=by
 simp only[Cx.cut,BK,hy]
theorem qH{c:Cx}{h':List af}{i:Nat}{p:Nat × Nat}(hi:(c.cut h').own i=some p):c.own i=some p/\∃ y,h'[i]?=some y/\y ≠ .gone:=by
 simp only[Cx.cut,BK]at hi;split at hi
 ·cases hi
 ·cases hi
 ·rename_i y aI hy;exact⟨hi,y,hy,fun e=>aI (by rw[<- e])⟩
theorem pz{c:Cx}{h':List af}{x:DV}{v:Value}(hv:VD c.bad c.w x v):VD (c.cut h').bad (c.cut h').w x v :=
 hv.mono fun _ _ hn=>⟨fun hb=>hn (hb.elim .inl fun⟨i,n,hi⟩ => .inr ⟨i,n,(qH hi).1⟩),rfl⟩
theorem JQ{h h':List af}{x y:AV}{K:Prop}(H:wX h h' x y K)(hs:HSub h h'):K/\∀ (c:Cx) (v:Value),c.heap=h->VR c x v->VR (c.cut h') y v:=by
 unfold wX at H;split at H
 ·exact⟨H,fun c v _ _ => .any v⟩
 ·split at H
  ·obtain⟨rfl,H⟩:=H;exact⟨H,fun c v _ hv=>by cases hv with|d _ _ hv=>exact .d _ _ (pz hv)⟩
  ·exact H.elim
 ·rename_i b' g';split at H
  ·rename_i b g;split at H
   ·rename_i q;have:=Nat.eq_of_beq_eq_true q;subst this;rcases bo H with H1|⟨bx,hb,H1⟩
    ·exact H1.elim
    clear H;split at H1
    ·rename_i g0 ts l;rcases bo H1 with H2|⟨E5,cw,H2⟩
     ·exact H2.elim
     clear H1;split at H2
     ·rename_i g1 ew l';split at H2
      ·rename_i q1 q2;have q1:=Nat.eq_of_beq_eq_true q1;have q2:=Nat.eq_of_beq_eq_true q2;subst q1;subst q2;refine⟨H2,fun c v hc hv=>?_⟩;obtain⟨x0,k1,gx,k2,-⟩:=hs b _ cw;rw[hb]at k1;cases k1;cases k2;subst hc;have ho:=lA (c:=c) cw (by simp);rcases kC hb hv with⟨blk,cap,r1,rfl⟩|⟨rfl,rfl,r1⟩
       ·exact .own b _ _ _ blk cap cw (ho.trans r1)
       ·exact .iu b _ _ cw (ho.trans r1)
      ·exact H2.elim
     ·exact H2.elim
    ·exact H1.elim
   ·exact H.elim
  ·exact H.elim
 ·split at H
  ·split at H
   ·rename_i q1 q2;have q1:=Nat.eq_of_beq_eq_true q1;have q2:=Nat.eq_of_beq_eq_true q2;subst q1;subst q2;rcases bo H with H|⟨bx,hb,H⟩
    ·exact H.elim
    split at H
    ·rcases bo H with H|⟨E5,cw,H⟩
     ·exact H.elim
     split at H
     ·refine⟨H,fun c v hc hv=>?_⟩;subst hc;have ho:=lA (c:=c) cw (by simp);cases hv with
      |ptr _ _ cs blk cap k1 k2=>exact .ptr _ _ _ blk cap cw (ho.trans k2)
      |iv _ _ _ k1 _=>rw[hb]at k1;cases k1
     ·exact H.elim
    ·exact H.elim
   ·exact H.elim
  ·exact H.elim
 ·split at H
  ·split at H
   ·rename_i q;have:=Nat.eq_of_beq_eq_true q;subst this;obtain⟨rfl,H⟩:=H;refine⟨H,fun c v hc hv=>?_⟩;cases hv with
    |bO _ _ blk o f k1 k2 k3 k4=>exact .bO _ _ blk o f (fun hb=>k1 (hb.elim .inl fun⟨i,n,hi⟩ => .inr ⟨i,n,(qH hi).1⟩)) k2 k3 (fun j x hx=>pz (k4 j x hx))
   ·exact H.elim
  ·exact H.elim
 ·split at H
  ·split at H
   ·rename_i q1;have q1:=Nat.eq_of_beq_eq_true q1;subst q1;rcases bo H with H|⟨bx,hb,H⟩
    ·exact H.elim
    split at H
    ·rcases bo H with H|⟨E5,cw,H⟩
     ·exact H.elim
     split at H
     ·refine⟨H,fun c v hc hv=>?_⟩;subst hc;have ho:=lA (c:=c) cw (by simp);cases hv with
      |map _ es blk cap k1 k2=>exact .map _ _ blk cap cw (ho.trans k2)
      |nK _ _ k1 _=>rw[hb]at k1;cases k1
     ·exact H.elim
    ·exact H.elim
   ·exact H.elim
  ·exact H.elim
 ·rename_i b' g' k' q';split at H
  ·rename_i b g k qq;split at H
   ·rename_i q;have:=Nat.eq_of_beq_eq_true q;subst this;rcases bo H with H1|⟨bx,hb,H1⟩
    ·exact H1.elim
    clear H;split at H1
    ·rename_i g0 ts l;rcases bo H1 with H2|⟨E5,cw,H2⟩
     ·exact H2.elim
     clear H1;split at H2
     ·rename_i g1 ew l';split at H2
      ·rename_i q1 q2;have q1:=Nat.eq_of_beq_eq_true q1;have q2:=Nat.eq_of_beq_eq_true q2;subst q1;subst q2;obtain⟨rfl,rfl,H2⟩:=H2;refine⟨H2,fun c v hc hv=>?_⟩;obtain⟨x0,k1,gx,k2,-⟩:=hs b _ cw;rw[hb]at k1;cases k1;cases k2;subst hc;have ho:=lA (c:=c) cw (by simp);cases hv with
       |cut _ _ _ _ _ l2 blk cap o r1 r2 r3 r4 r5=>rw[hb]at r1;cases r1;exact .cut b _ k _ _ _ blk cap o cw (ho.trans r2) r3 r4 r5
       |nI _ _ g2 _ _ _ _ _ r1 r2 _=>rw[hb]at r1;cases r1;omega
       |nJ _ _ _ _ _ r1 _=>rw[hb]at r1;cases r1
      ·exact H2.elim
     ·exact H2.elim
    ·exact H1.elim
   ·exact H.elim
  ·exact H.elim
 ·exact H.elim
theorem zc{h h':List af}{K:Prop}(hs:HSub h h'):∀ {l l':List AV},sB h h' l l' K->K/\l.length=l'.length/\∀ (c:Cx) (vs:List Value),c.heap=h->VL c l vs->VL (c.cut h') l' vs
 |[],[],H=>⟨H,rfl,fun c vs _ hv=>⟨hv.1,fun j x v hx=>by simp at hx⟩⟩
 |x::l,y::l',H=>by
  simp only[sB]at H;obtain⟨H,h1⟩:=JQ H hs;obtain⟨H,h2,h3⟩:=zc hs H;refine⟨H,by simp[h2],fun c vs hc hv=>?_⟩;cases vs with
  |nil=>have:=hv.1;simp at this
  |cons v vs=>exact .cons (h1 c v hc hv.head.1) (h3 c vs hc hv.head.2)
 |[],_::_,H=>H.elim
 |_::_,[],H=>H.elim
theorem Rz{h h':List af}{x y:AV}{K:Prop}(H:zb h h' x y K)(hs:HSub h h'):K/\∀ (c:Cx) (v:Value),c.heap=h->VR c x v->VR (c.cut h') y v:=by
 unfold zb at H;split at H
 ·split at H
  ·obtain⟨H,-,h1⟩:=zc hs H;refine⟨H,fun c v hc hv=>?_⟩;obtain⟨vs,rfl,iy⟩:=ph hv;exact v7 (h1 c vs hc iy)
  ·exact H.elim
 ·split at H
  ·obtain⟨H,-,h1⟩:=zc hs H;refine⟨H,fun c v hc hv=>?_⟩;cases hv with
   |aD _ vs hl bH =>
    have:=h1 c vs.toList hc ⟨by simpa using hl,fun j x v hx hv=>bH j x v hx (by simpa using hv)⟩;exact .aD _ vs (by simpa using this.1) (fun j x v hx hv=>this.2 j x v hx (by simpa using hv))
  ·exact H.elim
 ·split at H
  ·obtain⟨rfl,H⟩:=H;obtain⟨H,-,h1⟩:=zc hs H;obtain⟨H,-,h2⟩:=zc hs H;refine⟨H,fun c v hc hv=>?_⟩;obtain⟨v1,v2,rfl,r1,r2⟩:=ma hv;have r1:=h1 c v1 hc r1;have r2:=h2 c v2 hc r2;exact .fn _ _ _ _ _ (by simpa using r1.1) (by simpa using r2.1) (fun j x v hx hv=>r1.2 j x v hx (by simpa using hv)) (fun j x v hx hv=>r2.2 j x v hx (by simpa using hv))
  ·exact H.elim
 ·exact JQ H hs
theorem E6{h h':List af}{K:Prop}(hs:HSub h h'):∀ {l l':List AV},uu h h' l l' K->K/\∀ (c:Cx) (vs:List Value),c.heap=h->VL c l vs->VL (c.cut h') l' vs
 |[],[],H=>⟨H,fun c vs _ hv=>⟨hv.1,fun j x v hx=>by simp at hx⟩⟩
 |x::l,y::l',H=>by
  simp only[uu]at H;obtain⟨H,h1⟩:=Rz H hs;obtain⟨H,h3⟩:=E6 hs H;refine⟨H,fun c vs hc hv=>?_⟩;cases vs with
  |nil=>have:=hv.1;simp at this
  |cons v vs=>exact .cons (h1 c v hc hv.head.1) (h3 c vs hc hv.head.2)
 |[],_::_,H=>H.elim
 |_::_,[],H=>H.elim
theorem JR{h h':List af}{x y:AV}{Q:Prop}(H:wX h h' x y Q):Q:=by
 unfold wX at H;repeat' split at H
 all_goals first
  |exact H
  |exact H.elim
  |exact H.2
  |(rcases bo H with H|⟨_, _, H⟩
    · exact H.elim
    split at H
    · rcases bo H with H|⟨_, _, H⟩
      · exact H.elim
      repeat' split at H
      all_goals first|exact H|exact H.elim|exact H.2.2|exact H.2
    all_goals exact H.elim)
theorem BL{h h':List af}{K:Prop}:∀ {l l':List AV},sB h h' l l' K->K
 |[],[],H=>H
 |_::_,_::_,H=>BL (JR H)
 |[],_::_,H=>H.elim
 |_::_,[],H=>H.elim
theorem E7{h h':List af}{K:Prop}:∀ {l l':List AV},uu h h' l l' K->l.length=l'.length/\K
 |[],[],H=>⟨rfl,H⟩
 |x::l,y::l',H=>by
  have hK:∀ {Q:Prop},zb h h' x y Q->Q:=fun{Q} H=>by
   unfold zb at H;repeat' split at H
   all_goals first
    |exact H.elim
    |exact BL H
    |exact BL (BL H.2)
    |exact JR H
  simp only[uu]at H;obtain⟨h1,h2⟩:=E7 (hK H);exact⟨by simp[h1],h2⟩
 |[],_::_,H=>H.elim
 |_::_,[],H=>H.elim
theorem JS{h h':List af}{K:Prop}:∀ {l l':List af},sD h h' l l' K->HSub l l'/\K
 |[],[],H=>⟨fun i y hy=>by simp at hy,H⟩
 |_::_,[],H=>⟨fun i y hy=>by simp at hy,H⟩
 |x::l,y::l',H=>by
  simp only[sD]at H;have key:JP x y/\sD h h' l l' K:=by
   unfold BJ at H;split at H
   ·exact⟨trivial,H⟩
   ·split at H
    ·obtain⟨h1,h2⟩:=E7 H;exact⟨⟨_,rfl,h1⟩,h2⟩
    ·exact H.elim
   ·split at H
    ·split at H
     ·rename_i q;obtain⟨rfl,rfl,H⟩:=H;exact⟨⟨_,rfl,Ry q⟩,H⟩
     ·exact H.elim
    ·exact H.elim
   ·split at H
    ·obtain⟨rfl,H⟩:=H;exact⟨rfl,H⟩
    ·exact H.elim
   ·exact H.elim
  obtain⟨h1,h2⟩:=JS key.2;refine⟨fun i z hz=>?_,h2⟩;cases i with
  |zero=>simp at hz;subst hz;exact⟨x,rfl,key.1⟩
  |succ i=>obtain⟨w,k1,k2⟩:=h1 i z (by simpa using hz);exact⟨w,by simpa using k1,k2⟩
 |[],_::_,H=>H.elim
theorem JT{h h':List af}{K:Prop}(hs:HSub h h'):∀ {l l':List af},sD h h' l l' K->∀ (i:Nat) (cs:List AV),l'[i]?=some (.cells cs)->∃ pA,l[i]?=some (.cells pA)/\∀ (c:Cx) (vs:List Value),c.heap=h->VL c pA vs->VL (c.cut h') cs vs
 |_,[],H=>fun i y hy=>by simp at hy
 |x::l,y::l',H=>by
  simp only[sD]at H;intro i cs hi;cases i with
  |zero =>
   simp at hi;subst hi;simp only[BJ]at H;split at H
   ·obtain⟨-,h3⟩:=E6 hs H;exact⟨_,rfl,h3⟩
   ·exact H.elim
  |succ i =>
   have ug:sD h h' l l' K:=by
    unfold BJ at H;split at H
    ·exact H
    ·split at H
     ·exact(E7 H).2
     ·exact H.elim
    ·split at H
     ·split at H
      ·exact H.2.2
      ·exact H.elim
     ·exact H.elim
    ·split at H
     ·exact H.2
     ·exact H.elim
    ·exact H.elim
   obtain⟨pA,k1,k2⟩:=JT hs ug i cs (by simpa using hi);exact⟨pA,by simpa using k1,k2⟩
 |[],_::_,H=>H.elim
theorem aK.cut{G:List (Nat × DV)}{c:Cx}(ho:aK G c){h':List af}(hs:HSub c.heap h')(wi:∀ (i:Nat) (cs:List AV),h'[i]?=some (.cells cs)->∃ pA,c.heap[i]?=some (.cells pA)/\∀ (vs:List Value),VL c pA vs->VL (c.cut h') cs vs):aK G (c.cut h') where
 bQ:=ho.bQ
 bA:=fun i b n hi=>by
  obtain⟨h1,y,h2,-⟩:=qH hi;exact⟨(ho.bA i b n h1).1,aQ h2⟩
 inj:=fun i j b n m hi hj=>ho.inj i j b n m (qH hi).1 (qH hj).1
 sep:=fun i b n hi=>ho.sep i b n (qH hi).1
 box:=fun i bx hi=>by
  have cg:h'[i]?=some bx:=hi;obtain⟨x,hx,hb⟩:=hs i bx cg;cases bx with
  |gone=>show(c.cut h').own i=none;simp only[Cx.cut,BK,cg]
  |hole=>exact hb.elim
  |cells cs =>
   obtain⟨pA,k1,k2⟩:=wi i cs cg;obtain⟨blk,cap,vs,ty,g1,g2,g3⟩:=ho.cells k1;have:=k2 vs.toList g3;exact⟨blk,cap,vs,ty,(lA cg (by simp)).trans g1,g2,by simpa using this.1.symm,fun j x v hx hv=>this.2 j x v hx (by simpa using hv)⟩
  |arr g ts l =>
   obtain⟨g0,rfl,-⟩:=hb;obtain⟨q0,q1,q2⟩:=ho.box i _ hx;refine⟨q0,q1,?_⟩;have cU:=lA (c:=c) cg (by simp);rcases q2 with⟨q2,q3⟩|⟨blk,cap,vs,q2,q3,q4,q5,q6,q7⟩
   ·exact .inl ⟨cU.trans q2,q3⟩
   ·refine .inr ⟨blk,cap,vs,cU.trans q2,q3,q4,q5,q6,fun i j e x he hx=>?_⟩;obtain⟨v,r1,r2,r3⟩:=q7 i j e x he hx;exact⟨v,r1,r2,pz r3⟩
  |map es =>
   obtain rfl:x=.map es:=hb;obtain⟨blk,cap,en,ck,k1,k2,k3,k4⟩:=ho.box i _ hx;exact⟨blk,cap,en,ck,(lA cg (by simp)).trans k1,k2,k3,fun j k x m hx hm=>⟨pz (k4 j k x m hx hm).1,pz (k4 j k x m hx hm).2⟩⟩
 fJ:=fun g e hg=>by
  have hp:∀ p,VR c (.bO e 0) p->VR (c.cut h') (.bO e 0) p:=fun p hp=>by
   cases hp with
   |bO _ _ blk o' fv k1 k2 k3 k4=>exact .bO _ _ blk o' fv (fun hb=>k1 (hb.elim .inl fun⟨i,n,hi⟩ => .inr ⟨i,n,(qH hi).1⟩)) k2 k3 (fun j x hx=>pz (k4 j x hx))
  exact hp _ (ho.fJ g e hg)
def wY(n:Nat)(h:List af)(s:List AV)(h':List af)(s':List AV):Prop:=match Nat.ble n h'.length with
 |true=>sD h h' h h' (uu h h' s s' True)
 |false=>False
theorem c8.cut{c0 c:Cx}(hr:c8 c0 c){h':List af}(hn:c0.heap.length<=h'.length)(hs:HSub c.heap h'):c8 c0 (c.cut h') where
 lim:=hr.lim
 l5:=hr.l5
 az:=hr.az
 mO:=hr.mO
 os:=hr.os
 tape:=hr.tape
 output:=hr.output
 size:=hr.size
 keep:=hr.keep
 dy:=fun i b n hi hb=>hr.dy i b n (qH hi).1 hb
 boxes:=fun i bx hi=>by
  have ah:i<h'.length:=Nat.lt_of_lt_of_le (aQ hi) hn;obtain⟨y,hy⟩:∃ y,h'[i]?=some y:=⟨h'[i],by simp[ah]⟩;obtain⟨x,hx,hb⟩:=hs i y hy;have fT:(c.cut h').heap[i]?=some y:=hy;have h1:=hr.boxes i bx hi;have eW:y=.gone->yp c0 (c.cut h') i bx:=fun e=>by
   subst e;cases bx with
   |cells cs=>exact .inr fT
   |arr g sz l=>exact .inr fT
   |map es=>exact .inr fT
   |gone=>exact fT
   |hole=>exact⟨_,fT⟩
  cases y with
  |gone=>exact eW rfl
  |hole=>exact hb.elim
  |cells cs' =>
   obtain⟨cs1,rfl,hl⟩:=hb;have ho:=lA (c:=c) hy (by simp);cases bx with
   |cells cs =>
    rcases h1 with⟨RA,h1,h2,h3⟩|h1
    ·rw[hx]at h1;cases h1;exact .inl ⟨cs',fT,ho.trans h2,by omega⟩
    ·rw[hx]at h1;cases h1
   |arr g sz l =>
    rcases h1 with⟨_,_,h1,_⟩|h1<;>(rw[hx]at h1;cases h1)
   |map es=>rcases h1 with⟨_,h1,_⟩|h1<;>(rw[hx]at h1;cases h1)
   |gone=>have h1:c.heap[i]?=some .gone:=h1;rw[hx]at h1;cases h1
   |hole=>exact⟨_,fT⟩
  |arr g' ew l' =>
   obtain⟨g1,rfl,hl⟩:=hb;have ho:=lA (c:=c) hy (by simp);cases bx with
   |cells cs=>rcases h1 with⟨_,h1,_⟩|h1<;>(rw[hx]at h1;cases h1)
   |arr g sz l =>
    rcases h1 with⟨g2,l2,h1,h2⟩|h1
    ·rw[hx]at h1;cases h1;refine .inl ⟨g',l',fT,?_⟩;by_cases hz:g'=0
     ·have:=hl hz;rcases h2 with h2|⟨h2,h3,h4⟩
      ·omega
      ·exact .inr ⟨hz,h3,ho.trans h4⟩
     ·left;omega
    ·rw[hx]at h1;cases h1
   |map es=>rcases h1 with⟨_,h1,_⟩|h1<;>(rw[hx]at h1;cases h1)
   |gone=>have h1:c.heap[i]?=some .gone:=h1;rw[hx]at h1;cases h1
   |hole=>exact⟨_,fT⟩
  |map dV =>
   obtain rfl:x=.map dV:=hb;have ho:=lA (c:=c) hy (by simp);cases bx with
   |cells cs=>rcases h1 with⟨_,h1,_⟩|h1<;>(rw[hx]at h1;cases h1)
   |arr g sz l=>rcases h1 with⟨_,_,h1,_⟩|h1<;>(rw[hx]at h1;cases h1)
   |map es =>
    rcases h1 with⟨es2,h1,h2⟩|h1
    ·rw[hx]at h1;cases h1;exact .inl ⟨dV,fT,ho.trans h2⟩
    ·rw[hx]at h1;cases h1
   |gone=>have h1:c.heap[i]?=some .gone:=h1;rw[hx]at h1;cases h1
   |hole=>exact⟨_,fT⟩
def wZ(h h':List af)(x:AV)(K:Prop):Prop :=
 match x with
 | .any=>K
 | .d _=>K
 | .own b g=>aT h' b False fun
  | .gone=>K
  | .arr g1 _ _=>aT h b False fun
   | .arr g0 _ _=>match Nat.blt g g1 with
    |true=>match Nat.ble g g0 with
     |true=>K
     |false=>False
    |false=>match Nat.beq g g0,Nat.beq g g1 with
     |true,true=>K
     |_,_=>False
   |_=>False
  |_=>False
 | .ptr b _=>aT h' b False fun
  | .gone=>K
  | .cells _=>aT h b False fun
   | .cells _=>K
   |_=>False
  |_=>False
 | .bO _ _=>K
 | .map b=>aT h' b False fun
  | .gone=>K
  | .map _=>aT h b False fun
   | .map _=>K
   |_=>False
  |_=>False
 | .cut b g _ _=>aT h' b False fun
  | .gone=>K
  | .arr g1 _ _=>aT h b False fun
   | .arr g0 _ _=>match Nat.blt g g1 with
    |true=>match Nat.ble g g0 with
     |true=>K
     |false=>False
    |false=>match Nat.beq g g0,Nat.beq g g1 with
     |true,true=>K
     |_,_=>False
   |_=>False
  |_=>False
 | .cV b g _ _=>aT h' b False fun
  | .gone=>K
  | .arr g1 _ _=>aT h b False fun
   | .arr g0 _ _=>match Nat.blt g g1 with
    |true=>match Nat.ble g g0 with
     |true=>K
     |false=>False
    |false=>match Nat.beq g g0,Nat.beq g g1 with
     |true,true=>K
     |_,_=>False
   |_=>False
  |_=>False
 |_=>False
def uv(h h':List af):List AV->Prop->Prop
 |[],K=>K
 |x::l,K=>wZ h h' x (uv h h' l K)
def ze(h h':List af)(x:AV)(K:Prop):Prop :=
 match x with
 | .agg l=>uv h h' l K
 | .aD l=>uv h h' l K
 | .fn _ a b=>uv h h' a (uv h h' b K)
 |x=>wZ h h' x K
def zf(h h':List af):List AV->Prop->Prop
 |[],K=>K
 |x::l,K=>ze h h' x (zf h h' l K)
def BM(h h':List af):List b8->Prop->Prop
 |[],K=>K
 |f::l,K=>zf h h' f.iB (BM h h' l K)
def uw(h h':List af):List bk->Prop->Prop
 |[],K=>K
 | .loop i::l,K=>zf h h' i.iB (uw h h' l K)
 | .mark _::l,K=>uw h h' l K
 |_::_,_=>False
def w0(h h':List af)(x:FX)(K:Prop):Prop:=BM h h' x.cls (uw h h' x.loops K)
theorem w7{β:Type}{l:List β}{i:Nat}{k:β->Prop}{K:Prop}(hk:∀ x,k x->K)(H:aT l i False k):K:=by
 rcases bo H with H|⟨x,_,H⟩
 ·exact H.elim
 ·exact hk x H
theorem JU{h h':List af}{x:AV}{K:Prop}(H:wZ h h' x K):K:=by
 have arr:∀ (b g:Nat),(aT h' b False fun
  | .gone=>K
  | .arr g1 _ _=>aT h b False fun
   | .arr g0 _ _=>match Nat.blt g g1 with
    |true=>match Nat.ble g g0 with
     |true=>K
     |false=>False
    |false=>match Nat.beq g g0,Nat.beq g g1 with
     |true,true=>K
     |_,_=>False
   |_=>False
  |_=>False)->K:=fun b g H=>w7 (fun y H=>by
   split at H
   ·exact H
   ·refine w7 (fun z H=>?_) H;split at H
    ·split at H
     ·split at H
      ·exact H
      ·exact H.elim
     ·split at H
      ·exact H
      ·exact H.elim
    ·exact H.elim
   ·exact H.elim) H
 cases x with
 |own b g=>exact arr b g H
 |cV b g i off=>exact arr b g H
 |cut b g k q=>exact arr b g H
 |ptr b off =>
  exact w7 (fun y H=>by
   split at H
   ·exact H
   ·refine w7 (fun z H=>?_) H;split at H
    ·exact H
    ·exact H.elim
   ·exact H.elim) H
 |map b =>
  exact w7 (fun y H=>by
   split at H
   ·exact H
   ·refine w7 (fun z H=>?_) H;split at H
    ·exact H
    ·exact H.elim
   ·exact H.elim) H
 |any=>exact H
 |d x=>exact H
 |bO e off=>exact H
 |agg l=>exact H.elim
 |aD l=>exact H.elim
 |fn f a b=>exact H.elim
theorem zg{h h':List af}:∀ {l:List AV} {K:Prop},uv h h' l K->K
 |[],_,H=>H
 |_::_,_,H=>zg (JU H)
theorem RB{h h':List af}{x:AV}{K:Prop}(H:ze h h' x K):K:=by
 unfold ze at H;split at H
 ·exact zg H
 ·exact zg H
 ·exact zg (zg H)
 ·exact JU H
theorem E8{h h':List af}:∀ {l:List AV} {K:Prop},zf h h' l K->K
 |[],_,H=>H
 |_::_,_,H=>E8 (RB H)
theorem JV{h h':List af}:∀ {l:List b8} {K:Prop},BM h h' l K->K
 |[],_,H=>H
 |_::_,_,H=>JV (E8 H)
theorem E9{h h':List af}:∀ {l:List bk} {K:Prop},uw h h' l K->K
 |[],_,H=>H
 | .loop _::_,_,H=>E9 (E8 H)
 | .mark _::l,_,H=>E9 (l:=l) H
 | .row _::_,_,H=>H.elim
 | .iter _::_,_,H=>H.elim
theorem JW{h h':List af}(hs:HSub h h'){x:AV}{K:Prop}(H:wZ h h' x K):K/\∀ (c:Cx),c.heap=h->∀ v,VR c x v->VR (c.cut h') x v:=by
 have own:∀ (b g:Nat) (K:Prop),(aT h' b False fun
  | .gone=>K
  | .arr g1 _ _=>aT h b False fun
   | .arr g0 _ _=>match Nat.blt g g1 with
    |true=>match Nat.ble g g0 with
     |true=>K
     |false=>False
    |false=>match Nat.beq g g0,Nat.beq g g1 with
     |true,true=>K
     |_,_=>False
   |_=>False
  |_=>False)->K/\(h'[b]?=some .gone\/∃ g0 g1 ts l,h[b]?=some (.arr g0 ts l)/\h'[b]?=some (.arr g1 ts l)/\(g<g1\/g=g0/\g=g1)):=fun b g K H=>by
  rcases bo H with H|⟨y,hy,H⟩
  ·exact H.elim
  split at H
  ·exact⟨H,.inl hy⟩
  ·rename_i g1 ts1 l1;rcases bo H with H|⟨x,hx,H⟩
   ·exact H.elim
   split at H
   ·rename_i g0 ts0 l0;obtain⟨x',dX,q⟩:=hs b _ hy;rw[hx]at dX;cases dX;obtain⟨g2,q,-⟩:=q;cases q;split at H
    ·rename_i q1;split at H
     ·exact⟨H,.inr ⟨_,_,_,_,hx,hy,.inl (Nat.le_of_ble_eq_true q1)⟩⟩
     ·exact H.elim
    ·split at H
     ·rename_i q1 q2;exact⟨H,.inr ⟨_,_,_,_,hx,hy,.inr ⟨Nat.eq_of_beq_eq_true q1,Nat.eq_of_beq_eq_true q2⟩⟩⟩
     ·exact H.elim
   ·exact H.elim
  ·exact H.elim
 cases x with
 |any=>exact⟨H,fun c _ v _ => .any v⟩
 |d x=>exact⟨H,fun c _ v hv=>by cases hv with|d _ _ hv=>exact .d _ _ (pz hv)⟩
 |bO e off=>exact⟨H,fun c _ v hv=>by cases hv with|bO _ _ blk o f k1 k2 k3 k4=>exact .bO _ _ blk o f (fun hb=>k1 (hb.elim .inl fun⟨i,n,hi⟩ => .inr ⟨i,n,(qH hi).1⟩)) k2 k3 (fun j x hx=>pz (k4 j x hx))⟩
 |own b g =>
  obtain⟨hK,hq⟩:=own b g K H;refine⟨hK,fun c hc v hv=>?_⟩;subst hc;rcases hq with hq|⟨g0,g1,ts,l,q1,q2,q3⟩
  ·have bW:v.oneCell'=true:=by cases hv<;>first|rfl|assumption
   exact .jE b g v hq bW
  ·have ho:=lA (c:=c) q2 (by simp);rcases q3 with q3|⟨rfl,rfl⟩
   ·have bW:v.oneCell'=true:=by cases hv<;>first|rfl|assumption
    exact .kv b g g1 ts l v q2 q3 bW
   ·cases hv with
    |own _ _ sz l' blk cap hb cU=>rw[q1]at hb;cases hb;exact .own b g ts l blk cap q2 (ho.trans cU)
    |iu _ _ sz hb cU=>rw[q1]at hb;cases hb;exact .iu b g ts q2 (ho.trans cU)
    |kv _ _ g' sz l' v hb hg hv=>rw[q1]at hb;cases hb;omega
    |jE _ _ v hb hv=>rw[q1]at hb;cases hb
    |mM _ _ _ _ _ _ hb _ _=>rw[q1]at hb;cases hb
 |cut b g k qq =>
  obtain⟨hK,hq⟩:=own b g K H;refine⟨hK,fun c hc v hv=>?_⟩;subst hc;rcases hq with hq|⟨g0,g1,ts,l,q1,q2,q3⟩
  ·have bW:v.oneCell'=true:=by cases hv<;>first|rfl|assumption
   exact .nJ b g k qq v hq bW
  ·have ho:=lA (c:=c) q2 (by simp);rcases q3 with q3|⟨rfl,rfl⟩
   ·have bW:v.oneCell'=true:=by cases hv<;>first|rfl|assumption
    exact .nI b g g1 k qq ts l v q2 q3 bW
   ·cases hv with
    |cut _ _ _ _ sz l' blk cap o hb cU hk AX RC=>rw[q1]at hb;cases hb;exact .cut b g k qq ts l blk cap o q2 (ho.trans cU) hk AX RC
    |nI _ _ g' _ _ sz l' v hb hg hv=>rw[q1]at hb;cases hb;omega
    |nJ _ _ _ _ v hb hv=>rw[q1]at hb;cases hb
 |cV b g i off =>
  obtain⟨hK,hq⟩:=own b g K H;refine⟨hK,fun c hc v hv=>?_⟩;subst hc;rcases hq with hq|⟨g0,g1,ts,l,q1,q2,q3⟩
  ·have bW:v.oneCell'=true:=by cases hv<;>first|rfl|assumption
   exact .lX b g i off v hq bW
  ·have ho:=lA (c:=c) q2 (by simp);rcases q3 with q3|⟨rfl,rfl⟩
   ·have bW:v.oneCell'=true:=by cases hv<;>first|rfl|assumption
    exact .lW b g g1 i off ts l v q2 q3 bW
   ·cases hv with
    |cV _ _ _ _ sz l' blk cap hb cU hi=>rw[q1]at hb;cases hb;exact .cV b g i off ts l blk cap q2 (ho.trans cU) hi
    |lW _ _ g' _ _ sz l' v hb hg hv=>rw[q1]at hb;cases hb;omega
    |lX _ _ _ _ v hb hv=>rw[q1]at hb;cases hb
 |ptr b off =>
  simp only[wZ]at H;rcases bo H with H|⟨y,hy,H⟩
  ·exact H.elim
  split at H
  ·refine⟨H,fun c _ v hv=>?_⟩;have bW:v.oneCell'=true:=by cases hv<;>first|rfl|assumption
   exact .iv b off v hy bW
  ·rcases bo H with H|⟨x,hx,H⟩
   ·exact H.elim
   split at H
   ·refine⟨H,fun c hc v hv=>?_⟩;subst hc;have ho:=lA (c:=c) hy (by simp);cases hv with
    |ptr _ _ cs blk cap hb cU=>exact .ptr b off _ blk cap hy (ho.trans cU)
    |iv _ _ v hb hv=>rw[hx]at hb;cases hb
   ·exact H.elim
  ·exact H.elim
 |map b =>
  simp only[wZ]at H;rcases bo H with H|⟨y,hy,H⟩
  ·exact H.elim
  split at H
  ·refine⟨H,fun c _ v hv=>?_⟩;have bW:v.oneCell'=true:=by cases hv<;>first|rfl|assumption
   exact .nK b v hy bW
  ·rcases bo H with H|⟨x,hx,H⟩
   ·exact H.elim
   split at H
   ·refine⟨H,fun c hc v hv=>?_⟩;subst hc;have ho:=lA (c:=c) hy (by simp);cases hv with
    |map _ es blk cap hb cU=>exact .map b _ blk cap hy (ho.trans cU)
    |nK _ v hb hv=>rw[hx]at hb;cases hb
   ·exact H.elim
  ·exact H.elim
 |agg l=>exact H.elim
 |aD l=>exact H.elim
 |fn f a b=>exact H.elim
theorem zh{h h':List af}(hs:HSub h h'):∀ {l:List AV} {K:Prop},uv h h' l K->K/\∀ (c:Cx),c.heap=h->∀ (j:Nat) x v,l[j]?=some x->VR c x v->VR (c.cut h') x v
 |[],K,H=>⟨H,fun c _ j x v hx=>by simp at hx⟩
 |y::l,K,H=>by
  obtain⟨H,h1⟩:=JW hs H;obtain⟨H,h2⟩:=zh hs H;refine⟨H,fun c hc j x v hx hv=>?_⟩;cases j with
  |zero=>simp at hx;subst hx;exact h1 c hc v hv
  |succ j=>exact h2 c hc j x v (by simpa using hx) hv
theorem RE{h h':List af}(hs:HSub h h'){x:AV}{K:Prop}(H:ze h h' x K):K/\∀ (c:Cx),c.heap=h->∀ v,VR c x v->VR (c.cut h') x v:=by
 unfold ze at H;split at H
 ·obtain⟨H,h1⟩:=zh hs H;exact⟨H,fun c hc v hv=>by cases hv with|agg _ vs hl bH=>exact .agg _ vs hl fun j x v hx hu=>h1 c hc j x v hx (bH j x v hx hu)⟩
 ·obtain⟨H,h1⟩:=zh hs H;exact⟨H,fun c hc v hv=>by cases hv with|aD _ vs hl bH=>exact .aD _ vs hl fun j x v hx hu=>h1 c hc j x v hx (bH j x v hx hu)⟩
 ·obtain⟨H,h1⟩:=zh hs H;obtain⟨H,h2⟩:=zh hs H;exact⟨H,fun c hc v hv=>by cases hv with|fn _ _ _ v1 v2 k1 k2 k3 k4=>exact .fn _ _ _ v1 v2 k1 k2 (fun j x v hx hu=>h1 c hc j x v hx (k3 j x v hx hu)) (fun j x v hx hu=>h2 c hc j x v hx (k4 j x v hx hu))⟩
 ·exact JW hs H
theorem E'{h h':List af}(hs:HSub h h'):∀ {l:List AV} {K:Prop},zf h h' l K->K/\∀ (c:Cx),c.heap=h->∀ t,VS c l t->VS (c.cut h') l t
 |[],K,H=>⟨H,fun c _ t ht=>⟨ht.1,fun j x v hx=>by simp at hx⟩⟩
 |y::l,K,H=>by
  obtain⟨H,h1⟩:=RE hs H;obtain⟨H,h2⟩:=E' hs H;refine⟨H,fun c hc t ht=>⟨ht.1,fun j x v hx hv=>?_⟩⟩;cases j with
  |zero=>simp at hx;subst hx;exact h1 c hc v (ht.2 0 _ v rfl hv)
  |succ j =>
   have eD:(t.extract 1)[j]?=some v:=by
    rw[Array.getElem?_extract];have:=(Array.getElem?_eq_some_iff.1 hv).1;rw[if_pos (by omega),Nat.add_comm];exact hv
   have:=h2 c hc (t.extract 1) ⟨by have:=ht.1;simp at this ⊢;omega,fun i x v hx hv=>ht.2 (i+1) x v (by simpa using hx) (by
    rw[Array.getElem?_extract]at hv;split at hv
    ·rw[Nat.add_comm]at hv;exact hv
    ·cases hv)⟩
   exact this.2 j x v (by simpa using hx) eD
theorem JX{h h':List af}(hs:HSub h h'):∀ {l:List b8} {K:Prop},BM h h' l K->K/\∀ (c:Cx),c.heap=h->∀ ts,CR c l ts->CR (c.cut h') l ts
 |[],K,H=>⟨H,fun c _ ts ht=>by cases ts with|nil=>trivial|cons t ts=>exact ht.elim⟩
 |f::l,K,H=>by
  obtain⟨H,h1⟩:=E' hs H;obtain⟨H,h2⟩:=JX hs H;refine⟨H,fun c hc ts ht=>?_⟩;cases ts with
  |nil=>exact ht.elim
  |cons t ts=>exact⟨h1 c hc t ht.1,ht.2.1,h2 c hc ts ht.2.2⟩
theorem Fa{h h':List af}(hs:HSub h h'):∀ {l:List bk} {K:Prop},uw h h' l K->K/\∀ (lim:Nat) (c:Cx),c.heap=h->∀ g∈l,iQ lim c g->iQ lim (c.cut h') g
 |[],K,H=>⟨H,fun lim c _ g hg=>by simp at hg⟩
 | .loop i::l,K,H=>by
  obtain⟨H,h1⟩:=E' hs H;obtain⟨H,h2⟩:=Fa hs H;refine⟨H,fun lim c hc g hg hk=>?_⟩;rcases List.mem_cons.1 hg with rfl|hg
  ·obtain⟨k1,k2,k3,k4⟩:=(show nR lim c i from hk);exact(show nR lim (c.cut h') i from ⟨k1,k2,k3,h1 c hc _ k4⟩)
  ·exact h2 lim c hc g hg hk
 | .mark d::l,K,H=>by
  obtain⟨H,h2⟩:=Fa (l:=l) hs H;refine⟨H,fun lim c hc g hg hk=>?_⟩;rcases List.mem_cons.1 hg with rfl|hg
  ·obtain⟨k1,k2,k3⟩:=(show rY lim c d from hk);exact(show rY lim (c.cut h') d from ⟨k1,k2,k3⟩)
  ·exact h2 lim c hc g hg hk
 | .row _::_,_,H=>H.elim
 | .iter _::_,_,H=>H.elim
theorem iQ.RF{lim:Nat}{c:Cx}{h':List af}:∀ {g:bk},iQ lim c g->g.flat->iQ lim (c.cut h') g
 | .row r,h,_=>l7.gen (c:=c) h (l7.az (c:=c) h) rfl (fun _ _=>pz)
 | .iter i,h,_=>l8.gen (c:=c) h (l8.D4 (c:=c) h) (l8.yq (c:=c) h) rfl rfl (fun _ _=>pz)
 | .loop _,_,h=>h.elim
 | .mark d,h,_=>by obtain⟨k1,k2,k3⟩:=(show rY lim c d from h);exact(show rY lim (c.cut h') d from ⟨k1,k2,k3⟩)
section
variable {E:Env} {ag:FuncId} {R:cF} {td:List aP} {s s':List AV} {h h':List af}
theorem cR.cut{lim:Nat}{c:Cx}{rows loops:List bk}(h:cR lim c rows loops){h':List af}(hl:∀ g∈loops,iQ lim c g->iQ lim (c.cut h') g):cR lim (c.cut h') rows loops :=
 ⟨⟨fun g hg=>(List.mem_append.1 hg).elim (fun sE=>(h.all.each g hg).RF (h.flat g sE)) (fun sE=>hl g sE (h.all.each g hg)),h.all.nodup⟩,h.flat⟩
theorem AW.weaken{f0:FuncId}{fd:iP}(hs:w0 h h' R.fx (wY R.n h s h' s'))(H:AW E f0 ⟨fd,td,s'⟩ R.fx.cls h' R):AW E f0 ⟨fd,td,s⟩ R.fx.cls h R:=by
 unfold AW at H ⊢;intro c0 c t ts h0 h1 h2 h3 hr bq h4 h5 cs;subst h2;unfold w0 at hs;have sF:=hs;replace hs:=E9 (JV hs);unfold wY at hs;split at hs
 case h_2=>exact hs.elim
 rename_i q;have hn:=Nat.le_of_ble_eq_true q;obtain⟨k1,k2⟩:=JS hs;have k3:=JT k1 hs;obtain⟨-,k4⟩:=E6 k1 k2;obtain⟨oP,f1⟩:=JX k1 sF;obtain⟨-,f2⟩:=Fa k1 oP;have hv:=k4 c t.toList rfl ⟨by simpa using h4.1,fun j x v hx hv=>h4.2 j x v hx (by simpa using hv)⟩;have aM:=h3.cut k1 (fun i cs hi=>by obtain⟨pA,r1,r2⟩:=k3 i cs hi;exact⟨pA,r1,fun vs hv=>r2 c vs rfl hv⟩);exact H c0 (c.cut h') t ts h0 h1 rfl aM (hr.cut (by omega) k1) (bq.cut fun g hg=>f2 _ c rfl g hg) ⟨by simpa using hv.1,fun j x v hx hu=>hv.2 j x v hx (by simpa using hu)⟩ (f1 c rfl ts h5) cs
def anyS:List Nat->List AV->List AV
 |[],s=>s
 |d::l,s=>anyS l (s.set d .any)
def lB:List (Nat × AV)->List AV->List AV
 |[],s=>s
 |(d,v)::l,s=>lB l (s.set d v)
def lC:List (Nat × af)->List af->List af
 |[],h=>h
 |(d,v)::l,h=>lC l (h.set d v)
def BN{α:Sort _}:List Nat->List AV->(List AV->α)->α
 |[],s,k=>k s
 |d::l,s,k=>fz s d .any fun s'=>BN l s' k
theorem JY{α:Sort _}:∀ (l:List Nat) (s:List AV) (k:List AV->α),BN l s k=k (anyS l s)
 |[],_,_=>rfl
 |d::l,s,k=>by simp only[BN,gq,anyS,JY l]
def ux{α:Sort _}{β:Type}:List (Nat × β)->List β->(List β->α)->α
 |[],s,k=>k s
 |(d,v)::l,s,k=>fz s d v fun s'=>ux l s' k
theorem JZ{α:Sort _}:∀ (l:List (Nat × AV)) (s:List AV) (k:List AV->α),ux l s k=k (lB l s)
 |[],_,_=>rfl
 |(d,v)::l,s,k=>by simp only[ux,gq,lB,JZ l]
theorem J0{α:Sort _}:∀ (l:List (Nat × af)) (s:List af) (k:List af->α),ux l s k=k (lC l s)
 |[],_,_=>rfl
 |(d,v)::l,s,k=>by simp only[ux,gq,lC,J0 l]
def zi(ks:List Nat):AV->Bool
 | .own j _=>jQ j ks
 | .cut j _ _ _=>jQ j ks
 | .cV j _ _ _=>jQ j ks
 |_=>false
def J1(ks:List Nat):AV->Bool
 | .agg l=>l.any (zi ks)
 | .aD l=>l.any (zi ks)
 | .fn _ a b=>a.any (zi ks)||b.any (zi ks)
 |x=>zi ks x
def lD(ks:List Nat):List AV->List AV
 |[]=>[]
 |x::s=>(match J1 ks x with|true => .any|false=>x)::lD ks s
def zj{α:Sort _}(ks:List Nat):List AV->(List AV->α)->α
 |[],k=>k []
 |x::s,k=>match J1 ks x with
  |true=>zj ks s fun s'=>k (.any::s')
  |false=>zj ks s fun s'=>k (x::s')
theorem J2{α:Sort _}(ks:List Nat):∀ (s:List AV) (k:List AV->α),zj ks s k=k (lD ks s)
 |[],_=>rfl
 |x::s,k=>by
  simp only[zj,lD];split<;>rename_i q<;>rw[J2 ks s]<;>simp only[q]
def nb:List (Nat × af)->List Nat
 |[]=>[]
 |p::l=>p.1::nb l
def uy{α:Sort _}(fY ks:List Nat)(vars:List (Nat × AV))(boxes:List (Nat × af))(s:List AV)(h:List af)(k:List AV->List af->α):α :=
 zj ks s fun s0=>BN fY s0 fun s1=>ux vars s1 fun s2=>ux boxes h fun h2=>k s2 h2
theorem zk{α:Sort _}(fY ks:List Nat)(vars:List (Nat × AV))(boxes:List (Nat × af))(s:List AV)(h:List af)(k:List AV->List af->α):uy fY ks vars boxes s h k=k (lB vars (anyS fY (lD ks s))) (lC boxes h):=by
 simp only[uy,J2,JY,JZ,J0]
theorem I.loop{lits:List Nat}{b:Code}{k:List aP}{κ:Type}(fY:List Nat)(vars:κ->List (Nat × AV))(boxes:κ->List (Nat × af))(Φ:κ->Prop)(μ:κ->Nat)(x0:κ)(h0:Φ x0)
  (oQ:uy fY (nb (boxes x0)) (vars x0) (boxes x0) s h fun s' h'=>w0 h h' R.fx (wY R.n h s h' s'))
  (sG:∀ x,Φ x->(∀ y,Φ y->μ y<μ x->I E ag R [] (.inLoop b::k) (lB (vars y) (anyS fY (lD (nb (boxes x0)) s))) (lC (boxes y) h))->I E ag R [] (.code b :: .inLoop b::k) (lB (vars x) (anyS fY (lD (nb (boxes x0)) s))) (lC (boxes x) h)) :
  I E ag R lits (.code (.loop b)::k) s h:=by
 have main:∀ n x,μ x<n->Φ x->I E ag R [] (.inLoop b::k) (lB (vars x) (anyS fY (lD (nb (boxes x0)) s))) (lC (boxes x) h):=by
  intro n
  induction n with
  |zero=>intro x hx;omega
  |succ n ih=>intro x hx hP;exact .of (.inLoop (sG x hP fun y hy hm=>ih y (by omega) hy).to)
 rw[zk]at oQ;exact .of (.loop (.weaken oQ (sG x0 h0 fun y hy _=>main (μ y+1) y (by omega) hy).to))
theorem I.head(hE:E.OK){fn:Func}(hf:E.P.funcs[ag]?=some fn)(n:Nat){lits fY ks:List Nat}{vars:List (Nat × AV)}{boxes:List (Nat × af)}{s0:List AV}{h0:List af}
  (H:uy fY ks vars boxes s0 h0 fun s' h'=>runK E ag fn.results.toList R n lits td s' h'):I E ag R lits td (lB vars (anyS fY (lD ks s0))) (lC boxes h0):=by
 rw[zk]at H;exact .run hE hf n H
theorem I.back{lits RG fY ks:List Nat}{vars:List (Nat × AV)}{boxes:List (Nat × af)}{s0:List AV}{h0:List af}(H:I E ag R lits td (lB vars (anyS fY (lD ks s0))) (lC boxes h0))
  (hs:uy fY ks vars boxes s0 h0 fun s' h'=>w0 h h' R.fx (wY R.n h s h' s')):I E ag R RG td s h:=by
 rw[zk]at hs;exact .of (.weaken hs H.to)
theorem I.wB{lits:List Nat}(d:Nat)(ts:Nat × Nat)(iR:0<ts.2)(hd:s[d]?=some (.d .aH))(H:I E ag R lits td (s.set d (.own h.length 0)) (h++[.arr 0 ts []])):I E ag R lits td s h:=by
 replace H:=H.to;refine .of (.kA (fun c t ew h1 h2 h3 h4 h5=>?_) H);subst h2
 let c':Cx:={ c with heap:=c.heap++[.arr 0 ts []] }
 have bK:c.own c.heap.length=none:=by
  cases ho:c.own c.heap.length with
  |none=>rfl
  |some p=>have:=(h3.bA _ p.1 p.2 ho).2;omega
 have bg:Step c c':=⟨rfl,h3.bQ,rfl,rfl,rfl,Nat.le_refl _,fun _ _ _=>rfl,fun i b n hi _=>⟨n,hi⟩,fun i bx hi=>by
  have h':c'.heap[i]?=some bx:=by show(c.heap++_)[i]?=_;rw[List.getElem?_append_left (aQ hi)];exact hi
  cases bx with
  |cells cs=>exact .inl ⟨cs,h',rfl,rfl⟩
  |arr g sz l=>exact .inl ⟨g,l,h',.inr ⟨rfl,rfl,rfl⟩⟩
  |map es=>exact .inl ⟨es,h',rfl⟩
  |gone=>exact h'
  |hole=>exact⟨_,h'⟩⟩
 have eb:c'.heap[c.heap.length]?=some (.arr 0 ts []):=by show(c.heap++_)[_]?=_;simp
 have aM:aK E.G c':=h3.next bg (fun i b n hi=>⟨(h3.bA i b n hi).1,by have:=(h3.bA i b n hi).2;show i<(c.heap++_).length;simp;omega⟩) h3.inj (fun i bx hi=>by
  by_cases fR:i=c.heap.length
  ·subst fR;rw[eb]at hi;cases hi;exact .inr ⟨iR,fun i e he=>by simp at he,.inl ⟨bK,rfl⟩⟩
  ·have ah : i < c.heap.length := by have := aQ hi;have h2 : c'.heap.length=c.heap.length+1 := by show(c.heap ++ _).length=_;simp
                                     omega
   have cg:(c.heap++[.arr 0 ts []])[i]?=some bx:=hi;rw[List.getElem?_append_left ah]at cg
   exact .inl ⟨cg,rfl,fun _ _ _=>rfl⟩)
 refine⟨c',t,ew,h1,rfl,aM,?_,bg.cr h5,bg,fun _ => .refl _ _⟩;have gX:d<t.size:=by rw[<- h4.1];exact aQ hd
 have hv:t[d]=.slice none 0 0:=by
  have:=h4.2 d _ t[d] hd (by simp[gX]);generalize t[d]=u at this;cases this with
  |d _ _ hv=>cases hv;rfl
 have:=VS.put (bg.vs h4) d (x := .own c.heap.length 0) (v:=t[d]) (by rw[hv];exact .iu _ _ ts eb bK)
 simpa [Array.setIfInBounds,gX]using this
end
section
variable {α:Sort _}
def BO(b g:Nat)(l:List DV)(x:AV)(k:AV->α):α:=match x with
 | .own j g'=>match Nat.beq j b,Nat.beq g' g with
  |true,true=>k (.d (.sl l))
  |_,_=>k (.own j g')
 |x=>k x
def uz(b g:Nat)(l:List DV):List AV->(List AV->α)->α
 |[],k=>k []
 |x::r,k=>BO b g l x fun y=>uz b g l r fun r'=>k (y::r')
def Fb(b g:Nat)(l:List DV)(x:AV)(k:AV->α):α:=match x with
 | .agg c=>uz b g l c fun c'=>vX c' k
 | .aD c=>uz b g l c fun c'=>k (.aD c')
 | .fn f a1 a2=>uz b g l a1 fun J3=>uz b g l a2 fun J4=>k (.fn f J3 J4)
 |x=>BO b g l x k
def Fc(b g:Nat)(l:List DV):List AV->(List AV->α)->α
 |[],k=>k []
 |x::r,k=>Fb b g l x fun y=>Fc b g l r fun r'=>k (y::r')
def zm(b g:Nat)(l:List DV):List af->(List af->α)->α
 |[],k=>k []
 |x::r,k=>match x with
  | .cells c=>uz b g l c fun c'=>zm b g l r fun r'=>k (.cells c'::r')
  |x=>zm b g l r fun r'=>k (x::r')
end
def J5(b:Nat)(s:List AV)(h:List af)(k:List AV->List af->Prop):Prop:=aT h b False fun
 | .arr g _ l=>Fc b g l s fun s'=>zm b g l h fun h'=>fz h' b .gone fun qi=>k s' qi
 |_=>False
structure w8(b g:Nat)(l:List DV)(c c':Cx):Prop where
 step:Step c c'
 own:∀ v,VR c (.own b g) v->VR c' (.d (.sl l)) v
section
variable {b g:Nat} {l:List DV}
theorem J6{x:AV}{k:AV->Prop}(H:BO b g l x k):∃ y,k y/\∀ c c',w8 b g l c c'->∀ v,VR c x v->VR c' y v:=by
 unfold BO at H;split at H
 ·split at H
  ·rename_i q1 q2;have q1:=Nat.eq_of_beq_eq_true q1;have q2:=Nat.eq_of_beq_eq_true q2;subst q1;subst q2;exact⟨_,H,fun c c' hf v hv=>hf.own v hv⟩
  ·exact⟨_,H,fun c c' hf v hv=>hf.step.vr hv⟩
 ·exact⟨_,H,fun c c' hf v hv=>hf.step.vr hv⟩
theorem w9:∀ {r:List AV} {k:List AV->Prop},uz b g l r k->∃ r',k r'/\r'.length=r.length/\∀ c c',w8 b g l c c'->∀ vs,VL c r vs->VL c' r' vs
 |[],_,H=>⟨[],H,rfl,fun _ _ _ _ hv=>⟨hv.1,fun j x v hx=>by simp at hx⟩⟩
 |x::r,k,H=>by
  obtain⟨y,H,hy⟩:=J6 H;obtain⟨r',H,hl,hr⟩:=w9 H;refine⟨y::r',H,by simp[hl],fun c c' hf vs hv=>?_⟩;cases vs with
  |nil=>have:=hv.1;simp at this
  |cons v vs=>exact .cons (hy c c' hf v hv.head.1) (hr c c' hf vs hv.head.2)
theorem RH{x:AV}{k:AV->Prop}(H:Fb b g l x k):∃ y,k y/\∀ c c',w8 b g l c c'->∀ v,VR c x v->VR c' y v:=by
 unfold Fb at H;split at H
 ·obtain⟨r',H,-,hr⟩:=w9 H;obtain⟨y,H,hy⟩:=yg H;refine⟨y,H,fun c c' hf v hv=>?_⟩;obtain⟨vs,rfl,iy⟩:=ph hv;exact hy c' vs (hr c c' hf vs iy)
 ·obtain⟨r',H,-,hr⟩:=w9 H;refine⟨_,H,fun c c' hf v hv=>?_⟩;cases hv with
  |aD _ vs hl bH =>
   have:=hr c c' hf vs.toList ⟨by simpa using hl,fun j x v hx hv=>bH j x v hx (by simpa using hv)⟩;exact .aD _ vs (by simpa using this.1) (fun j x v hx hv=>this.2 j x v hx (by simpa using hv))
 ·obtain⟨J3,H,-,h1⟩:=w9 H;obtain⟨J4,H,-,h2⟩:=w9 H;refine⟨_,H,fun c c' hf v hv=>?_⟩;obtain⟨v1,v2,rfl,r1,r2⟩:=ma hv;have r1:=h1 c c' hf v1 r1;have r2:=h2 c c' hf v2 r2;exact .fn _ _ _ _ _ (by simpa using r1.1) (by simpa using r2.1) (fun j x v hx hv=>r1.2 j x v hx (by simpa using hv)) (fun j x v hx hv=>r2.2 j x v hx (by simpa using hv))
 ·exact J6 H
theorem J7:∀ {r:List AV} {k:List AV->Prop},Fc b g l r k->∃ r',k r'/\∀ c c',w8 b g l c c'->∀ vs,VL c r vs->VL c' r' vs
 |[],_,H=>⟨[],H,fun _ _ _ _ hv=>⟨hv.1,fun j x v hx=>by simp at hx⟩⟩
 |x::r,k,H=>by
  obtain⟨y,H,hy⟩:=RH H;obtain⟨r',H,hr⟩:=J7 H;refine⟨y::r',H,fun c c' hf vs hv=>?_⟩;cases vs with
  |nil=>have:=hv.1;simp at this
  |cons v vs=>exact .cons (hy c c' hf v hv.head.1) (hr c c' hf vs hv.head.2)
def BP(b g:Nat)(l:List DV)(x y:af):Prop:=match x with
 | .cells cs=>∃ cs',y=.cells cs'/\cs'.length=cs.length/\∀ c c',w8 b g l c c'->∀ vs,VL c cs vs->VL c' cs' vs
 |x=>y=x
theorem Fe:∀ {r:List af} {k:List af->Prop},zm b g l r k->∃ r',k r'/\r'.length=r.length/\∀ (i:Nat) (x:af),r[i]?=some x->∃ y,r'[i]?=some y/\BP b g l x y
 |[],_,H=>⟨[],H,rfl,fun i x hx=>by simp at hx⟩
 |x::r,k,H=>by
  unfold zm at H;have fin:∀ {y:af} {r':List af},BP b g l x y->(∀ (i:Nat) (x:af),r[i]?=some x->∃ y,r'[i]?=some y/\BP b g l x y)->∀ (i:Nat) (z:af),(x::r)[i]?=some z->∃ y',(y::r')[i]?=some y'/\BP b g l z y':=fun{y r'} h1 h2 i z hz=>by
   cases i with
   |zero=>simp at hz;subst hz;exact⟨y,rfl,h1⟩
   |succ i=>obtain⟨y',k1,k2⟩:=h2 i z (by simpa using hz);exact⟨y',by simpa using k1,k2⟩
  split at H
  ·obtain⟨c',H,hl,hr⟩:=w9 H;obtain⟨r',H,oR,tW⟩:=Fe H;exact⟨_,H,by simp[oR],fin ⟨c',rfl,hl,hr⟩ tW⟩
  ·rename_i aI;obtain⟨r',H,oR,tW⟩:=Fe H;refine⟨_,H,by simp[oR],fin ?_ tW⟩;cases x with
   |cells c=>exact absurd rfl (aI c)
   |arr _ _ _=>rfl
   |map _=>rfl
   |gone=>rfl
   |hole=>rfl
end
section
variable {E:Env} {ag:FuncId} {R:cF} {td:List aP} {s:List AV} {h:List af}
theorem I.freeze{lits:List Nat}(b:Nat)(H:J5 b s h fun s' h'=>I E ag R lits td s' h'):I E ag R lits td s h:=by
 unfold J5 at H;rcases bo H with H|⟨bx,hb,H⟩
 ·exact H.elim
 split at H
 case h_2=>exact H.elim
 rename_i g ts l;obtain⟨s',H,oS⟩:=J7 H;obtain⟨h',H,hlen,BH⟩:=Fe H;rw[gq]at H;refine .of (.kA (fun c t ew h1 h2 h3 h4 h5=>?_) H.to);subst h2;have eJ:=aQ hb
 let c':Cx:={ c with own:=fun i=>if i=b then none else c.own i,heap:=h'.set b .gone }
 have eW:c'.heap[b]?=some .gone:=by show(h'.set b .gone)[b]?=_;rw[List.getElem?_set_self (by omega)]
 have jN:∀ i,i≠b->c'.heap[i]?=h'[i]? := fun i hi=>by show(h'.set b .gone)[i]?=_;rw[List.getElem?_set_ne (Ne.symm hi)]
 have bF:∀ i,i≠b->c'.own i=c.own i:=fun i hi=>by simp only[c',if_neg hi]
 have js:∀ i p,c'.own i=some p->i≠b/\c.own i=some p:=fun i p hp=>by
  simp only[c']at hp;split at hp
  ·cases hp
  ·rename_i q;exact⟨q,hp⟩
 have bg:Step c c':=⟨rfl,h3.bQ,rfl,rfl,rfl,Nat.le_refl _,fun _ _ _=>rfl,fun i x n hi _=>⟨n,(js i _ hi).2⟩,fun i bx hi=>by
  by_cases bE:i=b
  ·subst bE;cases bx with
   |cells cs=>exact .inr eW
   |arr g sz l=>exact .inr eW
   |map es=>exact .inr eW
   |gone=>exact eW
   |hole=>exact⟨_,eW⟩
  ·obtain⟨y,k1,k2⟩:=BH i bx hi;rw[<- jN i bE]at k1;cases bx with
   |cells cs=>obtain⟨cs',rfl,e,-⟩:=k2;exact .inl ⟨cs',k1,bF i bE,e⟩
   |arr g sz l=>obtain rfl:y=_:=k2;exact .inl ⟨g,l,k1,.inr ⟨rfl,rfl,bF i bE⟩⟩
   |map es=>obtain rfl:y=_:=k2;exact .inl ⟨es,k1,bF i bE⟩
   |gone=>obtain rfl:y=_:=k2;exact k1
   |hole=>obtain rfl:y=_:=k2;exact⟨_,k1⟩⟩
 have oF:∀ x,c'.bad x->c.bad x:=fun x hx=>hx.elim .inl fun⟨i,n,hi⟩ => .inr ⟨i,n,(js i _ hi).2⟩
 have BQ:w8 b g l c c':=⟨bg,fun v hv=>by
  obtain⟨q0,q1,q2⟩:=h3.box b _ hb;rcases kC hb hv with⟨blk,cap,r1,rfl⟩|⟨rfl,rfl,r1⟩
  ·rcases q2 with⟨q2,-⟩|⟨iM,gV,vs,q2,q3,q4,q5,q6,q7⟩
   ·rw[r1]at q2;cases q2
   rw[r1]at q2;cases q2;refine .d _ _ (.sl l blk 0 cap ts.2 (fun i j=>(vs[i*ts.2+j]?).getD undef) (fun _ fb=>?_) q0 q5 (fun i e he=>q1 i e he) (fun i j e x he hx=>?_) (fun i j e x he hx=>?_) (fun i j e x he hx=>?_))
   ·rcases fb with fb|⟨i,n,hi⟩
    ·exact h3.sep b blk cap r1 fb
    ·obtain⟨k1,k2⟩:=js i _ hi;exact k1 (h3.inj i b blk n cap k2 r1)
   ·obtain⟨v,p1,p2,p3⟩:=q7 i j e x he hx;rw[p1,Option.getD_some];exact lY q3 _ v (by simpa using p1)
   ·obtain⟨v,p1,p2,p3⟩:=q7 i j e x he hx;simp only[p1,Option.getD_some];exact bg.vd p3
   ·obtain⟨v,p1,p2,p3⟩:=q7 i j e x he hx;simp only[p1,Option.getD_some];exact p2
  ·exact .d _ _ .slnil⟩
 have aM:aK E.G c':=by
  refine h3.next bg (fun i x n hi=>?_) (fun i j x n m hi hj=>h3.inj i j x n m (js i _ hi).2 (js j _ hj).2) (fun i bx hi=>?_)
  ·have:=h3.bA i x n (js i _ hi).2;refine⟨this.1,?_⟩;show i<(h'.set b .gone).length;rw[List.length_set,hlen];exact this.2
  ·right;by_cases bE:i=b
   ·subst bE;rw[eW]at hi;cases hi;show c'.own i=none;simp[c']
   ·rw[jN i bE]at hi;have fR:i<c.heap.length:=by rw[<- hlen];exact aQ hi
    obtain⟨y,k1,k2⟩:=BH i c.heap[i] (by simp[fR]);rw[hi]at k1;cases k1;have iN:c.heap[i]?=some c.heap[i]:=by simp[fR]
    generalize c.heap[i]=x at k2 iN;cases x with
    |cells cs =>
     obtain⟨cs',rfl,e,hv⟩:=k2;obtain⟨blk,cap,vs,ty,g1,g2,g3⟩:=h3.cells iN;have:=hv c c' BQ vs.toList g3;exact⟨blk,cap,vs,ty,(bF i bE).trans g1,g2,by simpa using this.1.symm,fun j x v hx hv=>this.2 j x v hx (by simpa using hv)⟩
    |arr _ _ _=>obtain rfl:bx=_:=k2;exact(h3.box i _ iN).keep bg (bF i bE) (fun _ _ _=>rfl)
    |map _=>obtain rfl:bx=_:=k2;exact(h3.box i _ iN).keep bg (bF i bE) (fun _ _ _=>rfl)
    |gone=>obtain rfl:bx=_:=k2;exact(h3.box i _ iN).keep bg (bF i bE) (fun _ _ _=>rfl)
    |hole=>obtain rfl:bx=_:=k2;exact(h3.box i _ iN).keep bg (bF i bE) (fun _ _ _=>rfl)
 have hv:=oS c c' BQ t.toList ⟨by simpa using h4.1,fun j x v hx hv=>h4.2 j x v hx (by simpa using hv)⟩;exact⟨c',t,ew,h1,rfl,aM,⟨by simpa using hv.1,fun j x v hx hu=>hv.2 j x v hx (by simpa using hu)⟩,bg.cr h5,bg,fun _ => .refl _ _⟩
theorem I.mg{lits:List Nat}{b:Code}{k:List aP}(H:I E ag R [] (.code b :: .inLoop b::k) s h):I E ag R lits (.code (.loop b)::k) s h := .of (.loop H.to)
theorem I.again{lits:List Nat}{b:Code}{k:List aP}(H:I E ag R [] (.code b :: .inLoop b::k) s h):I E ag R lits (.inLoop b::k) s h := .of (.inLoop H.to)
end
def BR:DV->Bool
 | .int _ _=>true
 | .bool _=>true
 | .str _=>true
 | .undef=>true
 | .aH=>true
 |_=>false
def BS:DV->Bool
 | .aD c=>c.all BR
 | .agg c=>c.all BR
 |x=>BR x
theorem J8{x:DV}(hx:BR x=true){bad vT:Nat->Prop}{w w':World}{v:Value}(hv:VD bad w x v):VD vT w' x v:=by
 cases hv<;>first|(cases hx;done)|(constructor;done)
theorem J9{x:DV}(hx:BS x=true){bad vT:Nat->Prop}{w w':World}{v:Value}(hv:VD bad w x v):VD vT w' x v:=by
 cases hv with
 |agg c vs hl bH=>exact .agg c vs hl fun j x v h1 h2=>J8 (List.all_eq_true.1 hx x (List.mem_of_getElem? h1)) (bH j x v h1 h2)
 |aD c vs hl bH=>exact .aD c vs hl fun j x v h1 h2=>J8 (List.all_eq_true.1 hx x (List.mem_of_getElem? h1)) (bH j x v h1 h2)
 |_=>first|(cases hx;done)|(constructor;done)
def pB(h:List af):List AV->Option (List DV)
 |[]=>some []
 | .d x::l=>match pB h l with
  |some r=>some (x::r)
  |none=>none
 | .own b _::l=>match dI h b with
  |some (.arr _ _ m)=>match pB h l with
   |some r=>some (.sl m::r)
   |none=>none
  |_=>none
 |_::_=>none
def uA:List AV->Bool
 |[]=>true
 | .own _ g::l=>match Nat.beq g 0 with
  |true=>uA l
  |false=>false
 |_::l=>uA l
theorem BT{G:List (Nat × DV)}{c:Cx}(ho:aK G c)(hf:wm c.heap):∀ {args:List AV} {ds:List DV} {vs:List Value},pB c.heap args=some ds->uA args=true->VL c args vs->jI c.az c.w ds vs
 |[],ds,vs,h,_,hv=>by cases h;exact⟨hv.1,fun j x v hx=>by simp at hx⟩
 |x::l,ds,vs,h,hg,hv=>by
  cases vs with
  |nil=>have:=hv.1;simp at this
  |cons v vs =>
   obtain⟨kI,mh⟩:=hv.head
   have fin:∀ {d:DV} {r:List DV},VD c.az c.w d v->jI c.az c.w r vs->jI c.az c.w (d::r) (v::vs):=fun{d r} h1 h2=>⟨by simp[h2.1],fun j x u hx hu=>by
    cases j with
    |zero=>simp at hx hu;subst hx;subst hu;exact h1
    |succ j=>exact h2.2 j x u (by simpa using hx) (by simpa using hu)⟩
   have less:∀ {d:DV} {u:Value},VD c.bad c.w d u->VD c.az c.w d u:=fun hd=>hd.mono fun b _ hn=>⟨fun hb=>hn (.inl hb),rfl⟩;cases x with
   |d x =>
    simp only[pB]at h;cases hr:pB c.heap l with
    |none=>rw[hr]at h;cases h
    |some r =>
     rw[hr]at h;cases h;cases kI with
     |d _ _ hd=>exact fin (less hd) (BT ho hf hr hg mh)
   |own b g =>
    simp only[pB,ev]at h;simp only[uA]at hg;split at hg
    case h_2=>cases hg
    rename_i q;have q:=Nat.eq_of_beq_eq_true q;subst q;split at h
    case h_2=>cases h
    rename_i g' ts m hb;obtain rfl:=hf b g' ts m hb;cases hr:pB c.heap l with
    |none=>rw[hr]at h;cases h
    |some r =>
     rw[hr]at h;cases h;refine fin ?_ (BT ho hf hr hg mh);obtain⟨q0,q1,q2⟩:=ho.box b _ hb;rcases kC hb kI with⟨blk,cap,r1,rfl⟩|⟨rfl,rfl,r1⟩
     ·rcases q2 with⟨q2,-⟩|⟨iM,gV,vs',q2,q3,q4,q5,q6,q7⟩
      ·rw[r1]at q2;cases q2
      rw[r1]at q2;cases q2;refine .sl m blk 0 cap ts.2 (fun i j=>(vs'[i*ts.2+j]?).getD undef) (fun _ fb=>ho.sep b blk cap r1 fb) q0 q5 (fun i e he=>q1 i e he) (fun i j e x he hx=>?_) (fun i j e x he hx=>?_) (fun i j e x he hx=>?_)
      ·obtain⟨v,p1,p2,p3⟩:=q7 i j e x he hx;rw[p1,Option.getD_some];exact lY q3 _ v (by simpa using p1)
      ·obtain⟨v,p1,p2,p3⟩:=q7 i j e x he hx;simp only[p1,Option.getD_some];exact less p3
      ·obtain⟨v,p1,p2,p3⟩:=q7 i j e x he hx;simp only[p1,Option.getD_some];exact p2
     ·exact .slnil
   |_=>cases h
theorem aq.cJ{E:Env}{f:FuncId}{ds:List DV}{h:List af}{args:List AV}{R:DV->Prop}(H:aq E f ds R)(l9:py h=true)(hd:pB h args=some ds)(hg:uA args=true)(hr:∀ r,R r->BS r=true):ar E f h args (fun a b=>∃ r,R r/\a=.d r/\b=h):=by
 unfold aq at H;unfold ar;refine⟨H.1,jR l9,fun c vs h1 h2 h3=>?_⟩;subst h1;have iE:tV E.G c.az c.w:=fun g e aA=>by
  have hp:∀ p,VR c (.bO e 0) p->VR ⟨fun _=>none,[],c.az,c.w⟩ (.bO e 0) p:=fun p hp=>by
   cases hp with
   |bO _ _ blk o' fv k1 k2 k3 k4=>exact .bO _ _ blk o' fv (fun hb=>k1 (.inl (wv.1 hb))) k2 k3 (fun j x hx=>wx ((k4 j x hx).mono fun b _ hn=>⟨fun hb=>hn (.inl hb),rfl⟩))
  exact hp _ (h2.fJ g e aA)
 refine(H.2 c.az c.w vs h2.bQ iE (BT h2 (jR l9) hd hg h3)).mono fun e w' ⟨v,r,k1,k2,k3,k4⟩=>?_;obtain⟨q1,q2⟩:=h2.grow k4;exact⟨c.eu w',.d r,v,k1,rfl,⟨r,k2,rfl,rfl⟩,.d _ _ (J9 (hr r k2) k3),q1,(Rel.refl c (jR l9)).step q2⟩
theorem RI{E:Env}{f:FuncId}{h0:List af}{args:List AV}{ds:List DV}{r:DV}{K:AV->List af->Prop}(H:aq E f ds (· = r))(hd:pB h0 args=some ds)(hr:BS r=true)(hg:uA args=true)(l9:py h0=true)(hk:K (.d r) h0):wR E f h0 args K :=
 jv (H.cJ l9 hd hg (fun _ e=>e ▸ hr)) fun a b ⟨r',e1,e2,e3⟩=>by subst e1;subst e2;subst e3;exact hk
end Go.ay
end
section
section
namespace Go.ay
open Go Go.RowKit
inductive jw (ops:Array Oper):Nat->Nat->Prop
 |one {j:Nat} {o:Oper} {e:Edge} (hj:ops[j]?=some o) (he:e∈o.after) (hb:Region.binds .any e=true):jw ops e.on j
 |step {i j:Nat} {o:Oper} {e:Edge} (h:jw ops i e.on) (hj:ops[j]?=some o) (he:e∈o.after) (hb:Region.binds .any e=true):jw ops i j
def Ff(acc:List Nat)(o:Oper):Nat:=o.after.toList.foldl (fun m e=>if Region.binds .any e then m ||| 2 ^ e.on ||| acc.getD e.on 0 else m) 0
def bits:List Oper->List Nat->List Nat
 |[],acc=>acc
 |o::l,acc=>bits l (acc++[Ff acc o])
theorem RJ{acc:List Nat}{o:Oper}{i:Nat}(h:(Ff acc o).testBit i=true):∃ e∈o.after,Region.binds .any e=true/\(i=e.on\/(acc.getD e.on 0).testBit i=true):=by
 have gen:∀ (l:List Edge) (m:Nat),(l.foldl (fun m e=>if Region.binds .any e then m ||| 2 ^ e.on ||| acc.getD e.on 0 else m) m).testBit i=true->m.testBit i=true\/∃ e∈l,Region.binds .any e=true/\(i=e.on\/(acc.getD e.on 0).testBit i=true):=by
  intro l
  induction l with
  |nil=>intro m h;exact .inl h
  |cons e l ih =>
   intro m h;rw[List.foldl_cons]at h;rcases ih _ h with h|⟨e',kE,hb⟩
   ·split at h
    ·rename_i hb;simp only[Nat.testBit_or,Bool.or_eq_true,Nat.testBit_two_pow,decide_eq_true_eq]at h;rcases h with(h|h)|h
     ·exact .inl h
     ·exact .inr ⟨e,List.mem_cons_self ..,hb,.inl h.symm⟩
     ·exact .inr ⟨e,List.mem_cons_self ..,hb,.inr h⟩
    ·exact .inl h
   ·exact .inr ⟨e',List.mem_cons_of_mem _ kE,hb⟩
 rcases gen _ _ h with h|⟨e,he,hb⟩
 ·simp at h
 ·exact⟨e,by simpa using he,hb⟩
theorem Fg(ops:Array Oper):∀ (l:List Oper) (acc:List Nat),ops.toList.drop acc.length=l->(∀ j i,(acc.getD j 0).testBit i=true->jw ops i j)->∀ j i,((bits l acc).getD j 0).testBit i=true->jw ops i j
 |[],acc,_,ha=>ha
 |o::l,acc,hl,ha=>by
  have ho:ops[acc.length]?=some o:=by
   have:=congrArg (·[0]?) hl
   simpa using this
  refine Fg ops l (acc++[Ff acc o]) (by rw[List.length_append,List.length_singleton,<- List.drop_drop,hl];rfl) (fun j i h=>?_);rcases Nat.lt_trichotomy j acc.length with hj|hj|hj
  ·rw[List.getD,List.getElem?_append_left hj]at h;exact ha j i h
  ·subst hj;rw[List.getD,List.getElem?_append_right (Nat.le_refl _),Nat.sub_self]at h;obtain⟨e,he,hb,h|h⟩:=RJ (by simpa using h)
   ·subst h;exact .one ho he hb
   ·exact .step (ha _ _ h) ho he hb
  ·rw[List.getD,List.getElem?_eq_none (by simp;omega)]at h;simp at h
def tmpsOf(o:Op):List Nat:=o.operands.toList.filterMap fun | .tmp t=>some t|_=>none
def J'(ops:Array Oper):Option (Nat × Bool)->List Nat
 |none=>[]
 |some (j,_)=>match (ops[j]?).bind (·.dst)with
  |some d=>[d]
  |none=>[]
def dJ(ops:Array Oper)(o:Oper):List Nat:=tmpsOf o.op++J' ops o.guard
def pC(ops:Array Oper)(a b:Oper):Bool:=(match a.dst with|some d=>jQ d (b.dst.toList++dJ ops b)|none=>false)||(match b.dst with|some d=>jQ d (dJ ops a)|none=>false)
theorem zn{d:Nat}:∀ {l:List Nat},jQ d l=true↔d∈l
 |[]=>by simp[jQ]
 |a::l=>by
  simp only[jQ];split
  ·rename_i q;simp[Nat.eq_of_beq_eq_true q]
  ·rename_i q;have aI:d≠a:=fun e=>by rw[e,Nat.beq_refl]at q;cases q
   rw[zn (l:=l)];simp[aI]
structure BU(ops:Array Oper):Prop where
 low:∀ j o e,ops[j]?=some o->e∈o.after->Region.binds .any e=true->e.on<j
 pair:∀ i j oi oj,i<j->ops[i]?=some oi->ops[j]?=some oj->pC ops oi oj=true->jw ops i j
def BV(ops:Array Oper):Bool :=
 let bs:=bits ops.toList []
 (List.range ops.size).all fun j=>match ops[j]? with
  |none=>true
  |some oj=>(oj.after.toList.all fun e => !Region.binds .any e||decide (e.on<j))&&(List.range j).all fun i=>match ops[i]? with
   |none=>true
   |some oi=>(bs.getD j 0).testBit i || !pC ops oi oj
theorem Ka{ops:Array Oper}(h:BV ops=true):BU ops:=by
 have hb:=Fg ops ops.toList [] rfl (fun j i h=>by simp at h);have aJ:∀ j oj,ops[j]?=some oj->(oj.after.toList.all fun e => !Region.binds .any e||decide (e.on<j))=true/\∀ i oi,i<j->ops[i]?=some oi->((bits ops.toList []).getD j 0).testBit i=true\/pC ops oi oj=false:=fun j oj hj=>by
  have ah:j<ops.size:=(Array.getElem?_eq_some_iff.1 hj).1;have h1:=List.all_eq_true.1 h j (List.mem_range.2 ah);simp only[hj,Bool.and_eq_true]at h1;refine⟨h1.1,fun i oi hi mb=>?_⟩;have h2:=List.all_eq_true.1 h1.2 i (List.mem_range.2 hi);simp only[mb,Bool.or_eq_true,Bool.not_eq_true']at h2;exact h2
 refine⟨fun j o e hj he fb=>?_,fun i j oi oj dQ hi hj hc=>?_⟩
 ·have:=List.all_eq_true.1 (aJ j o hj).1 e (by simpa using he)
  simpa [fb]using this
 ·rcases(aJ j oj hj).2 i oi dQ hi with h|h
  ·exact hb j i h
  ·rw[hc]at h;cases h
def BW(ops:Array Oper)(l:List (Nat × Nat)):Bool :=
 let bs:=bits ops.toList []
 l.all fun p=>(bs.getD p.2 0).testBit p.1
theorem Kb{ops:Array Oper}{l:List (Nat × Nat)}(h:BW ops l=true):∀ p∈l,jw ops p.1 p.2:=fun p hp =>
 Fg ops ops.toList [] rfl (fun j i h=>by simp at h) p.2 p.1 (List.all_eq_true.1 h p hp)
def cur:List (Oper × AV)->(Nat->Bool)->Nat->List AV->List AV
 |[],_,_,s=>s
 |(o,v)::l,L,i,s=>cur l L (i+1) (if L i then bX s o.dst v else s)
theorem sH:∀ (pl:List (Oper × AV)) (L:Nat->Bool) (i:Nat) (s:List AV),(cur pl L i s).length=s.length
 |[],_,_,_=>rfl
 |(o,v)::l,L,i,s=>by
  rw[cur,sH l];split
  ·cases o.dst<;>simp[bX]
  ·rfl
theorem RL{s:List AV}{d:Option Nat}{v:AV}{t:Nat}(h:d≠some t):(bX s d v)[t]?=s[t]? := by
 cases d with
 |none=>rfl
 |some d=>exact List.getElem?_set_ne (fun e=>h (by rw[e]))
theorem RM{s s':List AV}{d:Option Nat}{v:AV}{t:Nat}(hl:s.length=s'.length)(h:s[t]?=s'[t]?):(bX s d v)[t]?=(bX s' d v)[t]? := by
 cases d with
 |none=>exact h
 |some d =>
  by_cases hd:d=t
  ·subst hd;simp only[bX,List.getElem?_set,hl,if_true]
  ·simp only[bX,List.getElem?_set_ne hd,h]
theorem zo{t:Nat}:∀ (pl:List (Oper × AV)) (L L':Nat->Bool) (i:Nat) (s s':List AV),s.length=s'.length->s[t]?=s'[t]? -> (∀ k o v,pl[k]?=some (o,v)->o.dst=some t->L (i+k)=L' (i+k))->(cur pl L i s)[t]?=(cur pl L' i s')[t]?
 |[],_,_,_,_,_,_,hs,_=>hs
 |(o,v)::l,L,L',i,s,s',hl,hs,hw=>by
  rw[cur,cur];have hlen:∀ (b:Bool) (q:List AV),(if b then bX q o.dst v else q).length=q.length:=fun b q=>by cases b<;>cases o.dst<;>simp[bX]
  refine zo l L L' (i+1) _ _ (by rw[hlen,hlen,hl]) ?_ (fun k o' v' hk hd=>by have:=hw (k+1) o' v' (by simpa using hk) hd;rwa [show i+(k+1)=i+1+k by omega]at this);by_cases hd:o.dst=some t
  ·have:=hw 0 o v rfl hd;rw[Nat.add_zero]at this;rw[this];split
   ·exact RM hl hs
   ·exact hs
  ·split<;>split<;>simp only[RL hd,hs]
theorem qI:∀ (pl:List (Oper × AV)) (i:Nat) (s:List AV) (L:Nat->Bool),(∀ k,k<pl.length->L (i+k)=false)->cur pl L i s=s
 |[],_,_,_,_=>rfl
 |(o,v)::l,i,s,L,h=>by
  have h0:=h 0 (by simp);rw[Nat.add_zero]at h0;rw[cur,h0];exact qI l (i+1) s L (fun k hk=>by have:=h (k+1) (by simpa using hk);rwa [show i+(k+1)=i+1+k by omega]at this)
theorem Kc:∀ (pl:List (Oper × AV)) (i j:Nat) (s:List AV) (o:Oper) (v:AV),pl[j]?=some (o,v)->cur pl (fun k=>decide (k<i+j+1)) i s=bX (cur pl (fun k=>decide (k<i+j)) i s) o.dst v
 |[],_,_,_,_,_,h=>by simp at h
 |(o',v')::l,i,0,s,o,v,h=>by
  simp at h;obtain⟨rfl,rfl⟩:=h;rw[cur,cur];simp only[Nat.add_zero,Nat.lt_irrefl,decide_false,Bool.false_eq_true,if_false,Nat.lt_succ_self,decide_true,if_true];rw[qI l (i+1) _ _ (fun k _=>decide_eq_false (by omega)),qI l (i+1) s _ (fun k _=>decide_eq_false (by omega))]
 |(o',v')::l,i,j+1,s,o,v,h=>by
  rw[cur,cur];have e1:(decide (i<i+(j+1)+1))=true:=decide_eq_true (by omega);have e2:(decide (i<i+(j+1)))=true:=by simp
  simp only[e1,e2,if_true];have:=Kc l (i+1) j (bX s o'.dst v') o v (by simpa using h);rw[show i+(j+1)+1=i+1+j+1 by omega,show i+(j+1)=i+1+j by omega];exact this
theorem BX(d:Nat):∀ (a:List (Oper × AV)) (L:Nat->Bool) (i:Nat) (s:List AV),cur a L (i+d) s=cur a (fun k=>L (k+d)) i s
 |[],_,_,_=>rfl
 |(o,v)::a,L,i,s=>by
  rw[cur,cur,show i+d+1=i+1+d by omega,BX d a L (i+1)]
def c9(keep:List Nat):Nat->List AV->List AV
 |_,[]=>[]
 |i,x::s=>(match jQ i keep with|true=>x|false => .any)::c9 keep (i+1) s
theorem Fh(keep:List Nat):∀ (i:Nat) (s:List AV),(c9 keep i s).length=s.length
 |_,[]=>rfl
 |i,_::s=>by simp[c9,Fh keep (i+1) s]
theorem Fi(keep:List Nat):∀ (i t:Nat) (s:List AV) (x:AV),(c9 keep i s)[t]?=some x->x=.any\/(i+t∈keep/\s[t]?=some x)
 |_,_,[],_,h=>by simp[c9]at h
 |i,0,y::s,x,h=>by
  simp only[c9,List.getElem?_cons_zero,Option.some.injEq]at h;split at h
  ·rename_i q;subst h;exact .inr ⟨by simpa using zn.1 q,rfl⟩
  ·exact .inl h.symm
 |i,t+1,y::s,x,h=>by
  simp only[c9,List.getElem?_cons_succ]at h;rcases Fi keep (i+1) t s x h with h|⟨h1,h2⟩
  ·exact .inl h
  ·exact .inr ⟨by rwa [show i+(t+1)=i+1+t by omega],by simpa using h2⟩
theorem VS.mask{c:Cx}{s:List AV}{t:Array Value}(h:VS c s t){keep:List Nat}:VS c (c9 keep 0 s) t:=by
 refine⟨by rw[Fh];exact h.1,fun i x v hx hv=>?_⟩;rcases Fi _ 0 i _ x hx with rfl|⟨-,hx⟩
 ·exact .any v
 ·exact h.2 i x v hx hv
def ee(E:Env)(ops:Array Oper)(o:Oper)(s:List AV)(h:List af)(v:AV)(h':List af):Prop :=
 ∀ (c:Cx) (a:Act),aK E.G c->c.heap=h->a.defers=[]->VS c (c9 (dJ ops o) 0 s) a.tmps->∀ (j:Nat),ops[j]?=some o->∀ (K:Act->World->Prop) (Q:Exit->Act->World->Prop),
  (∀ (c':Cx) (u:Value),aK E.G c'->c'.heap=h'->Step c c'->VR c' v u->K (a.put o.dst u) c'.w)->wpOp E.P ops Q j K a c.w
section
variable {E:Env} {ops:Array Oper}
def bS(listed:Array Bool)(i:Nat):Bool:=listed.getD i false
def DC(ops:Array Oper)(listed:Array Bool):Prop:=listed.size=ops.size/\∀ j o e,ops[j]?=some o->bS listed j=true->e∈o.after->Region.binds .any e=true->bS listed e.on=true
theorem DC.dep{listed:Array Bool}(hd:DC ops listed){i j:Nat}(h:jw ops i j)(hj:bS listed j=true):bS listed i=true:=by
 induction h with
 |one ho he hb=>exact hd.2 _ _ _ ho hj he hb
 |step h ho he hb ih=>exact ih (hd.2 _ _ _ ho hj he hb)
theorem DC.ready{listed:Array Bool}(hd:DC ops listed){i j:Nat}(hj:j∈Region.ready .any ops listed)(h:jw ops i j):bS listed i=true:=by
 obtain⟨-,o,ho,aJ⟩:=mem_ready.1 hj;cases h with
 |one cU he hb=>rw[ho]at cU;cases cU;exact aJ _ he hb
 |step h cU he hb=>rw[ho]at cU;cases cU;exact hd.dep h (aJ _ he hb)
theorem DC.set{listed:Array Bool}(hd:DC ops listed){j:Nat}(hj:j∈Region.ready .any ops listed):DC ops (listed.setIfInBounds j true):=by
 refine⟨by simpa using hd.1,fun i o e hi hl he hb=>?_⟩;by_cases dQ:j=i
 ·subst dQ;obtain⟨-,o',cU,aJ⟩:=mem_ready.1 hj;rw[hi]at cU;cases cU;exact getD_set_true (aJ e he hb)
 ·have:bS listed i=true:=by unfold bS at hl ⊢;rwa [getD_set_ne false dQ]at hl
  exact getD_set_true (hd.2 i o e hi this he hb)
theorem Fj{listed:Array Bool}{j i:Nat}(hj:j<listed.size):bS (listed.setIfInBounds j true) i=(bS listed i||decide (i=j)):=by
 unfold bS;by_cases h:j=i
 ·subst h;simp[hj]
 ·rw[getD_set_ne false h];simp[Ne.symm h]
theorem uB{listed:Array Bool}(hd:DC ops listed){j:Nat}(hj:j∈Region.ready .any ops listed):bS listed j=false/\j<ops.size:=by
 obtain⟨h1,o,ho,-⟩:=mem_ready.1 hj;have ah:j<ops.size:=(Array.getElem?_eq_some_iff.1 ho).1;refine⟨?_,ah⟩;have:j<listed.size:=by rw[hd.1];exact ah
 unfold bS;simp[this]at h1 ⊢;exact h1
theorem Fk(hc:BU ops){listed:Array Bool}(hd:DC ops listed){j:Nat}(hj:j<ops.size)(hn:bS listed j=false):∃ i,i<=j/\i∈Region.ready .any ops listed:=by
 induction j using Nat.strongRecOn with
 |ind j ih =>
  by_cases aJ:∀ i,i<j->bS listed i=true
  ·refine⟨j,Nat.le_refl _,mem_ready.2 ⟨?_,ops[j],by simp[hj],fun e he hb=>aJ _ (hc.low j _ e (by simp[hj]) he hb)⟩⟩;have:j<listed.size:=by rw[hd.1];exact hj
   unfold bS at hn;simp[this]at hn ⊢;exact hn
  ·have:∃ i,i<j/\bS listed i=false:=by
    apply Classical.byContradiction;intro aI;exact aJ fun i hi=>by
     cases hl:bS listed i with
     |true=>rfl
     |false=>exact absurd ⟨i,hi,hl⟩ aI
   obtain⟨i,hi,hl⟩:=this;obtain⟨k,hk,hr⟩:=ih i hi (by omega) hl;exact⟨k,by omega,hr⟩
def jx(L:Nat->Bool):Nat->Nat
 |0=>0
 |n+1=>jx L n+if L n then 0 else 1
theorem Fl{L L':Nat->Bool}{j:Nat}(h:∀ i,i≠j->L' i=L i)(hj:L j=false)(eK:L' j=true):∀ n,(j<n->jx L' n+1=jx L n)/\(n<=j->jx L' n=jx L n)
 |0=>⟨fun h=>by omega,fun _=>rfl⟩
 |n+1=>by
  obtain⟨h1,h2⟩:=Fl h hj eK n;simp only[jx];by_cases hn:n=j
  ·subst hn;refine⟨fun _=>?_,fun h=>by omega⟩;rw[h2 (Nat.le_refl _),hj,eK];simp
  ·rw[h n hn];exact⟨fun hl=>by have:=h1 (by omega);omega,fun hl=>by rw[h2 (by omega)]⟩
theorem Kd{L:Nat->Bool}{j:Nat}(hj:L j=false):∀ n,j<n->0<jx L n
 |0,h=>by omega
 |n+1,h=>by
  simp only[jx];by_cases hn:n=j
  ·subst hn;rw[hj];simp
  ·have:=Kd hj n (by omega);omega
theorem Fm{a b:Oper}{d:Nat}(ha:a.dst=some d)(hb:d∈b.dst.toList++dJ ops b):pC ops a b=true:=by
 simp only[pC,ha,zn.2 hb,Bool.true_or]
theorem RN{a b:Oper}{d:Nat}(hb:b.dst=some d)(ha:d∈dJ ops a):pC ops a b=true:=by
 simp only[pC,hb,zn.2 ha,Bool.or_true]
theorem Fp(Ke:∀ i j oi oj,i<j->ops[i]?=some oi->ops[j]?=some oj->pC ops oi oj=true->jw ops i j){q:List (Oper × AV)}(dF:∀ (k:Nat) (o:Oper) (v:AV),q[k]?=some (o,v)->ops[k]?=some o){listed:Array Bool}(hd:DC ops listed){i:Nat}(hi:i∈Region.ready .any ops listed)
  {o:Oper} {v:AV} (jy:q[i]?=some (o,v)) {s0:List AV} {c:Cx} {a:Act} (h4:VS c (cur q (bS listed) 0 s0) a.tmps) :
  (∀ (c':Cx) (u:Value),(∀ x v,VR c x v->VR c' x v)->VR c' v u->VS c' (cur q (bS (listed.setIfInBounds i true)) 0 s0) (a.put o.dst u).tmps)/\VS c (c9 (dJ ops o) 0 (cur q (fun k=>decide (k<i)) 0 s0)) a.tmps:=by
 obtain⟨lE,fL⟩:=uB hd hi;have mb:=dF i o v jy;have wr:∀ k o' v',q[k]?=some (o',v')->(k<i->pC ops o' o=true->bS listed k=true)/\(i<k->pC ops o o'=true->bS listed k=false):=fun k o' v' hk=>by
  have aM:=dF k o' v' hk;refine⟨fun ah nd=>hd.ready hi (Ke k i o' o ah aM mb nd),fun ah nd=>?_⟩;cases hl:bS listed k with
  |false=>rfl
  |true=>have:=hd.dep (Ke i k o o' ah mb aM nd) hl;rw[lE]at this;cases this
 have bP:i<listed.size:=by rw[hd.1];exact fL
 have dM:=fun q=>Fj (i:=q) bP;refine⟨fun c' u k3 k4=>?_,?_⟩
 ·refine⟨by rw[sH];have:=h4.1;rw[sH]at this;cases BY:o.dst<;>simp[Act.put,this],fun t x u' hx yx=>?_⟩;by_cases gX:o.dst=some t
  ·have e1:(cur q (bS (listed.setIfInBounds i true)) 0 s0)[t]?=(cur q (fun k=>decide (k<0+i+1)) 0 s0)[t]? := by
    refine zo _ _ _ 0 s0 s0 rfl rfl (fun k o' v' jM fj=>?_);rw[Nat.zero_add,Nat.zero_add,dM];rcases Nat.lt_trichotomy k i with ah|rfl|uc
    ·rw[(wr k o' v' jM).1 ah (Fm fj (List.mem_append_left _ (by simp[gX])))];simp;omega
    ·simp
    ·rw[(wr k o' v' jM).2 uc (Fm gX (List.mem_append_left _ (by simp[fj])))];simp;omega
   rw[e1,Kc _ 0 i s0 o v jy,gX]at hx;have Fq:t<(cur q (fun k=>decide (k<0+i)) 0 s0).length:=by
    have:=aQ hx
    simpa [bX]using this
   rw[bX,List.getElem?_set_self Fq]at hx;cases hx;have RO:t<a.tmps.size:=by rw[<- h4.1,sH];rwa [sH]at Fq
   have xa:(a.tmps.setIfInBounds t u)[t]?=some u':=by simpa [Act.put,gX]using yx
   rw[Array.getElem?_setIfInBounds_self_of_lt RO]at xa;cases xa;exact k4
  ·have e1:(cur q (bS (listed.setIfInBounds i true)) 0 s0)[t]?=(cur q (bS listed) 0 s0)[t]? := by
    refine zo _ _ _ 0 s0 s0 rfl rfl (fun k o' v' jM fj=>?_);rw[Nat.zero_add,dM];have:k≠i:=fun e=>by
     subst e;rw[jy]at jM;cases jM;exact gX fj
    simp[this]
   rw[e1]at hx;refine k3 _ _ (h4.2 t x u' hx ?_);cases BY:o.dst with
   |none=>simpa [Act.put,BY]using yx
   |some d =>
    rw[BY]at gX;have aI:d≠t:=fun e=>gX (by rw[e])
    simpa [Act.put,BY,Array.getElem?_setIfInBounds_ne aI]using yx
 ·refine⟨by rw[Fh,sH];have:=h4.1;rwa [sH]at this,fun t x u hx hu=>?_⟩;rcases Fi _ 0 t _ x hx with rfl|⟨hk,hx⟩
  ·exact .any u
  ·rw[Nat.zero_add]at hk;refine h4.2 t x u ?_ hu;rw[<- hx];refine zo _ _ _ 0 s0 s0 rfl rfl (fun k o' v' jM fj=>?_);rw[Nat.zero_add];rcases Nat.lt_trichotomy k i with ah|rfl|uc
   ·rw[(wr k o' v' jM).1 ah (Fm fj (List.mem_append_right _ hk))];simp[ah]
   ·rw[lE];simp
   ·rw[(wr k o' v' jM).2 uc (RN fj hk)];simp;omega
theorem Kg{pl:List (Oper × AV)}(lp:pl.map (·.1)=ops.toList):pl.length=ops.size/\∀ (k:Nat) (o:Oper) (v:AV),pl[k]?=some (o,v)->ops[k]?=some o:=by
 refine⟨by have:=congrArg List.length lp;simpa using this,fun k o v hk=>?_⟩;have:=congrArg (·[k]?) lp;simp only[List.getElem?_map,hk,Option.map_some]at this
 simpa using this.symm
theorem Fs{L:Nat->Bool}{n i:Nat}(h:jx L n<=0)(hi:i<n):L i=true:=by
 cases hl:L i with
 |true=>rfl
 |false=>have:=Kd hl n hi;omega
theorem sJ(n i:Nat):bS (Array.replicate n false) i=false:=by
 unfold bS;simp[Array.getElem?_replicate];split<;>rfl
theorem Kh(n:Nat):∀ k,jx (bS (Array.replicate n false)) k<=k:=by
 intro k
 induction k with
 |zero=>exact Nat.le_refl _
 |succ k ih=>simp only[jx];split<;>omega
end
section
variable {E:Env} {ag:FuncId} {R:cF} {ops:Array Oper} {s:List AV} {h:List af}
theorem ee.skip{o:Oper}(hw:gW ops o (c9 (dJ ops o) 0 s) false):ee E ops o s h (.d .undef) h:=fun c a h1 h2 _ h4 j hj K Q hK=>by
 unfold wpOp;simp only[hj,hw c a.tmps h4,Bool.false_eq_true,if_false];exact hK c Go.undef h1 h2 (Step.refl c h1.bQ) (.d _ _ .undef)
theorem RP{s:List AV}{o:Oper}{fx:Operand}{args:Array Operand}{ts:Array TypeId}{f:FuncId}{a1 a2 av:List AV}{ds:List DV}{r:DV}(ho:o.op=.call { callee := .value fx,args:=args,argTypes:=ts })
  (hf:aZ E.G s fx (.fn (.func f) a1 a2)) (ha:jn E.G s args.toList av) (hd:a1++av++a2=ds.map .d) (hc:aq E f ds (· = r)) {c:Cx} {a:Act} (h1:aK E.G c) (h4:VS c s a.tmps) {K:Act->World->Prop} {Q:Exit->Act->World->Prop}
  (hK:∀ (c':Cx) (u:Value),aK E.G c'->c'.heap=c.heap->Step c c'->VR c' (.d r) u->K (a.put o.dst u) c'.w):o.wp E.P a c.w K Q:=by
 unfold aq at hc;obtain⟨v1,v2,e1,e2,e3⟩:=ma (hf c a h1 h4);have e4:=ha c a h1 h4;have e5:=(e2.append e4).append e3;rw[hd]at e5;have yu:∀ b,c.bad b->b<c.w.heap.size:=fun b hb=>hb.elim (h1.bQ b) fun⟨j,n,hj⟩=>(h1.bA j b n hj).1;have D9:tV E.G c.bad c.w:=fun g e hg=>by
  have hp:∀ p,VR c (.bO e 0) p->VR ⟨fun _=>none,[],c.bad,c.w⟩ (.bO e 0) p:=fun p hp=>by
   cases hp with
   |bO _ _ blk o' fv k1 k2 k3 k4=>exact .bO _ _ blk o' fv (fun hb=>k1 (wv.1 hb)) k2 k3 (fun j x hx=>wx (k4 j x hx))
  exact hp _ (h1.fJ g e hg)
 have iU:=hc.2 c.bad c.w _ yu D9 ⟨by simpa using e5.1,e5.pg⟩;have cI:=yr (P:=E.P) (w:=c.w) (a:=a) ho e1 hc.1;have jK:(v1.toArray++args.map a.eval++v2.toArray)=(v1++args.toList.map a.eval++v2).toArray:=by
  apply Array.ext';simp
 rw[jK]at cI;unfold Oper.wp;rw[cI,Oper.upon_enter];refine iU.mono fun e w' he=>?_;obtain⟨v,r',rfl,rfl,hv,hx⟩:=he;obtain⟨k1,k2⟩:=h1.grow hx;exact hK (c.eu w') v k1 rfl k2 (.d _ _ hv)
theorem ee.call{o:Oper}{fx:Operand}{args:Array Operand}{ts:Array TypeId}{f:FuncId}{a1 a2 av:List AV}{ds:List DV}{r:DV}(hw:gW ops o (c9 (dJ ops o) 0 s) true)(ho:o.op=.call { callee := .value fx,args:=args,argTypes:=ts })
  (hf:aZ E.G (c9 (dJ ops o) 0 s) fx (.fn (.func f) a1 a2)) (ha:jn E.G (c9 (dJ ops o) 0 s) args.toList av) (hd:a1++av++a2=ds.map .d) (hc:aq E f ds (· = r)):ee E ops o s h (.d r) h:=fun c a h1 h2 _ h4 j hj K Q hK=>by
 unfold wpOp;simp only[hj,hw c a.tmps h4,if_true];left;exact RP ho hf ha hd hc h1 h4 fun c' u k1 k2 k3 k4=>hK c' u k1 (k2.trans h2) k3 k4
end
def qJ:Op->Bool
 | .box .. => false
 | .alloc .. => false
 | .store .. => false
 | .makeSlice .. => false
 | .makeMap .. => false
 | .mapUpdate .. => false
 | .call { callee := .builtin .append,.. }=>false
 |_=>true
def xb{α:Sort _}(keep:List Nat):Nat->List AV->(List AV->α)->α
 |_,[],k=>k []
 |i,x::s,k=>match jQ i keep with
  |true=>xb keep (i+1) s fun s'=>k (x::s')
  |false=>xb keep (i+1) s fun s'=>k (.any::s')
theorem Ki{α:Sort _}(keep:List Nat):∀ (i:Nat) (s:List AV) (k:List AV->α),xb keep i s k=k (c9 keep i s)
 |_,[],_=>rfl
 |i,x::s,k=>by
  simp only[xb,c9];split<;>rename_i q<;>rw[Ki keep (i+1)]<;>simp only[q]
theorem RQ{T:List br}{G:List (Nat × DV)}{o:Op}{s:List AV}{h:List af}{stop:Prop}{K:AV->Prop}(ho:qJ o=true)(H:jF T G o s h stop (fun v _=>K v)):jF T G o s h stop (fun v h'=>h'=h/\K v):=by
 cases o
 case box=>cases ho
 case alloc=>cases ho
 case store=>cases ho
 case unOp op t x=>cases op<;>simpa only[jF,true_and]using H
 case call c =>
  obtain⟨callee,args,ts⟩:=c;cases callee with
  |builtin b=>cases b<;>simpa only[jF,true_and]using H
  |_=>simpa only[jF]using H
 all_goals simpa only[jF,true_and]using H
theorem RR{T:List br}{G:List (Nat × DV)}{o:Op}{s:List AV}{h:List af}{stop:Prop}{K:AV->Prop}(ho:qJ o=true)(H:qv T G o s h stop (fun v _=>K v)):qv T G o s h stop (fun v h'=>h'=h/\K v):=by
 cases o
 case store=>cases ho
 case makeSlice=>cases ho
 case slice t x lo hi mx=>cases mx<;>simpa only[qv,r8,true_and]using H
 case call c =>
  obtain⟨callee,args,ts⟩:=c;cases callee with
  |builtin b=>cases b<;>first|(simpa only[qv,r8]using H)|(simp[qJ]at ho)
  |_=>simpa only[qv,r8]using H
 all_goals simpa only[qv,r8,true_and]using H
theorem RS{E:Env}{o:Op}{s:List AV}{h:List af}{stop:Prop}{K:AV->Prop}(ho:qJ o=true):wI E o s h stop (fun v h'=>h'=h/\K v)=wI E o s h stop (fun v _=>K v):=by
 unfold wI;split
 ·simp[qJ]at ho
 ·simp only[true_and]
 ·simp only[true_and]
 ·simp[qJ]at ho
 ·rfl
theorem RT{E:Env}{o:Op}{s:List AV}{h:List af}{stop:Prop}{K:AV->Prop}(ho:qJ o=true)(H:nY E o s h stop (fun v _=>K v)):nY E o s h stop (fun v h'=>h'=h/\K v):=by
 unfold nY at H ⊢;rw[RS ho];have:=RR ho H;have e:(fun v=>h=h/\K v)=K:=by funext v;simp
 rw[e];exact this
@[irreducible] def sK (E : Env) (f : FuncId) (ds : List DV) (h : List af) (K1 : DV -> Prop) (K2 : AV -> List af -> Prop) : Prop :=
 (∃ r,aq E f ds (· = r)/\K1 r)\/∃ r h1,ar E f [] (ds.map .d) (fun a b=>a=r/\b=h1)/\K2 (iT [] h r) (eY [] h h1)
theorem au{E:Env}{f:FuncId}{ds:List DV}{h:List af}{K1:DV->Prop}{K2:AV->List af->Prop}{r:DV}(H:aq E f ds (· = r))(hk:K1 r):sK E f ds h K1 K2:=by unfold sK;exact .inl ⟨r,H,hk⟩
theorem RU{E:Env}{f:FuncId}{ds:List DV}{h:List af}{K1:DV->Prop}{K2:AV->List af->Prop}{r:AV}{h1:List af}{args:List AV}(hc:ar E f [] args (fun a b=>a=r/\b=h1))(ha:args=ds.map .d)(hk:fB [] h r fun v=>ju [] h h1 fun h'=>K2 v h'):sK E f ds h K1 K2:=by
 unfold sK;rw[mY,qE]at hk;exact .inr ⟨r,h1,ha ▸ hc,hk⟩
def uC(ro:Option Nat):Fence:={ Fence.wide with round:=ro }
theorem oT(a:Act)(d:Option Nat)(v:Value):(a.put d v).defers=a.defers:=by cases d<;>rfl
section
variable {P:Program} {ops:Array Oper} {Q:Exit->Act->World->Prop}
theorem sL(hQ:∀ e a w,Q e a w->e=.normal/\a.defers=[]):∀ (l:List Nat) (a:Act) (w:World),wpOps P ops Q l a w->a.defers=[]
 |[],a,w,h=>(hQ _ _ _ h).2
 |i::l,a,w,h=>by
  simp only[wpOps]at h;split at h
  ·exact sL hQ l a w h
  ·rename_i o ho;split at h
   ·rcases h with h|⟨_,a',w',h⟩
    ·unfold Oper.wp at h;generalize (execOp a.eval o).run P w=r at h;cases r with
     |ok n w' =>
      cases n with
      |value v=>have:=sL hQ l _ _ h;rwa [oT]at this
      |skip=>have:=sL hQ l _ _ h;rwa [oT]at this
      |defer d=>have:=sL hQ l _ _ h;rw[oT]at this;cases this
      |enter f args =>
       obtain⟨e,zp,fr,he,_⟩:=h [];cases e with
       |returned v=>have:=sL hQ l _ _ he;rwa [oT]at this
       |panicked c=>have:=(hQ _ _ _ he).1;cases this
       |outgrown=>obtain⟨a',w',he⟩:=he;have:=(hQ _ _ _ he).1;cases this
      |row bz args =>
       obtain⟨v,zp,he,_⟩:=h default [];have:=sL hQ l _ _ he;rwa [oT]at this
      |_=>exact h.elim
     |halt x w'=>cases x with
      |panic v=>have:=(hQ _ _ _ h).1;cases this
      |_=>exact h.elim
    ·have:=(hQ _ _ _ h).1;cases this
   ·have:=sL hQ l _ _ h;rwa [oT]at this
theorem zq(ro:Option Nat)(df:List Deferred)(hQ:∀ e a w,Q e a w->e=.normal/\a.defers=[]):∀ (l:List Nat) (t:Array Value) (w:World),wpOps P ops Q l ⟨t,[]⟩ w ->
  wpOpsIn (uC ro) 0 P ops (fun e a w=>a.defers=df/\Q e ⟨a.tmps,[]⟩ w) l ⟨t,df⟩ w
 |[],t,w,h=>⟨rfl,h⟩
 |i::l,t,w,h=>by
  have next:∀ (d:Option Nat) (v:Value) (w:World),wpOps P ops Q l ((⟨t,[]⟩:Act).put d v) w->wpOpsIn (uC ro) 0 P ops (fun e a w=>a.defers=df/\Q e ⟨a.tmps,[]⟩ w) l ((⟨t,df⟩:Act).put d v) w:=fun d v w h=>by
   cases d with
   |none=>exact zq ro df hQ l t w h
   |some d=>exact zq ro df hQ l _ w h
  have RV:(⟨t,df⟩:Act).eval=(⟨t,[]⟩:Act).eval:=funext fun x=>by cases x<;>rfl
  simp only[wpOps]at h;simp only[wpOpsIn];cases ho:ops[i]? with
  |none=>rw[ho]at h;exact zq ro df hQ l t w h
  |some o =>
   rw[ho]at h;simp only at h ⊢;by_cases hw:Region.wanted o (yielded ops t)=true
   ·rw[if_pos hw]at h ⊢;rcases h with h|⟨_,a',w',h⟩
    case inr=>have:=(hQ _ _ _ h).1;cases this
    refine⟨fun _ _=>trivial,?_⟩;rw[RV];unfold Oper.wp at h;cases hr:(execOp (⟨t,[]⟩:Act).eval o).run P w with
    |ok n w' =>
     rw[hr]at h;cases n with
     |value v=>rw[rZ hr (by simp)];exact next _ _ _ h
     |skip=>rw[rZ hr (by simp)];exact next _ _ _ h
     |defer d=>have:=sL hQ l _ _ h;rw[oT]at this;cases this
     |enter f args =>
      rw[rZ hr (by simp)];refine⟨fun e=>by simp[uC,Fence.wide]at e,?_⟩;have h2:Calls P f args w' fun e zp=>match e with
        | .returned v=>wpOpsIn (uC ro) 0 P ops (fun e a w=>a.defers=df/\Q e ⟨a.tmps,[]⟩ w) l ((⟨t,df⟩:Act).put o.dst v) zp
        | .panicked chain=>df=df/\Q (.panic chain) ⟨t,[]⟩ zp
        | .outgrown=>LetsOut (fun e a w=>a.defers=df/\Q e ⟨a.tmps,[]⟩ w):=Calls.mono h (fun e zp he=>by
       cases e with
       |returned v=>exact next _ _ _ he
       |panicked c=>have:=(hQ _ _ _ he).1;cases this
       |outgrown=>obtain⟨a',w',he⟩:=he;have:=(hQ _ _ _ he).1;cases this)
      have h3:=callsIn_wide (n:=0).2 h2;refine⟨trivial,fun cs ec=>?_⟩;obtain⟨e,w2,fr,k1,k2,k3⟩:=h3.2 cs (room_wide _);refine⟨e,w2,fr,?_,k2,k3⟩;cases e<;>exact k1
     |row bz args =>
      rw[rZ hr (by simp)];refine⟨fun e=>by simp[uC,Fence.wide]at e,fun c cs _=>?_⟩;obtain⟨v,w2,k1,k2⟩:=h c cs;exact⟨v,w2,next _ _ _ k1,stepsIn_wide.2 k2⟩
     |_=>exact h.elim
    |halt x w' =>
     rw[hr]at h;cases x with
     |panic v=>have:=(hQ _ _ _ h).1;cases this
     |_=>exact h.elim
   ·rw[if_neg hw]at h ⊢;exact⟨fun _ _=>trivial,next _ _ _ h⟩
end
section
variable {E:Env} {ops:Array Oper} {ag:FuncId} {R:cF} {s:List AV} {h:List af} {lits:List Nat}
theorem AW.RW{id:Nat}{k:List aP}(hm:E.P.follows .mixedOrders=true)
  (H:∀ (c:Cx) (t:Array Value) (Q:Exit->Act->World->Prop),(∀ (a:Act) (c':Cx) (s':List AV) (h':List af),AW E R.fx.f0 ⟨⟨ag,R.fx.cB,R.fx.aL⟩,k,s'⟩ R.fx.cls h' R->aK E.G c'->c'.heap=h'->a.defers=[]->VS c' s' a.tmps->Step c c'->Q .normal a c'.w)->aK E.G c->c.heap=h->VS c s t->wpAny E.P .any ops Q ops.size (Array.replicate ops.size false) ⟨t,[]⟩ c.w) :
  AW E R.fx.f0 ⟨⟨ag,R.fx.cB,R.fx.aL⟩,.code (.region id ops true)::k,s⟩ R.fx.cls h R:=by
 unfold AW;intro c0 c t ts h0 h1 h2 h3 hr bq h4 h5 cs;have hx:Proofs.YtfmdaiojokniiaaGreatDoor.Ext c.w { c.w with drawn:=c.w.drawn+1 }:=⟨rfl,rfl,rfl,Nat.le_refl _,fun _ _=>rfl⟩;obtain⟨g1,g2⟩:=h3.grow hx
 let Q:Exit->Act->World->Prop:=fun e a w=>(e=.normal/\a.defers=[])/\∃ (c':Cx) (s':List AV) (h':List af),AW E R.fx.f0 ⟨⟨ag,R.fx.cB,R.fx.aL⟩,k,s'⟩ R.fx.cls h' R/\aK E.G c'/\c'.heap=h'/\VS c' s' a.tmps/\Step c c'/\w=c'.w
 have Ft:(Code.region id ops true).wpIn (uC R.fx.cB) 0 E.P (fun e a w=>a.defers=marks R.fx.aL/\Q e ⟨a.tmps,[]⟩ w) ⟨t,marks R.fx.aL⟩ c.w:=by
  refine wpIn_region_draw fun tt=>?_;simp only[Region.schedule,hm,Bool.true_or,if_true];refine zq R.fx.cB (marks R.fx.aL) (fun e a w he=>he.1) _ t _ (wpAny_sound ops.size tt _ _ _ ?_);exact H (c.eu { c.w with drawn:=c.w.drawn+1 }) t Q (fun a c' s' h' hK r1 r2 r3 r4 r5=>⟨⟨rfl,r3⟩,c',s',h',hK,r1,r2,r4,g2.trans r5,rfl⟩) g1 h2 (g2.vs h4)
 obtain⟨e,a',w',⟨hd,⟨⟨rfl,-⟩,c',s',h',hA,r1,r2,r4,r5,rfl⟩⟩,Fu⟩:=Ft (bf ⟨ag,R.fx.cB,R.fx.aL⟩) (k.map aP.bI) (eL R.fx.cls ts++cs) rfl trivial (fun d hd=>by cases hd);unfold AW at hA;obtain⟨c2,fr,r,v,q1,q2,q3,tY,q4,q5,q6⟩:=hA c0 c' a'.tmps ts h0 (dZ h1) r2 r1 (hr.step r5) (bq.step h3 r5) r4 (r5.cr h5) cs;refine⟨c2,fr,r,v,q1,q2,q3,tY,?_,q5,q6⟩;have yW:a'=⟨a'.tmps,marks R.fx.aL⟩:=by cases a';simp only at hd;subst hd;rfl
 have:Steps E.P (lone ((bf ⟨ag,R.fx.cB,R.fx.aL⟩).atR ⟨t,marks R.fx.aL⟩ (.code (.region id ops true)::k.map aP.bI)) (eL R.fx.cls ts++cs) c.w) (lone ((bf ⟨ag,R.fx.cB,R.fx.aL⟩).atR a' (k.map aP.bI)) (eL R.fx.cls ts++cs) c'.w):=StepsIn.steps Fu;rw[yW]at this;exact this.trans q4
end
section
variable {E:Env} {ops:Array Oper} {J:List Nat} {h:List af} {c:Cx}
theorem VS.zr{s:List AV}{t:Array Value}{H:List af}(hv:VS c s t)(hh:c.heap=H)(hs:∀ j∈J,H[j]?=h[j]?):VS (c.eF J) (s.map (fV J h)) t:=by
 subst hh;refine⟨by rw[List.length_map];exact hv.1,fun i x v hx hu=>?_⟩;rw[List.getElem?_map]at hx;cases hy:s[i]? with
 |none=>rw[hy]at hx;cases hx
 |some y =>
  rw[hy]at hx;cases hx;rw[<- JD hs];exact Jr (hv.2 i y v hy hu)
structure Seen(J:List Nat)(h h1 H:List af):Prop where
 nodup:J.Nodup
 lt:∀ j∈J,j<h.length
 len:h.length+(h1.length-J.length)<=H.length
 same:∀ j∈J,H[j]?=h[j]?
 new:∀ j∈dL J h h1,H[j]?=some .hole
theorem ee.zr{o:Oper}{s:List AV}{H h1:List af}{v:AV}(hw:gW ops o (c9 (dJ ops o) 0 s) true)(ho:bw E o.op ((c9 (dJ ops o) 0 s).map (fV J h)) (ez J h) v h1)(hs:Seen J h h1 H):ee E ops o s H (iT J h v) (fX (J++dL J h h1) (eY J h h1) H):=fun c a k1 h2 _ h4 j hj K Q hK=>by
 obtain⟨c1,u,d1,rfl,k3,r1,st⟩:=ho o (c.eF J) a rfl (by rw[<- EP hs.same,<- h2];rfl) (k1.eF hs.nodup) (h4.zr h2 hs.same);subst h2;have hb:lz c c1 J h:=⟨hs.nodup,hs.lt,hs.len,hs.same,hs.new,(Rel.refl _ Rl).step st,fun i b n hi=>(k3.bA i b n hi).2⟩;have:=hK (c.take c1 J h) u (k1.take k3 hb) rfl (Bw k1 hb) (EM k1 hb r1);unfold wpOp;simp only[hj,hw c a.tmps h4,if_true];left;unfold Oper.wp;rcases d1 with d1|⟨d1,rfl⟩
 ·rw[show c.w=(c.eF J).w from rfl,d1];exact this
 ·rw[show c.w=(c.eF J).w from rfl,d1];exact this
theorem ee.Fv{o:Oper}{s:List AV}{H h1:List af}{fx:Operand}{args:Array Operand}{ts:Array TypeId}{f:FuncId}{a1 a2 av:List AV}{r:AV}(hw:gW ops o (c9 (dJ ops o) 0 s) true)(ho:o.op=.call { callee := .value fx,args:=args,argTypes:=ts })
  (hf:aZ E.G (c9 (dJ ops o) 0 s) fx (.fn (.func f) a1 a2)) (ha:jn E.G (c9 (dJ ops o) 0 s) args.toList av) (hc:ar E f (ez J h) ((a1++av++a2).map (fV J h)) (fun a b=>a=r/\b=h1)) (hs:Seen J h h1 H):ee E ops o s H (iT J h r) (fX (J++dL J h h1) (eY J h h1) H):=fun c a k1 h2 _ h4 j hj K Q hK=>by
 unfold wpOp;simp only[hj,hw c a.tmps h4,if_true];left;obtain⟨v1,v2,e1,e2,e3⟩:=ma (hf c a k1 h4);have e5:=(e2.append (ha c a k1 h4)).append e3;have hb:lq E.P f:=by unfold ar at hc;exact hc.1
 subst h2;have iU:=hc.Rp (c:=c) hs.nodup hs.lt hs.same (fun r' h' ⟨_,q⟩=>by subst q;exact⟨hs.len,hs.new⟩) k1 e5;have cI:=yr (P:=E.P) (w:=c.w) (a:=a) ho e1 hb;have jK:(v1.toArray++args.map a.eval++v2.toArray)=(v1++args.toList.map a.eval++v2).toArray:=by
  apply Array.ext';simp
 rw[jK]at cI;unfold Oper.wp;rw[cI,Oper.upon_enter];refine iU.mono fun e w' he=>?_;obtain⟨c',r',qx,v,rfl,rfl,⟨rfl,rfl⟩,q1,q2,q3,q4⟩:=he;exact hK c' v q3 q1 q4 q2
def xc(x y:AV):Bool:=match y with
 | .any=>match x with
  | .any=>true
  |_=>false
 |_=>true
def zt{β:Type}(f:β->Bool):List β->Bool
 |[]=>true
 |a::l=>match f a with
  |true=>zt f l
  |false=>false
theorem Fw{β:Type}{f:β->Bool}:∀ {l:List β},zt f l=true->∀ x∈l,f x=true
 |[],_,_,h=>by simp at h
 |a::l,H,x,h=>by
  unfold zt at H;split at H
  ·rename_i q;rcases List.mem_cons.1 h with rfl|h
   ·exact q
   ·exact Fw H x h
  ·cases H
def xd(J:List Nat)(h:List af):Bool:=zt (fun j=>match dI h j with
 |some (.cells cs)=>zt (fun x=>xc x (gE J h x)) cs
 |_=>true) J
theorem RX{x:AV}(H:xc x (gE J h x)=true):kG J h (gE J h x)=x:=by
 have ri:∀ {j i:Nat},dh J j=some i->fW J h i=j/\nZ J h i=mV h j:=fun hi=>by simp only[fW,nZ,ev,jP hi,and_self]
 cases x;all_goals (try (simp only[gE]at H ⊢))
 all_goals first
  |rfl
  |(simp only[xc]at H;cases H;done)
  |(split at H
    · rename_i hi;split at H
      · rename_i hb;first
          |(split at H
            · rename_i q;have := Nat.eq_of_beq_eq_true q;simp only[kG, ri hi, mV, hb, this, Nat.add_zero]
            · simp only[xc]at H;cases H)
          |simp only[kG, ri hi]
      · simp only[xc]at H;cases H
    · simp only[xc]at H;cases H)
theorem Kj(hc:xd J h=true):eY J h (ez J h)=h:=by
 refine List.ext_getElem? fun j=>?_;rcases Nat.lt_or_ge j h.length with hl|hl
 ·cases hx:dh J j with
  |none=>exact EH hl hx
  |some i =>
   have hj:h[j]?=some h[j]:=List.getElem?_eq_getElem hl;rw[Jo hl hx (sk (jP hx) hj),hj];have hq:=Fw hc j (List.mem_of_getElem? (jP hx));simp only[ev,hj]at hq;cases hb:h[j]with
   |cells cs =>
    rw[hb]at hq;have:(cs.map (gE J h)).map (kG J h)=cs:=by
     rw[List.map_map];exact(List.map_congr_left fun x hx=>RX (Fw hq x hx)).trans (List.map_id _)
    simp only[oM,mf,this]
   |arr g ts l=>simp only[oM,mf,mV,ev,hj,hb,Nat.add_zero]
   |map es=>rfl
   |gone=>rfl
   |hole=>rfl
 ·rw[List.getElem?_eq_none hl,List.getElem?_eq_none (by rw[sj];simp[ez];exact hl)]
end
def mi(h:List af)(b:Nat):Option af:=if b<h.length then h[b]? else some .hole
structure qK(E:Env)(ops:Array Oper)(o:Oper)(s:List AV)(h:List af)(v:AV)(h':List af)(t w:List Nat):Prop where
 len:h.length<=h'.length
 old:∀ b,b<h.length->b ∉ w->h'[b]?=h[b]?
 new:∀ b,h.length<=b->b<h'.length->b∈w
 sub:∀ b∈w,b∈t
 lt:∀ b∈t,b<h'.length
 act:∀ H:List af,h'.length<=H.length->(∀ b∈t,H[b]?=mi h b)->ee E ops o s H v (fX w h' H)
section
variable {E:Env} {ops:Array Oper} {o:Oper} {s:List AV} {h:List af} {v:AV}
theorem qK.same{t:List Nat}(hl:∀ b∈t,b<h.length)(H:∀ H:List af,h.length<=H.length->(∀ b∈t,H[b]?=h[b]?)->ee E ops o s H v H):qK E ops o s h v h t [] where
 len:=Nat.le_refl _
 old:=fun _ _ _=>rfl
 new:=fun b h1 h2=>by omega
 sub:=fun b h=>by simp at h
 lt:=hl
 act:=fun X h1 h2=>by
  rw[show fX [] h X=X from List.ext_getElem? fun j=>pw (by simp)];exact H X h1 fun b hb=>by rw[h2 b hb,mi,if_pos (hl b hb)]
theorem Kk{J:List Nat}{h1 H:List af}(hn:J.Nodup)(ah:∀ j∈J,j<h.length)(h2:(eY J h h1).length<=H.length)(h3:∀ b∈J++dL J h h1,H[b]?=mi h b):Seen J h h1 H :=
 ⟨hn,ah,by rwa [sj]at h2,fun j hj=>by rw[h3 j (List.mem_append_left _ hj),mi,if_pos (ah j hj)],fun j hj=>by rw[h3 j (List.mem_append_right _ hj),mi,if_neg (by have:=oN.1 hj;omega)]⟩
theorem qK.of{J:List Nat}{h1:List af}(hn:J.Nodup)(ah:∀ j∈J,j<h.length)(H:∀ H,Seen J h h1 H->ee E ops o s H v (fX (J++dL J h h1) (eY J h h1) H)):qK E ops o s h v (eY J h h1) (J++dL J h h1) (J++dL J h h1) where
 len:=by rw[sj];omega
 old:=fun b hb hm=>EH hb (by
  cases hx:dh J b with
  |none=>rfl
  |some i=>exact absurd (List.mem_append_left _ (List.mem_of_getElem? (jP hx))) hm)
 new:=fun b h2 h3=>List.mem_append_right _ (oN.2 ⟨h2,by rwa [sj]at h3⟩)
 sub:=fun _ h=>h
 lt:=fun b hb=>by
  rw[sj];rcases List.mem_append.1 hb with h|h
  ·have:=ah b h;omega
  ·exact(oN.1 h).2
 act:=fun X h2 h3=>H X (Kk hn ah h2 h3)
theorem qK.read{J:List Nat}(hn:J.Nodup)(ah:∀ j∈J,j<h.length)(hc:xd J h=true)(H:∀ H,Seen J h (ez J h) H->ee E ops o s H v (fX (J++dL J h (ez J h)) (eY J h (ez J h)) H)):qK E ops o s h v h J []:=by
 have e:dL J h (ez J h)=[]:=by simp[dL,ez]
 refine .same ah fun X h1 h2=>?_;have:=H X (Kk hn ah (by rw[Kj hc];exact h1) (fun b hb=>by rw[e,List.append_nil]at hb;rw[h2 b hb,mi,if_pos (ah b hb)]));rw[e,List.append_nil,Kj hc]at this
 rwa [show fX J h X=X from List.ext_getElem? fun j=>by
  by_cases hj:j∈J
  ·rw[yR hj (by have:=ah j hj;omega) (List.getElem?_eq_getElem (ah j hj)),h2 j hj,List.getElem?_eq_getElem (ah j hj)]
  ·exact pw hj]at this
end
def oU:List Nat->List Nat->Bool
 |[],_=>false
 |a::l,m=>match um a m with
  |true=>true
  |false=>oU l m
theorem BZ:∀ {l m:List Nat},oU l m=true↔∃ b,b∈l/\b∈m
 |[],m=>by simp[oU]
 |a::l,m=>by
  simp only[oU];split
  ·rename_i q;simp[BD.1 q]
  ·rename_i q;rw[BZ];have:a ∉ m:=fun h=>by rw[BD.2 h]at q;cases q
   simp[this]
abbrev gN:=List Nat × List Nat
def xe(a b:gN):Prop:=(∃ x,x∈a.2/\x∈b.1)\/∃ x,x∈b.2/\x∈a.1
def mj(j:Nat)(t w:List Nat):List (Nat × gN)->List (Nat × Nat)->List (Nat × Nat)
 |[],a8=>a8
 |(i,t',w')::r,a8=>match oU w' t with
  |true=>mj j t w r ((i,j)::a8)
  |false=>match oU w t' with
   |true=>mj j t w r ((i,j)::a8)
   |false=>mj j t w r a8
def eA(j:Nat)(t w:List Nat):List (Nat × gN)->List (Nat × Nat)->(List (Nat × Nat)->Prop)->Prop
 |[],a8,k=>k a8
 |(i,t',w')::r,a8,k=>match oU w' t with
  |true=>eA j t w r ((i,j)::a8) k
  |false=>match oU w t' with
   |true=>eA j t w r ((i,j)::a8) k
   |false=>eA j t w r a8 k
theorem nf{j:Nat}{t w:List Nat}:∀ {acc:List (Nat × gN)} {a8:List (Nat × Nat)} {k:List (Nat × Nat)->Prop},eA j t w acc a8 k=k (mj j t w acc a8)
 |[],_,_=>rfl
 |(i,t',w')::r,a8,k=>by
  simp only[eA,mj];split
  ·exact nf
  ·split<;>exact nf
theorem Fx{j:Nat}{t w:List Nat}{P:Nat->Nat->Prop}:∀ {acc:List (Nat × gN)} {a8:List (Nat × Nat)},(∀ p∈mj j t w acc a8,P p.1 p.2)->(∀ p∈a8,P p.1 p.2)/\∀ x∈acc,xe x.2 (t,w)->P x.1 j
 |[],a8,H=>⟨H,fun x hx=>by simp at hx⟩
 |(i,t',w')::r,a8,H=>by
  simp only[mj]at H;have yes:(∀ p∈mj j t w r ((i,j)::a8),P p.1 p.2)->(∀ p∈a8,P p.1 p.2)/\∀ x∈(i,t',w')::r,xe x.2 (t,w)->P x.1 j:=fun H=>by
   obtain⟨h1,h2⟩:=Fx H;exact⟨fun p hp=>h1 p (List.mem_cons_of_mem _ hp),fun x hx hc=>(List.mem_cons.1 hx).elim (fun e=>by subst e;exact h1 (i,j) (List.mem_cons_self ..)) fun h=>h2 x h hc⟩
  split at H
  ·exact yes H
  ·rename_i q1;split at H
   ·exact yes H
   ·rename_i q2;obtain⟨h1,h2⟩:=Fx H;refine⟨h1,fun x hx hc=>(List.mem_cons.1 hx).elim (fun e=>?_) fun h=>h2 x h hc⟩;subst e;rcases hc with hc|hc
    ·rw[BZ.2 hc]at q1;cases q1
    ·rw[BZ.2 hc]at q2;cases q2
def dN(j:Nat)(t w:List Nat)(acc:List (Nat × gN)):List (Nat × gN):=match t with
 |[]=>acc
 |_::_=>(j,t,w)::acc
def hU(E:Env)(ops:Array Oper)(K:List AV->List af->Prop):Nat->List Oper->List (Nat × gN)->List (Nat × Nat)->List AV->List af->Prop
 |_,[],_,a8,s,h=>(∀ p∈a8,jw ops p.1 p.2)/\K s h
 |j,o::l,acc,a8,s,h=>∃ v h' t w,qK E ops o s h v h' t w/\hU E ops K (j+1) l (dN j t w acc) (mj j t w acc a8) (bX s o.dst v) h'
section
variable {E:Env} {ops:Array Oper}
theorem hU.lay{K:List AV->List af->Prop}:∀ {l:List Oper} {j:Nat} {acc:List (Nat × gN)} {a8:List (Nat × Nat)} {s:List AV} {h:List af},hU E ops K j l acc a8 s h ->
  ∃ (pl:List (Oper × AV)) (hp:Nat->List af) (tw:Nat->gN),pl.map (·.1)=l/\hp 0=h/\K (cur pl (fun k=>decide (k<pl.length)) 0 s) (hp pl.length)/\(∀ p∈a8,jw ops p.1 p.2) /\
   (∀ k o v,pl[k]?=some (o,v)->qK E ops o (cur pl (fun i=>decide (i<k)) 0 s) (hp k) v (hp (k+1)) (tw k).1 (tw k).2) /\
   (∀ x∈acc,∀ k,k<pl.length->xe x.2 (tw k)->jw ops x.1 (j+k))/\(∀ i k,i<k->k<pl.length->xe (tw i) (tw k)->jw ops (j+i) (j+k))/\h.length<=(hp pl.length).length
 |[],j,acc,a8,s,h,H=>⟨[],fun _=>h,fun _=>([],[]),rfl,rfl,H.2,H.1,fun k o v hk=>by simp at hk,fun x _ k hk=>by simp at hk,fun i k _ hk=>by simp at hk,Nat.le_refl _⟩
 |o::l,j,acc,a8,s,h,H=>by
  obtain⟨v,h',t,w,hf,H⟩:=H;obtain⟨pl,hp,tw,k1,k2,k3,k4,k5,k6,k7,k9⟩:=hU.lay H;obtain⟨k4,k8⟩:=Fx (P:=jw ops) k4;have shift:∀ (pl:List (Oper × AV)) (n:Nat) (s:List AV),cur pl (fun k=>decide (k<n+1)) (0+1) s=cur pl (fun k=>decide (k<n)) 0 s:=fun pl n s=>by
   rw[BX 1]
   congr 1
   funext k;simp
  have mono:∀ x∈acc,x∈dN j t w acc:=fun x hx=>by unfold dN;split;exact hx;exact List.mem_cons_of_mem _ hx
  refine⟨(o,v)::pl,fun n=>match n with|0=>h|n+1=>hp n,fun n=>match n with|0=>(t,w)|n+1=>tw n,by simp[k1],rfl,?_,k4,fun k o' v' hk=>?_,fun x hx k hk hc=>?_,fun i k fC hk hc=>?_,Nat.le_trans hf.len k9⟩
  ·rw[cur];simp only[List.length_cons,Nat.zero_lt_succ,decide_true,if_true];rw[shift];exact k3
  ·cases k with
   |zero =>
    simp at hk;obtain⟨rfl,rfl⟩:=hk;rw[qI _ _ _ _ (fun k _=>decide_eq_false (by omega))];simp only[k2];exact hf
   |succ k =>
    have:=k5 k o' v' (by simpa using hk);rw[cur];simp only[Nat.zero_lt_succ,decide_true,if_true];rw[shift];exact this
  ·cases k with
   |zero=>exact k8 x hx hc
   |succ k=>have:=k6 x (mono x hx) k (by simpa using hk) hc;rwa [show j+1+k=j+(k+1) by omega]at this
  ·cases k with
   |zero=>omega
   |succ k =>
    have jM:k<pl.length:=by simpa using hk
    cases i with
    |zero =>
     refine(?_:jw ops j (j+(k+1)));have hm:(j,t,w)∈dN j t w acc:=by
      unfold dN;split
      ·rcases hc with⟨x,hx,-⟩|⟨x,-,hx⟩
       ·exact absurd (hf.sub x hx) (by simp)
       ·exact absurd hx (by simp)
      ·exact List.mem_cons_self ..
     have:=k6 _ hm k jM hc
     rwa [show j+1+k=j+(k+1) by omega]at this
    |succ i=>have:=k7 i k (by omega) jM hc;rwa [show j+1+i=j+(i+1) by omega,show j+1+k=j+(k+1) by omega]at this
def iV(w:Nat->List Nat)(hp:Nat->List af)(L:Nat->Bool)(H:List af):Nat->List af
 |0=>H
 |n+1=>if L n then fX (w n) (hp (n+1)) (iV w hp L H n)else iV w hp L H n
variable {w:Nat->List Nat} {hp:Nat->List af} {L L':Nat->Bool} {H:List af}
theorem zu:∀ n,(iV w hp L H n).length=H.length
 |0=>rfl
 |n+1=>by
  rw[iV];split
  ·rw[Jp,zu n]
  ·exact zu n
theorem Fy{b:Nat}:∀ n,(∀ i,i<n->b∈w i->L i=L' i)->(iV w hp L H n)[b]?=(iV w hp L' H n)[b]?
 |0,_=>rfl
 |n+1,h=>by
  have ih:=Fy n (fun i hi=>h i (by omega));rw[iV,iV];by_cases hb:b∈w n
  ·rw[h n (by omega) hb];split
   ·rw[qB,qB,ih]
   ·exact ih
  ·have e:∀ (q:Bool) (X:List af),(if q then fX (w n) (hp (n+1)) X else X)[b]?=X[b]? := fun q X=>by
    cases q
    ·rfl
    ·exact pw hb
   rw[e,e];exact ih
theorem Fz{j:Nat}(h:∀ i,j<=i->L i=false):∀ n,j<=n->iV w hp L H n=iV w hp L H j
 |0,hn=>by rw[show j=0 by omega]
 |n+1,hn=>by
  rcases Nat.lt_or_ge n j with hl|hl
  ·rw[show j=n+1 by omega]
  ·rw[iV,h n hl];exact Fz h n hl
theorem RY{a b:List Nat}{x y z:List af}(h:∀ i∈a,i ∉ b):fX a x (fX b y z)=fX b y (fX a x z):=by
 refine List.ext_getElem? fun j=>?_;by_cases ha:j∈a
 ·rw[qB,pw (h j ha),pw (h j ha),qB]
 ·rw[pw ha,qB,qB,pw ha]
theorem Kl{j:Nat}(hj:L j=false)(eK:L' j=true)(ho:∀ i,i≠j->L' i=L i)(hc:∀ i,j<i->L i=true->∀ b∈w j,b ∉ w i):∀ n,j<n->fX (w j) (hp (j+1)) (iV w hp L H n)=iV w hp L' H n
 |0,h=>by omega
 |n+1,h=>by
  rw[iV,iV];rcases Nat.lt_or_ge j n with hl|hl
  ·rw[ho n (by omega),<- Kl hj eK ho hc n hl];split
   ·rename_i q;exact RY (hc n hl q)
   ·rfl
  ·obtain rfl:j=n:=by omega
   rw[hj,eK];simp only[Bool.false_eq_true,if_false,if_true]
   congr 1
   exact List.ext_getElem? fun b=>Fy j fun i hi _=>(ho i (by omega)).symm
theorem FA{t:Nat->List Nat}{m:Nat}(h0:∀ b,b<H.length->H[b]?=mi (hp 0) b)(hlen:∀ k,k<m->(hp k).length<=(hp (k+1)).length/\(∀ b,b<(hp k).length->b ∉ w k->(hp (k+1))[b]?=(hp k)[b]?)/\(∀ b,(hp k).length<=b->b<(hp (k+1)).length->b∈w k)/\(∀ b∈w k,b∈t k)/\∀ b∈t k,b<(hp (k+1)).length)(hL:∀ i,i<m->L i=true) :
  ∀ n,n<=m->∀ b,b<H.length->(iV w hp L H n)[b]?=mi (hp n) b
 |0,_,b,hb=>h0 b hb
 |n+1,hn,b,hb=>by
  have ih:=FA h0 hlen hL n (by omega) b hb;obtain⟨h1,h2,h3,h4,h5⟩:=hlen n (by omega);rw[iV,hL n (by omega),if_pos rfl];by_cases hm:b∈w n
  ·have hl:=h5 b (h4 b hm);rw[yR hm (by rw[zu];exact hb) (List.getElem?_eq_getElem hl),mi,if_pos hl,List.getElem?_eq_getElem hl]
  ·rw[pw hm,ih];unfold mi;by_cases hl:b<(hp n).length
   ·rw[if_pos hl,if_pos (by omega),h2 b hl hm]
   ·rw[if_neg hl,if_neg (fun h=>hm (h3 b (by omega) h))]
theorem RZ(hc:BU ops){s0:List AV}{pl:List (Oper × AV)}{hp:Nat->List af}{tw:Nat->gN}(lp:pl.map (·.1)=ops.toList)
  (hx:∀ k o v,pl[k]?=some (o,v)->qK E ops o (cur pl (fun i=>decide (i<k)) 0 s0) (hp k) v (hp (k+1)) (tw k).1 (tw k).2) (dA:∀ i k,i<k->k<pl.length->xe (tw i) (tw k)->jw ops i k)
  {H:List af} (hH:H.length=(hp pl.length).length) (h0:∀ b,b<H.length->H[b]?=mi (hp 0) b)
  {Q:Exit->Act->World->Prop} {Kf:List AV->List af->Prop} {c0:Cx} (gv:Kf (cur pl (fun k=>decide (k<pl.length)) 0 s0) (hp pl.length))
  (hQ:∀ (a:Act) (c:Cx) (s:List AV) (h:List af),Kf s h->aK E.G c->c.heap=h->a.defers=[]->VS c s a.tmps->Step c0 c->Q .normal a c.w) :
  ∀ (f:Nat) (listed:Array Bool) (a:Act) (c:Cx),aK E.G c->c.heap=iV (fun k=>(tw k).2) hp (bS listed) H ops.size->a.defers=[]->VS c (cur pl (bS listed) 0 s0) a.tmps->Step c0 c->DC ops listed ->
   (∀ i,ops.size<=i->bS listed i=false)->jx (bS listed) ops.size<=f->wpAny E.P .any ops Q f listed a c.w:=by
 obtain⟨hlen,dF⟩:=Kg lp;have zw:∀ k,k<ops.size->∃ o v,pl[k]?=some (o,v):=fun k hk=>⟨(pl[k]'(by omega)).1,(pl[k]'(by omega)).2,by rw[List.getElem?_eq_getElem]⟩;have n4:∀ k,k<ops.size->(hp k).length<=(hp (k+1)).length/\(∀ b,b<(hp k).length->b ∉ (tw k).2->(hp (k+1))[b]?=(hp k)[b]?)/\(∀ b,(hp k).length<=b->b<(hp (k+1)).length->b∈(tw k).2)/\(∀ b∈(tw k).2,b∈(tw k).1)/\∀ b∈(tw k).1,b<(hp (k+1)).length:=fun k hk=>by
  obtain⟨o,v,h⟩:=zw k hk;have:=hx k o v h;exact⟨this.len,this.old,this.new,this.sub,this.lt⟩
 have R0:∀ n,n<=ops.size->∀ d,d<=n->(hp (n-d)).length<=(hp n).length:=by
  intro n hn d
  induction d with
  |zero=>intro _;exact Nat.le_refl _
  |succ d ih =>
   intro hd;have h1:=(n4 (n-(d+1)) (by omega)).1;rw[show n-(d+1)+1=n-d by omega]at h1;exact Nat.le_trans h1 (ih (by omega))
 have hle:∀ k,k<=ops.size->(hp k).length<=H.length:=fun k hk=>by
  have:=R0 ops.size (Nat.le_refl _) (ops.size-k) (by omega);rw[show ops.size-(ops.size-k)=k by omega]at this;rw[hH,hlen];exact this
 have done:∀ (listed:Array Bool) (a:Act) (c:Cx),aK E.G c->c.heap=iV (fun k=>(tw k).2) hp (bS listed) H ops.size->a.defers=[]->VS c (cur pl (bS listed) 0 s0) a.tmps->Step c0 c->(∀ i,ops.size<=i->bS listed i=false)->(∀ i,i<ops.size->bS listed i=true)->Q .normal a c.w:=by
  intro listed a c h1 h2 h3 h4 h5 ho aJ;have e:cur pl (bS listed) 0 s0=cur pl (fun k=>decide (k<pl.length)) 0 s0:=by
   congr 1
   funext i;rcases Nat.lt_or_ge i ops.size with h|h
   ·rw[aJ i h];simp[hlen,h]
   ·rw[ho i h];simp[hlen];omega
  rw[e]at h4;refine hQ a c _ _ gv h1 (h2.trans ?_) h3 h4 h5;refine List.ext_getElem? fun b=>?_;rcases Nat.lt_or_ge b H.length with hb|hb
  ·rw[FA h0 n4 aJ ops.size (Nat.le_refl _) b hb,hlen,mi,if_pos (by rw[<- hlen,<- hH];exact hb)]
  ·rw[List.getElem?_eq_none (by rw[zu];exact hb),List.getElem?_eq_none (by omega)]
 intro f
 induction f with
 |zero =>
  intro listed a c h1 h2 h3 h4 h5 hd ho ng;have aJ:∀ i,i<ops.size->bS listed i=true:=fun i hi=>Fs ng hi;refine⟨?_,done listed a c h1 h2 h3 h4 h5 ho aJ⟩;apply List.eq_nil_iff_forall_not_mem.2;intro i hi;obtain⟨k1,k2⟩:=uB hd hi;rw[aJ i k2]at k1;cases k1
 |succ f ih =>
  intro listed a c h1 h2 h3 h4 h5 hd ho ng;refine⟨fun hr=>?_,fun i hi=>?_⟩
  ·refine done listed a c h1 h2 h3 h4 h5 ho (fun i hi=>?_);cases hl:bS listed i with
   |true=>rfl
   |false =>
    obtain⟨k,-,hk⟩:=Fk hc hd hi hl;rw[hr]at hk;cases hk
  obtain⟨lE,fL⟩:=uB hd hi;obtain⟨o,v,jy⟩:=zw i fL;have mb:=dF i o v jy;obtain⟨xf,xg⟩:=Fp hc.pair dF hd hi jy h4;have dM:=fun q=>Fj (i:=q) (show i<listed.size by rw[hd.1];exact fL);have xh:jx (bS (listed.setIfInBounds i true)) ops.size<=f:=by
   have:=(Fl (L:=bS listed) (L':=bS (listed.setIfInBounds i true)) (j:=i) (fun q hq=>by rw[dM];simp[hq]) lE (by rw[dM];simp) ops.size).1 fL;omega
  have hF:=hx i o v jy;have later:∀ k,i<k->bS listed k=true->¬ xe (tw i) (tw k):=fun k hk hl nd=>by
   have Bt:k<ops.size:=Nat.lt_of_not_le fun h=>by rw[ho k h]at hl;cases hl
   rw[hd.dep (dA i k hk (by omega) nd) hl]at lE;cases lE
  have agree:∀ b∈(tw i).1,(c.heap)[b]?=mi (hp i) b:=fun b hb=>by
   have eJ:b<H.length:=Nat.lt_of_lt_of_le (hF.lt b hb) (hle (i+1) fL);rw[h2,<- FA (L:=fun k=>decide (k<i)) h0 (fun k hk=>n4 k (by omega)) (fun k hk=>by simp[hk]) i (Nat.le_refl i) b eJ,<- Fz (L:=fun k=>decide (k<i)) (fun k hk=>by simp;omega) ops.size (Nat.le_of_lt fL)];refine Fy _ fun k hk hw=>?_;rcases Nat.lt_trichotomy k i with ah|rfl|uc
   ·rw[hd.ready hi (dA k i ah (by omega) (.inl ⟨b,hw,hb⟩))];simp[ah]
   ·rw[lE];simp
   ·have:bS listed k=false:=by
     cases hl:bS listed k with
     |false=>rfl
     |true=>exact absurd (.inr ⟨b,hw,hb⟩) (later k uc hl)
    rw[this];simp;omega
  refine hF.act c.heap (by rw[h2,zu];exact hle (i+1) fL) agree c a h1 rfl h3 xg i mb _ _ (fun c' u k1 k2 k3 k4=>?_);refine ih _ _ c' k1 ?_ (by rw[oT];exact h3) (xf c' u (fun _ _=>k3.vr) k4) (h5.trans k3) (hd.set hi) (fun q hq=>by rw[dM,ho q hq];simp;omega) xh;rw[k2,h2];exact Kl (w:=fun k=>(tw k).2) lE (by rw[dM];simp) (fun q hq=>by rw[dM];simp[hq]) (fun k hk hl b hb cw=>later k hk hl (.inr ⟨b,cw,hF.sub b hb⟩)) ops.size fL
end
@[irreducible] def bM (E : Env) (ag : FuncId) (R : cF) (ops : Array Oper) (k : List aP) (Rw : List Nat) (j : Nat) (fD : List Oper) (acc : List (Nat × gN)) (a8 : List (Nat × Nat)) (s : List AV) (h : List af) : Prop :=
 hU E ops (fun s2 h2=>I E ag R [] k s2 h2) j fD acc a8 s h
@[irreducible] def xi (E : Env) (f : FuncId) (h0 : List af) (args : List AV) (K1 : AV -> List af -> Prop) (K2 : AV -> Prop) : Prop :=
 (∃ r h1,ar E f h0 args (fun a b=>a=r/\b=h1)/\K1 r h1)\/∃ r,ar E f h0 args (fun a b=>a=r/\b=h0)/\K2 r
theorem zx{E:Env}{f:FuncId}{h0:List af}{args:List AV}{K1:AV->List af->Prop}{K2:AV->Prop}{r:AV}{h1:List af}(H:ar E f h0 args (fun a b=>a=r/\b=h1))(hk:K1 r h1):xi E f h0 args K1 K2:=by unfold xi;exact .inl ⟨r,h1,H,hk⟩
theorem jS{E:Env}{f:FuncId}{h0:List af}{args:List AV}{K1:AV->List af->Prop}{K2:AV->Prop}{r:AV}(H:ar E f h0 args (fun a b=>a=r/\b=h0))(hk:K2 r):xi E f h0 args K1 K2:=by unfold xi;exact .inr ⟨r,H,hk⟩
def B0:Nat->Nat->(List Nat->Prop)->Prop
 |_,0,k=>k []
 |n,m+1,k=>B0 (n+1) m fun l=>k (n::l)
theorem Km:∀ {m n:Nat} {k:List Nat->Prop},B0 n m k=k (List.range' n m)
 |0,_,_=>rfl
 |m+1,n,k=>by rw[B0,Km];rfl
def jT(J:List Nat)(h h':List af)(k:List Nat->Prop):Prop:=oO h 0 fun n=>oO h' 0 fun m=>B0 n (m-n) fun l=>su J l k
theorem uD{J:List Nat}{h h1:List af}{k:List Nat->Prop}:jT J h (eY J h h1) k=k (J++dL J h h1):=by
 simp only[jT,uj,Nat.zero_add,Km,wN,dL,sj,Nat.add_sub_cancel_left]
def zy(E:Env)(f:FuncId)(hI:List AV)(h:List af)(stop:Prop)(k1:List Nat->AV->List af->Prop)(k2:List Nat->AV->Prop):Prop :=
 qF h hI [] fun y5=>sA h 20 0 y5 fun J=>oO h 0 fun n=>match wQ n J with
  |true=>y3 J h fun h0=>jt (y0 J h) hI fun EZ=>xi E f h0 EZ (fun r h1=>fB J h r fun v=>ju J h h1 fun h'=>jT J h h' fun ws=>k1 ws v h') fun r=>xd J h=true/\fB J h r fun v=>k2 J v
  |false=>stop
theorem R2{E:Env}{f:FuncId}{hI:List AV}{h:List af}{stop:Prop}{k1:List Nat->AV->List af->Prop}{k2:List Nat->AV->Prop}(H:zy E f hI h stop k1 k2):stop\/∃ (J:List Nat),J.Nodup/\(∀ j∈J,j<h.length) /\
  ((∃ r h1,ar E f (ez J h) (hI.map (fV J h)) (fun a b=>a=r/\b=h1)/\k1 (J++dL J h h1) (iT J h r) (eY J h h1))\/∃ r,ar E f (ez J h) (hI.map (fV J h)) (fun a b=>a=r/\b=ez J h)/\xd J h=true/\k2 J (iT J h r)):=by
 unfold zy at H;obtain⟨s0,H⟩:=uq H;obtain⟨J,H⟩:=wT H;rw[uj,Nat.zero_add]at H;split at H
 ·rename_i q;obtain⟨h1,h2⟩:=BE q;rw[EX,px (EU J h)]at H;unfold xi at H;refine .inr ⟨J,h1,h2,?_⟩;rcases H with⟨r,hp,h3,h4⟩|⟨r,h3,h4,h5⟩
  ·rw[mY,qE,uD]at h4;exact .inl ⟨r,hp,h3,h4⟩
  ·rw[mY]at h5;exact .inr ⟨r,h3,h4,h5⟩
 ·exact .inl H
def zz(s:List AV)(h:List af):List Nat->List Nat->(List Nat->Prop)->Prop
 |[],J,k=>k J
 |d::l,J,k=>aT s d (zz s h l J k) fun x=>qF h [x] J fun mZ=>zz s h l mZ k
theorem FB{s:List AV}{h:List af}:∀ {l:List Nat} {J:List Nat} {k:List Nat->Prop},zz s h l J k->∃ l,k l
 |[],_,_,H=>⟨_,H⟩
 |_::_,_,_,H=>by
  simp only[zz]at H;rcases bo H with H|⟨x,-,H⟩
  ·exact FB H
  ·obtain⟨_,H⟩:=uq (l:=[x]) H;exact FB H
def zA(J:List Nat)(h:List af)(keep:List Nat):Nat->List AV->(List AV->Prop)->Prop
 |_,[],k=>k []
 |i,x::s,k=>match jQ i keep with
  |true=>y0 J h x fun y=>zA J h keep (i+1) s fun s'=>k (y::s')
  |false=>zA J h keep (i+1) s fun s'=>k (.any::s')
theorem FC{J:List Nat}{h:List af}{keep:List Nat}:∀ {i:Nat} {s:List AV} {k:List AV->Prop},zA J h keep i s k=k ((c9 keep i s).map (fV J h))
 |_,[],_=>rfl
 |i,x::s,k=>by
  simp only[zA,c9,List.map_cons];split
  ·rw[EU,FC]
  ·rw[FC];rfl
def zB(ops:Array Oper)(o:Oper)(s:List AV)(h:List af)(stop:Prop)(k:List Nat->List AV->List af->Prop):Prop :=
 zz s h (dJ ops o) [] fun y5=>sA h 20 0 y5 fun J=>oO h 0 fun n=>match wQ n J with
  |true=>zA J h (dJ ops o) 0 s fun sC=>y3 J h fun hC=>k J sC hC
  |false=>stop
theorem Kn{ops:Array Oper}{o:Oper}{s:List AV}{h:List af}{stop:Prop}{k:List Nat->List AV->List af->Prop}(H:zB ops o s h stop k):stop\/∃ J,J.Nodup/\(∀ j∈J,j<h.length)/\k J ((c9 (dJ ops o) 0 s).map (fV J h)) (ez J h):=by
 unfold zB at H;obtain⟨s0,H⟩:=FB H;obtain⟨J,H⟩:=wT H;rw[uj,Nat.zero_add]at H;split at H
 ·rename_i q;obtain⟨h1,h2⟩:=BE q;rw[FC,EX]at H;exact .inr ⟨J,h1,h2,H⟩
 ·exact .inl H
def Ko:Op->Bool
 | .call { callee := .value _,.. }=>true
 |_=>false
section
variable (E:Env) (ag:FuncId) (R:cF) (ops:Array Oper) (k:List aP)
def jU:Nat->List Nat->Nat->List Oper->List (Nat × gN)->List (Nat × Nat)->List AV->List af->Prop
 |0,lits,j,fD,acc,a8,s,h=>bM E ag R ops k lits j fD acc a8 s h
 |m+1,lits,j,fD,acc,a8,s,h =>
  match fD with
  |[]=>match a8 with
   |[]=>I E ag R [] k s h
   |_::_=>BW ops a8=true/\I E ag R [] k s h
  |o::l =>
   let stop:Prop:=bM E ag R ops k lits j fD acc a8 s h
   let skip:Prop:=cd s o.dst (.d .undef) fun s'=>jU m lits (j+1) l acc a8 s' h
   let go:Prop:=match Ko o.op with
    |true=>xb (dJ ops o) 0 s fun so=>y6 E.G so o stop fun f hI=>qd hI
     (zy E f hI h stop (fun ws v h'=>eA j ws ws acc a8 fun cE=>cd s o.dst v fun s'=>bM E ag R ops k lits (j+1) l (dN j ws ws acc) cE s' h') fun J v=>eA j J [] acc a8 fun cE=>cd s o.dst v fun s'=>bM E ag R ops k lits (j+1) l (dN j J [] acc) cE s' h)
     fun ds=>sK E f ds h (fun v=>cd s o.dst (.d v) fun s'=>bM E ag R ops k lits (j+1) l acc a8 s' h) fun v h'=>jT [] h h' fun ws=>eA j ws ws acc a8 fun cE=>cd s o.dst v fun s'=>bM E ag R ops k lits (j+1) l (dN j ws ws acc) cE s' h'
    |false=>zB ops o s h stop fun J sC hC=>match qJ o.op&&xd J h with
     |true=>jF E.T E.G o.op sC hC (yG E o.op sC (nY E o.op sC hC (yH E o.op sC hC stop fun x h1=>fB J h x fun v=>ju J h h1 fun h'=>jT J h h' fun ws=>eA j ws ws acc a8 fun cE=>cd s o.dst v fun s'=>bM E ag R ops k lits (j+1) l (dN j ws ws acc) cE s' h') fun x _=>fB J h x fun v=>eA j J [] acc a8 fun cE=>cd s o.dst v fun s'=>bM E ag R ops k lits (j+1) l (dN j J [] acc) cE s' h)
       fun x=>fB J h x fun v=>eA j J [] acc a8 fun cE=>cd s o.dst v fun s'=>jU m lits (j+1) l (dN j J [] acc) cE s' h)
       fun x _=>fB J h x fun v=>eA j J [] acc a8 fun cE=>cd s o.dst v fun s'=>jU m lits (j+1) l (dN j J [] acc) cE s' h
     |false=>jF E.T E.G o.op sC hC (yI E o.op sC hC (nY E o.op sC hC stop fun x h1=>fB J h x fun v=>ju J h h1 fun h'=>jT J h h' fun ws=>eA j ws ws acc a8 fun cE=>cd s o.dst v fun s'=>bM E ag R ops k lits (j+1) l (dN j ws ws acc) cE s' h')
      fun x h1=>fB J h x fun v=>ju J h h1 fun h'=>jT J h h' fun ws=>eA j ws ws acc a8 fun cE=>cd s o.dst v fun s'=>jU m lits (j+1) l (dN j ws ws acc) cE s' h')
      fun x h1=>fB J h x fun v=>ju J h h1 fun h'=>jT J h h' fun ws=>eA j ws ws acc a8 fun cE=>cd s o.dst v fun s'=>jU m lits (j+1) l (dN j ws ws acc) cE s' h'
   BI ops o.guard go stop fun d b=>aT s d stop fun
    | .d (.bool t)=>match jQ d lits with
     |false=>na t (fz s d (.d (.bool true)) fun s'=>bM E ag R ops k (d::lits) j fD acc a8 s' h) (fz s d (.d (.bool false)) fun s'=>bM E ag R ops k (d::lits) j fD acc a8 s' h)
     |true=>match JN t b with
      |true=>go
      |false=>skip
    | .d .undef=>skip
    |_=>stop
end
section
variable {E:Env} {ag:FuncId} {R:cF} {ops:Array Oper} {k:List aP} {lits:List Nat} {j:Nat} {fD:List Oper} {acc:List (Nat × gN)} {a8:List (Nat × Nat)} {s:List AV} {h:List af}
theorem bM.is(H:bM E ag R ops k lits j fD acc a8 s h):bM E ag R ops k lits j fD acc a8 s h:=H
theorem bM.to(H:bM E ag R ops k lits j fD acc a8 s h):hU E ops (fun s2 h2=>I E ag R [] k s2 h2) j fD acc a8 s h:=by unfold bM at H;exact H
theorem Kp:∀ {acc:List (Nat × gN)} {a8:List (Nat × Nat)},mj j [] [] acc a8=a8
 |[],_=>rfl
 |(i,t',w')::r,a8=>by
  have h1:oU w' []=false:=by
   cases q:oU w' []with
   |false=>rfl
   |true=>obtain⟨b,-,hb⟩:=BZ.1 q;simp at hb
  simp only[mj,h1,oU];exact Kp
theorem Kq{keep:List Nat}:∀ {i d:Nat} {s:List AV},i+d∈keep->(c9 keep i s)[d]?=s[d]?
 |_,_,[],_=>rfl
 |i,0,x::s,h=>by
  rw[Nat.add_zero]at h;simp only[c9,zn.2 h,List.getElem?_cons_zero]
 |i,d+1,x::s,h=>by
  simp only[c9,List.getElem?_cons_succ];exact Kq (by rwa [show i+1+d=i+(d+1) by omega])
variable {o:Oper} {l:List Oper} {K:List AV->List af->Prop}
theorem FD{v:AV}(hf:∀ H,ee E ops o s H v H)(H:hU E ops K (j+1) l acc a8 (bX s o.dst v) h):hU E ops K j (o::l) acc a8 s h :=
 ⟨v,h,[],[],.same (fun b hb=>by simp at hb) fun X _ _=>hf X,by rw[Kp];exact H⟩
theorem ee.any{v:AV}{H:List af}(hw:gW ops o (c9 (dJ ops o) 0 s) true)(ho:bw E o.op (c9 (dJ ops o) 0 s) H v H):ee E ops o s H v H:=fun c a h1 h2 _ h4 j hj K Q hK=>by
 obtain⟨c',u,k1,k2,k3,k4,k5⟩:=ho o c a rfl h2 h1 h4;unfold wpOp;simp only[hj,hw c a.tmps h4,if_true];left;have:=hK c' u k3 k2 k5 k4;unfold Oper.wp;rcases k1 with k1|⟨k1,rfl⟩
 ·rw[k1];exact this
 ·rw[k1];exact this
theorem Kr(hE:E.OK):∀ (m:Nat) (lits:List Nat) (j:Nat) (fD:List Oper) (acc:List (Nat × gN)) (a8:List (Nat × Nat)) (s:List AV) (h:List af),
  jU E ag R ops k m lits j fD acc a8 s h->hU E ops (fun s2 h2=>I E ag R [] k s2 h2) j fD acc a8 s h:=by
 intro m
 induction m with
 |zero=>intro lits j fD acc a8 s h H;exact bM.to H
 |succ m ih =>
  intro lits j fD acc a8 s h H;unfold jU at H;split at H
  ·split at H
   ·exact⟨fun p hp=>by simp at hp,H⟩
   ·exact⟨Kb H.1,H.2⟩
  rename_i o l;dsimp only at H;have skip:gW ops o (c9 (dJ ops o) 0 s) false->(cd s o.dst (.d .undef) fun s'=>jU E ag R ops k m lits (j+1) l acc a8 s' h)->hU E ops (fun s2 h2=>I E ag R [] k s2 h2) j (o::l) acc a8 s h:=fun hw H=>by
   rw[dP]at H;exact FD (fun X=>ee.skip hw) (ih _ _ _ _ _ _ _ H)
  generalize ui:(match Ko o.op with
    |true=>xb (dJ ops o) 0 s fun so=>y6 E.G so o (bM E ag R ops k lits j (o::l) acc a8 s h) fun f hI=>qd hI
     (zy E f hI h (bM E ag R ops k lits j (o::l) acc a8 s h) (fun ws v h'=>eA j ws ws acc a8 fun cE=>cd s o.dst v fun s'=>bM E ag R ops k lits (j+1) l (dN j ws ws acc) cE s' h') fun J v=>eA j J [] acc a8 fun cE=>cd s o.dst v fun s'=>bM E ag R ops k lits (j+1) l (dN j J [] acc) cE s' h)
     fun ds=>sK E f ds h (fun v=>cd s o.dst (.d v) fun s'=>bM E ag R ops k lits (j+1) l acc a8 s' h) fun v h'=>jT [] h h' fun ws=>eA j ws ws acc a8 fun cE=>cd s o.dst v fun s'=>bM E ag R ops k lits (j+1) l (dN j ws ws acc) cE s' h'
    |false=>zB ops o s h (bM E ag R ops k lits j (o::l) acc a8 s h) fun J sC hC=>match qJ o.op&&xd J h with
     |true=>jF E.T E.G o.op sC hC (yG E o.op sC (nY E o.op sC hC (yH E o.op sC hC (bM E ag R ops k lits j (o::l) acc a8 s h) fun x h1=>fB J h x fun v=>ju J h h1 fun h'=>jT J h h' fun ws=>eA j ws ws acc a8 fun cE=>cd s o.dst v fun s'=>bM E ag R ops k lits (j+1) l (dN j ws ws acc) cE s' h') fun x _=>fB J h x fun v=>eA j J [] acc a8 fun cE=>cd s o.dst v fun s'=>bM E ag R ops k lits (j+1) l (dN j J [] acc) cE s' h)
       fun x=>fB J h x fun v=>eA j J [] acc a8 fun cE=>cd s o.dst v fun s'=>jU E ag R ops k m lits (j+1) l (dN j J [] acc) cE s' h)
       fun x _=>fB J h x fun v=>eA j J [] acc a8 fun cE=>cd s o.dst v fun s'=>jU E ag R ops k m lits (j+1) l (dN j J [] acc) cE s' h
     |false=>jF E.T E.G o.op sC hC (yI E o.op sC hC (nY E o.op sC hC (bM E ag R ops k lits j (o::l) acc a8 s h) fun x h1=>fB J h x fun v=>ju J h h1 fun h'=>jT J h h' fun ws=>eA j ws ws acc a8 fun cE=>cd s o.dst v fun s'=>bM E ag R ops k lits (j+1) l (dN j ws ws acc) cE s' h')
      fun x h1=>fB J h x fun v=>ju J h h1 fun h'=>jT J h h' fun ws=>eA j ws ws acc a8 fun cE=>cd s o.dst v fun s'=>jU E ag R ops k m lits (j+1) l (dN j ws ws acc) cE s' h')
      fun x h1=>fB J h x fun v=>ju J h h1 fun h'=>jT J h h' fun ws=>eA j ws ws acc a8 fun cE=>cd s o.dst v fun s'=>jU E ag R ops k m lits (j+1) l (dN j ws ws acc) cE s' h')=R3 at H
  have go:gW ops o (c9 (dJ ops o) 0 s) true->R3->hU E ops (fun s2 h2=>I E ag R [] k s2 h2) j (o::l) acc a8 s h:=by
   subst ui;intro hw H;split at H
   ·rw[Ki]at H;rcases JM H with H|⟨fx,args,ts,f,a1,av,a2,cm,hv,n0,H⟩
    ·exact bM.to H
    rcases ye (a1++av++a2) (zy E f (a1++av++a2) h (bM E ag R ops k lits j (o::l) acc a8 s h) (fun ws v h'=>eA j ws ws acc a8 fun cE=>cd s o.dst v fun s'=>bM E ag R ops k lits (j+1) l (dN j ws ws acc) cE s' h') fun J v=>eA j J [] acc a8 fun cE=>cd s o.dst v fun s'=>bM E ag R ops k lits (j+1) l (dN j J [] acc) cE s' h)
     (fun ds=>sK E f ds h (fun v=>cd s o.dst (.d v) fun s'=>bM E ag R ops k lits (j+1) l acc a8 s' h) fun v h'=>jT [] h h' fun ws=>eA j ws ws acc a8 fun cE=>cd s o.dst v fun s'=>bM E ag R ops k lits (j+1) l (dN j ws ws acc) cE s' h')with⟨ds,e1,e2⟩|e2
    ·rw[e2]at H;unfold sK at H;rcases H with⟨r,hc,hk⟩|⟨r,h1,hc,hk⟩
     ·rw[dP]at hk;exact FD (fun X=>ee.call hw cm hv n0 e1 hc) hk.to
     ·rw[uD,nf,dP]at hk;have e3:(a1++av++a2).map (fV [] h)=ds.map .d:=by rw[e1,List.map_map];rfl
      exact⟨_,_,_,_,.of List.nodup_nil (fun j hj=>by simp at hj) fun X hs => .Fv hw cm hv n0 (by rw[e3];exact hc) hs,hk.to⟩
    ·rw[e2]at H;rcases R2 H with H|⟨J,hn,ah,⟨r,h1,hc,hk⟩|⟨r,hc,dA,hk⟩⟩
     ·exact bM.to H
     ·rw[nf,dP]at hk;exact⟨_,_,_,_,.of hn ah fun X hs => .Fv hw cm hv n0 hc hs,hk.to⟩
     ·rw[nf,dP]at hk;exact⟨_,_,_,_,.read hn ah dA fun X hs => .Fv hw cm hv n0 hc hs,hk.to⟩
   ·rcases Kn H with H|⟨J,hn,ah,H⟩
    ·exact bM.to H
    have B1:∀ x h1,bw E o.op ((c9 (dJ ops o) 0 s).map (fV J h)) (ez J h) x h1->hU E ops (fun s2 h2=>I E ag R [] k s2 h2) (j+1) l (dN j (J++dL J h h1) (J++dL J h h1) acc) (mj j (J++dL J h h1) (J++dL J h h1) acc a8) (bX s o.dst (iT J h x)) (eY J h h1)->hU E ops (fun s2 h2=>I E ag R [] k s2 h2) j (o::l) acc a8 s h :=
      fun x h1 ho H=>⟨_,_,_,_,.of hn ah fun X hs => .zr hw ho hs,H⟩
    split at H
    ·rename_i fA;obtain⟨bg,dA⟩:=Bool.and_eq_true_iff.1 fA;have fin:∀ x,bw E o.op ((c9 (dJ ops o) 0 s).map (fV J h)) (ez J h) x (ez J h)->hU E ops (fun s2 h2=>I E ag R [] k s2 h2) (j+1) l (dN j J [] acc) (mj j J [] acc a8) (bX s o.dst (iT J h x)) h->hU E ops (fun s2 h2=>I E ag R [] k s2 h2) j (o::l) acc a8 s h :=
      fun x ho H=>⟨_,_,_,_,.read hn ah dA fun X hs => .zr hw ho hs,H⟩
     rcases Be hE (RQ (K:=fun x=>fB J h x fun v=>eA j J [] acc a8 fun cE=>cd s o.dst v fun s'=>jU E ag R ops k m lits (j+1) l (dN j J [] acc) cE s' h) bg H)with H|⟨x,h',⟨rfl,H⟩,ho⟩
     ·rcases Jd hE H with H|⟨x,H,ho⟩
      case inr =>
       rw[mY,nf,dP]at H;exact fin x (ho _) (ih _ _ _ _ _ _ _ H)
      rcases yQ hE (RT (K:=fun x=>fB J h x fun v=>eA j J [] acc a8 fun cE=>cd s o.dst v fun s'=>bM E ag R ops k lits (j+1) l (dN j J [] acc) cE s' h) bg H)with H|⟨x,h',⟨rfl,H⟩,ho⟩
      ·rcases Je hE H with H|⟨x,h1,H,ho⟩
       ·exact bM.to H
       ·rw[mY,qE,uD,nf,dP]at H;exact B1 x h1 ho H.to
      ·rw[mY,nf,dP]at H;exact fin x ho H.to
     ·rw[mY,nf,dP]at H;exact fin x ho (ih _ _ _ _ _ _ _ H)
    ·rcases Be hE H with H|⟨x,h1,H,ho⟩
     ·rcases Jf hE H with H|⟨x,h1,H,ho⟩
      case inr =>
       rw[mY,qE,uD,nf,dP]at H;exact B1 x h1 ho (ih _ _ _ _ _ _ _ H)
      rcases yQ hE H with H|⟨x,h1,H,ho⟩
      ·exact bM.to H
      ·rw[mY,qE,uD,nf,dP]at H;exact B1 x h1 ho H.to
     ·rw[mY,qE,uD,nf,dP]at H;exact B1 x h1 ho (ih _ _ _ _ _ _ _ H)
  unfold BI at H;split at H
  ·rename_i hg;exact go (fS hg) H
  ·rename_i jj b hg;rcases bo H with H|⟨oj,wW,H⟩
   ·exact bM.to H
   split at H
   ·rename_i d hd;rcases bo H with H|⟨x,hx,H⟩
    ·exact bM.to H
    have hm:(c9 (dJ ops o) 0 s)[d]?=some x:=by
     rw[Kq,hx];rw[Nat.zero_add];refine List.mem_append_right _ ?_;have:ops[jj]?=some oj:=by simpa using wW
     simp[J',hg,this,hd]
    split at H
    ·rename_i t;split at H
     ·refine E0 H (fun e H2=>?_) (fun e H2=>?_)
      ·subst e;rw[gq,y9 hx]at H2;exact bM.to H2
      ·subst e;rw[gq,y9 hx]at H2;exact bM.to H2
     ·have hw:=wu hg wW hd hm;split at H
      ·rename_i q;have:(t==b)=true:=by cases t<;>cases b<;>first|rfl|cases q
       rw[this]at hw;exact go hw H
      ·rename_i q;have:(t==b)=false:=by cases t<;>cases b<;>first|rfl|cases q
       rw[this]at hw;exact skip hw H
    ·exact skip (IJ hg wW hd hm) H
    ·exact bM.to H
   ·exact bM.to H
theorem bM.run(hE:E.OK)(m:Nat)(H:jU E ag R ops k m lits j fD acc a8 s h):bM E ag R ops k lits j fD acc a8 s h:=by unfold bM;exact Kr hE m lits j fD acc a8 s h H
@[irreducible] def kJ (E : Env) (ag : FuncId) (R : cF) (ops : Array Oper) (k : List aP) (lits : List Nat) (j : Nat) (o : Oper) (l : List Oper) (acc : List (Nat × gN)) (a8 : List (Nat × Nat)) (s : List AV) (h : List af) (J : List Nat) (sC : List AV) (hC : List af) : Prop :=
 ∃ x h1,bw E o.op sC hC x h1/\hU E ops (fun s2 h2=>I E ag R [] k s2 h2) (j+1) l (dN j (J++dL J h h1) (J++dL J h h1) acc) (mj j (J++dL J h h1) (J++dL J h h1) acc a8) (bX s o.dst (iT J h x)) (eY J h h1)
theorem bM.at(hg:o.guard=none)(H:zB ops o s h False fun J sC hC=>kJ E ag R ops k lits j o l acc a8 s h J sC hC):bM E ag R ops k lits j (o::l) acc a8 s h:=by
 unfold bM;rcases Kn H with H|⟨J,hn,ah,H⟩
 ·exact H.elim
 unfold kJ at H;obtain⟨x,h1,ho,H⟩:=H;exact⟨_,_,_,_,.of hn ah fun X hs => .zr (fS hg) ho hs,H⟩
theorem kJ.op{J:List Nat}{sC:List AV}{hC h1:List af}{x:AV}(ho:bw E o.op sC hC x h1)(H:fB J h x fun v=>ju J h h1 fun h'=>jT J h h' fun ws=>eA j ws ws acc a8 fun cE=>cd s o.dst v fun s'=>bM E ag R ops k lits (j+1) l (dN j ws ws acc) cE s' h'):kJ E ag R ops k lits j o l acc a8 s h J sC hC:=by
 unfold kJ;rw[mY,qE,uD,nf,dP]at H;exact⟨x,h1,ho,H.to⟩
theorem bM.pure{v:AV}(hg:o.guard=none)(ho:∀ H,bw E o.op (c9 (dJ ops o) 0 s) H v H)(H:cd s o.dst v fun s'=>bM E ag R ops k lits (j+1) l acc a8 s' h):bM E ag R ops k lits j (o::l) acc a8 s h:=by
 rw[dP]at H;unfold bM;exact FD (fun X => .any (fS hg) (ho X)) H.to
theorem hU.conv{K K':List AV->List af->Prop}(hk:∀ s h,K s h->K' s h):∀ {l:List Oper} {j:Nat} {acc:List (Nat × gN)} {a8:List (Nat × Nat)} {s:List AV} {h:List af},hU E ops K j l acc a8 s h->hU E ops K' j l acc a8 s h
 |[],_,_,_,_,_,H=>⟨H.1,hk _ _ H.2⟩
 |_::_,_,_,_,_,_,H=>by
  obtain⟨v,h',t,w,hf,H⟩:=H;exact⟨v,h',t,w,hf,H.conv hk⟩
theorem I.bJ(hE:E.OK)(hm:E.P.follows .mixedOrders=true)(m:Nat){id:Nat}(zC:BV ops=true)(H:jU E ag R ops k m [] 0 ops.toList [] [] s h):I E ag R lits (.code (.region id ops true)::k) s h:=by
 obtain⟨pl,hp,tw,p1,p2,p3,-,p5,-,p7,p8⟩:=hU.lay (hU.conv (fun s2 h2=>I.to) (Kr hE m _ _ _ _ _ _ _ H));refine .of (AW.RW hm fun c t Q hQ h1 h2 h4=>?_);subst h2;have hn:(c.pad ((hp pl.length).length-c.heap.length)).heap.length=(hp pl.length).length:=by
  show(c.heap++_).length=_;rw[List.length_append,List.length_replicate];omega
 refine RZ (Ka zC) p1 p5 (fun i k h1 h2 h3=>by simpa using p7 i k h1 h2 h3) hn (fun b hb=>?_) p3 hQ ops.size _ ⟨t,[]⟩ (c.pad ((hp pl.length).length-c.heap.length)) (h1.pad _) (Fz (j:=0) (fun i _=>sJ _ i) ops.size (Nat.zero_le _)).symm rfl ?_ (By h1 _) ⟨by simp,fun j o e _ hl=>by rw[sJ]at hl;cases hl⟩ (fun i _=>sJ _ i) (Kh _ _)
 ·rw[p2];unfold mi;split
  ·rename_i hl;rw[Bx (List.getElem?_eq_getElem hl),List.getElem?_eq_getElem hl]
  ·exact ER (by omega) (by rw[hn]at hb;omega)
 ·rw[qI _ 0 s _ (fun i _=>sJ _ _)];exact(By h1 _).vs h4
end
end Go.ay
end
section
namespace Go.ay
open Go Go.RowKit
section
variable {E:Env} {s:List AV} {h:List af} {c:Cx} {G:List (Nat × DV)}
theorem Ks(hE:E.OK){t e len:Nat}{i ei:br}(hi:E.T[t]?=some i)(bT:E.T[e]?=some ei)(hk:i.k=.slice e){parts:Array (Nat × Operand)}{ps:List (Nat × AV)}(gM:yl E.G s parts.toList ps)
  (hz:ei.zero.length=ei.size) (cQ:0<ei.size) (hlen:0<len) (Bd:len*ei.size<=16777216) {z:DV} (tQ:z.cells=ei.zero) (jo:∀ y∈ei.zero,y.fa=true) {stop:Prop} {k:List DV->Prop} (H:oH ei.size ps (List.replicate len z) stop k) :
  stop\/∃ l,k l/\bw E (.buildSlice t len parts) s h (.own h.length 0) (h++[.arr 0 (e,ei.size) l]):=by
 have dY:iz ei.size (List.replicate len z):=fun j e' h'=>by
  rw[List.getElem?_replicate]at h';split at h'
  ·cases h';rw[tQ,hz]
  ·cases h'
 have fA:pk (List.replicate len z):=fun j e' h'=>by
  rw[List.getElem?_replicate]at h';split at h'
  ·cases h';rw[tQ];exact jo
  ·cases h'
 rcases D2 dY fA H with h'|⟨l,h1,h2,iO,h3,h4⟩
 ·exact .inl h'
 refine .inr ⟨l,h1,fun o c ac e1 e2 e3 e4=>?_⟩;subst e2;obtain⟨ti,zv,g1,g2,g3,g4⟩:=zeroOf (hE.types e ei bT) hz cQ;obtain⟨zs,yn,ky⟩:=g4 c;obtain⟨p1,p2⟩:=gM c ac e3 e4;have l3:zs.length=ei.size:=by rw[<- ky.1];simpa using hz
 have yo:VL c ((flat (List.replicate len z)).map .d) ((Array.range (len*ti.size)).map (zv.cells[· % zv.cells.size]!)).toList:=by
  refine .tO (by rw[nP dY];simp[g3]) (fun j x v hx hv=>?_);have hj:j<len*ei.size:=by
   have:=nP dY;rw[List.length_replicate]at this;rw[<- this];rcases Nat.lt_or_ge j (flat (List.replicate len z)).length with h|h
   ·exact h
   ·rw[List.getElem?_eq_none h]at hx;cases hx
  have hd:j / ei.size<len:=Nat.div_lt_of_lt_mul (by rw[Nat.mul_comm];exact hj);have hm:j % ei.size<ei.size:=Nat.mod_lt _ cQ;have h5:=flat_get dY (i:=j / ei.size) (j:=j % ei.size) (e:=z) (by simp[hd]) hm;rw[Nat.mul_comm,Nat.div_add_mod,hx,tQ]at h5;have eD:v=zs[j % ei.size]'(by omega):=by
   have eK:j<len*ti.size:=by rw[<- g3];exact hj
   simp[eK,yn,l3]at hv;rw[<- hv];simp[l3,hm]
  rw[eD];exact ky.pg (j % ei.size) x _ h5.symm (by simp[l3,hm])
 obtain⟨vs',f1,f2⟩:=h4 c _ _ yo p2;obtain⟨wk,d,q1,q2,q3,-⟩:=cD (hE.types t i hi);obtain rfl:=lj (hk.symm.trans q3);have eq:(parts.map fun(i,x)=>(i,ac.eval x)).toList=(ps.map (·.1)).zip (parts.toList.map fun p=>ac.eval p.2):=by
  rw[p1,Array.toList_map];generalize parts.toList=q
  induction q with
  |nil=>rfl
  |cons a q ih=>simp only[List.map_cons,List.zip_cons_cons,ih]
 have tR:Instr.fill (fun i=>some (i*ti.size,ti.size)) ((Array.range (len*ti.size)).map (zv.cells[· % zv.cells.size]!)) (parts.map fun(i,x)=>(i,ac.eval x)).toList=some vs'.toArray:=by
  rw[eq,<- f1,g3]
 have cI:=run_buildSlice (P:=E.P) c.w t e len (parts.map fun(i,x)=>(i,ac.eval x)) vs'.toArray ti zv q2 g1 g2 (by rw[<- g3];omega) (by rw[<- g3];have:=Nat.mul_pos hlen cQ;omega) tR;have l4:l.length=len:=by rw[h3];simp
 obtain⟨k1,k2⟩:=e3.add (.arr 0 (e,ei.size) l) len (.cells vs'.toArray e);have bF:(c.add (.arr 0 (e,ei.size) l) len (.cells vs'.toArray e)).own c.heap.length=some (c.w.heap.size,len):=by simp[Cx.add]
 have mT:(c.add (.arr 0 (e,ei.size) l) len (.cells vs'.toArray e)).heap[c.heap.length]?=some (.arr 0 (e,ei.size) l):=by simp[Cx.add]
 have bP:vs'.length=len*ei.size:=by
  have:=f2.1;simp only[List.length_map]at this;rw[<- this,nP h2,l4]
 have dq:jG (c.add (.arr 0 (e,ei.size) l) len (.cells vs'.toArray e)) c.heap.length (.arr 0 (e,ei.size) l):=by
  refine⟨cQ,h2,.inr ⟨c.w.heap.size,len,vs'.toArray,bF,heap_alloc_new _ _,by simpa using bP,by omega,by unfold maxLen;have:=Nat.le_mul_of_pos_right len cQ;omega,fun i j e' x he hx=>?_⟩⟩;have hj:j<ei.size:=by
   have:=aQ hx;rw[h2 i e' he]at this;exact this
  have hf:=flat_get h2 he hj;rw[hx]at hf;have ah:i*ei.size+j<vs'.length:=by
   have:=f2.1;simp only[List.length_map]at this;rw[<- this];exact aQ hf
  refine⟨vs'[i*ei.size+j],by simp[ah],yh (f2.pg _ x _ hf (by simp[ah])) (iO i e' he x (List.mem_of_getElem? hx)),k1.vd (f2.pg _ x _ hf (by simp[ah]))⟩
 refine⟨_,.slice (some ⟨c.w.heap.size,0,none⟩) len len,.inl (by simp only[execOp,e1,Sem.run_bind,cI,Result.andThen_ok,Sem.run_pure];rfl),rfl,k2 dq,?_,k1⟩;have:=VR.own (c:=c.add (.arr 0 (e,ei.size) l) len (.cells vs'.toArray e)) c.heap.length 0 (e,ei.size) l c.w.heap.size len mT bF;rw[l4]at this;exact this
def B2(E:Env)(o:Op)(s:List AV)(h:List af)(stop:Prop)(k:AV->List af->Prop):Prop :=
 match o with
 | .buildSlice t len parts=>aT E.T t stop fun i=>match i.k with
  | .slice e=>aT E.T e stop fun ei=>match Nat.beq ei.zero.length ei.size,Nat.blt 0 ei.size,Nat.blt 0 len,Nat.ble (len*ei.size) 16777216,ei.zero.all DV.fa with
   |true,true,true,true,true=>tM E.G s parts.toList stop fun ps =>
    match ei.zero with
    |[z]=>tL len z fun zs=>oH ei.size ps zs stop fun l=>nL h (.arr 0 (e,ei.size) l) 0 fun h' n=>k (.own n 0) h'
    |zl=>tL len (.agg zl) fun zs=>oH ei.size ps zs stop fun l=>nL h (.arr 0 (e,ei.size) l) 0 fun h' n=>k (.own n 0) h'
   |_,_,_,_,_=>stop
  |_=>stop
 |_=>stop
theorem Kt(hE:E.OK){o:Op}{stop:Prop}{k:AV->List af->Prop}(H:B2 E o s h stop k):stop\/∃ v h',k v h'/\bw E o s h v h':=by
 unfold B2 at H;split at H
 ·rcases bo H with h|⟨i,hi,H⟩
  ·exact .inl h
  split at H
  ·rename_i e hk;rcases bo H with h|⟨ei,bT,H⟩
   ·exact .inl h
   split at H
   ·rename_i q1 q2 q3 q4 q5;rcases ym H with h|⟨ps,gM,H⟩
    ·exact .inl h
    simp only[rR,Nat.zero_add]at H;split at H
    ·rename_i z gr;rw[Bc]at H;have jo:z.fa=true:=by rw[gr]at q5;simpa using q5
     rcases Ks hE hi bT hk gM (Nat.eq_of_beq_eq_true q1) (iA q2) (iA q3) (Nat.le_of_ble_eq_true q4) (z:=z) (by rw[gr];cases z<;>first|rfl|cases jo) (fun y hy=>List.all_eq_true.1 q5 y hy) H with h|⟨l,H,hl⟩
     ·exact .inl h
     exact .inr ⟨_,_,H,hl⟩
    ·rw[Bc]at H;rcases Ks hE hi bT hk gM (Nat.eq_of_beq_eq_true q1) (iA q2) (iA q3) (Nat.le_of_ble_eq_true q4) (z := .agg ei.zero) rfl (fun y hy=>List.all_eq_true.1 q5 y hy) H with h|⟨l,H,hl⟩
     ·exact .inl h
     exact .inr ⟨_,_,H,hl⟩
   ·exact .inl H
  ·exact .inl H
 ·exact .inl H
theorem I.qL(hE:E.OK){ag:FuncId}{R:cF}{lits:List Nat}{ops:Array Oper}{o:Oper}{l:List Oper}{r:List aP}(hg:o.guard=none)
  (H:B2 E o.op s h False fun v h'=>cd s o.dst v fun s'=>I E ag R lits (.bu ops l::r) s' h'):I E ag R lits (.bu ops (o::l)::r) s h:=by
 rcases Kt hE H with h|⟨v,h',H,ho⟩
 ·exact h.elim
 ·rw[dP]at H;exact .of (.op (fS hg) ho H.to)
end
mutual
def norm:DV->DV
 | .aH => .sl []
 | .agg c => .agg (uE c)
 | .aD c => .aD (uE c)
 |x=>x
def uE:List DV->List DV
 |[]=>[]
 |x::l=>norm x::uE l
end
theorem FE:∀ (l:List DV),uE l=l.map norm
 |[]=>rfl
 |x::l=>by rw[uE,FE l];rfl
theorem FF{bad:Nat->Prop}{w:World}{x:DV}{v:Value}(h:VD bad w x v):VD bad w (norm x) v:=by
 induction h with
 |aH=>exact .slnil
 |agg c vs hlen bH ih =>
  rw[norm,FE];refine .agg _ _ (by simpa using hlen) fun j y v hy hv=>?_;rw[List.getElem?_map]at hy;cases hc:c[j]? with
  |none=>rw[hc]at hy;cases hy
  |some z=>rw[hc]at hy;cases hy;exact ih j z v hc hv
 |aD c vs hlen bH ih =>
  rw[norm,FE];refine .aD _ _ (by simpa using hlen) fun j y v hy hv=>?_;rw[List.getElem?_map]at hy;cases hc:c[j]? with
  |none=>rw[hc]at hy;cases hy
  |some z=>rw[hc]at hy;cases hy;exact ih j z v hc hv
 |undef=>exact .undef
 |bool b=>exact .bool b
 |int k n=>exact .int k n
 |str l=>exact .str l
 |slnil=>exact .slnil
 |ku a=>exact .ku a
 |sl l blk off cap sz f hb bP jm hlen dK bH bW ih=>exact .sl l blk off cap sz f hb bP jm hlen dK bH bW
 |dU=>exact .dU
 |ax=>exact .ax
 |jl=>exact .jl
 |eI=>exact .eI
 |fn f=>exact .fn f
 |raw v h=>exact .raw v h
theorem aq.norm{E:Env}{f:FuncId}{args:List DV}{y:DV}(H:aq E f args (fun r=>ay.norm r=y)):aq E f args (· = y):=by
 unfold aq at H ⊢;exact⟨H.1,fun az w vs h1 h2 h3=>(H.2 az w vs h1 h2 h3).mono fun e w' ⟨v,r,k1,k2,k3,k4⟩=>⟨v,y,k1,rfl,k2 ▸ FF k3,k4⟩⟩
end Go.ay
end
section
namespace Go.ay
open Go Go.RowKit
def dG(n:Nat)(B:List Nat)(i:Nat):Bool:=match Nat.ble n i with
 |true=>true
 |false=>jQ i B
def kK(n:Nat)(B:List Nat):Nat->List af->List af
 |_,[]=>[]
 |i,b::r=>match Nat.ble n i with
  |true=>[]
  |false=>(match jQ i B with|true => .gone|false=>b)::kK n B (i+1) r
theorem xj{n:Nat}{B:List Nat}:∀ (i k:Nat) (h:List af),dG n B (i+k)=false->(kK n B i h)[k]?=h[k]?
 |_,_,[],_=>rfl
 |i,0,b::r,hh=>by
  simp only[dG,Nat.add_zero]at hh;split at hh
  ·cases hh
  ·rename_i q;simp only[kK,q,hh];rfl
 |i,k+1,b::r,hh=>by
  have hn:Nat.ble n i=false:=by
   cases q:Nat.ble n i with
   |false=>rfl
   |true =>
    have h1:=Nat.le_of_ble_eq_true q;have h2:Nat.ble n (i+(k+1))=true:=Nat.ble_eq_true_of_le (by omega);simp only[dG,h2]at hh;cases hh
  simp only[kK,hn,List.getElem?_cons_succ];exact xj (i+1) k r (by rwa [show i+1+k=i+(k+1) by omega])
theorem Ku{n:Nat}{B:List Nat}:∀ (i k:Nat) (h:List af) (b:af),dG n B (i+k)=true->(kK n B i h)[k]?=some b->b=.gone
 |_,_,[],_,_,h=>by simp[kK]at h
 |i,k,b'::r,b,hh,h=>by
  simp only[kK]at h;split at h
  ·simp at h
  ·rename_i q;cases k with
   |zero =>
    simp only[dG,Nat.add_zero,q]at hh;simp only[hh,List.getElem?_cons_zero,Option.some.injEq]at h;exact h.symm
   |succ k=>exact Ku (i+1) k r b (by rwa [show i+1+k=i+(k+1) by omega]) (by simpa using h)
def fZ(n:Nat)(B:List Nat):AV->Bool
 | .any=>true
 | .d _=>true
 | .bO _ _=>true
 | .own b _=>match dG n B b with|true=>false|false=>true
 | .ptr b _=>match dG n B b with|true=>false|false=>true
 | .cV b _ _ _=>match dG n B b with|true=>false|false=>true
 | .cut b _ _ _=>match dG n B b with|true=>false|false=>true
 | .map b=>match dG n B b with|true=>false|false=>true
 |_=>false
def pD{β:Type}(f:β->Bool):List β->Bool
 |[]=>true
 |a::l=>match f a with
  |true=>pD f l
  |false=>false
theorem B3{β:Type}{f:β->Bool}:∀ {l:List β},pD f l=true->∀ (j:Nat) (x:β),l[j]?=some x->f x=true
 |[],_,_,_,h=>by simp at h
 |a::l,H,j,x,h=>by
  unfold pD at H;split at H
  ·rename_i q;cases j with
   |zero=>simp at h;subst h;exact q
   |succ j=>exact B3 H j x (by simpa using h)
  ·cases H
def hY(n:Nat)(B:List Nat):AV->Bool
 | .agg l=>pD (fZ n B) l
 | .aD l=>pD (fZ n B) l
 | .fn _ a b=>match pD (fZ n B) a with
  |true=>pD (fZ n B) b
  |false=>false
 |x=>fZ n B x
def Kv(n:Nat)(B:List Nat):af->Bool
 | .cells cs=>pD (hY n B) cs
 |_=>true
section
variable {G:List (Nat × DV)} {c c':Cx} {n:Nat} {B:List Nat}
theorem Kw(hk:∀ b,b<c.w.heap.size->¬ c.bad b->¬ c'.bad b/\c'.w.heap[b]?=c.w.heap[b]?)(hb:∀ i bx,dG n B i=false->c.heap[i]?=some bx->c'.heap[i]?=some bx/\c'.own i=c.own i)
  {x:AV} {v:Value} (hf:fZ n B x=true) (hv:VR c x v):VR c' x v:=by
 cases hv with
 |any v=>exact .any v
 |d x v hx=>exact .d x v (hx.mono hk)
 |own b g sz l blk cap h1 h2 =>
  have hh:dG n B b=false:=by simp only[fZ]at hf;split at hf<;>first|assumption|cases hf
  obtain⟨k1,k2⟩:=hb _ _ hh h1;exact .own b g sz l blk cap k1 (k2.trans h2)
 |iu b g sz h1 h2 =>
  have hh:dG n B b=false:=by simp only[fZ]at hf;split at hf<;>first|assumption|cases hf
  obtain⟨k1,k2⟩:=hb _ _ hh h1;exact .iu b g sz k1 (k2.trans h2)
 |kv b g g1 sz l v h1 h2 h3 =>
  have hh:dG n B b=false:=by simp only[fZ]at hf;split at hf<;>first|assumption|cases hf
  obtain⟨k1,k2⟩:=hb _ _ hh h1;exact .kv b g g1 sz l _ k1 h2 h3
 |jE b g v h1 h2 =>
  have hh:dG n B b=false:=by simp only[fZ]at hf;split at hf<;>first|assumption|cases hf
  exact .jE b g _ (hb _ _ hh h1).1 h2
 |mM b g cs blk cap m h1 h2 h3 =>
  have hh:dG n B b=false:=by simp only[fZ]at hf;split at hf<;>first|assumption|cases hf
  obtain⟨k1,k2⟩:=hb _ _ hh h1;exact .mM b g cs blk cap m k1 (k2.trans h2) h3
 |cut b g k q sz l blk cap o h1 h2 h3 h4 h5 =>
  have hh:dG n B b=false:=by simp only[fZ]at hf;split at hf<;>first|assumption|cases hf
  obtain⟨k1,k2⟩:=hb _ _ hh h1;exact .cut b g k q sz l blk cap o k1 (k2.trans h2) h3 h4 h5
 |nI b g g1 k q sz l v h1 h2 h3 =>
  have hh:dG n B b=false:=by simp only[fZ]at hf;split at hf<;>first|assumption|cases hf
  exact .nI b g g1 k q sz l _ (hb _ _ hh h1).1 h2 h3
 |nJ b g k q v h1 h2 =>
  have hh:dG n B b=false:=by simp only[fZ]at hf;split at hf<;>first|assumption|cases hf
  exact .nJ b g k q _ (hb _ _ hh h1).1 h2
 |ptr b off cs blk cap h1 h2 =>
  have hh:dG n B b=false:=by simp only[fZ]at hf;split at hf<;>first|assumption|cases hf
  obtain⟨k1,k2⟩:=hb _ _ hh h1;exact .ptr b off cs blk cap k1 (k2.trans h2)
 |iv b off v h1 h2 =>
  have hh:dG n B b=false:=by simp only[fZ]at hf;split at hf<;>first|assumption|cases hf
  exact .iv b off _ (hb _ _ hh h1).1 h2
 |cV b g i off sz l blk cap h1 h2 h3 =>
  have hh:dG n B b=false:=by simp only[fZ]at hf;split at hf<;>first|assumption|cases hf
  obtain⟨k1,k2⟩:=hb _ _ hh h1;exact .cV b g i off sz l blk cap k1 (k2.trans h2) h3
 |lW b g g1 i off sz l v h1 h2 h3 =>
  have hh:dG n B b=false:=by simp only[fZ]at hf;split at hf<;>first|assumption|cases hf
  exact .lW b g g1 i off sz l _ (hb _ _ hh h1).1 h2 h3
 |lX b g i off v h1 h2 =>
  have hh:dG n B b=false:=by simp only[fZ]at hf;split at hf<;>first|assumption|cases hf
  exact .lX b g i off _ (hb _ _ hh h1).1 h2
 |bO e off blk o f h1 h2 h3 h4 =>
  have ah:blk<c.w.heap.size:=by
   obtain⟨x,r,hx⟩:=List.exists_cons_of_ne_nil h2;exact World.block_lt_of_cell? _ _ (h3 0 x (by rw[hx];rfl))
  have hk:=hk;have qw:=hk blk ah h1;exact .bO e off blk o f qw.1 h2 (fun j x hx=>by rw[World.cell?_of_block qw.2];exact h3 j x hx) (fun j x hx=>(h4 j x hx).mono hk)
 |map b es blk cap h1 h2 =>
  have hh:dG n B b=false:=by simp only[fZ]at hf;split at hf<;>first|assumption|cases hf
  obtain⟨k1,k2⟩:=hb _ _ hh h1;exact .map b es blk cap k1 (k2.trans h2)
 |nK b v h1 h2 =>
  have hh:dG n B b=false:=by simp only[fZ]at hf;split at hf<;>first|assumption|cases hf
  exact .nK b _ (hb _ _ hh h1).1 h2
 |agg a vs h1 h2=>simp[fZ]at hf
 |aD a vs h1 h2=>simp[fZ]at hf
 |fn f a1 a2 v1 v2 h1 h2 h3 h4=>simp[fZ]at hf
theorem R4(hk:∀ b,b<c.w.heap.size->¬ c.bad b->¬ c'.bad b/\c'.w.heap[b]?=c.w.heap[b]?)(hb:∀ i bx,dG n B i=false->c.heap[i]?=some bx->c'.heap[i]?=some bx/\c'.own i=c.own i)
  {x:AV} {v:Value} (hf:hY n B x=true) (hv:VR c x v):VR c' x v:=by
 have one:∀ {l:List AV},pD (fZ n B) l=true->∀ (vs:List Value),VL c l vs->VL c' l vs:=fun hl vs h=>⟨h.1,fun j x v hx hv=>Kw hk hb (B3 hl j x hx) (h.2 j x v hx hv)⟩;unfold hY at hf;split at hf
 ·obtain⟨vs,rfl,h1⟩:=ph hv;exact v7 (one hf _ h1)
 ·obtain⟨vs,rfl,h1⟩:=yU hv;exact yV (one hf _ h1)
 ·split at hf
  ·rename_i q;obtain⟨v1,v2,rfl,h1,h2⟩:=ma hv;exact EJ (one q _ h1) (one hf _ h2)
  ·cases hf
 ·exact Kw hk hb hf hv
def Cx.ga(c:Cx)(n:Nat)(B:List Nat):Cx:=⟨fun i=>match dG n B i with|true=>none|false=>c.own i,kK n B 0 c.heap,fun b=>c.az b\/∃ j m,dG n B j=true/\c.own j=some (b,m),c.w⟩
theorem uF{i b m:Nat}(h:(c.ga n B).own i=some (b,m)):dG n B i=false/\c.own i=some (b,m):=by
 simp only[Cx.ga]at h;split at h
 ·cases h
 ·rename_i q;exact⟨q,h⟩
theorem zD{i:Nat}(h:dG n B i=false):(c.ga n B).own i=c.own i:=by simp only[Cx.ga,h]
theorem R5(b:Nat):(c.ga n B).bad b↔c.bad b:=by
 constructor
 ·rintro((hb|⟨j,m,-,hj⟩)|⟨i,m,hi⟩)
  ·exact .inl hb
  ·exact .inr ⟨j,m,hj⟩
  ·exact .inr ⟨i,m,(uF hi).2⟩
 ·rintro(hb|⟨j,m,hj⟩)
  ·exact .inl (.inl hb)
  ·cases hh:dG n B j
   ·exact .inr ⟨j,m,(zD hh).trans hj⟩
   ·exact .inl (.inr ⟨j,m,hh,hj⟩)
theorem Kx(b:Nat)(_:b<c.w.heap.size)(hn:¬ c.bad b):¬ (c.ga n B).bad b/\(c.ga n B).w.heap[b]?=c.w.heap[b]? := ⟨fun h=>hn ((R5 b).1 h),rfl⟩
theorem R6{i:Nat}{bx:af}(hh:dG n B i=false)(hi:c.heap[i]?=some bx):(c.ga n B).heap[i]?=some bx/\(c.ga n B).own i=c.own i :=
 ⟨by show(kK n B 0 c.heap)[i]?=_;rw[xj 0 i c.heap (by rwa [Nat.zero_add])];exact hi,zD hh⟩
theorem B4{x:AV}{v:Value}(hf:hY n B x=true)(hv:VR c x v):VR (c.ga n B) x v:=R4 Kx (fun _ _=>R6) hf hv
theorem R7{x:DV}{v:Value}(hv:VD c.bad c.w x v):VD (c.ga n B).bad (c.ga n B).w x v:=hv.mono Kx
theorem jG.free{i:Nat}{bx:af}(R8:Kv n B bx=true)(iC:∀ x v,hY n B x=true->VR c x v->VR c' x v)(fh:∀ x v,VD c.bad c.w x v->VD c'.bad c'.w x v)(hb:jG c i bx)(ho:c'.own i=c.own i)(hw:∀ b n,c.own i=some (b,n)->c'.w.heap[b]?=c.w.heap[b]?):jG c' i bx:=by
 cases bx with
 |cells cs =>
  obtain⟨blk,cap,vs,ty,h1,h2,h3,h4⟩:=hb;exact⟨blk,cap,vs,ty,ho.trans h1,(hw blk cap h1).trans h2,h3,fun j x v hx hv=>iC x v (B3 R8 j x hx) (h4 j x v hx hv)⟩
 |arr g ts l =>
  obtain⟨h0,h1,h2⟩:=hb;refine⟨h0,h1,?_⟩;rcases h2 with⟨h2,h3⟩|⟨blk,cap,vs,h2,h3,h4,h5,h6,h7⟩
  ·exact .inl ⟨ho.trans h2,h3⟩
  ·refine .inr ⟨blk,cap,vs,ho.trans h2,(hw blk cap h2).trans h3,h4,h5,h6,fun i j e x he hx=>?_⟩;obtain⟨v,h8,yf,h9⟩:=h7 i j e x he hx;exact⟨v,h8,yf,fh x v h9⟩
 |map es =>
  obtain⟨blk,cap,en,ck,h1,h2,h3,h4⟩:=hb;exact⟨blk,cap,en,ck,ho.trans h1,(hw blk cap h1).trans h2,h3,fun j k x m hx hm=>⟨fh _ _ (h4 j k x m hx hm).1,fh _ _ (h4 j k x m hx hm).2⟩⟩
 |gone=>exact ho.trans hb
 |hole=>exact ho.trans hb
def FG(n:Nat)(B:List Nat)(X:List af):Bool:=pD (Kv n B) X
theorem aK.ga(ho:aK G c)(dA:FG n B (kK n B 0 c.heap)=true):aK G (c.ga n B) where
 bQ:=fun b hb=>hb.elim (ho.bQ b) fun⟨j,m,_,hj⟩=>(ho.bA j b m hj).1
 bA:=fun i b m hi=>by
  obtain⟨h1,h2⟩:=uF hi;obtain⟨h3,h4⟩:=ho.bA i b m h2;refine⟨h3,?_⟩;have:(c.ga n B).heap[i]?=c.heap[i]? := xj 0 i c.heap (by rwa [Nat.zero_add]);have h5:(c.ga n B).heap[i]?=some c.heap[i]:=by rw[this];simp
  exact aQ h5
 inj:=fun i j b m k hi hj=>ho.inj i j b m k (uF hi).2 (uF hj).2
 sep:=fun i b m hi hb=>by
  obtain⟨h1,h2⟩:=uF hi;rcases hb with hb|⟨j,k,hj,hk⟩
  ·exact ho.sep i b m h2 hb
  ·have:=ho.inj i j b m k h2 hk;subst this;rw[h1]at hj;cases hj
 box:=fun i bx hi=>by
  cases hh:dG n B i
  ·have e:(c.ga n B).heap[i]?=c.heap[i]? := xj 0 i c.heap (by rwa [Nat.zero_add]);have hf:=B3 dA i bx hi;rw[e]at hi;exact(ho.box i bx hi).free hf (fun _ _=>B4) (fun _ _=>R7) (zD hh) (fun _ _ _=>rfl)
  ·obtain rfl:=Ku 0 i c.heap bx (by rwa [Nat.zero_add]) hi;show(c.ga n B).own i=none;simp only[Cx.ga,hh]
 fJ:=fun g e hg=>B4 rfl (ho.fJ g e hg)
end
theorem aK.Ky{G:List (Nat × DV)}{c:Cx}{az:Nat->Prop}(ho:aK G c)(hb:∀ b,az b->c.az b):aK G ⟨c.own,c.heap,az,c.w⟩/\(∀ x v,VR c x v->VR ⟨c.own,c.heap,az,c.w⟩ x v):=by
 have oF:∀ b,b<c.w.heap.size->¬ c.bad b->¬ (⟨c.own,c.heap,az,c.w⟩:Cx).bad b/\(⟨c.own,c.heap,az,c.w⟩:Cx).w.heap[b]?=c.w.heap[b]? := fun b _ hn=>⟨fun h=>hn (h.elim (fun h => .inl (hb b h)) .inr),rfl⟩;have iC:∀ x v,VR c x v->VR ⟨c.own,c.heap,az,c.w⟩ x v:=fun x v=>rQ oF (fun _ _ hi=>l6 hi rfl rfl);exact⟨⟨fun b h=>ho.bQ b (hb b h),ho.bA,ho.inj,fun i b n hi h=>ho.sep i b n hi (hb b h),fun i bx hx=>(ho.box i bx hx).gen iC (fun _ _ h=>h.mono oF) rfl (fun _ _ _=>rfl),fun g e hg=>iC _ _ (ho.fJ g e hg)⟩,iC⟩
end Go.ay
end
end
