/- Lemmas of mine. Conditions: as stated. -/
import Derived.Test.YtcmnpelmmekdkaaGreatDoorV4
import Derived.ChangeArms
import Derived.ProofKit
import Derived.OpenShut
import Derived.Deep.DeepHandedRow
import Derived.Lib.LaidTab
set_option linter.unusedVariables false
set_option linter.unusedSimpArgs false
section
namespace Go.aA
open Go Go.RowKit
def dg(E:Env)(t:Nat):Nat:=match eu E.T t with
 |some i=>i.size
 |none=>0
def gz(E:Env)(t:Nat):TK:=match eu E.T t with
 |some i=>i.k
 |none => .other
def kj(k:TK)(x:DV):Prop:=match k with
 | .struct _=>∃ cs,x=.agg cs
 |_=>x.cells=[x]
def da(E:Env):Nat->Nat->List DV->Prop
 |0,_,_=>False
 |n+1,t,ds=>match gz E t with
  | .bool=>∃ b,ds=[.bool b]
  | .int k=>∃ m,ds=[.int k m]/\(Lit.int k m).wf=true
  | .string=>∃ l:List UInt8,ds=[.str l]/\l.length<=maxLen
  | .slice e=>∃ l:List DV,ds=[.sl l]/\l.length<=maxLen/\∀ x∈l,da E n e x.cells/\kj (gz E e) x
  | .struct fs=>ds.length=dg E t/\∀ p∈fs,da E n p.2 ((ds.drop p.1).take (dg E p.2))
  |_=>False
def rG(E:Env):Nat->List (Nat × Nat)->Nat->Bool
 |o,[],n=>Nat.beq o n
 |o,p::l,n=>Nat.beq p.1 o&&rG E (o+dg E p.2) l n
def pX(E:Env):Nat->Nat->Bool
 |0,_=>false
 |m+1,t=>match eu E.T t with
  |none=>false
  |some i=>match i.k with
   | .bool=>Nat.beq i.size 1
   | .int _=>Nat.beq i.size 1
   | .string=>Nat.beq i.size 1
   | .slice e=>Nat.beq i.size 1&&Nat.blt 0 (dg E e)&&pX E m e
   | .struct fs=>rG E 0 fs i.size&&fs.all fun p=>pX E m p.2
   |_=>false
theorem Ac{E:Env}(hE:E.OK){t:Nat}{i:bD}(hi:E.T[t]?=some i):dg E t=E.P.cellsOf t:=by
 obtain⟨ti,d,g1,g2,g3,g4,-⟩:=cM (hE.types t i hi);simp[dg,gg,hi,Program.cellsOf,g1,g4]
theorem MQ{E:Env}{m t:Nat}(h:pX E m t=true):∃ i,E.T[t]?=some i:=by
 cases m with
 |zero=>cases h
 |succ m =>
  unfold pX at h;split at h
  ·cases h
  ·rename_i i hi;rw[gg]at hi;exact⟨i,hi⟩
theorem MR{E:Env}(hE:E.OK){m t:Nat}(h:pX E m t=true):dg E t=E.P.cellsOf t:=by
 obtain⟨i,hi⟩:=MQ h;exact Ac hE hi
theorem jY.Vu{bad:Nat->Prop}{w:World}{a b:List DV}{u v:List Value}(h1:jY bad w a u)(h2:jY bad w b v):jY bad w (a++b) (u++v):=by
 refine⟨by simp[h1.1,h2.1],fun j x y hx hy=>?_⟩;rcases Nat.lt_or_ge j a.length with hj|hj
 ·rw[List.getElem?_append_left hj]at hx;rw[List.getElem?_append_left (by rw[<- h1.1];exact hj)]at hy;exact h1.2 j x y hx hy
 ·rw[List.getElem?_append_right hj]at hx;rw[List.getElem?_append_right (by rw[<- h1.1];exact hj),<- h1.1]at hy;exact h2.2 _ x y hx hy
section
variable {E:Env} {H:Type} {enc:TypeId × Value->H} {w:World} {held:Bool}
theorem MS{n:Nat}{cs:List Value}:∀ {fs:List (Nat × Nat)} {o tot:Nat},rG E o fs tot=true->cs.length=tot->o<=tot ->
  (∀ p∈fs,∃ ds,da E n p.2 ds/\jY (fun _=>False) w ds ((cs.drop p.1).take (dg E p.2))/\∀ v∈(cs.drop p.1).take (dg E p.2),v.oneCell'=true) ->
  (∀ p∈fs,p.1+dg E p.2<=tot) ->
  ∃ ds,ds.length=tot-o/\jY (fun _=>False) w ds (cs.drop o)/\(∀ v∈cs.drop o,v.oneCell'=true)/\∀ p∈fs,o<=p.1/\da E n p.2 ((ds.drop (p.1-o)).take (dg E p.2))
 |[],o,tot,h,hl,ho,_,_=>by
  obtain rfl:o=tot:=Nat.eq_of_beq_eq_true h;rw[List.drop_of_length_le (by omega)];exact⟨[],by simp,⟨rfl,fun j x v hx=>by simp at hx⟩,fun v hv=>by simp at hv,fun p hp=>by simp at hp⟩
 |p::fs,o,tot,h,hl,ho,hf,hb=>by
  simp only[rG,Bool.and_eq_true]at h;obtain⟨h1,h2⟩:=h;have h1:=Nat.eq_of_beq_eq_true h1;have hle:=hb p (List.mem_cons_self ..);rw[h1]at hle;obtain⟨d1,k1,k2,k3⟩:=hf p (List.mem_cons_self ..);rw[h1]at k2 k3;obtain⟨d2,q1,q2,q3,q4⟩:=MS h2 hl hle (fun p hp=>hf p (List.mem_cons_of_mem _ hp)) (fun p hp=>hb p (List.mem_cons_of_mem _ hp));have jb:d1.length=dg E p.2:=by rw[k2.1];simp;omega
  have CH:cs.drop o=(cs.drop o).take (dg E p.2)++cs.drop (o+dg E p.2):=by
   rw[<- List.drop_drop,List.take_append_drop]
  refine⟨d1++d2,by simp[jb,q1];omega,by rw[CH];exact k2.Vu q2,fun v hv=>?_,fun p' hp=>?_⟩
  ·rw[CH]at hv;rcases List.mem_append.1 hv with hv|hv
   ·exact k3 v hv
   ·exact q3 v hv
  ·rcases List.mem_cons.1 hp with rfl|hp
   ·refine⟨by omega,?_⟩;rw[h1,Nat.sub_self,List.drop_zero,List.take_append_of_le_length (by omega),List.take_of_length_le (by omega)];exact k1
   ·obtain⟨r1,r2⟩:=q4 p' hp;refine⟨by omega,?_⟩;rw[List.drop_append,List.drop_of_length_le (by omega),List.nil_append,show p'.1-o-d1.length=p'.1-(o+dg E p.2) by omega];exact r2
theorem G4:∀ {fs:List (Nat × Nat)} {o tot:Nat},rG E o fs tot=true->o<=tot/\∀ p∈fs,p.1+dg E p.2<=tot
 |[],o,tot,h=>⟨Nat.le_of_eq (Nat.eq_of_beq_eq_true h),fun p hp=>by simp at hp⟩
 |p::fs,o,tot,h=>by
  simp only[rG,Bool.and_eq_true]at h;obtain⟨h1,h2⟩:=h;have h1:=Nat.eq_of_beq_eq_true h1;obtain⟨k1,k2⟩:=G4 h2;refine⟨by omega,fun p' hp=>?_⟩;rcases List.mem_cons.1 hp with rfl|hp
  ·omega
  ·exact k2 p' hp
theorem Vv(hE:E.OK):∀ (fuel m t:Nat) (cs:List Value) (x:DataW H × List MemPlace),pX E m t=true->DataW.trod enc E.P w 0 (fun _=>true) held fuel t cs=some x ->
  ∃ ds,da E fuel t ds/\jY (fun _=>False) w ds cs/\∀ v∈cs,v.oneCell'=true:=by
 intro fuel
 induction fuel with
 |zero=>intro m t cs x _ h;simp[DataW.trod]at h
 |succ fuel ih =>
  intro m t cs x aO h;cases m with
  |zero=>cases aO
  |succ m =>
   unfold pX at aO;split at aO
   ·cases aO
   rename_i i hi;have hk:gz E t=i.k:=by simp[gz,hi]
   have bT:dg E t=i.size:=by simp[dg,hi]
   rw[gg]at hi;obtain⟨ti,d,g1,g2,g3,g4,-⟩:=cM (hE.types t i hi);have one:∀ {y:DV} {v:Value},VD (fun _=>False) w y v->v.oneCell'=true->cs=[v]->jY (fun _=>False) w [y] cs/\∀ v∈cs,v.oneCell'=true:=fun{y v} h1 h2 h3=>by
    subst h3;refine⟨⟨rfl,fun j x u hx hu=>?_⟩,fun u hu=>by simp at hu;subst hu;exact h2⟩;cases j with
    |zero=>simp at hx hu;subst hx;subst hu;exact h1
    |succ j=>simp at hx
   split at aO
   ·rename_i fV;have hd:d=.bool:=by rw[fV]at g3;cases d<;>first|rfl|cases g3
    subst hd;obtain⟨b,rfl,-⟩:=DataW.trod_bool g2 h;exact⟨[.bool b],by unfold da;rw[hk,fV];exact⟨b,rfl⟩,one (.bool b) rfl rfl⟩
   ·rename_i k fV;obtain rfl:=wz (fV.symm.trans g3);obtain⟨n,rfl,-,hw⟩:=DataW.trod_int g2 h;exact⟨[.int k n],by unfold da;rw[hk,fV];exact⟨n,rfl,hw⟩,one (.int k n) rfl rfl⟩
   ·rename_i fV;obtain rfl:=sx (fV.symm.trans g3);obtain⟨s,rfl,-,hl⟩:=DataW.trod_string g2 h;refine⟨[.str s.data.toList],?_,one (v := .string s) ?_ rfl rfl⟩
    ·unfold da;rw[hk,fV];exact⟨_,rfl,by rw[Array.length_toList];exact hl⟩
    ·have:=VD.str (bad:=fun _=>False) (w:=w) s.data.toList
     simpa using this
   ·rename_i e fV;obtain rfl:=lZ (fV.symm.trans g3);simp only[Bool.and_eq_true]at aO;obtain⟨⟨-,cD⟩,Ad⟩:=aO;have cD:=sD cD;have G5:=MR hE Ad;rcases DataW.trod_slice g2 h with⟨rfl,-⟩|⟨a,len,cap,elems,rest,n,hn,rfl,-,-,GA,CI,dN,G6,gh,-⟩
    ·exact⟨[.sl []],by unfold da;rw[hk,fV];exact⟨[],rfl,Nat.zero_le _,fun x hx=>by simp at hx⟩,one .slnil rfl rfl⟩
    cases hn;obtain⟨Vw,uF⟩:=gh rfl;rw[<- G5]at G6 uF;have spot:0<cap->a.spot=none:=fun hc=>by
     have dQ:∀ {q:Option (DataW H × List MemPlace)},(w.cells? 0 (a.add 0) (dg E e)).bind (DataW.trod enc E.P w 0 (fun _=>true) held fuel e)=q->q.isSome->a.spot=none:=fun{q} h1 h2=>by
      cases lv:w.cells? 0 (a.add 0) (dg E e)with
      |none=>rw[lv]at h1;subst h1;cases h2
      |some l =>
       obtain⟨-,hl,dQ⟩:=World.cells?_some lv;have:=dQ 0 cD;rw[List.getElem?_eq_getElem (by omega)]at this;cases hs:a.spot with
       |none=>rfl
       |some k =>
        have fW:((a.add 0).add 0).spot.isSome=true:=by simp[Addr.add,hs]
        simp only[World.cell?,fW,if_true]at this;split at this<;>cases this
     by_cases h0:0<len
     ·have:=G6 0 h0;rw[Nat.zero_mul]at this;exact dQ this (by simp[dN,h0])
     ·obtain rfl:len=0:=by omega
      have:=uF 0 (by omega);rw[Nat.zero_add,Nat.zero_mul]at this;exact dQ this (by simp[Vw];omega)
    by_cases rD:cap=0
    ·subst rD;obtain rfl:len=0:=by omega
     exact⟨[.sl []],by unfold da;rw[hk,fV];exact⟨[],rfl,Nat.zero_le _,fun x hx=>by simp at hx⟩,one (.lg a) rfl rfl⟩
    have Vx:=spot (by omega);obtain⟨blk,off,sp⟩:=a;cases Vx;have key:∀ i,∃ x:DV,i<len->da E fuel e x.cells/\kj (gz E e) x/\x.cells.length=dg E e/\∀ (j:Nat) (y:DV),x.cells[j]?=some y->∃ v,w.cell? ⟨blk,off+(i*dg E e+j),none⟩=some v/\v.oneCell'=true/\VD (fun _=>False) w y v:=fun i=>by
     by_cases hi:i<len
     case neg=>exact⟨.undef,fun h=>absurd h hi⟩
     have he:=G6 i hi;cases lv:w.cells? 0 ((⟨blk,off,none⟩:Addr).add (i*dg E e)) (dg E e)with
     |none=>rw[lv]at he;simp[dN,hi]at he
     |some l =>
      rw[lv]at he;obtain⟨-,hl,dQ⟩:=World.cells?_some lv;have wM:DataW.trod enc E.P w 0 (fun _=>true) held fuel e l=some (elems[i]'(by omega)):=by
       rw[<- List.getElem?_eq_getElem (by omega)];exact he
      obtain⟨ds,k1,k2,k3⟩:=ih m e l _ Ad wM;have s8:ds.length=dg E e:=by rw[k2.1,hl]
      have MT:∀ (j:Nat) (y:DV),ds[j]?=some y->∃ v,w.cell? ⟨blk,off+(i*dg E e+j),none⟩=some v/\v.oneCell'=true/\VD (fun _=>False) w y v:=fun j y hy=>by
       have hj:=a7 hy;have mK:j<l.length:=by rw[<- k2.1];exact hj
       have:=dQ j (by omega);rw[List.getElem?_eq_getElem mK]at this;refine⟨l[j],?_,k3 _ (List.getElem_mem mK),k2.2 j y _ hy (by simp[mK])⟩;rw[lj,lj,Nat.add_assoc]at this;exact this
      by_cases G7:∃ fs,gz E e=.struct fs
      ·obtain⟨fs,gR⟩:=G7;exact⟨.agg ds,fun _=>⟨k1,by rw[gR];exact⟨ds,rfl⟩,s8,MT⟩⟩
      ·obtain⟨y,hy,CW⟩:∃ y,ds=[y]/\y.cells=[y]:=by
        unfold da at k1;cases fuel with
        |zero=>exact k1.elim
        |succ fuel =>
         simp only at k1;split at k1
         ·obtain⟨b,rfl⟩:=k1;exact⟨_,rfl,rfl⟩
         ·obtain⟨b,rfl,-⟩:=k1;exact⟨_,rfl,rfl⟩
         ·obtain⟨b,rfl,-⟩:=k1;exact⟨_,rfl,rfl⟩
         ·obtain⟨b,rfl,-⟩:=k1;exact⟨_,rfl,rfl⟩
         ·rename_i fs gR;exact absurd ⟨fs,gR⟩ G7
         ·exact k1.elim
       subst hy;refine⟨y,fun _=>⟨by rw[CW];exact k1,?_,by rw[CW];exact s8,by rw[CW];exact MT⟩⟩;unfold kj;split
       ·rename_i fs gR;exact absurd ⟨fs,gR⟩ G7
       ·exact CW
    let g:Nat->DV:=fun i=>Classical.choose (key i)
    have hg:∀ i,i<len->da E fuel e (g i).cells/\kj (gz E e) (g i)/\(g i).cells.length=dg E e/\∀ (j:Nat) (y:DV),(g i).cells[j]?=some y->∃ v,w.cell? ⟨blk,off+(i*dg E e+j),none⟩=some v/\v.oneCell'=true/\VD (fun _=>False) w y v:=fun i=>Classical.choose_spec (key i);have fa:∀ (i:Nat) (y:DV),((List.range len).map g)[i]?=some y->i<len/\y=g i:=fun i y hy=>by
     have hi:i<len:=by have:=a7 hy;simpa using this
     simp[hi]at hy;exact⟨hi,hy.symm⟩
    refine⟨[.sl ((List.range len).map g)],?_,one (v := .slice (some ⟨blk,off,none⟩) len cap) ?_ rfl rfl⟩
    ·unfold da;rw[hk,fV];refine⟨_,rfl,by simp;omega,fun x hx=>?_⟩;obtain⟨i,hi⟩:=List.getElem?_of_mem hx;obtain⟨h1,rfl⟩:=fa i x hi;exact⟨(hg i h1).1,(hg i h1).2.1⟩
    ·have:=VD.sl (bad:=fun _=>False) (w:=w) ((List.range len).map g) blk off cap (dg E e) (fun i j=>(w.cell? ⟨blk,off+(i*dg E e+j),none⟩).getD undef) (fun _ h=>h) cD (by simpa using GA)
      (fun i y hy=>by obtain⟨h1,rfl⟩:=fa i y hy;exact(hg i h1).2.2.1)
      (fun i j y z hy hz=>by obtain⟨h1,rfl⟩:=fa i y hy;obtain⟨v,q1,q2,q3⟩:=(hg i h1).2.2.2 j z hz;rw[q1];rfl)
      (fun i j y z hy hz=>by obtain⟨h1,rfl⟩:=fa i y hy;obtain⟨v,q1,q2,q3⟩:=(hg i h1).2.2.2 j z hz;rw[q1];exact q3)
      (fun i j y z hy hz=>by obtain⟨h1,rfl⟩:=fa i y hy;obtain⟨v,q1,q2,q3⟩:=(hg i h1).2.2.2 j z hz;rw[q1];exact q2)
     simpa using this
   ·rename_i fs fV;obtain⟨fl,rfl,rfl⟩:=ou (fV.symm.trans g3);simp only[Bool.and_eq_true]at aO;obtain⟨CX,aX⟩:=aO;obtain⟨xs,n,hn,-,hlen,iT,hf⟩:=DataW.trod_struct g2 h;cases hn;rw[<- Ac hE hi,bT]at hlen;obtain⟨-,hle⟩:=G4 CX
    obtain⟨ds,r1,r2,r3,r4⟩:=MS (n:=fuel) (w:=w) (cs:=cs) CX hlen (Nat.zero_le _) (fun p hp=>by
     obtain⟨f,qP,rfl⟩:=List.mem_map.1 hp;have Ae:=List.all_eq_true.1 aX _ hp;obtain⟨i',cT⟩:=List.getElem?_of_mem qP;have adw:fl.toList.toArray[i']?=some f:=by simpa using cT
     have:=hf i' f (by simpa using cT);have ai:i'<xs.length:=by rw[iT];have:=a7 cT;simpa using this
     rw[List.getElem?_eq_getElem ai]at this;obtain⟨ds,k1,k2,k3⟩:=ih m f.type _ _ Ae this;rw[<- MR hE Ae]at k2 k3
     exact⟨ds,k1,k2,k3⟩) hle
    rw[List.drop_zero]at r2 r3;refine⟨ds,?_,r2,r3⟩;unfold da;rw[hk,fV];exact⟨by rw[r1,bT];rfl,fun p hp=>(r4 p hp).2⟩
   ·cases aO
end
end Go.aA
end
section
namespace Go.aA
open Go Go.RowKit
variable {E:Env} {n t:Nat} {ds:List DV}
theorem xx(hk:gz E t=.string)(h:da E n t ds):∃ l:List UInt8,ds=[.str l]/\l.length<=maxLen:=by
 cases n with
 |zero=>exact h.elim
 |succ n=>unfold da at h;rw[hk]at h;exact h
theorem na{k:IntKind}(hk:gz E t=.int k)(h:da E n t ds):∃ m,ds=[.int k m]/\(Lit.int k m).wf=true:=by
 cases n with
 |zero=>exact h.elim
 |succ n=>unfold da at h;rw[hk]at h;exact h
theorem xy{e:Nat}(hk:gz E t=.slice e)(h:da E n t ds):∃ l:List DV,ds=[.sl l]/\l.length<=maxLen/\∀ x∈l,(∃ m,da E m e x.cells)/\kj (gz E e) x:=by
 cases n with
 |zero=>exact h.elim
 |succ n =>
  unfold da at h;rw[hk]at h;obtain⟨l,h1,h2,h3⟩:=h;exact⟨l,h1,h2,fun x hx=>⟨⟨n,(h3 x hx).1⟩,(h3 x hx).2⟩⟩
theorem s9{fs:List (Nat × Nat)}(hk:gz E t=.struct fs)(h:da E n t ds):∃ m,ds.length=dg E t/\∀ p∈fs,da E m p.2 ((ds.drop p.1).take (dg E p.2)):=by
 cases n with
 |zero=>exact h.elim
 |succ n=>unfold da at h;rw[hk]at h;exact⟨n,h⟩
theorem vx{α:Type}{e:Nat}{en:α->DV}{good:α->Prop}(hd:∀ x:DV,(∃ m,da E m e x.cells)->kj (gz E e) x->∃ a,x=en a/\good a):∀ {l:List DV},(∀ x∈l,(∃ m,da E m e x.cells)/\kj (gz E e) x)->∃ l':List α,l=l'.map en/\∀ a∈l',good a
 |[],_=>⟨[],rfl,fun a ha=>by simp at ha⟩
 |x::l,h=>by
  obtain⟨a,rfl,ha⟩:=hd x (h x (List.mem_cons_self ..)).1 (h x (List.mem_cons_self ..)).2;obtain⟨l',rfl,has⟩:=vx hd (fun y hy=>h y (List.mem_cons_of_mem _ hy));refine⟨a::l',rfl,fun b hb=>?_⟩;rcases List.mem_cons.1 hb with rfl|hb
  ·exact ha
  ·exact has b hb
def G8(E:Env)(t:Nat)(x:DV):Prop:=(∃ m,da E m t x.cells)/\kj (gz E t) x
theorem Vy(hE:E.OK){H:Type}{enc:TypeId × Value->H}{W:World}{base m:Nat}{v:Value}{d:DataW H}{p:List MemPlace}{held:Bool}(aO:pX E m t=true)(hv:Value.okWide E.P W .any base t v)(h:DataW.Trod enc E.P W 0 (fun _=>true) held t v d p):∃ x,VD (fun _=>False) W x v/\G8 E t x:=by
 obtain⟨fuel,h⟩:=h;obtain⟨ds,h1,h2,h3⟩:=Vv hE fuel m t _ _ aO h;obtain⟨i,hi⟩:=MQ aO;obtain⟨ti,dd,g1,g2,g3,g4,-⟩:=cM (hE.types t i hi);have hk:gz E t=tk dd:=by simp[gz,gg,hi,g3]
 by_cases hs:∃ fs,dd=.struct fs
 ·obtain⟨fs,rfl⟩:=hs;simp only[Value.okWide,g2]at hv;obtain⟨cs,rfl,-,-⟩:=hv;refine⟨.agg ds,.agg ds cs (by simpa [Value.cells]using h2.1) (fun j x v hx hv=>h2.2 j x v hx (by simpa [Value.cells]using hv)),⟨fuel,h1⟩,?_⟩;rw[hk];exact⟨ds,rfl⟩
 ·have cj:∃ y,ds=[y]/\y.cells=[y]:=by
   cases fuel with
   |zero=>exact h1.elim
   |succ fuel =>
    unfold da at h1;split at h1
    ·obtain⟨b,rfl⟩:=h1;exact⟨_,rfl,rfl⟩
    ·obtain⟨b,rfl,-⟩:=h1;exact⟨_,rfl,rfl⟩
    ·obtain⟨b,rfl,-⟩:=h1;exact⟨_,rfl,rfl⟩
    ·obtain⟨b,rfl,-⟩:=h1;exact⟨_,rfl,rfl⟩
    ·rename_i fs gR;rw[hk]at gR;exact absurd (by cases dd<;>first|exact⟨_,rfl⟩|(cases gR;done)) hs
    ·exact h1.elim
  obtain⟨y,rfl,hy⟩:=cj;have fp:∀ cs,v ≠ .agg cs:=fun cs e=>by
   subst e;have Vz:∀ n e',dd ≠ .array n e':=fun n e' e=>by
    subst e;cases fuel with
    |zero=>exact h1.elim
    |succ fuel=>unfold da at h1;rw[hk]at h1;exact h1
   unfold Value.okWide at hv;rw[g2]at hv;cases dd<;>first
    |exact absurd ⟨_,rfl⟩ hs
    |exact absurd rfl (Vz _ _)
    |(simp[Cell.okWide,Cell.ok,g2]at hv;done)
  have VA:v.cells.toList=[v]:=by
   cases v<;>first|rfl|exact absurd rfl (fp _)
  rw[VA]at h2;refine⟨y,h2.2 0 y v rfl rfl,⟨fuel,by rw[hy];exact h1⟩,?_⟩;unfold kj;split
  ·rename_i fs gR;rw[hk]at gR;exact absurd (by cases dd<;>first|exact⟨_,rfl⟩|(cases gR;done)) hs
  ·exact hy
def vy(E:Env):List Nat->List DV->Prop
 |[],xs=>xs=[]
 |t::ts,x::xs=>G8 E t x/\vy E ts xs
 |_::_,[]=>False
theorem MU(hE:E.OK){H:Type}{enc:TypeId × Value->H}{W:World}{base m:Nat}{held:Bool}:∀ {ts:List Nat} {vs:List Value} {ds:List (DataW H)} {ps:List MemPlace},ts.all (pX E m)=true ->
  (∀ (j:Nat) t v,ts[j]?=some t->vs[j]?=some v->Value.okWide E.P W .any base t v)->DataW.TrodAll enc E.P W 0 (fun _=>true) held ts vs ds ps->∃ xs,jY (fun _=>False) W xs vs/\vy E ts xs
 |[],vs,ds,ps,_,_,h=>by
  obtain⟨rfl,-,-⟩:=ChangeShapes.trodAll_nil h;exact⟨[],⟨rfl,fun j x v hx=>by simp at hx⟩,rfl⟩
 |t::ts,vs,ds,ps,aO,hv,h=>by
  obtain⟨v,MV,d,MW,p,q,rfl,rfl,rfl,h1,h2⟩:=ChangeShapes.trodAll_cons h;simp only[List.all_cons,Bool.and_eq_true]at aO;obtain⟨x,k1,k2⟩:=Vy hE aO.1 (hv 0 t v rfl rfl) h1;obtain⟨xs,q1,q2⟩:=MU hE aO.2 (fun j t v ht ir=>hv (j+1) t v (by simpa using ht) (by simpa using ir)) h2;refine⟨x::xs,⟨by simp[q1.1],fun j y u hy hu=>?_⟩,k2,q2⟩;cases j with
  |zero=>simp at hy hu;subst hy;subst hu;exact k1
  |succ j=>exact q1.2 j y u (by simpa using hy) (by simpa using hu)
end Go.aA
end
section
namespace Go.Proofs.YtcmnpelmmekdkaaGreatDoor.P
open Go Go.aA
set_option maxRecDepth 100000
def Gx(n:Int):Prop:=0<=n/\n<=18446744073709551615
theorem nV{n:Int}(h:(Lit.int .i64 n).wf=true):jE n:=by
 simp[Lit.wf,IntKind.min,IntKind.max,IntKind.signed,IntKind.bits]at h;exact h
theorem VB{n:Int}(h:(Lit.int .u64 n).wf=true):Gx n:=by
 simp[Lit.wf,IntKind.min,IntKind.max,IntKind.signed,IntKind.bits]at h;exact h
theorem VC{x:DV}(h:∃ m,da E m 3 x.cells)(he:kj (gz E 3) x):∃ n:Int,x=.int .i64 n/\jE n:=by
 obtain⟨m,h⟩:=h;obtain⟨n,h1,h2⟩:=na (k := .i64) (by kernel_rfl) h;have he:x.cells=[x]:=he;rw[he]at h1;cases h1;exact⟨n,rfl,nV h2⟩
theorem VE{x:DV}(h:∃ m,da E m 9 x.cells)(he:kj (gz E 9) x):∃ n:Text,x=.str n/\n.length<=maxLen:=by
 obtain⟨m,h⟩:=h;obtain⟨n,h1,h2⟩:=xx (by kernel_rfl) h;have he:x.cells=[x]:=he;rw[he]at h1;cases h1;exact⟨n,rfl,h2⟩
def Datum.Good(a:Datum):Prop:=(a.text.length<=maxLen)/\(jE a.n)/\(jE a.m)
theorem VF{m:Nat}{ds:List DV}(h:da E m 59 ds):∃ a:Datum,DV.agg ds=a.enc/\a.Good:=by
 obtain⟨m,hl,hf⟩:=s9 (fs:=[(0,9),(1,3),(2,3)]) (by kernel_rfl) h;have hl:ds.length=3:=hl
 match ds,hl with
 |[x0,x1,x2],_ =>
  obtain⟨v0,e0,g0⟩:=xx (by kernel_rfl) (hf (0,9) (by simp));have e0:[x0]=[DV.str v0]:=e0;cases e0;obtain⟨v1,e1,g1⟩:=na (k := .i64) (by kernel_rfl) (hf (1,3) (by simp));have e1:[x1]=[DV.int .i64 v1]:=e1;cases e1;obtain⟨v2,e2,g2⟩:=na (k := .i64) (by kernel_rfl) (hf (2,3) (by simp));have e2:[x2]=[DV.int .i64 v2]:=e2;cases e2;exact⟨⟨v0,v1,v2⟩,rfl,⟨g0,nV g1,nV g2⟩⟩
theorem VG{x:DV}(h:∃ m,da E m 59 x.cells)(he:kj (gz E 59) x):∃ a:Datum,x=a.enc/\a.Good:=by
 obtain⟨m,h⟩:=h;obtain⟨cs,rfl⟩:∃ cs,x=.agg cs:=he;have h:da E m 59 cs:=h;exact VF h
def eM.Good(a:eM):Prop:=(a.name.length<=maxLen)/\(jE a.type)/\(jE a.jD)/\(a.data.length<=maxLen/\∀ x∈a.data,x.Good)
theorem MX{m:Nat}{ds:List DV}(h:da E m 26 ds):∃ a:eM,DV.agg ds=a.enc/\a.Good:=by
 obtain⟨m,hl,hf⟩:=s9 (fs:=[(0,9),(1,3),(2,3),(3,24)]) (by kernel_rfl) h;have hl:ds.length=4:=hl
 match ds,hl with
 |[x0,x1,x2,x3],_ =>
  obtain⟨v0,e0,g0⟩:=xx (by kernel_rfl) (hf (0,9) (by simp));have e0:[x0]=[DV.str v0]:=e0;cases e0;obtain⟨v1,e1,g1⟩:=na (k := .i64) (by kernel_rfl) (hf (1,3) (by simp));have e1:[x1]=[DV.int .i64 v1]:=e1;cases e1;obtain⟨v2,e2,g2⟩:=na (k := .i64) (by kernel_rfl) (hf (2,3) (by simp));have e2:[x2]=[DV.int .i64 v2]:=e2;cases e2;obtain⟨l3,e3,n3,g3⟩:=xy (e:=59) (by kernel_rfl) (hf (3,24) (by simp));have e3:[x3]=[DV.sl l3]:=e3;cases e3;obtain⟨v3,rfl,q3⟩:=vx (good:=Datum.Good) (fun x h1 h2=>VG h1 h2) g3;exact⟨⟨v0,v1,v2,v3⟩,rfl,⟨g0,nV g1,nV g2,⟨by simpa using n3,q3⟩⟩⟩
def iS.Good(a:iS):Prop:=(a.aC.length<=maxLen)/\(jE a.key)/\(jE a.pU)/\(jE a.ry)/\(jE a.upto)/\(Gx a.sum)
theorem VH{m:Nat}{ds:List DV}(h:da E m 210 ds):∃ a:iS,DV.agg ds=a.enc/\a.Good:=by
 obtain⟨m,hl,hf⟩:=s9 (fs:=[(0,9),(1,3),(2,3),(3,3),(4,3),(5,208)]) (by kernel_rfl) h;have hl:ds.length=6:=hl
 match ds,hl with
 |[x0,x1,x2,x3,x4,x5],_ =>
  obtain⟨v0,e0,g0⟩:=xx (by kernel_rfl) (hf (0,9) (by simp));have e0:[x0]=[DV.str v0]:=e0;cases e0;obtain⟨v1,e1,g1⟩:=na (k := .i64) (by kernel_rfl) (hf (1,3) (by simp));have e1:[x1]=[DV.int .i64 v1]:=e1;cases e1;obtain⟨v2,e2,g2⟩:=na (k := .i64) (by kernel_rfl) (hf (2,3) (by simp));have e2:[x2]=[DV.int .i64 v2]:=e2;cases e2;obtain⟨v3,e3,g3⟩:=na (k := .i64) (by kernel_rfl) (hf (3,3) (by simp));have e3:[x3]=[DV.int .i64 v3]:=e3;cases e3;obtain⟨v4,e4,g4⟩:=na (k := .i64) (by kernel_rfl) (hf (4,3) (by simp));have e4:[x4]=[DV.int .i64 v4]:=e4;cases e4;obtain⟨v5,e5,g5⟩:=na (k := .u64) (by kernel_rfl) (hf (5,208) (by simp));have e5:[x5]=[DV.int .u64 v5]:=e5;cases e5;exact⟨⟨v0,v1,v2,v3,v4,v5⟩,rfl,⟨g0,nV g1,nV g2,nV g3,nV g4,VB g5⟩⟩
theorem VI{x:DV}(h:∃ m,da E m 210 x.cells)(he:kj (gz E 210) x):∃ a:iS,x=a.enc/\a.Good:=by
 obtain⟨m,h⟩:=h;obtain⟨cs,rfl⟩:∃ cs,x=.agg cs:=he;have h:da E m 210 cs:=h;exact VH h
def Signed.Good(a:Signed):Prop:=(a.set.Good)/\(a.sigs.length<=maxLen/\∀ x∈a.sigs,x.Good)
theorem VJ{m:Nat}{ds:List DV}(h:da E m 57 ds):∃ a:Signed,DV.agg ds=a.enc/\a.Good:=by
 obtain⟨m,hl,hf⟩:=s9 (fs:=[(0,26),(4,55)]) (by kernel_rfl) h;have hl:ds.length=5:=hl
 match ds,hl with
 |[x0,x1,x2,x3,x4],_ =>
  obtain⟨v0,e0,g0⟩:=MX (hf (0,26) (by simp));have e0:DV.agg [x0,x1,x2,x3]=v0.enc:=e0;cases e0;obtain⟨l1,e1,n1,g1⟩:=xy (e:=210) (by kernel_rfl) (hf (4,55) (by simp));have e1:[x4]=[DV.sl l1]:=e1;cases e1;obtain⟨v1,rfl,q1⟩:=vx (good:=iS.Good) (fun x h1 h2=>VI h1 h2) g1;exact⟨⟨v0,v1⟩,rfl,⟨g0,⟨by simpa using n1,q1⟩⟩⟩
theorem VK{x:DV}(h:∃ m,da E m 57 x.cells)(he:kj (gz E 57) x):∃ a:Signed,x=a.enc/\a.Good:=by
 obtain⟨m,h⟩:=h;obtain⟨cs,rfl⟩:∃ cs,x=.agg cs:=he;have h:da E m 57 cs:=h;exact VJ h
def aQ.Good(a:aQ):Prop:=(a.ad.length<=maxLen)/\(a.ab.length<=maxLen/\∀ x∈a.ab,x.Good)
theorem VM{m:Nat}{ds:List DV}(h:da E m 50 ds):∃ a:aQ,DV.agg ds=a.enc/\a.Good:=by
 obtain⟨m,hl,hf⟩:=s9 (fs:=[(0,9),(1,48)]) (by kernel_rfl) h;have hl:ds.length=2:=hl
 match ds,hl with
 |[x0,x1],_ =>
  obtain⟨v0,e0,g0⟩:=xx (by kernel_rfl) (hf (0,9) (by simp));have e0:[x0]=[DV.str v0]:=e0;cases e0;obtain⟨l1,e1,n1,g1⟩:=xy (e:=57) (by kernel_rfl) (hf (1,48) (by simp));have e1:[x1]=[DV.sl l1]:=e1;cases e1;obtain⟨v1,rfl,q1⟩:=vx (good:=Signed.Good) (fun x h1 h2=>VK h1 h2) g1;exact⟨⟨v0,v1⟩,rfl,⟨g0,⟨by simpa using n1,q1⟩⟩⟩
structure Host where
 name:Text
 addr:Int
 owner:Int
 deriving DecidableEq
@[reducible] def Host.enc (a : Host) : DV := .agg [.str a.name, .int .i64 a.addr, .int .i64 a.owner]
def Host.Good(a:Host):Prop:=(a.name.length<=maxLen)/\(jE a.addr)/\(jE a.owner)
theorem VN{m:Nat}{ds:List DV}(h:da E m 69 ds):∃ a:Host,DV.agg ds=a.enc/\a.Good:=by
 obtain⟨m,hl,hf⟩:=s9 (fs:=[(0,9),(1,3),(2,3)]) (by kernel_rfl) h;have hl:ds.length=3:=hl
 match ds,hl with
 |[x0,x1,x2],_ =>
  obtain⟨v0,e0,g0⟩:=xx (by kernel_rfl) (hf (0,9) (by simp));have e0:[x0]=[DV.str v0]:=e0;cases e0;obtain⟨v1,e1,g1⟩:=na (k := .i64) (by kernel_rfl) (hf (1,3) (by simp));have e1:[x1]=[DV.int .i64 v1]:=e1;cases e1;obtain⟨v2,e2,g2⟩:=na (k := .i64) (by kernel_rfl) (hf (2,3) (by simp));have e2:[x2]=[DV.int .i64 v2]:=e2;cases e2;exact⟨⟨v0,v1,v2⟩,rfl,⟨g0,nV g1,nV g2⟩⟩
theorem VO{x:DV}(h:∃ m,da E m 69 x.cells)(he:kj (gz E 69) x):∃ a:Host,x=a.enc/\a.Good:=by
 obtain⟨m,h⟩:=h;obtain⟨cs,rfl⟩:∃ cs,x=.agg cs:=he;have h:da E m 69 cs:=h;exact VN h
structure aH where
 host:Int
 aC:aQ
 deriving DecidableEq
@[reducible] def aH.enc (a : aH) : DV := .agg [.int .i64 a.host, .str a.aC.ad, .sl (a.aC.ab.map Signed.enc)]
def aH.Good(a:aH):Prop:=(jE a.host)/\(a.aC.Good)
theorem VP{m:Nat}{ds:List DV}(h:da E m 52 ds):∃ a:aH,DV.agg ds=a.enc/\a.Good:=by
 obtain⟨m,hl,hf⟩:=s9 (fs:=[(0,3),(1,50)]) (by kernel_rfl) h;have hl:ds.length=3:=hl
 match ds,hl with
 |[x0,x1,x2],_ =>
  obtain⟨v0,e0,g0⟩:=na (k := .i64) (by kernel_rfl) (hf (0,3) (by simp));have e0:[x0]=[DV.int .i64 v0]:=e0;cases e0;obtain⟨v1,e1,g1⟩:=VM (hf (1,50) (by simp));have e1:DV.agg [x1,x2]=v1.enc:=e1;cases e1;exact⟨⟨v0,v1⟩,rfl,⟨nV g0,g1⟩⟩
theorem VQ{x:DV}(h:∃ m,da E m 52 x.cells)(he:kj (gz E 52) x):∃ a:aH,x=a.enc/\a.Good:=by
 obtain⟨m,h⟩:=h;obtain⟨cs,rfl⟩:∃ cs,x=.agg cs:=he;have h:da E m 52 cs:=h;exact VP h
structure cR where
 cC:List Host
 au:List aH
 anchor:eM
 hints:List Int
 deriving DecidableEq
@[reducible] def cR.enc (a : cR) : DV := .agg [.sl (a.cC.map Host.enc), .sl (a.au.map aH.enc), .str a.anchor.name, .int .i64 a.anchor.type, .int .i64 a.anchor.jD, .sl (a.anchor.data.map Datum.enc), .sl (a.hints.map (.int .i64))]
def cR.Good(a:cR):Prop:=(a.cC.length<=maxLen/\∀ x∈a.cC,x.Good)/\(a.au.length<=maxLen/\∀ x∈a.au,x.Good)/\(a.anchor.Good)/\(a.hints.length<=maxLen/\∀ x∈a.hints,jE x)
theorem VT{m:Nat}{ds:List DV}(h:da E m 29 ds):∃ a:cR,DV.agg ds=a.enc/\a.Good:=by
 obtain⟨m,hl,hf⟩:=s9 (fs:=[(0,22),(1,23),(2,26),(6,27)]) (by kernel_rfl) h;have hl:ds.length=7:=hl
 match ds,hl with
 |[x0,x1,x2,x3,x4,x5,x6],_ =>
  obtain⟨l0,e0,n0,g0⟩:=xy (e:=69) (by kernel_rfl) (hf (0,22) (by simp));have e0:[x0]=[DV.sl l0]:=e0;cases e0;obtain⟨v0,rfl,q0⟩:=vx (good:=Host.Good) (fun x h1 h2=>VO h1 h2) g0;obtain⟨l1,e1,n1,g1⟩:=xy (e:=52) (by kernel_rfl) (hf (1,23) (by simp));have e1:[x1]=[DV.sl l1]:=e1;cases e1;obtain⟨v1,rfl,q1⟩:=vx (good:=aH.Good) (fun x h1 h2=>VQ h1 h2) g1;obtain⟨v2,e2,g2⟩:=MX (hf (2,26) (by simp));have e2:DV.agg [x2,x3,x4,x5]=v2.enc:=e2;cases e2;obtain⟨l3,e3,n3,g3⟩:=xy (e:=3) (by kernel_rfl) (hf (6,27) (by simp));have e3:[x6]=[DV.sl l3]:=e3;cases e3;obtain⟨v3,rfl,q3⟩:=vx (good:=jE) (fun x h1 h2=>VC h1 h2) g3;exact⟨⟨v0,v1,v2,v3⟩,rfl,⟨⟨by simpa using n0,q0⟩,⟨by simpa using n1,q1⟩,g2,⟨by simpa using n3,q3⟩⟩⟩
theorem VU{x:DV}(h:∃ m,da E m 29 x.cells)(he:kj (gz E 29) x):∃ a:cR,x=a.enc/\a.Good:=by
 obtain⟨m,h⟩:=h;obtain⟨cs,rfl⟩:∃ cs,x=.agg cs:=he;have h:da E m 29 cs:=h;exact VT h
structure Question where
 name:Text
 type:Int
 deriving DecidableEq
@[reducible] def Question.enc (a : Question) : DV := .agg [.str a.name, .int .i64 a.type]
def Question.Good(a:Question):Prop:=(a.name.length<=maxLen)/\(jE a.type)
structure Answer where
 kind:Int
 ab:List Signed
 cut:Text
 deriving DecidableEq
@[reducible] def Answer.enc (a : Answer) : DV := .agg [.int .i64 a.kind, .sl (a.ab.map Signed.enc), .str a.cut]
def Answer.Good(a:Answer):Prop:=(jE a.kind)/\(a.ab.length<=maxLen/\∀ x∈a.ab,x.Good)/\(a.cut.length<=maxLen)
end Go.Proofs.YtcmnpelmmekdkaaGreatDoor.P
end
section
namespace Go.aA
open Go Go.RowKit
def kR{H:Type}:Nat->DataW H->Option (List Value)
 |0,_=>none
 |_+1,.lit (.int k n)=>some [.int k n]
 |_+1,.lit (.bool b)=>some [.bool b]
 |_+1,.lit (.string s)=>some [.string ⟨s.toArray⟩]
 |n+1,.agg ps=>(ps.mapM (kR n)).map List.flatten
 |_+1,_=>none
def rH(E:Env):Nat->Nat->Bool
 |0,_=>false
 |m+1,t=>match eu E.T t with
  |none=>false
  |some i=>match i.k with
   | .bool=>Nat.beq i.size 1
   | .int _=>Nat.beq i.size 1
   | .string=>Nat.beq i.size 1
   | .array n e=>Nat.beq i.size (n*dg E e)&&rH E m e
   | .struct fs=>rG E 0 fs i.size&&fs.all fun p=>rH E m p.2
   |_=>false
theorem VV{E:Env}{m t:Nat}(h:rH E m t=true):∃ i,E.T[t]?=some i:=by
 cases m with
 |zero=>cases h
 |succ m =>
  unfold rH at h;split at h
  ·cases h
  ·rename_i i hi;rw[gg]at hi;exact⟨i,hi⟩
theorem MY{E:Env}(hE:E.OK){m t:Nat}(h:rH E m t=true):dg E t=E.P.cellsOf t:=by
 obtain⟨i,hi⟩:=VV h;exact Ac hE hi
section
variable {H:Type}
theorem G9{n:Nat}{cs:List Value}:∀ {L:List (Nat × Nat)} {xs:List (DataW H × List MemPlace)} {o tot:Nat},xs.length=L.length->cs.length=tot ->
  (∀ (i:Nat) (p:Nat × Nat),L[i]?=some p->p.1=o+((L.take i).map (·.2)).sum/\p.1+p.2<=tot)->o+(L.map (·.2)).sum=tot ->
  (∀ (i:Nat) (p:Nat × Nat) (y:DataW H × List MemPlace),L[i]?=some p->xs[i]?=some y->kR n y.1=some ((cs.drop p.1).take p.2)) ->
  ∃ ls,(xs.map (·.1)).mapM (kR n)=some ls/\ls.flatten=cs.drop o
 |[],[],o,tot,_,hc,_,hs,_=>⟨[],rfl,by rw[List.drop_of_length_le (by simp at hs;omega)];rfl⟩
 |p::L,y::xs,o,tot,hl,hc,ho,hs,hx=>by
  have h0:=ho 0 p rfl;simp at h0;have hy:=hx 0 p y rfl rfl;simp only[List.map_cons,List.sum_cons]at hs
  obtain⟨ls,k1,k2⟩:=G9 (n:=n) (cs:=cs) (L:=L) (xs:=xs) (o:=o+p.2) (tot:=tot) (by simpa using hl) hc (fun i q hq=>by
   have:=ho (i+1) q (by simpa using hq);simp only[List.take_succ_cons,List.map_cons,List.sum_cons]at this
   omega) (by omega) (fun i q z hq hz=>hx (i+1) q z (by simpa using hq) (by simpa using hz))
  refine⟨(cs.drop p.1).take p.2::ls,?_,?_⟩
  ·simp only[List.map_cons,List.mapM_cons,hy,k1];rfl
  ·rw[List.flatten_cons,k2,h0.1,<- List.drop_drop,List.take_append_drop]
 |[],_::_,_,_,h,_,_,_,_=>by simp at h
 |_::_,[],_,_,h,_,_,_,_=>by simp at h
variable {E:Env} {enc:TypeId × Value->H} {w:World} {held:Bool} {sp:Nat->Bool}
theorem MZ:∀ {fs:List (Nat × Nat)} {o tot:Nat},rG E o fs tot=true->o+((fs.map fun p=>(p.1,dg E p.2)).map (·.2)).sum=tot /\
  ∀ (i:Nat) (p:Nat × Nat),(fs.map fun p=>(p.1,dg E p.2))[i]?=some p->p.1=o+(((fs.map fun p=>(p.1,dg E p.2)).take i).map (·.2)).sum/\p.1+p.2<=tot
 |[],o,tot,h=>⟨by simpa using Nat.eq_of_beq_eq_true h,fun i p hp=>by simp at hp⟩
 |q::fs,o,tot,h=>by
  have hle:=(G4 h).2 q (List.mem_cons_self ..);simp only[rG,Bool.and_eq_true]at h;obtain⟨h1,h2⟩:=h;have h1:=Nat.eq_of_beq_eq_true h1;obtain⟨k1,k2⟩:=MZ h2;refine⟨by simp only[List.map_cons,List.sum_cons];omega,fun i p hp=>?_⟩;cases i with
  |zero=>simp at hp;subst hp;simp;omega
  |succ i =>
   have:=k2 i p (by simpa using hp);simp only[List.map_cons,List.take_succ_cons,List.sum_cons];omega
theorem VW(hE:E.OK):∀ (fuel m t:Nat) (cs:List Value) (x:DataW H × List MemPlace),rH E m t=true->DataW.trod enc E.P w 0 sp held fuel t cs=some x->kR fuel x.1=some cs:=by
 intro fuel
 induction fuel with
 |zero=>intro m t cs x _ h;simp[DataW.trod]at h
 |succ fuel ih =>
  intro m t cs x aO h;cases m with
  |zero=>cases aO
  |succ m =>
   unfold rH at aO;split at aO
   ·cases aO
   rename_i i hi;have bT:dg E t=i.size:=by simp[dg,hi]
   rw[gg]at hi;obtain⟨ti,d,g1,g2,g3,g4,-⟩:=cM (hE.types t i hi);split at aO
   ·rename_i fV;have hd:d=.bool:=by rw[fV]at g3;cases d<;>first|rfl|cases g3
    subst hd;obtain⟨b,rfl,rfl⟩:=DataW.trod_bool g2 h;rfl
   ·rename_i k fV;obtain rfl:=wz (fV.symm.trans g3);obtain⟨n,rfl,rfl,hw⟩:=DataW.trod_int g2 h;rfl
   ·rename_i fV;obtain rfl:=sx (fV.symm.trans g3);obtain⟨s,rfl,rfl,hl⟩:=DataW.trod_string g2 h;rfl
   ·rename_i n e fV;obtain rfl:=yF (fV.symm.trans g3);simp only[Bool.and_eq_true]at aO;obtain⟨hs,Ad⟩:=aO;have hs:=Nat.eq_of_beq_eq_true hs;obtain⟨xs,k,hk,rfl,hlen,iT,hf⟩:=DataW.trod_array g2 h;cases hk;have G5:=MY hE Ad;rw[<- Ac hE hi,bT,hs]at hlen;rw[<- G5]at hf;have hL:∀ (i:Nat) (p:Nat × Nat),((List.range n).map fun i=>(i*dg E e,dg E e))[i]?=some p->i<n/\p=(i*dg E e,dg E e):=fun i p hp=>by
     have hi:i<n:=by have:=a7 hp;simpa using this
     simp[hi]at hp;exact⟨hi,hp.symm⟩
    have M0:∀ k,(((List.range n).map fun i=>(i*dg E e,dg E e)).take k).map (·.2)=List.replicate (min k n) (dg E e):=fun k=>by
     apply List.ext_getElem
     ·simp
     ·intro j h1 h2;simp
    obtain⟨ls,k1,k2⟩:=G9 (n:=fuel) (cs:=cs) (L:=(List.range n).map fun i=>(i*dg E e,dg E e)) (xs:=xs) (o:=0) (tot:=n*dg E e) (by simp[iT]) hlen (fun i p hp=>by
     obtain⟨h1,rfl⟩:=hL i p hp;rw[M0,List.sum_replicate_nat,Nat.min_eq_left (by omega)];refine⟨by simp,?_⟩;have:(i+1)*dg E e<=n*dg E e:=Nat.mul_le_mul_right _ h1;rw[Nat.add_mul,Nat.one_mul]at this;exact this) (by
      have:=M0 n;rw[List.take_of_length_le (by simp)]at this;rw[this,List.sum_replicate_nat,Nat.min_self,Nat.zero_add]) (fun i p y hp hy=>by
     obtain⟨h1,rfl⟩:=hL i p hp;have:=hf i h1;rw[hy]at this
     exact ih m e _ _ Ad this)
    rw[List.drop_zero]at k2;simp only[kR,k1,Option.map_some,k2]
   ·rename_i fs fV;obtain⟨fl,rfl,rfl⟩:=ou (fV.symm.trans g3);simp only[Bool.and_eq_true]at aO;obtain⟨CX,aX⟩:=aO;obtain⟨xs,n,hn,rfl,hlen,iT,hf⟩:=DataW.trod_struct g2 h;cases hn;rw[<- Ac hE hi,bT]at hlen;obtain⟨s1,s2⟩:=MZ CX
    obtain⟨ls,k1,k2⟩:=G9 (n:=fuel) (cs:=cs) (xs:=xs) (by simp[iT]) hlen s2 s1 (fun i p y hp hy=>by
     simp only[List.map_map,List.getElem?_map,Option.map_eq_some_iff]at hp;obtain⟨f,jU,rfl⟩:=hp;have Ae:=List.all_eq_true.1 aX (f.offset,f.type) (List.mem_map.2 ⟨f,List.mem_of_getElem? jU,rfl⟩);have:=hf i f (by simpa using jU);rw[hy,<- MY hE Ae]at this
     exact ih m _ _ _ Ae this)
    rw[List.drop_zero]at k2;simp only[kR,k1,Option.map_some,k2]
   ·cases aO
end
def vz:List DV->List Value->Bool
 |[],[]=>true
 | .int k n::l,.int k' m::r=>IntKind.same k k'&&decide (n=m)&&vz l r
 | .bool a::l,.bool b::r=>(a==b)&&vz l r
 | .str a::l,.string b::r=>decide (b=⟨a.toArray⟩)&&vz l r
 |_,_=>false
theorem M3{bad:Nat->Prop}{w:World}:∀ {ds:List DV} {vs:List Value},vz ds vs=true->jY bad w ds vs
 |[],[],_=>⟨rfl,fun j x v hx=>by simp at hx⟩
 |d::ds,v::vs,h=>by
  have key:VD bad w d v/\vz ds vs=true:=by
   unfold vz at h;split at h
   ·rename_i e1 e2;cases e1
   ·rename_i e1 e2;cases e1;cases e2;simp only[Bool.and_eq_true,decide_eq_true_eq]at h;obtain⟨⟨h1,rfl⟩,h3⟩:=h;obtain rfl:=su h1;exact⟨.int _ _,h3⟩
   ·rename_i e1 e2;cases e1;cases e2;simp only[Bool.and_eq_true,beq_iff_eq]at h;obtain⟨rfl,h3⟩:=h;exact⟨.bool _,h3⟩
   ·rename_i e1 e2;cases e1;cases e2;simp only[Bool.and_eq_true,decide_eq_true_eq]at h;obtain⟨rfl,h3⟩:=h;exact⟨.str _,h3⟩
   ·cases h
  have ih:=M3 (bad:=bad) (w:=w) key.2;refine⟨by simp[ih.1],fun j x u hx hu=>?_⟩;cases j with
  |zero=>simp at hx hu;subst hx;subst hu;exact key.1
  |succ j=>exact ih.2 j x u (by simpa using hx) (by simpa using hu)
 |[],_::_,h=>by cases h
 |d::_,[],h=>by cases d<;>cases h
theorem M4{P:Program}{w:World}{name:String}{d:DataW Unit}:∀ {laid:List (String × DataW Unit)} {ps:List MemPlace},DataW.LaidVars P w laid ps->(name,d)∈laid ->
  ∃ g t cs fuel p,P.globalNamed name=some g/\(P.globals[g]?).map (·.type)=some t/\w.var? P name=some cs/\DataW.trod (fun _=>()) P w 0 (fun _=>true) false fuel t cs.toList=some (d,p)
 |[],_,_,h=>by simp at h
 |(n,d')::r,ps,hv,h=>by
  obtain⟨g,t,cs,fuel,p,q,h1,h2,h3,h4,h5,-⟩:=hv;rcases List.mem_cons.1 h with h|h
  ·cases h;exact⟨g,t,cs,fuel,p,h1,h2,h3,h4⟩
  ·exact M4 h5 h
theorem VX{H:Type}:∀ {n:Nat} {d:DataW H} {cs:List Value},kR n d=some cs->kR (n+1) d=some cs:=by
 intro n
 induction n with
 |zero=>intro d cs h;cases h
 |succ n ih =>
  intro d cs h;unfold kR at h;split at h
  ·cases h
  ·exact h
  ·exact h
  ·exact h
  ·rename_i m ps e;cases e;simp only[Option.map_eq_some_iff]at h;obtain⟨ls,h1,rfl⟩:=h;have:∀ {ps:List (DataW H)} {ls:List (List Value)},ps.mapM (kR n)=some ls->ps.mapM (kR (n+1))=some ls:=by
    intro ps
    induction ps with
    |nil=>intro ls h;exact h
    |cons p ps VY =>
     intro ls h;simp only[List.mapM_cons,Option.bind_eq_bind,Option.bind_eq_some_iff]at h ⊢;obtain⟨a,h1,b,h2,h3⟩:=h;exact⟨a,ih h1,b,VY h2,h3⟩
   have e2:=this h1;show(ps.mapM (kR (n+1))).map List.flatten=_;rw[e2];rfl
  ·cases h
theorem G'{H:Type}{n:Nat}{d:DataW H}{cs:List Value}(h:kR n d=some cs):∀ k,kR (n+k) d=some cs
 |0=>h
 |k+1=>VX (G' h k)
theorem VZ{E:Env}(hE:E.OK){W:World}{laid:List (String × DataW Unit)}{name:String}{g t m n:Nat}{d:DataW Unit}{e:DV}{vs:List Value}(hl:laidMet E.P laid W)(hm:(name,d)∈laid)(hg:E.P.globalNamed name=some g)(ht:(E.P.globals[g]?).map (·.type)=some t)
  (aO:rH E m t=true) (hv:kR n d=some vs) (he:vz e.cells vs=true) (aM:e.cells≠[]) {ak:Nat->Prop} (eU:¬ ak g):VR ⟨fun _=>none,[],ak,W⟩ (.b9 e 0) (.pointer (some ⟨g,0,none⟩)):=by
 obtain⟨ps,V0,-,-⟩:=hl;obtain⟨g',t',cs,fuel,p,h1,h2,h3,h4⟩:=M4 V0 hm;rw[hg]at h1;cases h1;rw[ht]at h2;cases h2;have h5:=VW hE fuel m t _ _ aO h4;have h6:vs=cs.toList:=by
  have a:=G' hv fuel;have b:=G' h5 n;rw[Nat.add_comm]at b;exact Option.some.inj (a.symm.trans b)
 have gd:=M3 (bad:=ak) (w:=W) he;rw[h6]at gd;have dQ:∀ (j:Nat) (v:Value),cs.toList[j]?=some v->W.cell? ⟨g,0+j,none⟩=some v:=fun j v hj=>by
  rw[Nat.zero_add];have:=World.var?_cell hg h3 j;rw[this]
  simpa using hj
 have fa:∀ (j:Nat) (x:DV),e.cells[j]?=some x->∃ v,cs.toList[j]?=some v:=fun j x hx=>by
  have:=a7 hx;rw[gd.1]at this;exact⟨cs.toList[j],by simp[this]⟩
 have:=VR.b9 (c:=⟨fun _=>none,[],ak,W⟩) e 0 g 0 (fun j=>(cs.toList[j]?).getD undef) (fun hb=>eU (wF.1 hb)) aM (fun j x hx=>by
   obtain⟨v,hv⟩:=fa j x hx;rw[hv];exact dQ j v hv) (fun j x hx=>by
   obtain⟨v,hv⟩:=fa j x hx;rw[hv]
   exact wG (gd.2 j x v hx hv))
 exact this
end Go.aA
end
section
namespace Go.Proofs.YtcmnpelmmekdkaaGreatDoor
open Go.ChangeShapes Go.WideShapes Go.ChangeAt Go.RowKit
theorem Tryz.own:ownKnob Tryz.prog.godebug=none:=by kernel_rfl
theorem Tryz.laidOut:laidOutB Tryz.prog=true:=by kernel_rfl
theorem Ext.trodAll{H:Type}{enc:TypeId × Value->H}{P:Program}(hl:laidOutB P=true){W W':World}(hx:Ext W W') :
  ∀ {ts:List TypeId} {vs:List Value} {ds:List (DataW H)} {ps:List MemPlace},(∀ t∈ts,P.readableRec t=true/\t<P.types.size)->(∀ x∈ps,x.block<W.heap.size) ->
   DataW.TrodAll enc P W 0 (fun _=>true) true ts vs ds ps->DataW.TrodAll enc P W' 0 (fun b=>decide (b<W.heap.size)) true ts vs ds ps
 |[],_,_,_,_,_,h=>by
  obtain⟨rfl,rfl,rfl⟩:=trodAll_nil h;exact h
 |t::ts,_,_,_,hr,ai,h=>by
  obtain⟨v,MV,d,MW,a,b,rfl,rfl,rfl,h1,h2⟩:=trodAll_cons h;obtain⟨r1,r2⟩:=hr t (List.mem_cons_self ..);exact⟨a,b,Below.trod hl r1 r2 h1 hx.below (fun x hx=>ai x (List.mem_append_left _ hx)),Ext.trodAll hl hx (fun u hu=>hr u (List.mem_cons_of_mem _ hu)) (fun x hx=>ai x (List.mem_append_right _ hx)) h2,rfl⟩
theorem V1{H:Type}{enc:TypeId × Value->H}{P:Program}{f:Func}{s:ChangeSpec}{W W':World}{args:Array Value}{ds gs:List (DataW H)}{before:List MemPlace}{tb:TypeId}(hl:laidOutB P=true)
  (hr:∀ t∈f.params.toList,P.readableRec t=true/\t<P.types.size) (hv:s.vars=[]) (ht:f.resultTypes = #[tb]) (hb:P.underlying tb=some .bool)
  (uW:(s.fn H (ds++[])).results=[.lit (.bool true)]) (iD:(s.fn H (ds++[])).args=ds) (V2:(s.fn H (ds++[])).vars=[])
  (hW:DataW.Whole enc P f.params.toList s.vars false W args.toList ds gs before) (hx:Ext W W'):s.post enc P f false true false false W args (.bool true) W':=by
 have Af:=hW;obtain⟨p,q,hA,hV,rfl,Cs,fE⟩:=hW;rw[hv]at hV;obtain⟨rfl,rfl⟩:=trodVars_none hV;simp only[List.append_nil]at Af;refine⟨ds,[],p,[],p,[],Af,?_,?_,?_,?_,fun h=>by cases h⟩
 ·rw[uW,ht];exact trodAll_cons_mk (shut_bool hb _) trodAll_mk0
 ·rw[iD];exact Ext.trodAll hl hx hr (fun x hx=>by simpa using Af.lt x hx) hA
 ·rw[V2,hv];rfl
 ·exact hx.below.frame _
end Go.Proofs.YtcmnpelmmekdkaaGreatDoor
end
section
set_option maxRecDepth 100000
namespace Go.Proofs.YtcmnpelmmekdkaaGreatDoor
open Go Go.aA Go.ChangeShapes Go.WideShapes Go.ChangeAt Go.RowKit
theorem M5{H:Type}{enc:TypeId × Value->H}{P:Program}{W:World}:∀ {ts:List TypeId} {vs:List Value} {ds:List (DataW H)} {ps:List MemPlace} {held:Bool},DataW.TrodAll enc P W 0 (fun _=>true) held ts vs ds ps->ds.length=ts.length
 |[],_,_,_,_,h=>by obtain⟨rfl,rfl,rfl⟩:=trodAll_nil h;rfl
 |t::ts,_,_,_,_,h=>by
  obtain⟨v,MV,d,MW,a,b,rfl,rfl,rfl,h1,h2⟩:=trodAll_cons h;simp[M5 h2]
theorem V3{H:Type}{enc:TypeId × Value->H}{ae:FuncId}{fn:Func}{s:ChangeSpec}{W:World}{base:Nat}{args:Array Value}{ds gs:List (DataW H)}{before:List MemPlace}{tb:TypeId}
  (bQ:∀ (j:Nat) t v,fn.params[j]?=some t->args[j]?=some v->Value.okWide Tryz.prog W .any base t v)
  (hW:DataW.Whole enc Tryz.prog fn.params.toList s.vars false W args.toList ds gs before) (hG:uq E.G (fun _=>False) W)
  (aO:fn.params.toList.all (pX E 20)=true) (hr:∀ t∈fn.params.toList,Tryz.prog.readableRec t=true/\t<Tryz.prog.types.size) (hv:s.vars=[]) (ht:fn.resultTypes = #[tb]) (hb:Tryz.prog.underlying tb=some .bool)
  (hs:∀ ds:List (DataW H),ds.length=fn.params.toList.length->(s.fn H (ds++[])).results=[.lit (.bool true)]/\(s.fn H (ds++[])).args=ds/\(s.fn H (ds++[])).vars=[])
  (hc:∀ xs,vy E fn.params.toList xs->az E ae xs (· = .bool true)) :
  Calls Tryz.prog ae args W fun e W'=>∃ v,e=.returned v/\s.post enc Tryz.prog fn false true false false W args v W':=by
 have Af:=hW;obtain⟨p,q,hA,hV,rfl,Cs,fE⟩:=hW;have V4:∀ (j:Nat) t v,fn.params.toList[j]?=some t->args.toList[j]?=some v->Value.okWide E.P W .any base t v:=fun j t v ht hv=>bQ j t v (by rwa [Array.getElem?_toList]at ht) (by rwa [Array.getElem?_toList]at hv);obtain⟨xs,h1,h2⟩:=MU ag aO V4 hA;obtain⟨s1,s2,s3⟩:=hs ds (M5 hA);have jf:=hc xs h2;unfold az at jf;have:=jf.2 (fun _=>False) W args.toList (fun _ h=>h.elim) hG h1;rw[Array.toArray_toList]at this;refine this.mono fun e W' V5=>?_;obtain⟨v,r,rfl,rfl,fR,hx⟩:=V5;cases fR;exact⟨_,rfl,V1 Tryz.laidOut hr hv ht hb s1 s2 s3 Af hx⟩
theorem M6{E:Env}{t:Nat}{ts:List Nat}{xs:List DV}(h:vy E (t::ts) xs):∃ x r,xs=x::r/\G8 E t x/\vy E ts r:=by
 cases xs with
 |nil=>exact h.elim
 |cons x r=>exact⟨x,r,rfl,h⟩
theorem V6{P:Program}{l:List TypeId}(h:(l.all fun t=>P.readableRec t&&Nat.blt t P.types.size)=true):∀ t∈l,P.readableRec t=true/\t<P.types.size:=fun t ht=>by
 have:=List.all_eq_true.1 h t ht;rw[Bool.and_eq_true]at this;exact⟨this.1,sD this.2⟩
theorem V7 {laid : List (String × DataW Unit)} {W : World} (hl : laidMet Tryz.prog laid W) (hm : ("nameplan/record.rules", Rows.laid_nameplan_record_rules) ∈ laid) : uq E.G (fun _ => False) W := by
 intro g e hg;have:(g,e)=(0,CP):=by
  have:(g,e)∈CQ:=hg
  simpa [CQ]using this
 cases this;exact VZ ag (n:=8) (m:=8) (t:=226) (vs:=(kR 8 (Rows.laid_nameplan_record_rules (H:=Unit))).getD []) hl hm (by kernel_rfl) (by kernel_rfl) (by kernel_rfl) (by kernel_rfl) (by kernel_rfl) (by simp[CP,DV.cells]) (fun h=>h)
def V8:DV->Value
 | .int k n => .int k n
 | .bool b => .bool b
 | .str l => .string ⟨l.toArray⟩
 |_=>undef
def V9(d:DV)(o:Obj):Obj:=match o with
 | .cells _ t frozen => .cells (d.cells.map V8).toArray t frozen
 |o=>o
noncomputable def Ha (os:Os):World :=
 { World.holding Tryz.prog os ⟨#[],#[],[]⟩with heap:=CQ.foldl (fun h p=>h.modify p.1 (V9 p.2)) (World.holding Tryz.prog os ⟨#[],#[],[]⟩).heap }
end Go.Proofs.YtcmnpelmmekdkaaGreatDoor
end
