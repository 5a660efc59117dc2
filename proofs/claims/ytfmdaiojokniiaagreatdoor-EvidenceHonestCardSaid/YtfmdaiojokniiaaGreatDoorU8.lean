/- Lemmas of mine. Conditions: as stated. -/
import Derived.Test.YtfmdaiojokniiaaGreatDoorU3
import Derived.Test.YtfmdaiojokniiaaGreatDoorU4
import Derived.ChangeArms
import Derived.ProofKit
import Derived.OpenShut
import Derived.Deep.DeepHandedRow
import Derived.Lib.LaidTab
import Derived.Lib.BufferWrite
import Derived.Lib.BufferOwn
import Derived.Lib.BufferSrc
import Derived.Shelf.Bytes.WriteByteAt
set_option linter.unusedVariables false
set_option linter.unusedSimpArgs false
section
namespace Go.ay
open Go Go.RowKit
def cH(E:Env)(t:Nat):Nat:=match dI E.T t with
 |some i=>i.size
 |none=>0
def iY(E:Env)(t:Nat):TK:=match dI E.T t with
 |some i=>i.k
 |none => .other
def pP(k:TK)(x:DV):Prop:=match k with
 | .struct _=>∃ cs,x=.agg cs
 |_=>x.cells=[x]
def fk(E:Env):Nat->Nat->List DV->Prop
 |0,_,_=>False
 |n+1,t,ds=>match iY E t with
  | .bool=>∃ b,ds=[.bool b]
  | .int k=>∃ m,ds=[.int k m]/\(Lit.int k m).wf=true
  | .string=>∃ l:List UInt8,ds=[.str l]/\l.length<=maxLen
  | .slice e=>∃ l:List DV,ds=[.sl l]/\l.length<=maxLen/\∀ x∈l,fk E n e x.cells/\pP (iY E e) x
  | .struct fs=>ds.length=cH E t/\∀ p∈fs,fk E n p.2 ((ds.drop p.1).take (cH E p.2))
  |_=>False
def qW(E:Env):Nat->List (Nat × Nat)->Nat->Bool
 |o,[],n=>Nat.beq o n
 |o,p::l,n=>Nat.beq p.1 o&&qW E (o+cH E p.2) l n
def pQ(E:Env):Nat->Nat->Bool
 |0,_=>false
 |m+1,t=>match dI E.T t with
  |none=>false
  |some i=>match i.k with
   | .bool=>Nat.beq i.size 1
   | .int _=>Nat.beq i.size 1
   | .string=>Nat.beq i.size 1
   | .slice e=>Nat.beq i.size 1&&Nat.blt 0 (cH E e)&&pQ E m e
   | .struct fs=>qW E 0 fs i.size&&fs.all fun p=>pQ E m p.2
   |_=>false
theorem zU{E:Env}(hE:E.OK){t:Nat}{i:br}(hi:E.T[t]?=some i):cH E t=E.P.cellsOf t:=by
 obtain⟨ti,d,g1,g2,g3,g4,-⟩:=cD (hE.types t i hi);simp[cH,ev,hi,Program.cellsOf,g1,g4]
theorem Lm{E:Env}{m t:Nat}(h:pQ E m t=true):∃ i,E.T[t]?=some i:=by
 cases m with
 |zero=>cases h
 |succ m =>
  unfold pQ at h;split at h
  ·cases h
  ·rename_i i hi;rw[ev]at hi;exact⟨i,hi⟩
theorem Ln{E:Env}(hE:E.OK){m t:Nat}(h:pQ E m t=true):cH E t=E.P.cellsOf t:=by
 obtain⟨i,hi⟩:=Lm h;exact zU hE hi
theorem jI.TB{bad:Nat->Prop}{w:World}{a b:List DV}{u v:List Value}(h1:jI bad w a u)(h2:jI bad w b v):jI bad w (a++b) (u++v):=by
 refine⟨by simp[h1.1,h2.1],fun j x y hx hy=>?_⟩;rcases Nat.lt_or_ge j a.length with hj|hj
 ·rw[List.getElem?_append_left hj]at hx;rw[List.getElem?_append_left (by rw[<- h1.1];exact hj)]at hy;exact h1.2 j x y hx hy
 ·rw[List.getElem?_append_right hj]at hx;rw[List.getElem?_append_right (by rw[<- h1.1];exact hj),<- h1.1]at hy;exact h2.2 _ x y hx hy
section
variable {E:Env} {H:Type} {enc:TypeId × Value->H} {w:World} {held:Bool}
theorem Lo{n:Nat}{cs:List Value}:∀ {fs:List (Nat × Nat)} {o tot:Nat},qW E o fs tot=true->cs.length=tot->o<=tot ->
  (∀ p∈fs,∃ ds,fk E n p.2 ds/\jI (fun _=>False) w ds ((cs.drop p.1).take (cH E p.2))/\∀ v∈(cs.drop p.1).take (cH E p.2),v.oneCell'=true) ->
  (∀ p∈fs,p.1+cH E p.2<=tot) ->
  ∃ ds,ds.length=tot-o/\jI (fun _=>False) w ds (cs.drop o)/\(∀ v∈cs.drop o,v.oneCell'=true)/\∀ p∈fs,o<=p.1/\fk E n p.2 ((ds.drop (p.1-o)).take (cH E p.2))
 |[],o,tot,h,hl,ho,_,_=>by
  obtain rfl:o=tot:=Nat.eq_of_beq_eq_true h;rw[List.drop_of_length_le (by omega)];exact⟨[],by simp,⟨rfl,fun j x v hx=>by simp at hx⟩,fun v hv=>by simp at hv,fun p hp=>by simp at hp⟩
 |p::fs,o,tot,h,hl,ho,hf,hb=>by
  simp only[qW,Bool.and_eq_true]at h;obtain⟨h1,h2⟩:=h;have h1:=Nat.eq_of_beq_eq_true h1;have hle:=hb p (List.mem_cons_self ..);rw[h1]at hle;obtain⟨d1,k1,k2,k3⟩:=hf p (List.mem_cons_self ..);rw[h1]at k2 k3;obtain⟨d2,q1,q2,q3,q4⟩:=Lo h2 hl hle (fun p hp=>hf p (List.mem_cons_of_mem _ hp)) (fun p hp=>hb p (List.mem_cons_of_mem _ hp));have mS:d1.length=cH E p.2:=by rw[k2.1];simp;omega
  have Lp:cs.drop o=(cs.drop o).take (cH E p.2)++cs.drop (o+cH E p.2):=by
   rw[<- List.drop_drop,List.take_append_drop]
  refine⟨d1++d2,by simp[mS,q1];omega,by rw[Lp];exact k2.TB q2,fun v hv=>?_,fun p' hp=>?_⟩
  ·rw[Lp]at hv;rcases List.mem_append.1 hv with hv|hv
   ·exact k3 v hv
   ·exact q3 v hv
  ·rcases List.mem_cons.1 hp with rfl|hp
   ·refine⟨by omega,?_⟩;rw[h1,Nat.sub_self,List.drop_zero,List.take_append_of_le_length (by omega),List.take_of_length_le (by omega)];exact k1
   ·obtain⟨r1,r2⟩:=q4 p' hp;refine⟨by omega,?_⟩;rw[List.drop_append,List.drop_of_length_le (by omega),List.nil_append,show p'.1-o-d1.length=p'.1-(o+cH E p.2) by omega];exact r2
theorem Ge:∀ {fs:List (Nat × Nat)} {o tot:Nat},qW E o fs tot=true->o<=tot/\∀ p∈fs,p.1+cH E p.2<=tot
 |[],o,tot,h=>⟨Nat.le_of_eq (Nat.eq_of_beq_eq_true h),fun p hp=>by simp at hp⟩
 |p::fs,o,tot,h=>by
  simp only[qW,Bool.and_eq_true]at h;obtain⟨h1,h2⟩:=h;have h1:=Nat.eq_of_beq_eq_true h1;obtain⟨k1,k2⟩:=Ge h2;refine⟨by omega,fun p' hp=>?_⟩;rcases List.mem_cons.1 hp with rfl|hp
  ·omega
  ·exact k2 p' hp
theorem TC(hE:E.OK):∀ (fuel m t:Nat) (cs:List Value) (x:DataW H × List MemPlace),pQ E m t=true->DataW.trod enc E.P w 0 (fun _=>true) held fuel t cs=some x ->
  ∃ ds,fk E fuel t ds/\jI (fun _=>False) w ds cs/\∀ v∈cs,v.oneCell'=true:=by
 intro fuel
 induction fuel with
 |zero=>intro m t cs x _ h;simp[DataW.trod]at h
 |succ fuel ih =>
  intro m t cs x aM h;cases m with
  |zero=>cases aM
  |succ m =>
   unfold pQ at aM;split at aM
   ·cases aM
   rename_i i hi;have hk:iY E t=i.k:=by simp[iY,hi]
   have bP:cH E t=i.size:=by simp[cH,hi]
   rw[ev]at hi;obtain⟨ti,d,g1,g2,g3,g4,-⟩:=cD (hE.types t i hi);have one:∀ {y:DV} {v:Value},VD (fun _=>False) w y v->v.oneCell'=true->cs=[v]->jI (fun _=>False) w [y] cs/\∀ v∈cs,v.oneCell'=true:=fun{y v} h1 h2 h3=>by
    subst h3;refine⟨⟨rfl,fun j x u hx hu=>?_⟩,fun u hu=>by simp at hu;subst hu;exact h2⟩;cases j with
    |zero=>simp at hx hu;subst hx;subst hu;exact h1
    |succ j=>simp at hx
   split at aM
   ·rename_i fC;have hd:d=.bool:=by rw[fC]at g3;cases d<;>first|rfl|cases g3
    subst hd;obtain⟨b,rfl,-⟩:=DataW.trod_bool g2 h;exact⟨[.bool b],by unfold fk;rw[hk,fC];exact⟨b,rfl⟩,one (.bool b) rfl rfl⟩
   ·rename_i k fC;obtain rfl:=wb (fC.symm.trans g3);obtain⟨n,rfl,-,hw⟩:=DataW.trod_int g2 h;exact⟨[.int k n],by unfold fk;rw[hk,fC];exact⟨n,rfl,hw⟩,one (.int k n) rfl rfl⟩
   ·rename_i fC;obtain rfl:=rU (fC.symm.trans g3);obtain⟨s,rfl,-,hl⟩:=DataW.trod_string g2 h;refine⟨[.str s.data.toList],?_,one (v := .string s) ?_ rfl rfl⟩
    ·unfold fk;rw[hk,fC];exact⟨_,rfl,by rw[Array.length_toList];exact hl⟩
    ·have:=VD.str (bad:=fun _=>False) (w:=w) s.data.toList
     simpa using this
   ·rename_i e fC;obtain rfl:=lj (fC.symm.trans g3);simp only[Bool.and_eq_true]at aM;obtain⟨⟨-,cQ⟩,zV⟩:=aM;have cQ:=yF cQ;have Gf:=Ln hE zV;rcases DataW.trod_slice g2 h with⟨rfl,-⟩|⟨a,len,cap,elems,rest,n,hn,rfl,-,-,Ct,fc,dY,Gg,wj,-⟩
    ·exact⟨[.sl []],by unfold fk;rw[hk,fC];exact⟨[],rfl,Nat.zero_le _,fun x hx=>by simp at hx⟩,one .slnil rfl rfl⟩
    cases hn;obtain⟨uV,ug⟩:=wj rfl;rw[<- Gf]at Gg ug;have spot:0<cap->a.spot=none:=fun hc=>by
     have dK:∀ {q:Option (DataW H × List MemPlace)},(w.cells? 0 (a.add 0) (cH E e)).bind (DataW.trod enc E.P w 0 (fun _=>true) held fuel e)=q->q.isSome->a.spot=none:=fun{q} h1 h2=>by
      cases ec:w.cells? 0 (a.add 0) (cH E e)with
      |none=>rw[ec]at h1;subst h1;cases h2
      |some l =>
       obtain⟨-,hl,dK⟩:=World.cells?_some ec;have:=dK 0 cQ;rw[List.getElem?_eq_getElem (by omega)]at this;cases hs:a.spot with
       |none=>rfl
       |some k =>
        have kH:((a.add 0).add 0).spot.isSome=true:=by simp[Addr.add,hs]
        simp only[World.cell?,kH,if_true]at this;split at this<;>cases this
     by_cases h0:0<len
     ·have:=Gg 0 h0;rw[Nat.zero_mul]at this;exact dK this (by simp[dY,h0])
     ·obtain rfl:len=0:=by omega
      have:=ug 0 (by omega);rw[Nat.zero_add,Nat.zero_mul]at this;exact dK this (by simp[uV];omega)
    by_cases qT:cap=0
    ·subst qT;obtain rfl:len=0:=by omega
     exact⟨[.sl []],by unfold fk;rw[hk,fC];exact⟨[],rfl,Nat.zero_le _,fun x hx=>by simp at hx⟩,one (.ku a) rfl rfl⟩
    have Cu:=spot (by omega);obtain⟨blk,off,sp⟩:=a;cases Cu;have key:∀ i,∃ x:DV,i<len->fk E fuel e x.cells/\pP (iY E e) x/\x.cells.length=cH E e/\∀ (j:Nat) (y:DV),x.cells[j]?=some y->∃ v,w.cell? ⟨blk,off+(i*cH E e+j),none⟩=some v/\v.oneCell'=true/\VD (fun _=>False) w y v:=fun i=>by
     by_cases hi:i<len
     case neg=>exact⟨.undef,fun h=>absurd h hi⟩
     have he:=Gg i hi;cases ec:w.cells? 0 ((⟨blk,off,none⟩:Addr).add (i*cH E e)) (cH E e)with
     |none=>rw[ec]at he;simp[dY,hi]at he
     |some l =>
      rw[ec]at he;obtain⟨-,hl,dK⟩:=World.cells?_some ec;have kE:DataW.trod enc E.P w 0 (fun _=>true) held fuel e l=some (elems[i]'(by omega)):=by
       rw[<- List.getElem?_eq_getElem (by omega)];exact he
      obtain⟨ds,k1,k2,k3⟩:=ih m e l _ zV kE;have nr:ds.length=cH E e:=by rw[k2.1,hl]
      have Lq:∀ (j:Nat) (y:DV),ds[j]?=some y->∃ v,w.cell? ⟨blk,off+(i*cH E e+j),none⟩=some v/\v.oneCell'=true/\VD (fun _=>False) w y v:=fun j y hy=>by
       have hj:=aQ hy;have pj:j<l.length:=by rw[<- k2.1];exact hj
       have:=dK j (by omega);rw[List.getElem?_eq_getElem pj]at this;refine⟨l[j],?_,k3 _ (List.getElem_mem pj),k2.2 j y _ hy (by simp[pj])⟩;rw[mN,mN,Nat.add_assoc]at this;exact this
      by_cases Gh:∃ fs,iY E e=.struct fs
      ·obtain⟨fs,gY⟩:=Gh;exact⟨.agg ds,fun _=>⟨k1,by rw[gY];exact⟨ds,rfl⟩,nr,Lq⟩⟩
      ·obtain⟨y,hy,Cv⟩:∃ y,ds=[y]/\y.cells=[y]:=by
        unfold fk at k1;cases fuel with
        |zero=>exact k1.elim
        |succ fuel =>
         simp only at k1;split at k1
         ·obtain⟨b,rfl⟩:=k1;exact⟨_,rfl,rfl⟩
         ·obtain⟨b,rfl,-⟩:=k1;exact⟨_,rfl,rfl⟩
         ·obtain⟨b,rfl,-⟩:=k1;exact⟨_,rfl,rfl⟩
         ·obtain⟨b,rfl,-⟩:=k1;exact⟨_,rfl,rfl⟩
         ·rename_i fs gY;exact absurd ⟨fs,gY⟩ Gh
         ·exact k1.elim
       subst hy;refine⟨y,fun _=>⟨by rw[Cv];exact k1,?_,by rw[Cv];exact nr,by rw[Cv];exact Lq⟩⟩;unfold pP;split
       ·rename_i fs gY;exact absurd ⟨fs,gY⟩ Gh
       ·exact Cv
    let g:Nat->DV:=fun i=>Classical.choose (key i)
    have hg:∀ i,i<len->fk E fuel e (g i).cells/\pP (iY E e) (g i)/\(g i).cells.length=cH E e/\∀ (j:Nat) (y:DV),(g i).cells[j]?=some y->∃ v,w.cell? ⟨blk,off+(i*cH E e+j),none⟩=some v/\v.oneCell'=true/\VD (fun _=>False) w y v:=fun i=>Classical.choose_spec (key i);have dE:∀ (i:Nat) (y:DV),((List.range len).map g)[i]?=some y->i<len/\y=g i:=fun i y hy=>by
     have hi:i<len:=by have:=aQ hy;simpa using this
     simp[hi]at hy;exact⟨hi,hy.symm⟩
    refine⟨[.sl ((List.range len).map g)],?_,one (v := .slice (some ⟨blk,off,none⟩) len cap) ?_ rfl rfl⟩
    ·unfold fk;rw[hk,fC];refine⟨_,rfl,by simp;omega,fun x hx=>?_⟩;obtain⟨i,hi⟩:=List.getElem?_of_mem hx;obtain⟨h1,rfl⟩:=dE i x hi;exact⟨(hg i h1).1,(hg i h1).2.1⟩
    ·have:=VD.sl (bad:=fun _=>False) (w:=w) ((List.range len).map g) blk off cap (cH E e) (fun i j=>(w.cell? ⟨blk,off+(i*cH E e+j),none⟩).getD undef) (fun _ h=>h) cQ (by simpa using Ct)
      (fun i y hy=>by obtain⟨h1,rfl⟩:=dE i y hy;exact(hg i h1).2.2.1)
      (fun i j y z hy hz=>by obtain⟨h1,rfl⟩:=dE i y hy;obtain⟨v,q1,q2,q3⟩:=(hg i h1).2.2.2 j z hz;rw[q1];rfl)
      (fun i j y z hy hz=>by obtain⟨h1,rfl⟩:=dE i y hy;obtain⟨v,q1,q2,q3⟩:=(hg i h1).2.2.2 j z hz;rw[q1];exact q3)
      (fun i j y z hy hz=>by obtain⟨h1,rfl⟩:=dE i y hy;obtain⟨v,q1,q2,q3⟩:=(hg i h1).2.2.2 j z hz;rw[q1];exact q2)
     simpa using this
   ·rename_i fs fC;obtain⟨fl,rfl,rfl⟩:=qk (fC.symm.trans g3);simp only[Bool.and_eq_true]at aM;obtain⟨Cw,aJ⟩:=aM;obtain⟨xs,n,hn,-,hlen,gP,hf⟩:=DataW.trod_struct g2 h;cases hn;rw[<- zU hE hi,bP]at hlen;obtain⟨-,hle⟩:=Ge Cw
    obtain⟨ds,r1,r2,r3,r4⟩:=Lo (n:=fuel) (w:=w) (cs:=cs) Cw hlen (Nat.zero_le _) (fun p hp=>by
     obtain⟨f,yz,rfl⟩:=List.mem_map.1 hp;have zW:=List.all_eq_true.1 aJ _ hp;obtain⟨i',cg⟩:=List.getElem?_of_mem yz;have abA:fl.toList.toArray[i']?=some f:=by simpa using cg
     have:=hf i' f (by simpa using cg);have ah:i'<xs.length:=by rw[gP];have:=aQ cg;simpa using this
     rw[List.getElem?_eq_getElem ah]at this;obtain⟨ds,k1,k2,k3⟩:=ih m f.type _ _ zW this;rw[<- Ln hE zW]at k2 k3
     exact⟨ds,k1,k2,k3⟩) hle
    rw[List.drop_zero]at r2 r3;refine⟨ds,?_,r2,r3⟩;unfold fk;rw[hk,fC];exact⟨by rw[r1,bP];rfl,fun p hp=>(r4 p hp).2⟩
   ·cases aM
end
end Go.ay
end
section
namespace Go.ay
open Go Go.RowKit
variable {E:Env} {n t:Nat} {ds:List DV}
structure cz(E:Env)(t:Nat){α:Type}(enc:α->DV)(ic:α->Prop):Prop where
 dec:∀ {m ds},fk E m t ds->∃ a,ds=(enc a).cells/\ic a
 elem:∀ {x a},pP (iY E t) x->x.cells=(enc a).cells->x=enc a
variable {α β:Type} {enc:α->DV} {abB:β->DV} {ic:α->Prop} {Cy:β->Prop}
theorem cz.get(c:cz E t enc ic){x:DV}(h:∃ m,fk E m t x.cells)(he:pP (iY E t) x):∃ a,x=enc a/\ic a:=by
 obtain⟨m,h⟩:=h;obtain⟨a,h1,h2⟩:=c.dec h;exact⟨a,c.elem he h1,h2⟩
theorem cz.of{k:TK}(hk:iY E t=k)(hn:∀ fs,k ≠ .struct fs)(h1:∀ a,(enc a).cells=[enc a])(h:∀ m ds,fk E (m+1) t ds->∃ a,ds=[enc a]/\ic a):cz E t enc ic:=by
 refine⟨fun{m ds} hd=>?_,fun{x a} he hx=>?_⟩
 ·cases m with
  |zero=>exact hd.elim
  |succ m=>obtain⟨a,h2,h3⟩:=h m ds hd;exact⟨a,by rw[h1,h2],h3⟩
 ·rw[h1]at hx;rw[hk]at he;unfold pP at he;split at he
  ·exact absurd rfl (hn _)
  ·rw[he]at hx;simpa using hx
theorem cz.str(hk:iY E t=.string):cz E t DV.str (fun l=>l.length<=maxLen) := .of hk (by simp) (fun _=>rfl) fun m ds h=>by
 unfold fk at h;rw[hk]at h;exact h
theorem cz.int{k:IntKind}{g:Int->Prop}(hk:iY E t=.int k)(hg:∀ n,(Lit.int k n).wf=true->g n):cz E t (DV.int k) g := .of hk (by simp) (fun _=>rfl) fun m ds h=>by
 unfold fk at h;rw[hk]at h;obtain⟨n,h1,h2⟩:=h;exact⟨n,h1,hg n h2⟩
theorem cz.bool(hk:iY E t=.bool):cz E t DV.bool (fun _=>True) := .of hk (by simp) (fun _=>rfl) fun m ds h=>by
 unfold fk at h;rw[hk]at h;obtain⟨n,h1⟩:=h;exact⟨n,h1,trivial⟩
theorem cz.list(c:cz E n enc ic):∀ {l:List DV},(∀ x∈l,(∃ m,fk E m n x.cells)/\pP (iY E n) x)->∃ l':List α,l=l'.map enc/\∀ a∈l',ic a
 |[],_=>⟨[],rfl,by simp⟩
 |x::l,h=>by
  obtain⟨⟨h1,h2⟩,h3⟩:=List.forall_mem_cons.1 h;obtain⟨a,rfl,ha⟩:=c.get h1 h2;obtain⟨l',rfl,h4⟩:=cz.list c h3;exact⟨a::l',rfl,List.forall_mem_cons.2 ⟨ha,h4⟩⟩
theorem cz.sl(c:cz E n enc ic)(hk:iY E t=.slice n):cz E t (fun l:List α=>DV.sl (l.map enc)) (fun l:List α=>l.length<=maxLen/\∀ x∈l,ic x) := .of hk (by simp) (fun _=>rfl) fun m ds h=>by
 unfold fk at h;rw[hk]at h;obtain⟨l,h1,h2,h3⟩:=h;obtain⟨l',rfl,h4⟩:=c.list fun x hx=>⟨⟨m,(h3 x hx).1⟩,(h3 x hx).2⟩;exact⟨l',h1,by simpa using h2,h4⟩
def gd(E:Env)(fs:List (Nat × Nat))(off sz:Nat){α:Type}(en:α->List DV)(ic:α->Prop):Prop:=∀ {m} {ds:List DV},ds.length=sz->(∀ p∈fs,fk E m p.2 ((ds.drop p.1).take (cH E p.2)))->∃ a,ds.drop off=en a/\ic a
variable {off o2 sz:Nat} {fs:List (Nat × Nat)} {en:β->List DV}
theorem cz.last(c:cz E t enc ic)(h:off+cH E t=sz):gd E [(off,t)] off sz (fun a=>(enc a).cells) ic:=fun{m ds} hl hf=>by
 have:=hf (off,t) (by simp);rw[List.take_of_length_le (by simp;omega)]at this;exact c.dec this
theorem cz.cons(c:cz E t enc ic)(d:gd E fs o2 sz en Cy)(h:off+cH E t=o2):gd E ((off,t)::fs) off sz (fun p=>(enc p.1).cells++en p.2) (fun p:α × β=>ic p.1/\Cy p.2):=fun{m ds} hl hf=>by
 obtain⟨h1,h2⟩:=List.forall_mem_cons.1 hf;obtain⟨a,h3,h4⟩:=c.dec h1;obtain⟨b,h5,h6⟩:=d hl h2;refine⟨(a,b),?_,h4,h6⟩;show _=(enc a).cells++en b;rw[<- h3,<- h5,<- h,<- List.drop_drop,List.take_append_drop]
theorem gd.struct{f:β->α}(d:gd E fs 0 sz en Cy)(hk:iY E t=.struct fs)(hs:cH E t=sz)(he:∀ a,enc (f a)=.agg (en a))(ha:∀ a,∃ cs,enc a=.agg cs)(hg:∀ a,Cy a->ic (f a)):cz E t enc ic:=by
 refine⟨fun{m ds} h=>?_,fun{x a} h1 h2=>?_⟩
 ·cases m with
  |zero=>exact h.elim
  |succ m =>
   unfold fk at h;rw[hk]at h;obtain⟨a,h3,h4⟩:=d (by rw[h.1,hs]) h.2;exact⟨f a,by rw[he];exact h3,hg a h4⟩
 ·rw[hk]at h1;obtain⟨cs,rfl⟩:∃ cs,x=.agg cs:=h1;obtain⟨RA,h3⟩:=ha a;rw[h3]at h2 ⊢;cases h2;rfl
def Gi(E:Env)(t:Nat)(x:DV):Prop:=(∃ m,fk E m t x.cells)/\pP (iY E t) x
theorem TD(hE:E.OK){H:Type}{enc:TypeId × Value->H}{W:World}{base m:Nat}{v:Value}{d:DataW H}{p:List MemPlace}{held:Bool}(aM:pQ E m t=true)(hv:Value.okWide E.P W .any base t v)(h:DataW.Trod enc E.P W 0 (fun _=>true) held t v d p):∃ x,VD (fun _=>False) W x v/\Gi E t x:=by
 obtain⟨fuel,h⟩:=h;obtain⟨ds,h1,h2,h3⟩:=TC hE fuel m t _ _ aM h;obtain⟨i,hi⟩:=Lm aM;obtain⟨ti,dd,g1,g2,g3,g4,-⟩:=cD (hE.types t i hi);have hk:iY E t=tk dd:=by simp[iY,ev,hi,g3]
 by_cases hs:∃ fs,dd=.struct fs
 ·obtain⟨fs,rfl⟩:=hs;simp only[Value.okWide,g2]at hv;obtain⟨cs,rfl,-,-⟩:=hv;refine⟨.agg ds,.agg ds cs (by simpa [Value.cells]using h2.1) (fun j x v hx hv=>h2.2 j x v hx (by simpa [Value.cells]using hv)),⟨fuel,h1⟩,?_⟩;rw[hk];exact⟨ds,rfl⟩
 ·have bW:∃ y,ds=[y]/\y.cells=[y]:=by
   cases fuel with
   |zero=>exact h1.elim
   |succ fuel =>
    unfold fk at h1;split at h1
    ·obtain⟨b,rfl⟩:=h1;exact⟨_,rfl,rfl⟩
    ·obtain⟨b,rfl,-⟩:=h1;exact⟨_,rfl,rfl⟩
    ·obtain⟨b,rfl,-⟩:=h1;exact⟨_,rfl,rfl⟩
    ·obtain⟨b,rfl,-⟩:=h1;exact⟨_,rfl,rfl⟩
    ·rename_i fs gY;rw[hk]at gY;exact absurd (by cases dd<;>first|exact⟨_,rfl⟩|(cases gY;done)) hs
    ·exact h1.elim
  obtain⟨y,rfl,hy⟩:=bW;have fK:∀ cs,v ≠ .agg cs:=fun cs e=>by
   subst e;have zF:∀ n e',dd ≠ .array n e':=fun n e' e=>by
    subst e;cases fuel with
    |zero=>exact h1.elim
    |succ fuel=>unfold fk at h1;rw[hk]at h1;exact h1
   unfold Value.okWide at hv;rw[g2]at hv;cases dd<;>first
    |exact absurd ⟨_,rfl⟩ hs
    |exact absurd rfl (zF _ _)
    |(simp[Cell.okWide,Cell.ok,g2]at hv;done)
  have TE:v.cells.toList=[v]:=by
   cases v<;>first|rfl|exact absurd rfl (fK _)
  rw[TE]at h2;refine⟨y,h2.2 0 y v rfl rfl,⟨fuel,by rw[hy];exact h1⟩,?_⟩;unfold pP;split
  ·rename_i fs gY;rw[hk]at gY;exact absurd (by cases dd<;>first|exact⟨_,rfl⟩|(cases gY;done)) hs
  ·exact hy
def uW(E:Env):List Nat->List DV->Prop
 |[],xs=>xs=[]
 |t::ts,x::xs=>Gi E t x/\uW E ts xs
 |_::_,[]=>False
theorem Lr(hE:E.OK){H:Type}{enc:TypeId × Value->H}{W:World}{base m:Nat}{held:Bool}:∀ {ts:List Nat} {vs:List Value} {ds:List (DataW H)} {ps:List MemPlace},ts.all (pQ E m)=true ->
  (∀ (j:Nat) t v,ts[j]?=some t->vs[j]?=some v->Value.okWide E.P W .any base t v)->DataW.TrodAll enc E.P W 0 (fun _=>true) held ts vs ds ps->∃ xs,jI (fun _=>False) W xs vs/\uW E ts xs
 |[],vs,ds,ps,_,_,h=>by
  obtain⟨rfl,-,-⟩:=ChangeShapes.trodAll_nil h;exact⟨[],⟨rfl,fun j x v hx=>by simp at hx⟩,rfl⟩
 |t::ts,vs,ds,ps,aM,hv,h=>by
  obtain⟨v,Ls,d,Lt,p,q,rfl,rfl,rfl,h1,h2⟩:=ChangeShapes.trodAll_cons h;simp only[List.all_cons,Bool.and_eq_true]at aM;obtain⟨x,k1,k2⟩:=TD hE aM.1 (hv 0 t v rfl rfl) h1;obtain⟨xs,q1,q2⟩:=Lr hE aM.2 (fun j t v ht eD=>hv (j+1) t v (by simpa using ht) (by simpa using eD)) h2;refine⟨x::xs,⟨by simp[q1.1],fun j y u hy hu=>?_⟩,k2,q2⟩;cases j with
  |zero=>simp at hy hu;subst hy;subst hu;exact k1
  |succ j=>exact q1.2 j y u (by simpa using hy) (by simpa using hu)
end Go.ay
end
section
namespace Go.Proofs.YtfmdaiojokniiaaGreatDoor.P
open Go Go.ay
set_option maxRecDepth 100000
def Gj(n:Int):Prop:=0<=n/\n<=18446744073709551615
theorem TF{n:Int}(h:(Lit.int .i64 n).wf=true):eN n:=by
 simp[Lit.wf,IntKind.min,IntKind.max,IntKind.signed,IntKind.bits]at h;exact h
theorem TG{n:Int}(h:(Lit.int .u64 n).wf=true):Gj n:=by
 simp[Lit.wf,IntKind.min,IntKind.max,IntKind.signed,IntKind.bits]at h;exact h
theorem sY:cz E 9 DV.str (fun l=>l.length<=maxLen):=cz.str (by kernel_rfl)
theorem fE:cz E 3 (DV.int .i64) eN:=cz.int (by kernel_rfl) fun _=>TF
theorem TH:cz E 188 (DV.int .u64) Gj:=cz.int (by kernel_rfl) fun _=>TG
theorem TI:cz E 27 (fun l:List Int=>DV.sl (l.map (DV.int .i64))) (fun l=>l.length<=maxLen/\∀ x∈l,eN x):=fE.sl (by kernel_rfl)
def Datum.Good(a:Datum):Prop:=(a.text.length<=maxLen)/\(eN a.n)/\(eN a.m)
theorem TJ:cz E 131 Datum.enc Datum.Good:=gd.struct (f:=fun p:Text × Int × Int=>⟨p.1,p.2.1,p.2.2⟩) (sY.cons (fE.cons (fE.last rfl) rfl) rfl) (by kernel_rfl) rfl (fun _=>rfl) (fun _=>⟨_,rfl⟩) fun _ h=>h
theorem TL:cz E 24 (fun l:List Datum=>DV.sl (l.map Datum.enc)) (fun l=>l.length<=maxLen/\∀ x∈l,x.Good):=TJ.sl (by kernel_rfl)
def cM.Good(a:cM):Prop:=(a.name.length<=maxLen)/\(eN a.type)/\(eN a.cy)/\(a.data.length<=maxLen/\∀ x∈a.data,x.Good)
theorem Lu:cz E 26 cM.enc cM.Good:=gd.struct (f:=fun p:Text × Int × Int × List Datum=>⟨p.1,p.2.1,p.2.2.1,p.2.2.2⟩) (sY.cons (fE.cons (fE.cons (TL.last rfl) rfl) rfl) rfl) (by kernel_rfl) rfl (fun _=>rfl) (fun _=>⟨_,rfl⟩) fun _ h=>h
def da.Good(a:da):Prop:=(a.aw.length<=maxLen)/\(eN a.key)/\(eN a.jV)/\(eN a.cu)/\(eN a.upto)/\(Gj a.sum)
theorem TM:cz E 190 da.enc da.Good:=gd.struct (f:=fun p:Text × Int × Int × Int × Int × Int=>⟨p.1,p.2.1,p.2.2.1,p.2.2.2.1,p.2.2.2.2.1,p.2.2.2.2.2⟩) (sY.cons (fE.cons (fE.cons (fE.cons (fE.cons (TH.last rfl) rfl) rfl) rfl) rfl) rfl) (by kernel_rfl) rfl (fun _=>rfl) (fun _=>⟨_,rfl⟩) fun _ h=>h
theorem TN:cz E 100 (fun l:List da=>DV.sl (l.map da.enc)) (fun l=>l.length<=maxLen/\∀ x∈l,x.Good):=TM.sl (by kernel_rfl)
def Signed.Good(a:Signed):Prop:=(a.set.Good)/\(a.sigs.length<=maxLen/\∀ x∈a.sigs,x.Good)
theorem Lv:cz E 102 Signed.enc Signed.Good:=gd.struct (f:=fun p:cM × List da=>⟨p.1,p.2⟩) (Lu.cons (TN.last rfl) rfl) (by kernel_rfl) rfl (fun _=>rfl) (fun _=>⟨_,rfl⟩) fun _ h=>h
theorem Gk:cz E 37 (fun l:List Signed=>DV.sl (l.map Signed.enc)) (fun l=>l.length<=maxLen/\∀ x∈l,x.Good):=Lv.sl (by kernel_rfl)
def aX.Good(a:aX):Prop:=(a.aj.length<=maxLen)/\(a.ae.length<=maxLen/\∀ x∈a.ae,x.Good)
theorem Gl:cz E 59 aX.enc aX.Good:=gd.struct (f:=fun p:Text × List Signed=>⟨p.1,p.2⟩) (sY.cons (Gk.last rfl) rfl) (by kernel_rfl) rfl (fun _=>rfl) (fun _=>⟨_,rfl⟩) fun _ h=>h
def bB.Good(a:bB):Prop:=(a.name.length<=maxLen)/\(eN a.type)
theorem Gm:cz E 36 bB.enc bB.Good:=gd.struct (f:=fun p:Text × Int=>⟨p.1,p.2⟩) (sY.cons (fE.last rfl) rfl) (by kernel_rfl) rfl (fun _=>rfl) (fun _=>⟨_,rfl⟩) fun _ h=>h
def dR.Good(a:dR):Prop:=(eN a.kind)/\(a.ae.length<=maxLen/\∀ x∈a.ae,x.Good)/\(a.cut.length<=maxLen)
theorem TO:cz E 39 dR.enc dR.Good:=gd.struct (f:=fun p:Int × List Signed × Text=>⟨p.1,p.2.1,p.2.2⟩) (fE.cons (Gk.cons (sY.last rfl) rfl) rfl) (by kernel_rfl) rfl (fun _=>rfl) (fun _=>⟨_,rfl⟩) fun _ h=>h
structure Host where
 name:Text
 addr:Int
 owner:Int
 deriving DecidableEq
@[reducible] def Host.enc (a : Host) : DV := .agg [.str a.name, .int .i64 a.addr, .int .i64 a.owner]
def Host.Good(a:Host):Prop:=(a.name.length<=maxLen)/\(eN a.addr)/\(eN a.owner)
theorem TP:cz E 84 Host.enc Host.Good:=gd.struct (f:=fun p:Text × Int × Int=>⟨p.1,p.2.1,p.2.2⟩) (sY.cons (fE.cons (fE.last rfl) rfl) rfl) (by kernel_rfl) rfl (fun _=>rfl) (fun _=>⟨_,rfl⟩) fun _ h=>h
theorem TQ:cz E 22 (fun l:List Host=>DV.sl (l.map Host.enc)) (fun l=>l.length<=maxLen/\∀ x∈l,x.Good):=TP.sl (by kernel_rfl)
structure aY where
 host:Int
 cu:Int
 upto:Int
 aw:aX
 deriving DecidableEq
@[reducible] def aY.enc (a : aY) : DV := .agg [.int .i64 a.host, .int .i64 a.cu, .int .i64 a.upto, .str a.aw.aj, .sl (a.aw.ae.map Signed.enc)]
def aY.Good(a:aY):Prop:=(eN a.host)/\(eN a.cu)/\(eN a.upto)/\(a.aw.Good)
theorem TR:cz E 68 aY.enc aY.Good:=gd.struct (f:=fun p:Int × Int × Int × aX=>⟨p.1,p.2.1,p.2.2.1,p.2.2.2⟩) (fE.cons (fE.cons (fE.cons (Gl.last rfl) rfl) rfl) rfl) (by kernel_rfl) rfl (fun _=>rfl) (fun _=>⟨_,rfl⟩) fun _ h=>h
theorem TS:cz E 23 (fun l:List aY=>DV.sl (l.map aY.enc)) (fun l=>l.length<=maxLen/\∀ x∈l,x.Good):=TR.sl (by kernel_rfl)
structure bc where
 host:Int
 aw:aX
 deriving DecidableEq
@[reducible] def bc.enc (a : bc) : DV := .agg [.int .i64 a.host, .str a.aw.aj, .sl (a.aw.ae.map Signed.enc)]
def bc.Good(a:bc):Prop:=(eN a.host)/\(a.aw.Good)
theorem TT:cz E 61 bc.enc bc.Good:=gd.struct (f:=fun p:Int × aX=>⟨p.1,p.2⟩) (fE.cons (Gl.last rfl) rfl) (by kernel_rfl) rfl (fun _=>rfl) (fun _=>⟨_,rfl⟩) fun _ h=>h
theorem TU:cz E 53 (fun l:List bc=>DV.sl (l.map bc.enc)) (fun l=>l.length<=maxLen/\∀ x∈l,x.Good):=TT.sl (by kernel_rfl)
structure bZ where
 aC:List Host
 aE:List aY
 anchor:cM
 hints:List Int
 bN:Int
 fin:Int
 deriving DecidableEq
@[reducible] def bZ.enc (a : bZ) : DV := .agg [.sl (a.aC.map Host.enc), .sl (a.aE.map aY.enc), .str a.anchor.name, .int .i64 a.anchor.type, .int .i64 a.anchor.cy, .sl (a.anchor.data.map Datum.enc), .sl (a.hints.map (.int .i64)), .int .i64 a.bN, .int .i64 a.fin]
def bZ.Good(a:bZ):Prop:=(a.aC.length<=maxLen/\∀ x∈a.aC,x.Good)/\(a.aE.length<=maxLen/\∀ x∈a.aE,x.Good)/\(a.anchor.Good)/\(a.hints.length<=maxLen/\∀ x∈a.hints,eN x)/\(eN a.bN)/\(eN a.fin)
theorem TV:cz E 29 bZ.enc bZ.Good:=gd.struct (f:=fun p:List Host × List aY × cM × List Int × Int × Int=>⟨p.1,p.2.1,p.2.2.1,p.2.2.2.1,p.2.2.2.2.1,p.2.2.2.2.2⟩) (TQ.cons (TS.cons (Lu.cons (TI.cons (fE.cons (fE.last rfl) rfl) rfl) rfl) rfl) rfl) (by kernel_rfl) rfl (fun _=>rfl) (fun _=>⟨_,rfl⟩) fun _ h=>h
structure kQ where
 cA:List bc
 deriving DecidableEq
@[reducible] def kQ.enc (a : kQ) : DV := .agg [.sl (a.cA.map bc.enc)]
def kQ.Good(a:kQ):Prop:=(a.cA.length<=maxLen/\∀ x∈a.cA,x.Good)
theorem TW:cz E 55 kQ.enc kQ.Good:=gd.struct (f:=fun p:List bc=>⟨p⟩) (TU.last rfl) (by kernel_rfl) rfl (fun _=>rfl) (fun _=>⟨_,rfl⟩) fun _ h=>h
structure Step where
 time:Int
 cb:kQ
 deriving DecidableEq
@[reducible] def Step.enc (a : Step) : DV := .agg [.int .i64 a.time, .sl (a.cb.cA.map bc.enc)]
def Step.Good(a:Step):Prop:=(eN a.time)/\(a.cb.Good)
theorem TX:cz E 57 Step.enc Step.Good:=gd.struct (f:=fun p:Int × kQ=>⟨p.1,p.2⟩) (fE.cons (TW.last rfl) rfl) (by kernel_rfl) rfl (fun _=>rfl) (fun _=>⟨_,rfl⟩) fun _ h=>h
theorem TY:cz E 30 (fun l:List Step=>DV.sl (l.map Step.enc)) (fun l=>l.length<=maxLen/\∀ x∈l,x.Good):=TX.sl (by kernel_rfl)
structure oY where
 aC:List Host
 jB:List bc
 anchor:cM
 hints:List Int
 deriving DecidableEq
@[reducible] def oY.enc (a : oY) : DV := .agg [.sl (a.aC.map Host.enc), .sl (a.jB.map bc.enc), .str a.anchor.name, .int .i64 a.anchor.type, .int .i64 a.anchor.cy, .sl (a.anchor.data.map Datum.enc), .sl (a.hints.map (.int .i64))]
def oY.Good(a:oY):Prop:=(a.aC.length<=maxLen/\∀ x∈a.aC,x.Good)/\(a.jB.length<=maxLen/\∀ x∈a.jB,x.Good)/\(a.anchor.Good)/\(a.hints.length<=maxLen/\∀ x∈a.hints,eN x)
structure Claim where
 host:Int
 time:Int
 aw:aX
 deriving DecidableEq
@[reducible] def Claim.enc (a : Claim) : DV := .agg [.int .i64 a.host, .int .i64 a.time, .str a.aw.aj, .sl (a.aw.ae.map Signed.enc)]
def Claim.Good(a:Claim):Prop:=(eN a.host)/\(eN a.time)/\(a.aw.Good)
theorem TZ:cz E 63 Claim.enc Claim.Good:=gd.struct (f:=fun p:Int × Int × aX=>⟨p.1,p.2.1,p.2.2⟩) (fE.cons (fE.cons (Gl.last rfl) rfl) rfl) (by kernel_rfl) rfl (fun _=>rfl) (fun _=>⟨_,rfl⟩) fun _ h=>h
theorem T0:cz E 31 (fun l:List Claim=>DV.sl (l.map Claim.enc)) (fun l=>l.length<=maxLen/\∀ x∈l,x.Good):=TZ.sl (by kernel_rfl)
structure Entry where
 signed:Signed
 aw:Text
 upto:Int
 deriving DecidableEq
@[reducible] def Entry.enc (a : Entry) : DV := .agg [.str a.signed.set.name, .int .i64 a.signed.set.type, .int .i64 a.signed.set.cy, .sl (a.signed.set.data.map Datum.enc), .sl (a.signed.sigs.map da.enc), .str a.aw, .int .i64 a.upto]
def Entry.Good(a:Entry):Prop:=(a.signed.Good)/\(a.aw.length<=maxLen)/\(eN a.upto)
theorem T1:cz E 241 Entry.enc Entry.Good:=gd.struct (f:=fun p:Signed × Text × Int=>⟨p.1,p.2.1,p.2.2⟩) (Lv.cons (sY.cons (fE.last rfl) rfl) rfl) (by kernel_rfl) rfl (fun _=>rfl) (fun _=>⟨_,rfl⟩) fun _ h=>h
theorem T2:cz E 91 (fun l:List Entry=>DV.sl (l.map Entry.enc)) (fun l=>l.length<=maxLen/\∀ x∈l,x.Good):=T1.sl (by kernel_rfl)
structure Cache where
 list:List Entry
 deriving DecidableEq
@[reducible] def Cache.enc (a : Cache) : DV := .agg [.sl (a.list.map Entry.enc)]
def Cache.Good(a:Cache):Prop:=(a.list.length<=maxLen/\∀ x∈a.list,x.Good)
theorem T3:cz E 93 Cache.enc Cache.Good:=gd.struct (f:=fun p:List Entry=>⟨p⟩) (T2.last rfl) (by kernel_rfl) rfl (fun _=>rfl) (fun _=>⟨_,rfl⟩) fun _ h=>h
structure lK where
 kind:Int
 q:bB
 ae:List Signed
 deriving DecidableEq
@[reducible] def lK.enc (a : lK) : DV := .agg [.int .i64 a.kind, .str a.q.name, .int .i64 a.q.type, .sl (a.ae.map Signed.enc)]
def lK.Good(a:lK):Prop:=(eN a.kind)/\(a.q.Good)/\(a.ae.length<=maxLen/\∀ x∈a.ae,x.Good)
theorem T4:cz E 96 lK.enc lK.Good:=gd.struct (f:=fun p:Int × bB × List Signed=>⟨p.1,p.2.1,p.2.2⟩) (fE.cons (Gm.cons (Gk.last rfl) rfl) rfl) (by kernel_rfl) rfl (fun _=>rfl) (fun _=>⟨_,rfl⟩) fun _ h=>h
structure cW where
 time:Int
 addr:Int
 q:bB
 answer:dR
 deriving DecidableEq
@[reducible] def cW.enc (a : cW) : DV := .agg [.int .i64 a.time, .int .i64 a.addr, .str a.q.name, .int .i64 a.q.type, .int .i64 a.answer.kind, .sl (a.answer.ae.map Signed.enc), .str a.answer.cut]
def cW.Good(a:cW):Prop:=(eN a.time)/\(eN a.addr)/\(a.q.Good)/\(a.answer.Good)
theorem T5:cz E 41 cW.enc cW.Good:=gd.struct (f:=fun p:Int × Int × bB × dR=>⟨p.1,p.2.1,p.2.2.1,p.2.2.2⟩) (fE.cons (fE.cons (Gm.cons (TO.last rfl) rfl) rfl) rfl) (by kernel_rfl) rfl (fun _=>rfl) (fun _=>⟨_,rfl⟩) fun _ h=>h
theorem T6:cz E 94 (fun l:List cW=>DV.sl (l.map cW.enc)) (fun l=>l.length<=maxLen/\∀ x∈l,x.Good):=T5.sl (by kernel_rfl)
structure cP where
 q:bB
 time:Int
 cache:Cache
 heard:List cW
 result:lK
 deriving DecidableEq
@[reducible] def cP.enc (a : cP) : DV := .agg [.str a.q.name, .int .i64 a.q.type, .int .i64 a.time, .sl (a.cache.list.map Entry.enc), .sl (a.heard.map cW.enc), .int .i64 a.result.kind, .str a.result.q.name, .int .i64 a.result.q.type, .sl (a.result.ae.map Signed.enc)]
def cP.Good(a:cP):Prop:=(a.q.Good)/\(eN a.time)/\(a.cache.Good)/\(a.heard.length<=maxLen/\∀ x∈a.heard,x.Good)/\(a.result.Good)
theorem T7:cz E 98 cP.enc cP.Good:=gd.struct (f:=fun p:bB × Int × Cache × List cW × lK=>⟨p.1,p.2.1,p.2.2.1,p.2.2.2.1,p.2.2.2.2⟩) (Gm.cons (fE.cons (T3.cons (T6.cons (T4.last rfl) rfl) rfl) rfl) rfl) (by kernel_rfl) rfl (fun _=>rfl) (fun _=>⟨_,rfl⟩) fun _ h=>h
theorem T8:cz E 32 (fun l:List cP=>DV.sl (l.map cP.enc)) (fun l=>l.length<=maxLen/\∀ x∈l,x.Good):=T7.sl (by kernel_rfl)
structure fm where
 before:bZ
 steps:List Step
 eh:List Claim
 jY:List cP
 deriving DecidableEq
@[reducible] def fm.enc (a : fm) : DV := .agg [.sl (a.before.aC.map Host.enc), .sl (a.before.aE.map aY.enc), .str a.before.anchor.name, .int .i64 a.before.anchor.type, .int .i64 a.before.anchor.cy, .sl (a.before.anchor.data.map Datum.enc), .sl (a.before.hints.map (.int .i64)), .int .i64 a.before.bN, .int .i64 a.before.fin, .sl (a.steps.map Step.enc), .sl (a.eh.map Claim.enc), .sl (a.jY.map cP.enc)]
def fm.Good(a:fm):Prop:=(a.before.Good)/\(a.steps.length<=maxLen/\∀ x∈a.steps,x.Good)/\(a.eh.length<=maxLen/\∀ x∈a.eh,x.Good)/\(a.jY.length<=maxLen/\∀ x∈a.jY,x.Good)
theorem T9:cz E 34 fm.enc fm.Good:=gd.struct (f:=fun p:bZ × List Step × List Claim × List cP=>⟨p.1,p.2.1,p.2.2.1,p.2.2.2⟩) (TV.cons (TY.cons (T0.cons (T8.last rfl) rfl) rfl) rfl) (by kernel_rfl) rfl (fun _=>rfl) (fun _=>⟨_,rfl⟩) fun _ h=>h
end Go.Proofs.YtfmdaiojokniiaaGreatDoor.P
end
section
namespace Go.ay
open Go Go.RowKit
def kR{H:Type}:Nat->DataW H->Option (List Value)
 |0,_=>none
 |_+1,.lit (.int k n)=>some [.int k n]
 |_+1,.lit (.bool b)=>some [.bool b]
 |_+1,.lit (.string s)=>some [.string ⟨s.toArray⟩]
 |n+1,.agg ps=>(ps.mapM (kR n)).map List.flatten
 |_+1,_=>none
def qV(E:Env):Nat->Nat->Bool
 |0,_=>false
 |m+1,t=>match dI E.T t with
  |none=>false
  |some i=>match i.k with
   | .bool=>Nat.beq i.size 1
   | .int _=>Nat.beq i.size 1
   | .string=>Nat.beq i.size 1
   | .array n e=>Nat.beq i.size (n*cH E e)&&qV E m e
   | .struct fs=>qW E 0 fs i.size&&fs.all fun p=>qV E m p.2
   |_=>false
theorem T'{E:Env}{m t:Nat}(h:qV E m t=true):∃ i,E.T[t]?=some i:=by
 cases m with
 |zero=>cases h
 |succ m =>
  unfold qV at h;split at h
  ·cases h
  ·rename_i i hi;rw[ev]at hi;exact⟨i,hi⟩
theorem Lw{E:Env}(hE:E.OK){m t:Nat}(h:qV E m t=true):cH E t=E.P.cellsOf t:=by
 obtain⟨i,hi⟩:=T' h;exact zU hE hi
section
variable {H:Type}
theorem Gn{n:Nat}{cs:List Value}:∀ {L:List (Nat × Nat)} {xs:List (DataW H × List MemPlace)} {o tot:Nat},xs.length=L.length->cs.length=tot ->
  (∀ (i:Nat) (p:Nat × Nat),L[i]?=some p->p.1=o+((L.take i).map (·.2)).sum/\p.1+p.2<=tot)->o+(L.map (·.2)).sum=tot ->
  (∀ (i:Nat) (p:Nat × Nat) (y:DataW H × List MemPlace),L[i]?=some p->xs[i]?=some y->kR n y.1=some ((cs.drop p.1).take p.2)) ->
  ∃ ls,(xs.map (·.1)).mapM (kR n)=some ls/\ls.flatten=cs.drop o
 |[],[],o,tot,_,hc,_,hs,_=>⟨[],rfl,by rw[List.drop_of_length_le (by simp at hs;omega)];rfl⟩
 |p::L,y::xs,o,tot,hl,hc,ho,hs,hx=>by
  have h0:=ho 0 p rfl;simp at h0;have hy:=hx 0 p y rfl rfl;simp only[List.map_cons,List.sum_cons]at hs
  obtain⟨ls,k1,k2⟩:=Gn (n:=n) (cs:=cs) (L:=L) (xs:=xs) (o:=o+p.2) (tot:=tot) (by simpa using hl) hc (fun i q hq=>by
   have:=ho (i+1) q (by simpa using hq);simp only[List.take_succ_cons,List.map_cons,List.sum_cons]at this
   omega) (by omega) (fun i q z hq hz=>hx (i+1) q z (by simpa using hq) (by simpa using hz))
  refine⟨(cs.drop p.1).take p.2::ls,?_,?_⟩
  ·simp only[List.map_cons,List.mapM_cons,hy,k1];rfl
  ·rw[List.flatten_cons,k2,h0.1,<- List.drop_drop,List.take_append_drop]
 |[],_::_,_,_,h,_,_,_,_=>by simp at h
 |_::_,[],_,_,h,_,_,_,_=>by simp at h
variable {E:Env} {enc:TypeId × Value->H} {w:World} {held:Bool} {sp:Nat->Bool}
theorem Lx:∀ {fs:List (Nat × Nat)} {o tot:Nat},qW E o fs tot=true->o+((fs.map fun p=>(p.1,cH E p.2)).map (·.2)).sum=tot /\
  ∀ (i:Nat) (p:Nat × Nat),(fs.map fun p=>(p.1,cH E p.2))[i]?=some p->p.1=o+(((fs.map fun p=>(p.1,cH E p.2)).take i).map (·.2)).sum/\p.1+p.2<=tot
 |[],o,tot,h=>⟨by simpa using Nat.eq_of_beq_eq_true h,fun i p hp=>by simp at hp⟩
 |q::fs,o,tot,h=>by
  have hle:=(Ge h).2 q (List.mem_cons_self ..);simp only[qW,Bool.and_eq_true]at h;obtain⟨h1,h2⟩:=h;have h1:=Nat.eq_of_beq_eq_true h1;obtain⟨k1,k2⟩:=Lx h2;refine⟨by simp only[List.map_cons,List.sum_cons];omega,fun i p hp=>?_⟩;cases i with
  |zero=>simp at hp;subst hp;simp;omega
  |succ i =>
   have:=k2 i p (by simpa using hp);simp only[List.map_cons,List.take_succ_cons,List.sum_cons];omega
theorem Ua(hE:E.OK):∀ (fuel m t:Nat) (cs:List Value) (x:DataW H × List MemPlace),qV E m t=true->DataW.trod enc E.P w 0 sp held fuel t cs=some x->kR fuel x.1=some cs:=by
 intro fuel
 induction fuel with
 |zero=>intro m t cs x _ h;simp[DataW.trod]at h
 |succ fuel ih =>
  intro m t cs x aM h;cases m with
  |zero=>cases aM
  |succ m =>
   unfold qV at aM;split at aM
   ·cases aM
   rename_i i hi;have bP:cH E t=i.size:=by simp[cH,hi]
   rw[ev]at hi;obtain⟨ti,d,g1,g2,g3,g4,-⟩:=cD (hE.types t i hi);split at aM
   ·rename_i fC;have hd:d=.bool:=by rw[fC]at g3;cases d<;>first|rfl|cases g3
    subst hd;obtain⟨b,rfl,rfl⟩:=DataW.trod_bool g2 h;rfl
   ·rename_i k fC;obtain rfl:=wb (fC.symm.trans g3);obtain⟨n,rfl,rfl,hw⟩:=DataW.trod_int g2 h;rfl
   ·rename_i fC;obtain rfl:=rU (fC.symm.trans g3);obtain⟨s,rfl,rfl,hl⟩:=DataW.trod_string g2 h;rfl
   ·rename_i n e fC;obtain rfl:=we (fC.symm.trans g3);simp only[Bool.and_eq_true]at aM;obtain⟨hs,zV⟩:=aM;have hs:=Nat.eq_of_beq_eq_true hs;obtain⟨xs,k,hk,rfl,hlen,gP,hf⟩:=DataW.trod_array g2 h;cases hk;have Gf:=Lw hE zV;rw[<- zU hE hi,bP,hs]at hlen;rw[<- Gf]at hf;have hL:∀ (i:Nat) (p:Nat × Nat),((List.range n).map fun i=>(i*cH E e,cH E e))[i]?=some p->i<n/\p=(i*cH E e,cH E e):=fun i p hp=>by
     have hi:i<n:=by have:=aQ hp;simpa using this
     simp[hi]at hp;exact⟨hi,hp.symm⟩
    have Ly:∀ k,(((List.range n).map fun i=>(i*cH E e,cH E e)).take k).map (·.2)=List.replicate (min k n) (cH E e):=fun k=>by
     apply List.ext_getElem
     ·simp
     ·intro j h1 h2;simp
    obtain⟨ls,k1,k2⟩:=Gn (n:=fuel) (cs:=cs) (L:=(List.range n).map fun i=>(i*cH E e,cH E e)) (xs:=xs) (o:=0) (tot:=n*cH E e) (by simp[gP]) hlen (fun i p hp=>by
     obtain⟨h1,rfl⟩:=hL i p hp;rw[Ly,List.sum_replicate_nat,Nat.min_eq_left (by omega)];refine⟨by simp,?_⟩;have:(i+1)*cH E e<=n*cH E e:=Nat.mul_le_mul_right _ h1;rw[Nat.add_mul,Nat.one_mul]at this;exact this) (by
      have:=Ly n;rw[List.take_of_length_le (by simp)]at this;rw[this,List.sum_replicate_nat,Nat.min_self,Nat.zero_add]) (fun i p y hp hy=>by
     obtain⟨h1,rfl⟩:=hL i p hp;have:=hf i h1;rw[hy]at this
     exact ih m e _ _ zV this)
    rw[List.drop_zero]at k2;simp only[kR,k1,Option.map_some,k2]
   ·rename_i fs fC;obtain⟨fl,rfl,rfl⟩:=qk (fC.symm.trans g3);simp only[Bool.and_eq_true]at aM;obtain⟨Cw,aJ⟩:=aM;obtain⟨xs,n,hn,rfl,hlen,gP,hf⟩:=DataW.trod_struct g2 h;cases hn;rw[<- zU hE hi,bP]at hlen;obtain⟨s1,s2⟩:=Lx Cw
    obtain⟨ls,k1,k2⟩:=Gn (n:=fuel) (cs:=cs) (xs:=xs) (by simp[gP]) hlen s2 s1 (fun i p y hp hy=>by
     simp only[List.map_map,List.getElem?_map,Option.map_eq_some_iff]at hp;obtain⟨f,jH,rfl⟩:=hp;have zW:=List.all_eq_true.1 aJ (f.offset,f.type) (List.mem_map.2 ⟨f,List.mem_of_getElem? jH,rfl⟩);have:=hf i f (by simpa using jH);rw[hy,<- Lw hE zW]at this
     exact ih m _ _ _ zW this)
    rw[List.drop_zero]at k2;simp only[kR,k1,Option.map_some,k2]
   ·cases aM
end
def uX:List DV->List Value->Bool
 |[],[]=>true
 | .int k n::l,.int k' m::r=>IntKind.same k k'&&decide (n=m)&&uX l r
 | .bool a::l,.bool b::r=>(a==b)&&uX l r
 | .str a::l,.string b::r=>decide (b=⟨a.toArray⟩)&&uX l r
 |_,_=>false
theorem LA{bad:Nat->Prop}{w:World}:∀ {ds:List DV} {vs:List Value},uX ds vs=true->jI bad w ds vs
 |[],[],_=>⟨rfl,fun j x v hx=>by simp at hx⟩
 |d::ds,v::vs,h=>by
  have key:VD bad w d v/\uX ds vs=true:=by
   unfold uX at h;split at h
   ·rename_i e1 e2;cases e1
   ·rename_i e1 e2;cases e1;cases e2;simp only[Bool.and_eq_true,decide_eq_true_eq]at h;obtain⟨⟨h1,rfl⟩,h3⟩:=h;obtain rfl:=rT h1;exact⟨.int _ _,h3⟩
   ·rename_i e1 e2;cases e1;cases e2;simp only[Bool.and_eq_true,beq_iff_eq]at h;obtain⟨rfl,h3⟩:=h;exact⟨.bool _,h3⟩
   ·rename_i e1 e2;cases e1;cases e2;simp only[Bool.and_eq_true,decide_eq_true_eq]at h;obtain⟨rfl,h3⟩:=h;exact⟨.str _,h3⟩
   ·cases h
  have ih:=LA (bad:=bad) (w:=w) key.2;refine⟨by simp[ih.1],fun j x u hx hu=>?_⟩;cases j with
  |zero=>simp at hx hu;subst hx;subst hu;exact key.1
  |succ j=>exact ih.2 j x u (by simpa using hx) (by simpa using hu)
 |[],_::_,h=>by cases h
 |d::_,[],h=>by cases d<;>cases h
theorem LB{P:Program}{w:World}{name:String}{d:DataW Unit}:∀ {laid:List (String × DataW Unit)} {ps:List MemPlace},DataW.LaidVars P w laid ps->(name,d)∈laid ->
  ∃ g t cs fuel p,P.globalNamed name=some g/\(P.globals[g]?).map (·.type)=some t/\w.var? P name=some cs/\DataW.trod (fun _=>()) P w 0 (fun _=>true) false fuel t cs.toList=some (d,p)
 |[],_,_,h=>by simp at h
 |(n,d')::r,ps,hv,h=>by
  obtain⟨g,t,cs,fuel,p,q,h1,h2,h3,h4,h5,-⟩:=hv;rcases List.mem_cons.1 h with h|h
  ·cases h;exact⟨g,t,cs,fuel,p,h1,h2,h3,h4⟩
  ·exact LB h5 h
theorem Ub{H:Type}:∀ {n:Nat} {d:DataW H} {cs:List Value},kR n d=some cs->kR (n+1) d=some cs:=by
 intro n
 induction n with
 |zero=>intro d cs h;cases h
 |succ n ih =>
  intro d cs h;unfold kR at h;split at h
  ·cases h
  ·exact h
  ·exact h
  ·exact h
  ·rename_i m ps e;cases e;simp only[Option.map_eq_some_iff]at h;obtain⟨ls,h1,rfl⟩:=h;have:∀ {ps:List (DataW H)} {ls:List (List Value)},ps.mapM (kR n)=some ls->ps.mapM (kR (n+1))=some ls:=by
    intro ps
    induction ps with
    |nil=>intro ls h;exact h
    |cons p ps Uc =>
     intro ls h;simp only[List.mapM_cons,Option.bind_eq_bind,Option.bind_eq_some_iff]at h ⊢;obtain⟨a,h1,b,h2,h3⟩:=h;exact⟨a,ih h1,b,Uc h2,h3⟩
   have e2:=this h1;show(ps.mapM (kR (n+1))).map List.flatten=_;rw[e2];rfl
  ·cases h
theorem Gp{H:Type}{n:Nat}{d:DataW H}{cs:List Value}(h:kR n d=some cs):∀ k,kR (n+k) d=some cs
 |0=>h
 |k+1=>Ub (Gp h k)
theorem Ud{E:Env}(hE:E.OK){W:World}{laid:List (String × DataW Unit)}{name:String}{g t m n:Nat}{d:DataW Unit}{e:DV}{vs:List Value}(hl:laidMet E.P laid W)(hm:(name,d)∈laid)(hg:E.P.globalNamed name=some g)(ht:(E.P.globals[g]?).map (·.type)=some t)
  (aM:qV E m t=true) (hv:kR n d=some vs) (he:uX e.cells vs=true) (aI:e.cells≠[]) {az:Nat->Prop} (yu:¬ az g):VR ⟨fun _=>none,[],az,W⟩ (.bO e 0) (.pointer (some ⟨g,0,none⟩)):=by
 obtain⟨ps,Ue,-,-⟩:=hl;obtain⟨g',t',cs,fuel,p,h1,h2,h3,h4⟩:=LB Ue hm;rw[hg]at h1;cases h1;rw[ht]at h2;cases h2;have h5:=Ua hE fuel m t _ _ aM h4;have h6:vs=cs.toList:=by
  have a:=Gp hv fuel;have b:=Gp h5 n;rw[Nat.add_comm]at b;exact Option.some.inj (a.symm.trans b)
 have iy:=LA (bad:=az) (w:=W) he;rw[h6]at iy;have dK:∀ (j:Nat) (v:Value),cs.toList[j]?=some v->W.cell? ⟨g,0+j,none⟩=some v:=fun j v hj=>by
  rw[Nat.zero_add];have:=World.var?_cell hg h3 j;rw[this]
  simpa using hj
 have dE:∀ (j:Nat) (x:DV),e.cells[j]?=some x->∃ v,cs.toList[j]?=some v:=fun j x hx=>by
  have:=aQ hx;rw[iy.1]at this;exact⟨cs.toList[j],by simp[this]⟩
 have:=VR.bO (c:=⟨fun _=>none,[],az,W⟩) e 0 g 0 (fun j=>(cs.toList[j]?).getD undef) (fun hb=>yu (wv.1 hb)) aI (fun j x hx=>by
   obtain⟨v,hv⟩:=dE j x hx;rw[hv];exact dK j v hv) (fun j x hx=>by
   obtain⟨v,hv⟩:=dE j x hx;rw[hv]
   exact wx (iy.2 j x v hx hv))
 exact this
end Go.ay
end
section
namespace Go.Proofs.YtfmdaiojokniiaaGreatDoor
open Go.ChangeShapes Go.WideShapes Go.ChangeAt Go.RowKit
theorem Tryz.own:ownKnob Tryz.prog.godebug=none:=by kernel_rfl
theorem Tryz.laidOut:laidOutB Tryz.prog=true:=by kernel_rfl
theorem Ext.trodAll{H:Type}{enc:TypeId × Value->H}{P:Program}(hl:laidOutB P=true){W W':World}(hx:Ext W W') :
  ∀ {ts:List TypeId} {vs:List Value} {ds:List (DataW H)} {ps:List MemPlace},(∀ t∈ts,P.readableRec t=true/\t<P.types.size)->(∀ x∈ps,x.block<W.heap.size) ->
   DataW.TrodAll enc P W 0 (fun _=>true) true ts vs ds ps->DataW.TrodAll enc P W' 0 (fun b=>decide (b<W.heap.size)) true ts vs ds ps
 |[],_,_,_,_,_,h=>by
  obtain⟨rfl,rfl,rfl⟩:=trodAll_nil h;exact h
 |t::ts,_,_,_,hr,ah,h=>by
  obtain⟨v,Ls,d,Lt,a,b,rfl,rfl,rfl,h1,h2⟩:=trodAll_cons h;obtain⟨r1,r2⟩:=hr t (List.mem_cons_self ..);exact⟨a,b,Below.trod hl r1 r2 h1 hx.below (fun x hx=>ah x (List.mem_append_left _ hx)),Ext.trodAll hl hx (fun u hu=>hr u (List.mem_cons_of_mem _ hu)) (fun x hx=>ah x (List.mem_append_right _ hx)) h2,rfl⟩
theorem Uf{H:Type}{enc:TypeId × Value->H}{P:Program}{f:Func}{s:ChangeSpec}{W W':World}{args:Array Value}{ds gs:List (DataW H)}{before:List MemPlace}{tb:TypeId}(hl:laidOutB P=true)
  (hr:∀ t∈f.params.toList,P.readableRec t=true/\t<P.types.size) (hv:s.vars=[]) (ht:f.resultTypes = #[tb]) (hb:P.underlying tb=some .bool)
  (oP:(s.fn H (ds++[])).results=[.lit (.bool true)]) (iO:(s.fn H (ds++[])).args=ds) (Ug:(s.fn H (ds++[])).vars=[])
  (hW:DataW.Whole enc P f.params.toList s.vars false W args.toList ds gs before) (hx:Ext W W'):s.post enc P f false true false false W args (.bool true) W':=by
 have zX:=hW;obtain⟨p,q,hA,hV,rfl,BQ,cX⟩:=hW;rw[hv]at hV;obtain⟨rfl,rfl⟩:=trodVars_none hV;simp only[List.append_nil]at zX;refine⟨ds,[],p,[],p,[],zX,?_,?_,?_,?_,fun h=>by cases h⟩
 ·rw[oP,ht];exact trodAll_cons_mk (shut_bool hb _) trodAll_mk0
 ·rw[iO];exact Ext.trodAll hl hx hr (fun x hx=>by simpa using zX.lt x hx) hA
 ·rw[Ug,hv];rfl
 ·exact hx.below.frame _
end Go.Proofs.YtfmdaiojokniiaaGreatDoor
end
section
set_option maxRecDepth 100000
namespace Go.Proofs.YtfmdaiojokniiaaGreatDoor
open Go Go.ay Go.ChangeShapes Go.WideShapes Go.ChangeAt Go.RowKit
theorem LC{H:Type}{enc:TypeId × Value->H}{P:Program}{W:World}:∀ {ts:List TypeId} {vs:List Value} {ds:List (DataW H)} {ps:List MemPlace} {held:Bool},DataW.TrodAll enc P W 0 (fun _=>true) held ts vs ds ps->ds.length=ts.length
 |[],_,_,_,_,h=>by obtain⟨rfl,rfl,rfl⟩:=trodAll_nil h;rfl
 |t::ts,_,_,_,_,h=>by
  obtain⟨v,Ls,d,Lt,a,b,rfl,rfl,rfl,h1,h2⟩:=trodAll_cons h;simp[LC h2]
theorem Uh{H:Type}{enc:TypeId × Value->H}{ag:FuncId}{fn:Func}{s:ChangeSpec}{W:World}{base:Nat}{args:Array Value}{ds gs:List (DataW H)}{before:List MemPlace}{tb:TypeId}
  (bH:∀ (j:Nat) t v,fn.params[j]?=some t->args[j]?=some v->Value.okWide Tryz.prog W .any base t v)
  (hW:DataW.Whole enc Tryz.prog fn.params.toList s.vars false W args.toList ds gs before) (hG:tV E.G (fun _=>False) W)
  (aM:fn.params.toList.all (pQ E 20)=true) (hr:∀ t∈fn.params.toList,Tryz.prog.readableRec t=true/\t<Tryz.prog.types.size) (hv:s.vars=[]) (ht:fn.resultTypes = #[tb]) (hb:Tryz.prog.underlying tb=some .bool)
  (hs:∀ ds:List (DataW H),ds.length=fn.params.toList.length->(s.fn H (ds++[])).results=[.lit (.bool true)]/\(s.fn H (ds++[])).args=ds/\(s.fn H (ds++[])).vars=[])
  (hc:∀ xs,uW E fn.params.toList xs->aq E ag xs (· = .bool true)) :
  Calls Tryz.prog ag args W fun e W'=>∃ v,e=.returned v/\s.post enc Tryz.prog fn false true false false W args v W':=by
 have zX:=hW;obtain⟨p,q,hA,hV,rfl,BQ,cX⟩:=hW;have Ui:∀ (j:Nat) t v,fn.params.toList[j]?=some t->args.toList[j]?=some v->Value.okWide E.P W .any base t v:=fun j t v ht hv=>bH j t v (by rwa [Array.getElem?_toList]at ht) (by rwa [Array.getElem?_toList]at hv);obtain⟨xs,h1,h2⟩:=Lr ab aM Ui hA;obtain⟨s1,s2,s3⟩:=hs ds (LC hA);have iU:=hc xs h2;unfold aq at iU;have:=iU.2 (fun _=>False) W args.toList (fun _ h=>h.elim) hG h1;rw[Array.toArray_toList]at this;refine this.mono fun e W' Uj=>?_;obtain⟨v,r,rfl,rfl,fh,hx⟩:=Uj;cases fh;exact⟨_,rfl,Uf Tryz.laidOut hr hv ht hb s1 s2 s3 zX hx⟩
theorem Uk{E:Env}{t:Nat}{ts:List Nat}{xs:List DV}(h:uW E (t::ts) xs):∃ x r,xs=x::r/\Gi E t x/\uW E ts r:=by
 cases xs with
 |nil=>exact h.elim
 |cons x r=>exact⟨x,r,rfl,h⟩
theorem Ul{P:Program}{l:List TypeId}(h:(l.all fun t=>P.readableRec t&&Nat.blt t P.types.size)=true):∀ t∈l,P.readableRec t=true/\t<P.types.size:=fun t ht=>by
 have:=List.all_eq_true.1 h t ht;rw[Bool.and_eq_true]at this;exact⟨this.1,yF this.2⟩
theorem Um {laid : List (String × DataW Unit)} {W : World} (hl : laidMet Tryz.prog laid W) (hm : ("nameplan/record.rules", Rows.laid_nameplan_record_rules) ∈ laid) : tV E.G (fun _ => False) W := by
 intro g e hg;have:(g,e)=(0,B5):=by
  have:(g,e)∈FH:=hg
  simpa [FH]using this
 cases this;exact Ud ab (n:=8) (m:=8) (t:=326) (vs:=(kR 8 (Rows.laid_nameplan_record_rules (H:=Unit))).getD []) hl hm (by kernel_rfl) (by kernel_rfl) (by kernel_rfl) (by kernel_rfl) (by kernel_rfl) (by simp[B5,DV.cells]) (fun h=>h)
end Go.Proofs.YtfmdaiojokniiaaGreatDoor
end
section
namespace Go.Proofs.YtfmdaiojokniiaaGreatDoor
open Go Go.Shelf Go.RowKit Go.Proofs
structure cn(b:Nat)(g:Option Nat)(w w':World):Prop where
 os:w'.os=w.os
 tape:w'.tape=w.tape
 output:w'.output=w.output
 size:w.heap.size<=w'.heap.size
 keep:∀ k,k<w.heap.size->k≠b->g≠some k->w'.heap[k]?=w.heap[k]?
theorem cn.refl(b:Nat)(g:Option Nat)(w:World):cn b g w w:=⟨rfl,rfl,rfl,Nat.le_refl _,fun _ _ _ _=>rfl⟩
theorem cn.trans{b:Nat}{g g2:Option Nat}{w w1 w2:World}(h:cn b g w w1)(k:cn b g2 w1 w2)(hg:g2=g\/∃ n,g2=some n/\w.heap.size<=n):cn b g w w2 :=
 ⟨k.os.trans h.os,k.tape.trans h.tape,k.output.trans h.output,Nat.le_trans h.size k.size,fun i hi hb hn=>by
  rw[k.keep i (Nat.lt_of_lt_of_le hi h.size) hb (by rcases hg with rfl|⟨n,rfl,hle⟩;exact hn;exact fun e=>by cases e;omega)]
  exact h.keep i hi hb hn⟩
theorem cn.set{b:Nat}{g:Option Nat}{w w1:World}(h:cn b g w w1)(i:Nat)(v:Value):cn b g w (w1.setCell ⟨b,i,none⟩ v) :=
 ⟨h.os,h.tape,h.output,by simpa [World.setCell]using h.size,fun k hk hb hn=>by rw[Below.heap_setCell _ _ _ _ hb];exact h.keep k hk hb hn⟩
theorem cn.Xw{b g:Nat}{w w1:World}(h:cn b (some g) w w1)(i:Nat)(v:Value):cn b (some g) w (w1.setCell ⟨g,i,none⟩ v) :=
 ⟨h.os,h.tape,h.output,by simpa [World.setCell]using h.size,fun k hk hb hn=>by rw[Below.heap_setCell _ _ _ _ (fun e=>hn (by rw[e]))];exact h.keep k hk hb hn⟩
theorem cn.row{b g:Nat}{w w1:World}(h:cn b (some g) w w1)(l:Array Value):cn b (some g) w (w1.setRow g l) :=
 ⟨h.os,h.tape,h.output,by simpa using h.size,fun k hk hb hn=>by rw[setRow_other _ _ _ _ (fun e=>hn (by rw[e]))];exact h.keep k hk hb hn⟩
theorem cn.below{b:Nat}{g:Option Nat}{w w1 w2:World}(h:cn b g w w1)(k:Below w1.heap.size w1 w2):cn b g w w2 :=
 ⟨k.os.trans h.os,k.tape.trans h.tape,k.output.trans h.output,Nat.le_trans h.size k.size,fun i hi hb hn=>by rw[k.block i (Nat.lt_of_lt_of_le hi h.size)];exact h.keep i hi hb hn⟩
theorem cn.alloc{b:Nat}{g:Option Nat}{w w1:World}(h:cn b g w w1)(o:Obj):cn b g w (w1.alloc o) :=
 ⟨h.os,h.tape,h.output,Nat.le_trans h.size (by show w1.heap.size<=(w1.heap.push o).size;rw[Array.size_push];omega),fun i hi hb hn=>by rw[Below.heap_alloc w1 o i (Nat.lt_of_lt_of_le hi h.size)];exact h.keep i hi hb hn⟩
theorem cn.fresh{b g2:Nat}{g:Option Nat}{w w1:World}(h:cn b g w w1)(hle:w.heap.size<=g2)(l:Array Value):cn b g w (w1.setRow g2 l) :=
 ⟨h.os,h.tape,h.output,by simpa using h.size,fun k hk hb hn=>by rw[setRow_other _ _ _ _ (by omega)];exact h.keep k hk hb hn⟩
theorem cn.wide{b:Nat}{g:Option Nat}{w w1:World}(h:cn b none w w1):cn b g w w1:=⟨h.os,h.tape,h.output,h.size,fun k hk hb _=>h.keep k hk hb (by simp)⟩
def eo(T:TypeId)(R:Nat->Option Value)(e:TypeId)(b q g:Nat)(bs:List Value)(n:Nat)(w:World):Prop:=∃ cap cur,
 LibA.Three w b q T R (.slice (some ⟨g,0,none⟩) (bs.length+n) cap) (.int .i64 0) (.int .i8 0)/\w.heap[g]?=some (.cells cur e (0,0)) /\
 bs.length+n<=cap/\cap<=maxLen/\cur.size=cap/\cur.toList.take bs.length=bs/\g≠b
theorem Xx{T:TypeId}{R:Nat->Option Value}{e:TypeId}{b q N n dS:Nat}{bs:List Value}{w2:World}{v0 v1:Value}{cells:Array Value}(dk:LibA.Three w2 b q T R v0 (.int .i64 0) (.int .i8 0))(hN:w2.heap[N]?=some (.cells cells e (0,0)))(Dd:N≠b)
  (ec:cells.size=dS) (iD:cells.toList.take bs.length=bs) (hc:bs.length+n<=dS) (hm:dS<=maxLen) :
  eo T R e b q N bs n (((w2.setCell ⟨b,q,none⟩ v1).setCell ⟨b,q+1,none⟩ (.int .i64 0)).setCell ⟨b,q,none⟩ (.slice (some ⟨N,0,none⟩) (bs.length+n) dS)) :=
 ⟨dS,cells,((dk.set0 v1).set1 (.int .i64 0)).set0 _,by rw[Below.heap_setCell _ _ _ _ Dd,Below.heap_setCell _ _ _ _ Dd,Below.heap_setCell _ _ _ _ Dd];exact hN,hc,hm,ec,iD,Dd⟩
section
variable {P:Program} {ρ : Ren}
set_option maxHeartbeats 12800000 in
set_option maxRecDepth 100000 in
theorem Hq(L:LaysM.n252 P ρ)(T:TypeId)(R:Nat->Option Value)(b q g l cap n:Nat)(cur:Array Value)(bs:List Value)(w:World)
  (dk:LibA.Three w b q T R (.slice (some ⟨g,0,none⟩) l cap) (.int .i64 0) (.int .i8 0)) (hl:bs.length=l) (hg:w.heap[g]?=some (.cells cur (ρ.t 5) (0,0))) (Ct:l<=cap) (fc:cap<=maxLen) (ec:cur.size=cap)
  (Hr:cur.toList.take l=bs) (kW:g≠b) (h1:∀ v∈bs,v.oneCell'=true) (rP:¬ l=0) (hn:1<=n) (qm:cap-l<n) (pX:l+n<=140737488355328) :
  Calls P (ρ.f 252) #[.pointer (some ⟨b,q,none⟩),.int .i64 n] w fun e w'=>e=.returned (.int .i64 l)/\∃ g2,w.heap.size<=g2/\eo T R (ρ.t 5) b q g2 bs n w'/\cn b none w w':=by
 have mixed:=L.mixed;have t5:=L.t5;have a5:=L.a5;have z5:=L.z5;have v5:=L.v5;have t130:=L.t130;have a130:=L.a130;have z130:=L.z130;have v130:=L.v130;have t3:=L.t3;have a3:=L.a3;have z3:=L.z3;have v3:=L.v3;have t4:=L.t4;have a4:=L.a4;have z4:=L.z4;have v4:=L.v4;have t0:=L.t0;have a0:=L.a0;have z0:=L.z0;have v0:=L.v0;have t93:=L.t93;have u93:=run_underlying L.t93;have a93:=L.a93;have z93:=L.z93;have v93:=L.v93;have t131:=L.t131;have a131:=L.a131;have z131:=L.z131;have v131:=L.v131;have t37:=L.t37;have a37:=L.a37;have z37:=L.z37;have v37:=L.v37;have t75:=L.t75;have a75:=L.a75;have z75:=L.z75;have v75:=L.v75;have Xy:∀ args w,(callFunc (ρ.f 181) args).run P w=.ok (.enter (ρ.f 181) args) w:=enters_of L.f181 (by kernel_rfl) rfl;have xV:∀ args w,(callFunc (ρ.f 251) args).run P w=.ok (.enter (ρ.f 251) args) w:=enters_of L.f251 (by kernel_rfl) rfl;have abK:∀ args w,(callFunc (ρ.f 290) args).run P w=.ok (.enter (ρ.f 290) args) w:=enters_of L.f290 (by kernel_rfl) rfl;have Av:LibA.IsBuffer T R (ρ.t 5) 0 b q bs w:=⟨Nat.zero_le _,_,_,dk,⟨by rw[hl,Nat.mul_one],.inr ⟨g,cap,cur,by rw[hl],Nat.zero_le _,hg,by omega,fc,by omega,by rw[hl,Nat.mul_one];exact Hr⟩⟩,by simp[Value.ownBlock];exact kW⟩;have nj:∀ W,(binOp .eql (ρ.t 37) (.slice (some ⟨g,0,none⟩) l cap) (.slice none 0 0)).run P W=.ok (.bool false) W:=fun W=>Lib.run_eql_slice_some_nil W _ _ _ L.t37
 go_enter L.f252,Body.n252_ntmps ρ
 go_wp2_with (go_at_fn (ρ.f 181);refine(Any.Buffer_Len_at { L with } T R 0 b q bs _ Av).mono ?_)
 rintro e W0 ⟨rfl,k,tu⟩;rw[hl];have ep:LibA.Three W0 b q T R (.slice (some ⟨g,0,none⟩) l cap) (.int .i64 0) (.int .i8 0):=by rw[tu];exact dk
 have c0:W0.cell? ⟨b,q,none⟩=some (.slice (some ⟨g,0,none⟩) l cap):=ep.c0;have c1:W0.cell? ⟨b,q+1,none⟩=some (.int .i64 0):=ep.c1;have f0:W0.frozen? ⟨b,q,none⟩=false:=ep.f q;have f1:W0.frozen? ⟨b,q+1,none⟩=false:=ep.f (q+1);have rF:W0.heap[g]?=some (.cells cur (ρ.t 5) (0,0)):=by rw[tu];exact hg
 have Aw:=Lib.hid tu;clear tu Av;have Xz:=fc;unfold maxLen at Xz
 go_wp2_with (go_at_fn (ρ.f 251);refine(Any.Buffer_tryGrow_none_at { L with } b q _ l cap n _ c0 Ct fc qm).mono ?_;rintro e w' ⟨rfl,rfl⟩)
 have Ax:cap<=140737488355328:=by omega
 have qx:∀ v∈cur.toList.take l,v.oneCell'=true:=by rw[Hr];exact h1
 have XA:=ep.lt;have hwn:IntKind.i64.wrap (n:Int)=n:=by rw[IntKind.wrap_i64];omega
 go_region_with_o (
   go_at_fn (ρ.f 290)
   refine(Any.bytes_growSlice_row { L with } g l cap n cur _ ?_ ec Ct hn pX Ax qx).mono ?_;exact rF;rintro e w2 ⟨dS,cells,rfl,hN,XB,iD,XC,km,Nz⟩;have ig:LibA.Three w2 b q T R (.slice (some ⟨g,0,none⟩) l cap) (.int .i64 0) (.int .i8 0):=ep.of_heap (Nz.block b XA);have d0:w2.cell? ⟨b,q,none⟩=some (.slice (some ⟨g,0,none⟩) l cap):=ig.c0;have d1:w2.cell? ⟨b,q+1,none⟩=some (.int .i64 0):=ig.c1;have e0:w2.frozen? ⟨b,q,none⟩=false:=ig.f q
   have e1:w2.frozen? ⟨b,q+1,none⟩=false:=ig.f (q+1))
 all_goals (
  go_wp2
  go_ret
  have XD:w'.heap.size=w.heap.size:=by rw[Aw.out];rfl
  have bY:cn b none w w'.drew:=by rw[Aw.out];exact⟨rfl,rfl,rfl,Nat.le_refl _,fun _ _ _ _=>rfl⟩
  have fM:cn b none w w2:=bY.below Nz;subst hl
  exact⟨rfl,w'.heap.size,by omega,Xx ig hN (by omega) XB (iD.trans Hr) XC km,((fM.set q _).set (q+1) _).set q _⟩)
def vz(g g2:Nat)(w:World):Prop:=g2=g\/w.heap.size<=g2
theorem tv{T:TypeId}{R:Nat->Option Value}{e:TypeId}{b q g:Nat}{bs:List Value}{w:World}(h:eo T R e b q g bs 0 w):∃ cap cur,
  LibA.Three w b q T R (.slice (some ⟨g,0,none⟩) bs.length cap) (.int .i64 0) (.int .i8 0)/\w.heap[g]?=some (.cells cur e (0,0))/\bs.length<=cap/\cap<=maxLen/\cur.size=cap/\cur.toList.take bs.length=bs/\g≠b:=h
theorem De{T:TypeId}{R:Nat->Option Value}{e:TypeId}{b q g n:Nat}{bs:List Value}{w:World}(h:eo T R e b q g bs n w):eo T R e b q g bs n (w.setCell ⟨b,q+2,none⟩ (.int .i8 0)):=by
 obtain⟨cap,cur,h1,h2,h3,h4,h5,h6,h7⟩:=h;exact⟨cap,cur,h1.set2 _,by rw[Below.heap_setCell _ _ _ _ h7];exact h2,h3,h4,h5,h6,h7⟩
theorem XE{cur:Array Value}{l:Nat}{bs:List Value}{v:Value}(iD:cur.toList.take l=bs)(hl:bs.length=l)(ah:l<cur.size):(cur.setIfInBounds l v).toList.take (l+1)=bs++[v]:=by
 have l4:l<cur.toList.length:=by rw[Array.length_toList];exact ah
 rw[Array.toList_setIfInBounds,List.take_add_one,List.take_set_of_le (Nat.le_refl _),List.getElem?_set_self l4,iD];rfl
theorem XF{cur:Array Value}{l:Nat}{bs cs:List Value}(iD:cur.toList.take l=bs):(cur.toList.take l++cs++cur.toList.drop (l+cs.length)).toArray.toList.take (bs++cs).length=bs++cs:=by
 rw[List.toList_toArray,iD,List.take_left' rfl]
theorem Hs{T:TypeId}{R:Nat->Option Value}{e:TypeId}{b q g:Nat}{bs:List Value}{w:World}{v:Value}(h:eo T R e b q g bs 1 w):eo T R e b q g (bs++[v]) 0 (w.setCell ⟨g,bs.length,none⟩ v):=by
 obtain⟨cap,cur,h1,h2,h3,h4,h5,h6,h7⟩:=h;refine⟨cap,cur.setIfInBounds bs.length v,?_,Lib.heap_setCell_same (i:=bs.length) h2 v,by simpa using h3,h4,by simpa using h5,?_,h7⟩
 ·have:=h1.of_heap (w':=w.setCell ⟨g,bs.length,none⟩ v) (Below.heap_setCell _ _ _ _ (Ne.symm h7))
  simpa using this
 ·have:=XE (v:=v) h6 rfl (by omega)
  simpa using this
theorem Df{T:TypeId}{R:Nat->Option Value}{e:TypeId}{b q g n:Nat}{bs cs:List Value}{w:World}{cur:Array Value}(h:eo T R e b q g bs n w)(hg:w.heap[g]?=some (.cells cur e (0,0)))(hn:cs.length=n) :
  eo T R e b q g (bs++cs) 0 (w.setRow g (cur.toList.take bs.length++cs++cur.toList.drop (bs.length+n)).toArray):=by
 obtain⟨cap,cur',h1,h2,h3,h4,h5,h6,h7⟩:=h;rw[hg]at h2;injection h2 with h2;injection h2 with h2 _ _;subst h2;subst hn;refine⟨cap,_,?_,setRow_heap w g cur _ e (0,0) hg,by simpa using h3,h4,?_,XF h6,h7⟩
 ·have:=h1.of_heap (w':=w.setRow g (cur.toList.take bs.length++cs++cur.toList.drop (bs.length+cs.length)).toArray) (setRow_other _ _ _ _ (Ne.symm h7))
  simpa using this
 ·have hl:cur.toList.length=cur.size:=Array.length_toList;simp only[List.size_toArray,List.length_append,List.length_take,List.length_drop,hl];omega
set_option maxHeartbeats 6400000 in
set_option maxRecDepth 100000 in
theorem XG(L:LaysM.n179 P ρ)(T:TypeId)(R:Nat->Option Value)(b q g:Nat)(bs:List Value)(c:Int)(w:World)(h:eo T R (ρ.t 5) b q g bs 0 w)(aI:¬ bs.length=0)(h1:∀ v∈bs,v.oneCell'=true)(pX:bs.length+1<=140737488355328) :
  Calls P (ρ.f 179) #[.pointer (some ⟨b,q,none⟩),.int .u8 c] w fun e w'=>e=.returned .nilIface/\∃ g2,vz g g2 w/\eo T R (ρ.t 5) b q g2 (bs++[.int .u8 c]) 0 w'/\cn b (some g) w w':=by
 have mixed:=L.mixed;have t5:=L.t5;have a5:=L.a5;have z5:=L.z5;have v5:=L.v5;have t130:=L.t130;have a130:=L.a130;have z130:=L.z130;have v130:=L.v130;have t75:=L.t75;have a75:=L.a75;have z75:=L.z75;have v75:=L.v75;have t0:=L.t0;have a0:=L.a0;have z0:=L.z0;have v0:=L.v0;have t93:=L.t93;have u93:=run_underlying L.t93;have a93:=L.a93;have z93:=L.z93;have v93:=L.v93;have t91:=L.t91;have a91:=L.a91;have z91:=L.z91;have v91:=L.v91;have t3:=L.t3;have a3:=L.a3;have z3:=L.z3;have v3:=L.v3;have t131:=L.t131;have a131:=L.a131;have z131:=L.z131;have v131:=L.v131;have t4:=L.t4;have a4:=L.a4;have z4:=L.z4;have v4:=L.v4;have t37:=L.t37;have a37:=L.a37;have z37:=L.z37;have v37:=L.v37;have xV:∀ args w,(callFunc (ρ.f 251) args).run P w=.ok (.enter (ρ.f 251) args) w:=enters_of L.f251 (by kernel_rfl) rfl;have Dg:∀ args w,(callFunc (ρ.f 252) args).run P w=.ok (.enter (ρ.f 252) args) w:=enters_of L.f252 (by kernel_rfl) rfl;have h0:=De h;have bY:cn b (some g) w (w.setCell ⟨b,q+2,none⟩ (.int .i8 0)):=(cn.refl b (some g) w).set _ _;have bP:(w.setCell ⟨b,q+2,none⟩ (.int .i8 0)).heap.size=w.heap.size:=by simp[World.setCell]
 obtain⟨Ht,Hu,ep,rF,vA,vB,vC,vD,Hv⟩:=tv h;have c2:w.cell? ⟨b,q+2,none⟩=some (.int .i8 0):=ep.c2;have f2:w.frozen? ⟨b,q+2,none⟩=false:=ep.f (q+2);clear ep rF vD vC vB vA;obtain⟨cap,cur,dk,hg,ny,fc,ec,iD,kW⟩:=tv h0;clear h0;by_cases hr:1<=cap-bs.length
 ·have hT:=Any.Buffer_tryGrow_room_at { L with } b q (some ⟨g,0,none⟩) bs.length cap 1 _ dk.c0 (dk.f q) ny fc hr
  go_enter L.f179,Body.n179_ntmps ρ
  go_wp2_with (go_at_fn (ρ.f 251);refine hT.mono ?_)
  rintro e W1 ⟨rfl,kn⟩;have hX:eo T R (ρ.t 5) b q g bs 1 W1:=by rw[kn];exact⟨cap,cur,dk.set0 _,by rw[Below.heap_setCell _ _ _ _ kW];exact hg,by omega,fc,ec,iD,kW⟩
  have hK:cn b (some g) w W1:=by rw[kn];exact bY.set _ _
  clear kn hT dk hg;obtain⟨dS,kp,ig,ik,tx,km,vE,o7,-⟩:=id hX;have d0:W1.cell? ⟨b,q,none⟩=some (.slice (some ⟨g,0,none⟩) (bs.length+1) dS):=ig.c0;have ah:bs.length<kp.size:=by omega
  have dg:W1.cell? ⟨g,bs.length,none⟩=some kp[bs.length]:=by rw[Lib.cell_of_heap ik,Array.getElem?_eq_getElem ah]
  have fg:W1.frozen? ⟨g,bs.length,none⟩=false:=Lib.frozen_of_heap ik _;unfold maxLen at fc km
  go_wp2
  go_ret
  exact⟨rfl,g,.inl rfl,Hs hX,hK.Xw _ _⟩
 ·have hT:=Any.Buffer_tryGrow_none_at { L with } b q (some ⟨g,0,none⟩) bs.length cap 1 _ dk.c0 ny fc (by omega);have hG:=Hq { L with } T R b q g bs.length cap 1 cur bs _ dk rfl hg ny fc ec iD kW h1 aI (Nat.le_refl _) (by omega) pX
  go_enter L.f179,Body.n179_ntmps ρ
  go_wp2_with (go_at_fn (ρ.f 251);refine hT.mono ?_;rintro e w' ⟨rfl,rfl⟩)
  go_wp2_with (go_at_fn (ρ.f 252);refine hG.mono ?_)
  rintro e W1 ⟨rfl,g2,Hw,hX,kq⟩;have hK:cn b (some g) w W1:=bY.trans kq.wide (.inl rfl);clear hT hG dk hg;obtain⟨dS,kp,ig,ik,tx,km,vE,o7,-⟩:=id hX;have d0:W1.cell? ⟨b,q,none⟩=some (.slice (some ⟨g2,0,none⟩) (bs.length+1) dS):=ig.c0;have ah:bs.length<kp.size:=by omega
  have dg:W1.cell? ⟨g2,bs.length,none⟩=some kp[bs.length]:=by rw[Lib.cell_of_heap ik,Array.getElem?_eq_getElem ah]
  have fg:W1.frozen? ⟨g2,bs.length,none⟩=false:=Lib.frozen_of_heap ik _;unfold maxLen at fc km
  go_wp2
  go_ret
  refine⟨rfl,g2,.inr (by omega),Hs hX,⟨hK.os,hK.tape,hK.output,by simpa [World.setCell]using hK.size,fun k hk hb hn=>?_⟩⟩;rw[Below.heap_setCell _ _ _ _ (by show k≠g2;omega)];exact hK.keep k hk hb hn
set_option maxHeartbeats 6400000 in
set_option maxRecDepth 100000 in
theorem XH(L:LaysM.n178 P ρ)(T:TypeId)(R:Nat->Option Value)(b q g:Nat)(bs:List Value)(s:ByteArray)(w:World)(h:eo T R (ρ.t 5) b q g bs 0 w)(aI:¬ bs.length=0)(hs:¬ s.size=0)(h1:∀ v∈bs,v.oneCell'=true)(pX:bs.length+s.size<=140737488355328) :
  Calls P (ρ.f 178) #[.pointer (some ⟨b,q,none⟩),.string s] w fun e w'=>e=.returned (.tuple #[.int .i64 s.size,.nilIface])/\∃ g2,vz g g2 w/\eo T R (ρ.t 5) b q g2 (bs++Lib.byteCells s.data.toList) 0 w'/\cn b (some g) w w':=by
 have mixed:=L.mixed;have t5:=L.t5;have a5:=L.a5;have z5:=L.z5;have v5:=L.v5;have t130:=L.t130;have a130:=L.a130;have z130:=L.z130;have v130:=L.v130;have t75:=L.t75;have a75:=L.a75;have z75:=L.z75;have v75:=L.v75;have t0:=L.t0;have a0:=L.a0;have z0:=L.z0;have v0:=L.v0;have t93:=L.t93;have u93:=run_underlying L.t93;have a93:=L.a93;have z93:=L.z93;have v93:=L.v93;have t91:=L.t91;have a91:=L.a91;have z91:=L.z91;have v91:=L.v91;have t3:=L.t3;have a3:=L.a3;have z3:=L.z3;have v3:=L.v3;have t131:=L.t131;have a131:=L.a131;have z131:=L.z131;have v131:=L.v131;have t4:=L.t4;have a4:=L.a4;have z4:=L.z4;have v4:=L.v4;have t37:=L.t37;have a37:=L.a37;have z37:=L.z37;have v37:=L.v37;have t9:=L.t9;have a9:=L.a9;have z9:=L.z9;have v9:=L.v9;have xV:∀ args w,(callFunc (ρ.f 251) args).run P w=.ok (.enter (ρ.f 251) args) w:=enters_of L.f251 (by kernel_rfl) rfl;have Dg:∀ args w,(callFunc (ρ.f 252) args).run P w=.ok (.enter (ρ.f 252) args) w:=enters_of L.f252 (by kernel_rfl) rfl;have h0:=De h;have bY:cn b (some g) w (w.setCell ⟨b,q+2,none⟩ (.int .i8 0)):=(cn.refl b (some g) w).set _ _;have bP:(w.setCell ⟨b,q+2,none⟩ (.int .i8 0)).heap.size=w.heap.size:=by simp[World.setCell]
 obtain⟨Ht,Hu,ep,rF,vA,vB,vC,vD,Hv⟩:=tv h;have c2:w.cell? ⟨b,q+2,none⟩=some (.int .i8 0):=ep.c2;have f2:w.frozen? ⟨b,q+2,none⟩=false:=ep.f (q+2);clear ep rF vD vC vB vA;obtain⟨cap,cur,dk,hg,ny,fc,ec,iD,kW⟩:=tv h0;clear h0;have vF:(P.info? (ρ.t 5)).map (·.size)=some 1:=by
  obtain⟨i0,hi,-,gr,-⟩:=info_parts L.i5;rw[hi];simp[gr]
 by_cases hr:s.size<=cap-bs.length
 ·have hT:=Any.Buffer_tryGrow_room_at { L with } b q (some ⟨g,0,none⟩) bs.length cap s.size _ dk.c0 (dk.f q) ny fc hr
  go_enter L.f178,Body.n178_ntmps ρ
  go_wp2_with (go_at_fn (ρ.f 251);refine hT.mono ?_)
  rintro e W1 ⟨rfl,kn⟩;have hX:eo T R (ρ.t 5) b q g bs s.size W1:=by rw[kn];exact⟨cap,cur,dk.set0 _,by rw[Below.heap_setCell _ _ _ _ kW];exact hg,by omega,fc,ec,iD,kW⟩
  have hK:cn b (some g) w W1:=by rw[kn];exact bY.set _ _
  have Ay:w.grownBy W1 (some b):=by rw[kn];exact Lib.grownBy_setB (Lib.grownBy_setCell w b (q+2) _) q _
  clear kn;clear hT dk hg;obtain⟨dS,kp,ig,ik,tx,km,vE,o7,-⟩:=id hX;have d0:W1.cell? ⟨b,q,none⟩=some (.slice (some ⟨g,0,none⟩) (bs.length+s.size) dS):=ig.c0;have Hy:¬ dS=bs.length:=by omega
  have Az:=Lib.run_copy_row_string (P:=P) W1 (ρ.t 37) (ρ.t 9) (ρ.t 3) (ρ.t 5) g bs.length s.size (dS-bs.length) s kp (ρ.t 5) L.t37 vF ik (by omega) (by omega);have vG:=km;unfold maxLen at vG;unfold maxLen at fc
  go_wp2
  go_ret2
  refine⟨rfl,g,.inl rfl,?_,hK.row _⟩;have:=Df (cs:=Lib.byteCells s.data.toList) hX ik (by rw[Lib.byteCells_length,<- Lib.size_eq])
  simpa [o7]using this
 ·have hT:=Any.Buffer_tryGrow_none_at { L with } b q (some ⟨g,0,none⟩) bs.length cap s.size _ dk.c0 ny fc (by omega);have hG:=Hq { L with } T R b q g bs.length cap s.size cur bs _ dk rfl hg ny fc ec iD kW h1 aI (by omega) (by omega) pX
  go_enter L.f178,Body.n178_ntmps ρ
  go_wp2_with (go_at_fn (ρ.f 251);refine hT.mono ?_;rintro e w' ⟨rfl,rfl⟩)
  go_wp2_with (go_at_fn (ρ.f 252);refine hG.mono ?_)
  rintro e W1 ⟨rfl,g2,Hw,hX,kq⟩;have hK:cn b (some g) w W1:=bY.trans kq.wide (.inl rfl);have Ay:w.grownBy W1 (some b):=Lib.grownBy_trans (Lib.grownBy_setCell w b (q+2) _) ⟨kq.os,kq.tape,kq.output,kq.size,fun k hk hb=>kq.keep k hk (fun e=>hb (by rw[e])) (by simp)⟩;have hle:w.heap.size<=g2:=by omega
  clear hT hG dk hg;obtain⟨dS,kp,ig,ik,tx,km,vE,o7,-⟩:=id hX;have d0:W1.cell? ⟨b,q,none⟩=some (.slice (some ⟨g2,0,none⟩) (bs.length+s.size) dS):=ig.c0;have Hy:¬ dS=bs.length:=by omega
  have Az:=Lib.run_copy_row_string (P:=P) W1 (ρ.t 37) (ρ.t 9) (ρ.t 3) (ρ.t 5) g2 bs.length s.size (dS-bs.length) s kp (ρ.t 5) L.t37 vF ik (by omega) (by omega);have vG:=km;unfold maxLen at vG;unfold maxLen at fc
  go_wp2
  go_ret2
  refine⟨rfl,g2,.inr hle,?_,hK.fresh hle _⟩;have:=Df (cs:=Lib.byteCells s.data.toList) hX ik (by rw[Lib.byteCells_length,<- Lib.size_eq])
  simpa [o7]using this
set_option maxHeartbeats 6400000 in
set_option maxRecDepth 100000 in
theorem XI(L:LaysM.n180 P ρ)(T:TypeId)(R:Nat->Option Value)(b q g:Nat)(bs cs:List Value)(a:Addr)(n c:Nat)(w:World)(h:eo T R (ρ.t 5) b q g bs 0 w)(aI:¬ bs.length=0)(hs:¬ n=0)(h1:∀ v∈bs,v.oneCell'=true)
  (hn:cs.length=n) (qu:a.block≠b) (qs:∀ j v,cs[j]?=some v->w.cell? (a.add j)=some v) (NA:∀ v∈cs,v.oneCell'=true) (pX:bs.length+n<=140737488355328) :
  Calls P (ρ.f 180) #[.pointer (some ⟨b,q,none⟩),.slice (some a) n c] w fun e w'=>e=.returned (.tuple #[.int .i64 n,.nilIface])/\∃ g2,vz g g2 w/\eo T R (ρ.t 5) b q g2 (bs++cs) 0 w'/\cn b (some g) w w':=by
 have mixed:=L.mixed;have t5:=L.t5;have a5:=L.a5;have z5:=L.z5;have v5:=L.v5;have t130:=L.t130;have a130:=L.a130;have z130:=L.z130;have v130:=L.v130;have t75:=L.t75;have a75:=L.a75;have z75:=L.z75;have v75:=L.v75;have t0:=L.t0;have a0:=L.a0;have z0:=L.z0;have v0:=L.v0;have t93:=L.t93;have u93:=run_underlying L.t93;have a93:=L.a93;have z93:=L.z93;have v93:=L.v93;have t91:=L.t91;have a91:=L.a91;have z91:=L.z91;have v91:=L.v91;have t3:=L.t3;have a3:=L.a3;have z3:=L.z3;have v3:=L.v3;have t131:=L.t131;have a131:=L.a131;have z131:=L.z131;have v131:=L.v131;have t4:=L.t4;have a4:=L.a4;have z4:=L.z4;have v4:=L.v4;have t37:=L.t37;have a37:=L.a37;have z37:=L.z37;have v37:=L.v37;have xV:∀ args w,(callFunc (ρ.f 251) args).run P w=.ok (.enter (ρ.f 251) args) w:=enters_of L.f251 (by kernel_rfl) rfl;have Dg:∀ args w,(callFunc (ρ.f 252) args).run P w=.ok (.enter (ρ.f 252) args) w:=enters_of L.f252 (by kernel_rfl) rfl;have h0:=De h;have bY:cn b (some g) w (w.setCell ⟨b,q+2,none⟩ (.int .i8 0)):=(cn.refl b (some g) w).set _ _;have bP:(w.setCell ⟨b,q+2,none⟩ (.int .i8 0)).heap.size=w.heap.size:=by simp[World.setCell]
 obtain⟨Ht,Hu,ep,rF,vA,vB,vC,vD,Hv⟩:=tv h;have c2:w.cell? ⟨b,q+2,none⟩=some (.int .i8 0):=ep.c2;have f2:w.frozen? ⟨b,q+2,none⟩=false:=ep.f (q+2);clear ep rF vD vC vB vA;obtain⟨cap,cur,dk,hg,ny,fc,ec,iD,kW⟩:=tv h0;clear h0;have vF:(P.info? (ρ.t 5)).map (·.size)=some 1:=by
  obtain⟨i0,hi,-,gr,-⟩:=info_parts L.i5;rw[hi];simp[gr]
 by_cases hr:n<=cap-bs.length
 ·have hT:=Any.Buffer_tryGrow_room_at { L with } b q (some ⟨g,0,none⟩) bs.length cap n _ dk.c0 (dk.f q) ny fc hr
  go_enter L.f180,Body.n180_ntmps ρ
  go_wp2_with (go_at_fn (ρ.f 251);refine hT.mono ?_)
  rintro e W1 ⟨rfl,kn⟩;have hX:eo T R (ρ.t 5) b q g bs n W1:=by rw[kn];exact⟨cap,cur,dk.set0 _,by rw[Below.heap_setCell _ _ _ _ kW];exact hg,by omega,fc,ec,iD,kW⟩
  have hK:cn b (some g) w W1:=by rw[kn];exact bY.set _ _
  have Ay:w.grownBy W1 (some b):=by rw[kn];exact Lib.grownBy_setB (Lib.grownBy_setCell w b (q+2) _) q _
  clear kn;clear hT dk hg;obtain⟨dS,kp,ig,ik,tx,km,vE,o7,-⟩:=id hX;have d0:W1.cell? ⟨b,q,none⟩=some (.slice (some ⟨g,0,none⟩) (bs.length+n) dS):=ig.c0;have Hy:¬ dS=bs.length:=by omega
  have Hz:∀ j v,cs[j]?=some v->W1.cell? (a.add j)=some v:=fun j v hj=>Ay.cell (qs j v hj) (by rw[Lib.block_add];exact fun e=>qu (Option.some.inj e));have Az:=run_copy_row (P:=P) W1 (ρ.t 37) (ρ.t 37) (ρ.t 3) (ρ.t 5) g bs.length n (dS-bs.length) a n c kp (ρ.t 5) cs L.t37 vF ik (by rw[hn];exact(Nat.min_self n).symm) Hz (by rw[hn];omega) NA;rw[hn]at Az;have vG:=km;unfold maxLen at vG;unfold maxLen at fc
  go_wp2
  go_ret2
  refine⟨rfl,g,.inl rfl,?_,hK.row _⟩;have:=Df (cs:=cs) hX ik hn
  simpa [o7]using this
 ·have hT:=Any.Buffer_tryGrow_none_at { L with } b q (some ⟨g,0,none⟩) bs.length cap n _ dk.c0 ny fc (by omega);have hG:=Hq { L with } T R b q g bs.length cap n cur bs _ dk rfl hg ny fc ec iD kW h1 aI (by omega) (by omega) pX
  go_enter L.f180,Body.n180_ntmps ρ
  go_wp2_with (go_at_fn (ρ.f 251);refine hT.mono ?_;rintro e w' ⟨rfl,rfl⟩)
  go_wp2_with (go_at_fn (ρ.f 252);refine hG.mono ?_)
  rintro e W1 ⟨rfl,g2,Hw,hX,kq⟩;have hK:cn b (some g) w W1:=bY.trans kq.wide (.inl rfl);have Ay:w.grownBy W1 (some b):=Lib.grownBy_trans (Lib.grownBy_setCell w b (q+2) _) ⟨kq.os,kq.tape,kq.output,kq.size,fun k hk hb=>kq.keep k hk (fun e=>hb (by rw[e])) (by simp)⟩;have hle:w.heap.size<=g2:=by omega
  clear hT hG dk hg;obtain⟨dS,kp,ig,ik,tx,km,vE,o7,-⟩:=id hX;have d0:W1.cell? ⟨b,q,none⟩=some (.slice (some ⟨g2,0,none⟩) (bs.length+n) dS):=ig.c0;have Hy:¬ dS=bs.length:=by omega
  have Hz:∀ j v,cs[j]?=some v->W1.cell? (a.add j)=some v:=fun j v hj=>Ay.cell (qs j v hj) (by rw[Lib.block_add];exact fun e=>qu (Option.some.inj e));have Az:=run_copy_row (P:=P) W1 (ρ.t 37) (ρ.t 37) (ρ.t 3) (ρ.t 5) g2 bs.length n (dS-bs.length) a n c kp (ρ.t 5) cs L.t37 vF ik (by rw[hn];exact(Nat.min_self n).symm) Hz (by rw[hn];omega) NA;rw[hn]at Az;have vG:=km;unfold maxLen at vG;unfold maxLen at fc
  go_wp2
  go_ret2
  refine⟨rfl,g2,.inr hle,?_,hK.fresh hle _⟩;have:=Df (cs:=cs) hX ik hn
  simpa [o7]using this
set_option maxHeartbeats 12800000 in
set_option maxRecDepth 100000 in
theorem XJ(L:LaysM.n252 P ρ)(T:TypeId)(R:Nat->Option Value)(b q:Nat)(w:World)(dk:LibA.Three w b q T R (.slice none 0 0) (.int .i64 0) (.int .i8 0)) :
  Calls P (ρ.f 252) #[.pointer (some ⟨b,q,none⟩),.int .i64 1] w fun e w'=>e=.returned (.int .i64 0)/\∃ g2,w.heap.size<=g2/\eo T R (ρ.t 5) b q g2 [] 1 w'/\cn b none w w':=by
 have mixed:=L.mixed;have t5:=L.t5;have a5:=L.a5;have z5:=L.z5;have v5:=L.v5;have t130:=L.t130;have a130:=L.a130;have z130:=L.z130;have v130:=L.v130;have t3:=L.t3;have a3:=L.a3;have z3:=L.z3;have v3:=L.v3;have t4:=L.t4;have a4:=L.a4;have z4:=L.z4;have v4:=L.v4;have t0:=L.t0;have a0:=L.a0;have z0:=L.z0;have v0:=L.v0;have t93:=L.t93;have u93:=run_underlying L.t93;have a93:=L.a93;have z93:=L.z93;have v93:=L.v93;have t131:=L.t131;have a131:=L.a131;have z131:=L.z131;have v131:=L.v131;have t37:=L.t37;have a37:=L.a37;have z37:=L.z37;have v37:=L.v37;have t75:=L.t75;have a75:=L.a75;have z75:=L.z75;have v75:=L.v75;have Xy:∀ args w,(callFunc (ρ.f 181) args).run P w=.ok (.enter (ρ.f 181) args) w:=enters_of L.f181 (by kernel_rfl) rfl;have xV:∀ args w,(callFunc (ρ.f 251) args).run P w=.ok (.enter (ρ.f 251) args) w:=enters_of L.f251 (by kernel_rfl) rfl;obtain⟨i0,hi,zK,gr,ix⟩:=info_parts L.i5;obtain⟨M,hM⟩:∃ M,M=madeCells (Value.int .u8 0).cells ((64:Int).toNat*i0.size):=⟨_,rfl⟩;have XK:M.size=64:=by rw[hM,size_madeCells,gr];rfl
 have lQ:∀ W:World,(Instr.makeSlice (ρ.t 37) (.int .i64 1) (.int .i64 64)).run P W=.ok (.slice (some ⟨W.heap.size,0,none⟩) 1 64) (W.alloc (.cells M (ρ.t 5))):=fun W=>by
  have h:=run_makeSlice (P:=P) W (ρ.t 37) (ρ.t 5) i0 (.int .u8 0) L.t37 hi zK .i64 .i64 1 64 (by omega) (by omega) (by rw[gr];decide) (by rw[ix];decide) (by decide);rw[<- hM]at h
  simpa using h
 clear hM;have Av:LibA.IsBuffer T R (ρ.t 5) 0 b q [] w:=⟨Nat.zero_le _,_,_,dk,World.ownsRow_nil _ _ _ _,by simp[Value.ownBlock]⟩;have nj:∀ W,(binOp .eql (ρ.t 37) (.slice none 0 0) (.slice none 0 0)).run P W=.ok (.bool true) W:=fun W=>Lib.run_eql_slice_nil_nil W _ _ L.t37
 go_enter L.f252,Body.n252_ntmps ρ
 go_wp2_with (go_at_fn (ρ.f 181);refine(Any.Buffer_Len_at { L with } T R 0 b q [] _ Av).mono ?_)
 rintro e W0 ⟨rfl,k,tu⟩;have ep:LibA.Three W0 b q T R (.slice none 0 0) (.int .i64 0) (.int .i8 0):=by rw[tu];exact dk
 have c0:W0.cell? ⟨b,q,none⟩=some (.slice none 0 0):=ep.c0;have c1:W0.cell? ⟨b,q+1,none⟩=some (.int .i64 0):=ep.c1;have f0:W0.frozen? ⟨b,q,none⟩=false:=ep.f q;have f1:W0.frozen? ⟨b,q+1,none⟩=false:=ep.f (q+1);have HA:=ep.lt;have c0a:∀ o,(W0.alloc o).cell? ⟨b,q,none⟩=some (.slice none 0 0):=fun o=>(World.cell?_of_block (a:=⟨b,q,none⟩) (Below.heap_alloc W0 o b HA)).trans c0;have f0a:∀ o,(W0.alloc o).frozen? ⟨b,q,none⟩=false:=fun o=>(World.frozen?_of_block (a:=⟨b,q,none⟩) (Below.heap_alloc W0 o b HA)).trans f0;have Aw:=Lib.hid tu;clear tu Av
 go_wp2_with (go_at_fn (ρ.f 251);refine(Any.Buffer_tryGrow_none_at { L with } b q _ 0 0 1 _ c0 (Nat.le_refl _) (Nat.zero_le _) (by omega)).mono ?_;rintro e w' ⟨rfl,rfl⟩)
 go_ret
 have XD:w'.heap.size=w.heap.size:=by rw[Aw.out];rfl
 have bY:cn b none w w':=by rw[Aw.out];exact⟨rfl,rfl,rfl,Nat.le_refl _,fun _ _ _ _=>rfl⟩
 have NB:∀ v,(w'.setCell ⟨b,q,none⟩ v).heap.size=w'.heap.size:=fun v=>by simp[World.setCell]
 refine⟨rfl,w'.heap.size,by omega,⟨64,M,?_,?_,by decide,by decide,XK,rfl,by omega⟩,(bY.set q _).alloc _⟩
 ·exact(ep.set0 _).of_heap (Below.heap_alloc _ _ b (by rw[NB];exact HA))
 ·have h:=heap_alloc_new (w'.setCell ⟨b,q,none⟩ (.slice (some ⟨w'.heap.size,0,none⟩) 1 64)) (.cells M (ρ.t 5));rw[NB]at h;exact h
set_option maxHeartbeats 6400000 in
set_option maxRecDepth 100000 in
theorem XL(L:LaysM.n179 P ρ)(T:TypeId)(R:Nat->Option Value)(b q:Nat)(c:Int)(w:World)(ep:LibA.Three w b q T R (.slice none 0 0) (.int .i64 0) (.int .i8 0)) :
  Calls P (ρ.f 179) #[.pointer (some ⟨b,q,none⟩),.int .u8 c] w fun e w'=>e=.returned .nilIface/\∃ g2,w.heap.size<=g2/\eo T R (ρ.t 5) b q g2 [.int .u8 c] 0 w'/\cn b none w w':=by
 have mixed:=L.mixed;have t5:=L.t5;have a5:=L.a5;have z5:=L.z5;have v5:=L.v5;have t130:=L.t130;have a130:=L.a130;have z130:=L.z130;have v130:=L.v130;have t75:=L.t75;have a75:=L.a75;have z75:=L.z75;have v75:=L.v75;have t0:=L.t0;have a0:=L.a0;have z0:=L.z0;have v0:=L.v0;have t93:=L.t93;have u93:=run_underlying L.t93;have a93:=L.a93;have z93:=L.z93;have v93:=L.v93;have t91:=L.t91;have a91:=L.a91;have z91:=L.z91;have v91:=L.v91;have t3:=L.t3;have a3:=L.a3;have z3:=L.z3;have v3:=L.v3;have t131:=L.t131;have a131:=L.a131;have z131:=L.z131;have v131:=L.v131;have t4:=L.t4;have a4:=L.a4;have z4:=L.z4;have v4:=L.v4;have t37:=L.t37;have a37:=L.a37;have z37:=L.z37;have v37:=L.v37;have xV:∀ args w,(callFunc (ρ.f 251) args).run P w=.ok (.enter (ρ.f 251) args) w:=enters_of L.f251 (by kernel_rfl) rfl;have Dg:∀ args w,(callFunc (ρ.f 252) args).run P w=.ok (.enter (ρ.f 252) args) w:=enters_of L.f252 (by kernel_rfl) rfl;have c2:w.cell? ⟨b,q+2,none⟩=some (.int .i8 0):=ep.c2;have f2:w.frozen? ⟨b,q+2,none⟩=false:=ep.f (q+2);have dk:=ep.set2 (.int .i8 0);have bY:cn b none w (w.setCell ⟨b,q+2,none⟩ (.int .i8 0)):=(cn.refl b none w).set _ _;have bP:(w.setCell ⟨b,q+2,none⟩ (.int .i8 0)).heap.size=w.heap.size:=by simp[World.setCell]
 have hT:=Any.Buffer_tryGrow_none_at { L with } b q none 0 0 1 _ dk.c0 (Nat.le_refl _) (Nat.zero_le _) (by omega);have hG:=XJ { L with } T R b q _ dk;clear dk ep
 go_enter L.f179,Body.n179_ntmps ρ
 go_wp2_with (go_at_fn (ρ.f 251);refine hT.mono ?_;rintro e w' ⟨rfl,rfl⟩)
 go_wp2_with (go_at_fn (ρ.f 252);refine hG.mono ?_)
 rintro e W1 ⟨rfl,g2,Hw,hX,kq⟩;have hK:cn b none w W1:=bY.trans kq (.inl rfl);clear hT hG;obtain⟨dS,kp,ig,ik,tx,km,vE,o7,-⟩:=id hX;have abO:1<=dS:=tx;have d0:W1.cell? ⟨b,q,none⟩=some (.slice (some ⟨g2,0,none⟩) 1 dS):=ig.c0;have ah:0<kp.size:=by omega
 have dg:W1.cell? ⟨g2,0,none⟩=some kp[0]:=by rw[Lib.cell_of_heap ik,Array.getElem?_eq_getElem ah]
 have fg:W1.frozen? ⟨g2,0,none⟩=false:=Lib.frozen_of_heap ik _;unfold maxLen at km
 go_wp2
 go_ret
 refine⟨rfl,g2,by omega,Hs hX,⟨hK.os,hK.tape,hK.output,by simpa [World.setCell]using hK.size,fun k hk hb hn=>?_⟩⟩;rw[Below.heap_setCell _ _ _ _ (by show k≠g2;omega)];exact hK.keep k hk hb hn
set_option maxHeartbeats 6400000 in
set_option maxRecDepth 100000 in
theorem XM(L:LaysM.n178 P ρ)(T:TypeId)(R:Nat->Option Value)(b q g:Nat)(bs:List Value)(s:ByteArray)(w:World)(h:eo T R (ρ.t 5) b q g bs 0 w)(hs:s.size=0) :
  Calls P (ρ.f 178) #[.pointer (some ⟨b,q,none⟩),.string s] w fun e w'=>e=.returned (.tuple #[.int .i64 0,.nilIface])/\eo T R (ρ.t 5) b q g bs 0 w'/\cn b (some g) w w':=by
 have mixed:=L.mixed;have t5:=L.t5;have a5:=L.a5;have z5:=L.z5;have v5:=L.v5;have t130:=L.t130;have a130:=L.a130;have z130:=L.z130;have v130:=L.v130;have t75:=L.t75;have a75:=L.a75;have z75:=L.z75;have v75:=L.v75;have t0:=L.t0;have a0:=L.a0;have z0:=L.z0;have v0:=L.v0;have t93:=L.t93;have u93:=run_underlying L.t93;have a93:=L.a93;have z93:=L.z93;have v93:=L.v93;have t91:=L.t91;have a91:=L.a91;have z91:=L.z91;have v91:=L.v91;have t3:=L.t3;have a3:=L.a3;have z3:=L.z3;have v3:=L.v3;have t131:=L.t131;have a131:=L.a131;have z131:=L.z131;have v131:=L.v131;have t4:=L.t4;have a4:=L.a4;have z4:=L.z4;have v4:=L.v4;have t37:=L.t37;have a37:=L.a37;have z37:=L.z37;have v37:=L.v37;have t9:=L.t9;have a9:=L.a9;have z9:=L.z9;have v9:=L.v9;have xV:∀ args w,(callFunc (ρ.f 251) args).run P w=.ok (.enter (ρ.f 251) args) w:=enters_of L.f251 (by kernel_rfl) rfl;have Dg:∀ args w,(callFunc (ρ.f 252) args).run P w=.ok (.enter (ρ.f 252) args) w:=enters_of L.f252 (by kernel_rfl) rfl;have h0:=De h;have bY:cn b (some g) w (w.setCell ⟨b,q+2,none⟩ (.int .i8 0)):=(cn.refl b (some g) w).set _ _;obtain⟨Ht,Hu,ep,rF,vA,vB,vC,vD,Hv⟩:=tv h;have c2:w.cell? ⟨b,q+2,none⟩=some (.int .i8 0):=ep.c2;have f2:w.frozen? ⟨b,q+2,none⟩=false:=ep.f (q+2);clear ep rF vD vC vB vA;obtain⟨cap,cur,dk,hg,ny,fc,ec,iD,kW⟩:=tv h0;clear h0;have vF:(P.info? (ρ.t 5)).map (·.size)=some 1:=by
  obtain⟨i0,hi,-,gr,-⟩:=info_parts L.i5;rw[hi];simp[gr]
 have hce:∀ d uO zJ W,(Builtin.copy_ #[(ρ.t 37),(ρ.t 9)] (ρ.t 3) #[.slice d uO zJ,.string s]).run P W=.ok (goInt 0) W:=fun d uO zJ W=>Lib.run_copy_empty_string W (ρ.t 37) (ρ.t 9) (ρ.t 3) (ρ.t 5) d uO zJ s L.t37 (by rw[vF];rfl) hs;have hT:=Any.Buffer_tryGrow_room_at { L with } b q (some ⟨g,0,none⟩) bs.length cap 0 _ dk.c0 (dk.f q) ny fc (Nat.zero_le _)
 go_enter L.f178,Body.n178_ntmps ρ
 go_wp2_with (go_at_fn (ρ.f 251);refine hT.mono ?_)
 rintro e W1 ⟨rfl,kn⟩;have hX:eo T R (ρ.t 5) b q g bs 0 W1:=by rw[kn];exact⟨cap,cur,dk.set0 _,by rw[Below.heap_setCell _ _ _ _ kW];exact hg,by omega,fc,ec,iD,kW⟩
 have hK:cn b (some g) w W1:=by rw[kn];exact bY.set _ _
 clear kn hT dk hg;obtain⟨dS,kp,ig,ik,tx,km,vE,o7,-⟩:=id hX;have d0:W1.cell? ⟨b,q,none⟩=some (.slice (some ⟨g,0,none⟩) bs.length dS):=ig.c0;unfold maxLen at fc km
 go_wp2
 all_goals
  go_ret2
  first|exact⟨rfl,hX,hK⟩|exact⟨by simp[hs],hX,hK⟩
end
end Go.Proofs.YtfmdaiojokniiaaGreatDoor
end
section
namespace Go.ay
open Go Go.RowKit
structure AH(E:Env)(o:Oper)(c0 c:Cx)(a:Act)(ts:Nat × Nat)(l':List DV)(rest loops:List bk)(c':Cx)(blk cap:Nat):Prop where
 Yp:DO E.P o a c.w (.slice (some ⟨blk,0,none⟩) l'.length cap) c'.w
 heap:c'.heap=c.heap++[.gone]
 ok:aK E.G c'
 vr:∀ x v,VR c x v->VR c' x v
 rel:c8 c0 c'
 rows:cR c0.w.heap.size c' (.row ⟨blk,cap,ts,l'⟩::rest) loops
theorem N4{E:Env}{o:Oper}{c0 c:Cx}{a:Act}{sm:List AV}{ts:Nat × Nat}{l':List DV}{rest loops:List bk}(h1:aK E.G c)(hr:c8 c0 c)(bq:cR c0.w.heap.size c rest loops)(h4:VS c sm a.tmps){h:List af}(h2:c.heap=h)
  (hX:bw E o.op sm h (.own h.length 1) (h++[.arr 1 ts l'])) (aI:l'≠[]) (hn:c0.heap.length<=h.length):∃ c' blk cap,AH E o c0 c a ts l' rest loops c' blk cap:=by
 obtain⟨c1,v,k1,k2,k3,k4,k5⟩:=hX o c a rfl h2 h1 h4;subst h2;have hb:c1.heap[c.heap.length]?=some (.arr 1 ts l'):=by rw[k2];simp
 rcases kC hb k4 with⟨blk,cap,r1,rfl⟩|⟨rfl,-,-⟩
 case inr=>exact absurd rfl aI
 obtain⟨q0,q1,q2⟩:=k3.box _ _ hb;rcases q2 with⟨q2,-⟩|⟨iM,gV,vs,q2,q3,q4,q5,q6,q7⟩
 ·rw[r1]at q2;cases q2
 rw[r1]at q2;cases q2;have uM:=hr.step k5;have vI:=bq.step h1 k5;have eb:=B9 uM r1 hn;refine⟨c1.cO c.heap.length blk,blk,cap,k1,?_,k3.cO r1,fun x v hv=>qM r1 (k5.vr hv),uM.cO r1 hn,⟨⟨fun r oV=>?_,?_⟩,fun g hg=>(List.mem_cons.1 hg).elim (fun e=>by subst e;trivial) (bq.flat g)⟩⟩
 ·show c1.heap.set c.heap.length .gone=_;rw[k2,List.set_append_right _ _ (Nat.le_refl _),Nat.sub_self,List.set_cons_zero]
 ·rcases List.mem_cons.1 oV with rfl|oV
  ·show l7 c0.w.heap.size (c1.cO c.heap.length blk) ⟨blk,cap,ts,l'⟩
   exact⟨Or.inr rfl,eb,q0,q1,vs,q3,q4,q5,q6,fun i j e x he hx=>by
    obtain⟨v,k1,k2,k3⟩:=q7 i j e x he hx
    exact⟨v,k1,k2,uJ r1 k3⟩⟩
  ·exact(vI.all.cO r1).each r oV
 ·rw[List.cons_append,List.flatMap_cons];refine List.nodup_append.2 ⟨by simp[bk.cj],vI.all.nodup,fun x hx y hy e=>?_⟩;simp[bk.cj]at hx;subst hx;subst e;exact B' vI.all k3 r1 hy
theorem Yq{E:Env}{o:Oper}{c0 c:Cx}{a:Act}{sm:List AV}{bz:Row}{l':List DV}{rest loops:List bk}(h1:aK E.G c)(hr:c8 c0 c)(bq:cR c0.w.heap.size c (.row bz::rest) loops)(h4:VS c sm a.tmps){h:List af}(h2:c.heap=h){d:Nat}
  (hd:sm[d]?=some (.d (.raw (.slice (some ⟨bz.blk,0,none⟩) bz.l.length bz.cap)))) (hX:bw E o.op (sm.set d (.own h.length 0)) (h++[.arr 0 bz.ts bz.l]) (.own h.length 1) (h++[.arr 1 bz.ts l'])) (aI:l'≠[]) (hn:c0.heap.length<=h.length):∃ c' blk cap,AH E o c0 c a bz.ts l' rest loops c' blk cap:=by
 subst h2;obtain⟨r1,r2,r3⟩:=cR.uK (g1:=[]) bq;have r2:l7 c0.w.heap.size c bz:=r2;have zF:bz.blk ∉ (rest++loops).flatMap bk.cj:=r3 _ (by simp[bk.cj]);have dF:(c.cJ (.arr 0 bz.ts bz.l) bz.blk bz.cap).heap[c.heap.length]?=some (.arr 0 bz.ts bz.l):=by simp[Cx.cJ]
 have bF:(c.cJ (.arr 0 bz.ts bz.l) bz.blk bz.cap).own c.heap.length=some (bz.blk,bz.cap):=by simp[Cx.cJ]
 have aM:aK E.G (c.cJ (.arr 0 bz.ts bz.l) bz.blk bz.cap):=h1.cJ r2.az (by
  obtain⟨q1,q2,q3,q4,vs,q5,q6,q7,q8,q9⟩:=r2;refine⟨q3,q4,.inr ⟨bz.blk,bz.cap,vs,bF,q5,q6,q7,q8,fun i j e x he hx=>?_⟩⟩;obtain⟨v,k1,k2,k3⟩:=q9 i j e x he hx
  exact⟨v,k1,k2,B8 h1 q1 k3⟩)
 have dm:VS (c.cJ (.arr 0 bz.ts bz.l) bz.blk bz.cap) sm a.tmps:=⟨h4.1,fun i x v hx hv=>uI h1 r2.az (h4.2 i x v hx hv)⟩;have Yr:VS (c.cJ (.arr 0 bz.ts bz.l) bz.blk bz.cap) (sm.set d (.own c.heap.length 0)) a.tmps:=Ca dm fun v hv=>by
  have eD:=h4.2 d _ v hd hv;cases eD with
  |d _ _ hq =>
   cases hq;exact .own _ 0 bz.ts bz.l bz.blk bz.cap dF bF
 obtain⟨c1,v,k1,k2,k3,k4,k5⟩:=hX o _ a rfl rfl aM Yr;have hb:c1.heap[c.heap.length]?=some (.arr 1 bz.ts l'):=by rw[k2];simp
 rcases kC hb k4 with⟨blk,cap,rK,rfl⟩|⟨rfl,-,-⟩
 case inr=>exact absurd rfl aI
 obtain⟨q0,q1,q2⟩:=k3.box _ _ hb;rcases q2 with⟨q2,-⟩|⟨iM,gV,vs,q2,q3,q4,q5,q6,q7⟩
 ·rw[rK]at q2;cases q2
 rw[rK]at q2;cases q2;have uV:c8 c0 (c.cJ (.arr 0 bz.ts bz.l) bz.blk bz.cap):=hr.cJ r2.new;have Ys:cR c0.w.heap.size (c.cJ (.arr 0 bz.ts bz.l) bz.blk bz.cap) rest loops:=⟨r1.all.cJ h1 r2.az zF,r1.flat⟩;have uM:=uV.step k5;have vI:=Ys.step aM k5;have eb:=B9 uM rK hn;refine⟨c1.cO c.heap.length blk,blk,cap,k1,?_,k3.cO rK,fun x v hv=>qM rK (k5.vr (uI h1 r2.az hv)),uM.cO rK hn,⟨⟨fun r oV=>?_,?_⟩,fun g hg=>(List.mem_cons.1 hg).elim (fun e=>by subst e;trivial) (fun hg=>bq.flat g (List.mem_cons_of_mem _ hg))⟩⟩
 ·show c1.heap.set c.heap.length .gone=_;rw[k2,List.set_append_right _ _ (Nat.le_refl _),Nat.sub_self,List.set_cons_zero]
 ·rcases List.mem_cons.1 oV with rfl|oV
  ·show l7 c0.w.heap.size (c1.cO c.heap.length blk) ⟨blk,cap,bz.ts,l'⟩
   exact⟨Or.inr rfl,eb,q0,q1,vs,q3,q4,q5,q6,fun i j e x he hx=>by
    obtain⟨v,k1,k2,k3⟩:=q7 i j e x he hx
    exact⟨v,k1,k2,uJ rK k3⟩⟩
  ·exact(vI.all.cO rK).each r oV
 ·rw[List.cons_append,List.flatMap_cons];refine List.nodup_append.2 ⟨by simp[bk.cj],vI.all.nodup,fun x hx y hy e=>?_⟩;simp[bk.cj]at hx;subst hx;subst e;exact B' vI.all k3 rK hy
section
variable {E:Env} {ops:Array Oper} {ag:FuncId} {R:cF} {s:List AV} {h:List af} {lits:List Nat}
theorem AW.Yt{id:Nat}{k:List aP}(hm:E.P.follows .mixedOrders=true)
  (H:∀ (c0 c:Cx) (t:Array Value) (oz:List (Array Value)) (Q:Exit->Act->World->Prop),c0.heap.length=R.n ->
   (∀ (a:Act) (c':Cx) (s':List AV) (h':List af) (tA:List bk),AW E R.fx.f0 ⟨⟨ag,R.fx.cB,R.fx.aL⟩,k,s'⟩ R.fx.cls h' ⟨R.n,R.Q,tA,R.fx⟩->aK E.G c'->c'.heap=h'->a.defers=[]->VS c' s' a.tmps->c8 c0 c'->cR c0.w.heap.size c' tA R.fx.loops->CR c' R.fx.cls oz->Q .normal a c'.w) ->
   aK E.G c->c.heap=h->VS c s t->c8 c0 c->cR c0.w.heap.size c R.rows R.fx.loops->CR c R.fx.cls oz->wpAny E.P .any ops Q ops.size (Array.replicate ops.size false) ⟨t,[]⟩ c.w) :
  AW E R.fx.f0 ⟨⟨ag,R.fx.cB,R.fx.aL⟩,.code (.region id ops true)::k,s⟩ R.fx.cls h R:=by
 unfold AW;intro c0 c t ts h0 h1 h2 h3 hr bq h4 h5 cs;have hx:Proofs.YtfmdaiojokniiaaGreatDoor.Ext c.w { c.w with drawn:=c.w.drawn+1 }:=⟨rfl,rfl,rfl,Nat.le_refl _,fun _ _=>rfl⟩;obtain⟨g1,g2⟩:=h3.grow hx
 let Q:Exit->Act->World->Prop:=fun e a w=>(e=.normal/\a.defers=[])/\∃ (c':Cx) (s':List AV) (h':List af) (tA:List bk),AW E R.fx.f0 ⟨⟨ag,R.fx.cB,R.fx.aL⟩,k,s'⟩ R.fx.cls h' ⟨R.n,R.Q,tA,R.fx⟩/\aK E.G c'/\c'.heap=h'/\VS c' s' a.tmps/\c8 c0 c'/\cR c0.w.heap.size c' tA R.fx.loops/\CR c' R.fx.cls ts/\w=c'.w
 have Ft:(Code.region id ops true).wpIn (uC R.fx.cB) 0 E.P (fun e a w=>a.defers=marks R.fx.aL/\Q e ⟨a.tmps,[]⟩ w) ⟨t,marks R.fx.aL⟩ c.w:=by
  refine wpIn_region_draw fun tt=>?_;simp only[Region.schedule,hm,Bool.true_or,if_true];refine zq R.fx.cB (marks R.fx.aL) (fun e a w he=>he.1) _ t _ (wpAny_sound ops.size tt _ _ _ ?_);exact H c0 (c.eu { c.w with drawn:=c.w.drawn+1 }) t ts Q h0 (fun a c' s' h' tA hK r1 r2 r3 r4 r5 r6 r7=>⟨⟨rfl,r3⟩,c',s',h',tA,hK,r1,r2,r4,r5,r6,r7,rfl⟩) g1 h2 (g2.vs h4) (hr.step g2) (bq.step h3 g2) (g2.cr h5)
 obtain⟨e,a',w',⟨hd,⟨⟨rfl,-⟩,c',s',h',tA,hA,r1,r2,r4,r5,r6,r7,rfl⟩⟩,Fu⟩:=Ft (bf ⟨ag,R.fx.cB,R.fx.aL⟩) (k.map aP.bI) (eL R.fx.cls ts++cs) rfl trivial (fun d hd=>by cases hd);unfold AW at hA;obtain⟨c2,fr,r,v,q1,q2,q3,tY,q4,q5,q6⟩:=hA c0 c' a'.tmps ts h0 (dZ h1) r2 r1 r5 r6 r4 r7 cs;refine⟨c2,fr,r,v,q1,q2,q3,tY,?_,q5,q6⟩;have yW:a'=⟨a'.tmps,marks R.fx.aL⟩:=by cases a';simp only at hd;subst hd;rfl
 have:Steps E.P (lone ((bf ⟨ag,R.fx.cB,R.fx.aL⟩).atR ⟨t,marks R.fx.aL⟩ (.code (.region id ops true)::k.map aP.bI)) (eL R.fx.cls ts++cs) c.w) (lone ((bf ⟨ag,R.fx.cB,R.fx.aL⟩).atR a' (k.map aP.bI)) (eL R.fx.cls ts++cs) c'.w):=StepsIn.steps Fu;rw[yW]at this;exact this.trans q4
end
def HJ(E:Env)(ops:Array Oper)(h:List af)(K:List AV->Prop):List Oper->List AV->Prop
 |[],s=>K s
 |o::l,s=>∃ v,ee E ops o s h v h/\ee E ops o s (h++[.gone]) v (h++[.gone])/\HJ E ops h K l (bX s o.dst v)
@[irreducible] def bR (E : Env) (ops : Array Oper) (h : List af) (K : List AV -> Prop) (l : List Oper) (s : List AV) : Prop := HJ E ops h K l s
section
variable {E:Env} {ops:Array Oper} {h:List af}
theorem bR.N5{K:List AV->Prop}:∀ {l:List Oper} {s:List AV},HJ E ops h K l s ->
  ∃ pl:List (Oper × AV),pl.map (·.1)=l/\K (cur pl (fun k=>decide (k<pl.length)) 0 s)/\∀ k o v,pl[k]?=some (o,v)->ee E ops o (cur pl (fun i=>decide (i<k)) 0 s) h v h/\ee E ops o (cur pl (fun i=>decide (i<k)) 0 s) (h++[.gone]) v (h++[.gone])
 |[],s,H=>⟨[],rfl,H,fun k o v hk=>by simp at hk⟩
 |o::l,s,⟨v,a,b,H⟩=>by
  obtain⟨pl,p1,p2,p3⟩:=bR.N5 H;have shift:∀ (pl:List (Oper × AV)) (n:Nat) (s:List AV),cur pl (fun k=>decide (k<n+1)) (0+1) s=cur pl (fun k=>decide (k<n)) 0 s:=fun pl n s=>by
   rw[BX 1]
   congr 1
   funext k;simp
  refine⟨(o,v)::pl,by simp[p1],?_,fun k o' v' hk=>?_⟩
  ·rw[cur];simp only[List.length_cons,Nat.zero_lt_succ,decide_true,if_true];rw[shift];exact p2
  ·cases k with
   |zero =>
    simp at hk;obtain⟨rfl,rfl⟩:=hk;rw[qI _ _ _ _ (fun k _=>decide_eq_false (by omega))];exact⟨a,b⟩
   |succ k =>
    have:=p3 k o' v' (by simpa using hk);rw[cur];simp only[Nat.zero_lt_succ,decide_true,if_true];rw[shift];exact this
theorem bR.lay{K:List AV->Prop}{l:List Oper}{s:List AV}(H:bR E ops h K l s) :
  ∃ pl:List (Oper × AV),pl.map (·.1)=l/\K (cur pl (fun k=>decide (k<pl.length)) 0 s)/\∀ k o v,pl[k]?=some (o,v)->ee E ops o (cur pl (fun i=>decide (i<k)) 0 s) h v h/\ee E ops o (cur pl (fun i=>decide (i<k)) 0 s) (h++[.gone]) v (h++[.gone]):=by
 unfold bR at H;exact bR.N5 H
theorem bR.nil{K:List AV->Prop}{s:List AV}(H:K s):bR E ops h K [] s:=by unfold bR;exact H
theorem Yu{c:Cx}{s:List AV}{t:Array Value}(h:VS c s t){d:Nat}{x:AV}{v:Value}(hv:t[d]?=some v)(hx:VR c x v):VS c (s.set d x) t:=by
 refine⟨by rw[List.length_set];exact h.1,fun i y u hy hu=>?_⟩;by_cases e:d=i
 ·subst e;rw[hv]at hu;cases hu;rw[List.getElem?_set_self (by have:=aQ hy;simpa using this)]at hy;cases hy;exact hx
 ·rw[List.getElem?_set_ne e]at hy;exact h.2 i y u hy hu
theorem Yv{a:Act}{o:Oper}{d:Nat}(hd:o.dst≠some d)(u:Value):(a.put o.dst u).tmps[d]?=a.tmps[d]? := by
 cases hq:o.dst with
 |none=>rfl
 |some e =>
  have:e≠d:=fun h=>hd (by rw[hq,h]);simp[Act.put,Array.getElem?_setIfInBounds_ne this]
theorem Yw(hc:BU ops){s0:List AV}{P:List (Oper × AV)}{m d:Nat}{ox ol:Oper}(lp:(P.map (·.1))=ops.toList)(hN:0<ops.size)(N6:m<ops.size-1)(Yx:P[m]?=some (ox,.any))(Bk:∃ v,P[ops.size-1]?=some (ol,v))
  (AI:ox.guard=none) (AJ:ox.dst=some d) (gj:d<s0.length) (bK:∀ k o v,k≠m->P[k]?=some (o,v)->o.dst≠some d) (vJ:∀ i,i<ops.size-1->jw ops i (ops.size-1))
  (hx:∀ k o v,k≠m->k<ops.size-1->P[k]?=some (o,v)->ee E ops o (cur P (fun i=>decide (i<k)) 0 s0) h v h/\ee E ops o (cur P (fun i=>decide (i<k)) 0 s0) (h++[.gone]) v (h++[.gone]))
  {c0:Cx} {oz:List (Array Value)} {cls:List b8} {HK rest loops:List bk} {ts:Nat × Nat} {l':List DV}
  (hX:∀ (c:Cx) (a:Act),aK E.G c->c.heap=h->c8 c0 c->cR c0.w.heap.size c HK loops->VS c (c9 (dJ ops ox) 0 (cur P (fun i=>decide (i<m)) 0 s0)) a.tmps->∃ c' blk cap,AH E ox c0 c a ts l' rest loops c' blk cap)
  {Q:Exit->Act->World->Prop}
  (hQ:∀ (blk cap:Nat) (a:Act) (c:Cx),aK E.G c->c.heap=h++[.gone]->a.defers=[]->VS c ((cur P (fun i=>decide (i<ops.size-1)) 0 s0).set d (.d (.raw (.slice (some ⟨blk,0,none⟩) l'.length cap)))) a.tmps->c8 c0 c->cR c0.w.heap.size c (.row ⟨blk,cap,ts,l'⟩::rest) loops->CR c cls oz ->
   ∀ (K:Act->World->Prop),(∀ (a':Act) (w':World),Q .normal a' w'->K a' w')->wpOp E.P ops Q (ops.size-1) K a c.w) :
  (∀ (blk cap f:Nat) (listed:Array Bool) (a:Act) (c:Cx),aK E.G c->c.heap=h++[.gone]->a.defers=[]->VS c (cur P (bS listed) 0 s0) a.tmps->a.tmps[d]?=some (.slice (some ⟨blk,0,none⟩) l'.length cap)->c8 c0 c->cR c0.w.heap.size c (.row ⟨blk,cap,ts,l'⟩::rest) loops->CR c cls oz->DC ops listed ->
   bS listed m=true->bS listed (ops.size-1)=false->(∀ i,ops.size<=i->bS listed i=false)->jx (bS listed) ops.size<=f->wpAny E.P .any ops Q f listed a c.w) /\
  (∀ (f:Nat) (listed:Array Bool) (a:Act) (c:Cx),aK E.G c->c.heap=h->a.defers=[]->VS c (cur P (bS listed) 0 s0) a.tmps->c8 c0 c->cR c0.w.heap.size c HK loops->CR c cls oz->DC ops listed ->
   bS listed m=false->(∀ i,ops.size<=i->bS listed i=false)->jx (bS listed) ops.size<=f->wpAny E.P .any ops Q f listed a c.w):=by
 obtain⟨hlen,dF⟩:=Kg lp;have zw:∀ k,k<ops.size->∃ o v,P[k]?=some (o,v):=fun k hk=>⟨(P[k]'(by omega)).1,(P[k]'(by omega)).2,by rw[List.getElem?_eq_getElem]⟩;have N7:∀ (f:Nat) (listed:Array Bool) (i:Nat),DC ops listed->i∈Region.ready .any ops listed->(∀ i,ops.size<=i->bS listed i=false)->jx (bS listed) ops.size<=f+1 ->
   (∀ q,bS (listed.setIfInBounds i true) q=(bS listed q||decide (q=i)))/\jx (bS (listed.setIfInBounds i true)) ops.size<=f/\(∀ q,ops.size<=q->bS (listed.setIfInBounds i true) q=false):=fun f listed i hd hi ho ng=>by
  obtain⟨lE,fL⟩:=uB hd hi;have dM:=fun q=>Fj (i:=q) (show i<listed.size by rw[hd.1];exact fL);refine⟨dM,?_,fun q hq=>by rw[dM,ho q hq];simp;omega⟩;have:=(Fl (L:=bS listed) (L':=bS (listed.setIfInBounds i true)) (j:=i) (fun q hq=>by rw[dM];simp[hq]) lE (by rw[dM];simp) ops.size).1 fL;omega
 have B:∀ (blk cap f:Nat) (listed:Array Bool) (a:Act) (c:Cx),aK E.G c->c.heap=h++[.gone]->a.defers=[]->VS c (cur P (bS listed) 0 s0) a.tmps->a.tmps[d]?=some (.slice (some ⟨blk,0,none⟩) l'.length cap)->c8 c0 c->cR c0.w.heap.size c (.row ⟨blk,cap,ts,l'⟩::rest) loops->CR c cls oz->DC ops listed ->
   bS listed m=true->bS listed (ops.size-1)=false->(∀ i,ops.size<=i->bS listed i=false)->jx (bS listed) ops.size<=f->wpAny E.P .any ops Q f listed a c.w:=by
  intro blk cap f
  induction f with
  |zero =>
   intro listed a c h1 h2 h3 h4 HL hr bq h5 hd pN l4 ho ng;have:=Fs ng (show ops.size-1<ops.size by omega);rw[l4]at this;cases this
  |succ f ih =>
   intro listed a c h1 h2 h3 h4 HL hr bq h5 hd pN l4 ho ng;refine⟨fun qC=>?_,fun i hi=>?_⟩
   ·obtain⟨k,-,hk⟩:=Fk hc hd (show ops.size-1<ops.size by omega) l4;rw[qC]at hk;cases hk
   obtain⟨lE,fL⟩:=uB hd hi;obtain⟨dM,xh,cU⟩:=N7 f listed i hd hi ho ng;have xm:i≠m:=fun e=>by rw[e,pN]at lE;cases lE
   by_cases fR:i=ops.size-1
   ·subst fR;have aJ:∀ q,q<ops.size-1->bS listed q=true:=fun q hq=>hd.ready hi (vJ q hq);have e:cur P (bS listed) 0 s0=cur P (fun i=>decide (i<ops.size-1)) 0 s0:=by
     congr 1
     funext q;rcases Nat.lt_trichotomy q (ops.size-1)with hq|rfl|hq
     ·rw[aJ q hq];simp[hq]
     ·rw[l4];simp
     ·rw[ho q (by omega)];simp;omega
    rw[e]at h4;refine hQ blk cap a c h1 h2 h3 (Yu h4 HL (.d _ _ (.raw _ rfl))) hr bq h5 _ fun a' w' hq=>?_;have Yy:∀ q,q<ops.size->bS (listed.setIfInBounds (ops.size-1) true) q=true:=fun q hq=>by
     rw[dM];rcases Nat.lt_or_ge q (ops.size-1)with h|h
     ·simp[aJ q h]
     ·simp;right;omega
    have qC:Region.ready .any ops (listed.setIfInBounds (ops.size-1) true)=[]:=by
     apply List.eq_nil_iff_forall_not_mem.2;intro q hq;obtain⟨k1,k2⟩:=uB (hd.set hi) hq;rw[Yy q k2]at k1;cases k1
    cases f with
    |zero=>exact⟨qC,hq⟩
    |succ f=>exact⟨fun _=>hq,fun q lG=>by rw[qC]at lG;cases lG⟩
   ·obtain⟨o,v,jy⟩:=zw i fL;have mb:=dF i o v jy;obtain⟨xf,xg⟩:=Fp hc.pair dF hd hi jy h4;refine(hx i o v xm (by omega) jy).2 c a h1 h2 h3 xg i mb _ _ (fun c' u k1 k2 k3 k4=>?_);exact ih _ _ c' k1 k2 (by rw[oT];exact h3) (xf c' u (fun _ _=>k3.vr) k4) (by rw[Yv (bK i o v xm jy)];exact HL) (hr.step k3) (bq.step h1 k3) (k3.cr h5) (hd.set hi) (by rw[dM,pN];rfl) (by rw[dM,l4];simp;omega) cU xh
 refine⟨B,?_⟩;intro f
 induction f with
 |zero =>
  intro listed a c h1 h2 h3 h4 hr bq h5 hd pN ho ng;have:=Fs ng (show m<ops.size by omega);rw[pN]at this;cases this
 |succ f ih =>
  intro listed a c h1 h2 h3 h4 hr bq h5 hd pN ho ng;refine⟨fun qC=>?_,fun i hi=>?_⟩
  ·obtain⟨k,-,hk⟩:=Fk hc hd (show m<ops.size by omega) pN;rw[qC]at hk;cases hk
  obtain⟨lE,fL⟩:=uB hd hi;obtain⟨dM,xh,cU⟩:=N7 f listed i hd hi ho ng;have fR:i≠ops.size-1:=fun e=>by
   subst e;have:=hd.ready hi (vJ m N6);rw[pN]at this;cases this
  obtain⟨o,v,jy⟩:=zw i fL;have mb:=dF i o v jy;obtain⟨xf,xg⟩:=Fp hc.pair dF hd hi jy h4;by_cases xm:i=m
  ·subst xm;rw[Yx]at jy;cases jy;obtain⟨c1,blk,cap,A⟩:=hX c a h1 h2 hr bq xg;unfold wpOp;have hw:Region.wanted ox (yielded ops a.tmps)=true:=by simp[Region.wanted,AI]
   simp only[mb,hw,if_true];left;have gX:d<a.tmps.size:=by
    have h7:=h4.1;rw[sH]at h7;omega
   have next:=B blk cap f (listed.setIfInBounds i true) (a.put ox.dst (.slice (some ⟨blk,0,none⟩) l'.length cap)) c1 A.ok (by rw[A.heap,h2]) (by rw[oT];exact h3) (xf c1 _ A.vr (.any _)) (by rw[AJ];simp[Act.put,gX]) A.rel A.rows (nQ A.vr h5) (hd.set hi) (by rw[dM];simp) (by
    rw[dM];have:bS listed (ops.size-1)=false:=by
     cases hl:bS listed (ops.size-1)with
     |false=>rfl
     |true=>have:=hd.dep (vJ i N6) hl;rw[lE]at this;cases this
    rw[this]
    simp;omega) cU xh
   unfold Oper.wp;rcases A.Yp with k1|⟨k1,k2⟩
   ·rw[k1];exact next
   ·cases k2
  ·refine(hx i o v xm (by omega) jy).1 c a h1 h2 h3 xg i mb _ _ (fun c' u k1 k2 k3 k4=>?_);exact ih _ _ c' k1 k2 (by rw[oT];exact h3) (xf c' u (fun _ _=>k3.vr) k4) (hr.step k3) (bq.step h1 k3) (k3.cr h5) (hd.set hi) (by rw[dM,pN];simp;omega) cU xh
theorem Dm:∀ (a b:List (Oper × AV)) (L:Nat->Bool) (i:Nat) (s:List AV),cur (a++b) L i s=cur b L (i+a.length) (cur a L i s)
 |[],b,L,i,s=>rfl
 |(o,v)::a,b,L,i,s=>by
  simp only[List.cons_append,cur,List.length_cons];rw[Dm a b,show i+1+a.length=i+(a.length+1) by omega]
theorem N8(q:List (Oper × AV))(i k:Nat)(s:List AV):cur q (fun x=>decide (x<i+k)) i s=cur q (fun x=>decide (x<k)) 0 s:=by
 have:=BX i q (fun x=>decide (x<i+k)) 0 s;rw[Nat.zero_add]at this;rw[this]
 congr 1
 funext x;exact decide_eq_decide.2 (by omega)
theorem Yz(q:List (Oper × AV))(i k:Nat)(s:List AV)(hk:q.length<=k):cur q (fun x=>decide (x<i+k)) i s=cur q (fun x=>decide (x<q.length)) 0 s:=by
 rw[N8];apply List.ext_getElem?;intro t;refine zo q _ _ 0 s s rfl rfl fun j o v hj _=>?_;have:=(List.getElem?_eq_some_iff.1 hj).1;rw[decide_eq_true (by omega),decide_eq_true (by omega)]
end
section
variable {E:Env} {ag:FuncId} {R:cF} {ops:Array Oper} {k:List aP} {lits:List Nat} {s:List AV} {h:List af}
theorem I.YA(hm:E.P.follows .mixedOrders=true){id d:Nat}{L1 L2:List Oper}{ox ol:Oper}(Dn:ops.toList=L1++ox::(L2++[ol]))(zC:BV ops=true)(vJ:BW ops ((List.range (ops.size-1)).map fun i=>(i,ops.size-1))=true)
  (AI:ox.guard=none) (AJ:ox.dst=some d) (nr:ol.dst=none) (bK:(L1++L2).all (fun o=>match o.dst with|some e => !(Nat.beq e d)|none=>true)=true) (gj:d<s.length) {ts:Nat × Nat} {l':List DV} {rest:List bk}
  (H:bR E ops h (fun s1=>(∀ (c0 c:Cx) (a:Act),c0.heap.length=R.n->aK E.G c->c.heap=h->c8 c0 c->cR c0.w.heap.size c R.rows R.fx.loops->VS c (c9 (dJ ops ox) 0 s1) a.tmps->∃ c' blk cap,AH E ox c0 c a ts l' rest R.fx.loops c' blk cap) /\
   bR E ops h (fun s2=>∀ blk cap,∃ h2,ee E ops ol (s2.set d (.d (.raw (.slice (some ⟨blk,0,none⟩) l'.length cap)))) (h++[.gone]) (.d .undef) h2 /\
    I E ag ⟨R.n,R.Q,.row ⟨blk,cap,ts,l'⟩::rest,R.fx⟩ [] k (s2.set d (.d (.raw (.slice (some ⟨blk,0,none⟩) l'.length cap)))) h2) L2 (bX s1 ox.dst .any)) L1 s):I E ag R lits (.code (.region id ops true)::k) s h:=by
 obtain⟨dx,p1,⟨hX,H2⟩,p3⟩:=bR.lay H;obtain⟨la,q1,gv,q3⟩:=bR.lay H2
 let P:List (Oper × AV):=dx++(ox,.any)::(la++[(ol,.d .undef)])
 have lp:P.map (·.1)=ops.toList:=by simp[P,p1,q1,Dn]
 have bP:ops.size=dx.length+la.length+2:=by
  have:=congrArg List.length lp;simp[P]at this;omega
 have e1:∀ k,k<=dx.length->cur P (fun i=>decide (i<k)) 0 s=cur dx (fun i=>decide (i<k)) 0 s:=fun k hk=>by
  show cur (dx++_) _ 0 s=_;rw[Dm,qI _ _ _ _ (fun j _=>decide_eq_false (by omega))]
 have e2:∀ k,k<=la.length->cur P (fun i=>decide (i<dx.length+1+k)) 0 s=cur la (fun i=>decide (i<k)) 0 (bX (cur dx (fun i=>decide (i<dx.length)) 0 s) ox.dst .any):=fun k hk=>by
  show cur (dx++_) _ 0 s=_;rw[Dm,cur,if_pos (decide_eq_true (by omega)),Dm,qI _ _ _ _ (fun j _=>decide_eq_false (by omega)),show 0+dx.length+1=dx.length+1 by omega,N8 la (dx.length+1) k];have:=Yz dx 0 (dx.length+1+k) s (by omega);rw[Nat.zero_add]at this;rw[this]
 have N9:ops.size-1=dx.length+1+la.length:=by omega
 have YB:cur P (fun i=>decide (i<ops.size-1)) 0 s=cur la (fun i=>decide (i<la.length)) 0 (bX (cur dx (fun i=>decide (i<dx.length)) 0 s) ox.dst .any):=by rw[N9];exact e2 _ (Nat.le_refl _)
 refine .of (AW.Yt hm fun c0 c t oz Q h0 hQ h1 h2 h4 hr bq h5=>?_);have N':∀ k,k<dx.length->P[k]?=dx[k]? := fun k hk=>List.getElem?_append_left hk;have Oa:∀ k,k<la.length->P[dx.length+1+k]?=la[k]? := fun k hk=>by
  show(dx++_)[_]?=_;rw[List.getElem?_append_right (by omega),show dx.length+1+k-dx.length=k+1 by omega,List.getElem?_cons_succ,List.getElem?_append_left hk]
 have YC:∀ k o v,k≠dx.length->P[k]?=some (o,v)->o.dst≠some d:=fun k o v hk pZ he=>by
  have uN:o∈L1++L2\/o=ol:=by
   rcases Nat.lt_trichotomy k dx.length with h|h|h
   ·rw[N' k h]at pZ;exact .inl (List.mem_append_left _ (by rw[<- p1];exact List.mem_map.2 ⟨_,List.mem_of_getElem? pZ,rfl⟩))
   ·exact absurd h hk
   ·obtain⟨j,rfl⟩:∃ j,k=dx.length+1+j:=⟨k-dx.length-1,by omega⟩;rcases Nat.lt_or_ge j la.length with hj|hj
    ·rw[Oa j hj]at pZ;exact .inl (List.mem_append_right _ (by rw[<- q1];exact List.mem_map.2 ⟨_,List.mem_of_getElem? pZ,rfl⟩))
    ·have:(dx++(ox,AV.any)::(la++[(ol,AV.d .undef)]))[dx.length+1+j]?=some (o,v):=pZ;rw[List.getElem?_append_right (by omega),show dx.length+1+j-dx.length=j+1 by omega,List.getElem?_cons_succ,List.getElem?_append_right hj]at this;have mX:j-la.length=0:=by have:=aQ this;simp at this;omega
     rw[mX]at this;simp at this;exact .inr this.1.symm
  rcases uN with uN|rfl
  ·have:=List.all_eq_true.1 bK o uN;rw[he]at this;simp at this
  ·rw[nr]at he;cases he
 have YD:=Yw (E:=E) (ops:=ops) (h:=h) (Ka zC) (s0:=s) (P:=P) (m:=dx.length) (d:=d) (ox:=ox) (ol:=ol) lp (by omega) (by omega) (by show(dx++_)[_]?=_;simp) ⟨.d .undef,by
   rw[N9];show(dx++_)[_]?=_;rw[List.getElem?_append_right (by omega),show dx.length+1+la.length-dx.length=la.length+1 by omega,List.getElem?_cons_succ,List.getElem?_append_right (Nat.le_refl _),Nat.sub_self]
   rfl⟩ AI AJ gj YC (fun i hi=>Kb vJ (i,ops.size-1) (List.mem_map.2 ⟨i,List.mem_range.2 hi,rfl⟩))
  (fun k o v hk hkN pZ=>by
   rcases Nat.lt_trichotomy k dx.length with h'|h'|h'
   ·rw[e1 k (by omega)];rw[N' k h']at pZ;exact p3 k o v pZ
   ·exact absurd h' hk
   ·obtain⟨j,rfl⟩:∃ j,k=dx.length+1+j:=⟨k-dx.length-1,by omega⟩;rw[e2 j (by omega)];rw[Oa j (by omega)]at pZ
    exact q3 j o v pZ) (c0:=c0) (oz:=oz) (cls:=R.fx.cls) (HK:=R.rows) (rest:=rest) (loops:=R.fx.loops) (ts:=ts) (l':=l')
  (fun c a a1 a2 a3 a4 a5=>hX c0 c a h0 a1 a2 a3 a4 (by rw[e1 _ (Nat.le_refl _)]at a5;exact a5)) (Q:=Q)
  (fun blk cap a c a1 a2 a3 a4 a5 a6 a7 K hK=>by
   rw[YB]at a4;obtain⟨uY,hS,hA⟩:=gv blk cap;have Bk:ops[ops.size-1]?=some ol:=by
    have:ops.toList[ops.size-1]?=some ol:=by
     rw[Dn];have l1:L1.length=dx.length:=by rw[<- p1];simp
     have l2:L2.length=la.length:=by rw[<- q1];simp
     rw[List.getElem?_append_right (by omega),show ops.size-1-L1.length=L2.length+1 by omega,List.getElem?_cons_succ,List.getElem?_append_right (Nat.le_refl _),Nat.sub_self];rfl
    simpa using this
   refine hS c a a1 a2 a3 a4.mask _ Bk _ _ fun c' u b1 b2 b3 b4=>hK _ _ ?_;have e:a.put ol.dst u=a:=by rw[nr];rfl
   rw[e];have YE:=I.to hA
   exact hQ a c' _ uY _ YE b1 b2 a3 (b3.vs a4) (a5.step b3) (a6.step a1 b3) (b3.cr a7))
 exact YD.2 ops.size _ ⟨t,[]⟩ c h1 h2 rfl (by rw[qI _ 0 s _ (fun i _=>sJ _ _)];exact h4) hr bq h5 ⟨by simp,fun j o e _ hl=>by rw[sJ]at hl;cases hl⟩ (sJ _ _) (fun i _=>sJ _ i) (Kh _ _)
theorem ee.to{o:Oper}{v:AV}{h':List af}(hg:o.guard=none)(ho:bw E o.op (c9 (dJ ops o) 0 s) h v h'):ee E ops o s h v h':=fun c a h1 h2 _ h4 j hj K Q hK=>by
 obtain⟨c',u,k1,k2,k3,k4,k5⟩:=ho o c a rfl h2 h1 h4;unfold wpOp;simp only[hj,(fS hg) c a.tmps h4,if_true];left;have:=hK c' u k3 k2 k5 k4;unfold Oper.wp;rcases k1 with k1|⟨k1,rfl⟩
 ·rw[k1];exact this
 ·rw[k1];exact this
@[irreducible] def tB (E : Env) (ops : Array Oper) (o : Oper) (s : List AV) (h : List af) (K : List af -> Prop) : Prop := ∃ h2, ee E ops o s h (.d .undef) h2 /\ K h2
theorem tB.of(hE:E.OK){o:Oper}{K:List af->Prop}(hg:o.guard=none)(H:nY E o.op (c9 (dJ ops o) 0 s) h False fun u hh=>u=.d .undef/\K hh):tB E ops o s h K:=by
 unfold tB;rcases yQ hE H with h|⟨u,hh,⟨rfl,hK⟩,h⟩
 ·exact h.elim
 ·exact⟨hh,ee.to hg h,hK⟩
theorem I.last{o:Oper}{d:Nat}{v:AV}{td:List aP}(H:fz s d v fun s'=>tB E ops o s' h fun h2=>I E ag R lits td s' h2):∃ h2,ee E ops o (s.set d v) h (.d .undef) h2/\I E ag R lits td (s.set d v) h2:=by
 rw[gq]at H;unfold tB at H;exact H
theorem I.YF{td:List aP}{b g:Nat}{ts:Nat × Nat}{l l':List DV}(rs:List Row)(pI:R.rows=rs.map .row)(hb:h[b]?=some (.arr g ts l))(hn:R.n<=b)(hl:l'.length=l.length)
  (hm:∀ (i:Nat) (e e':DV),l[i]?=some e->l'[i]?=some e'->e'.cells.length=e.cells.length/\∀ (j:Nat) (x x':DV),e.cells[j]?=some x->e'.cells[j]?=some x'->x'=x\/∃ r∈rs,x=.raw (.slice (some ⟨r.blk,0,none⟩) r.l.length r.cap)/\x'=.sl r.l)
  (H:fz h b (.arr g ts l') fun h2=>I E ag ⟨R.n,R.Q,[],R.fx⟩ lits td s h2):I E ag R lits td s h:=by
 rw[gq]at H;have H:=H.to;refine .of ?_;unfold AW at H ⊢;intro c0 c t oz h0 h1 h2 h3 hr bq h4 h5 cs;subst h2;have eJ:=aQ hb
 let c':Cx:=⟨c.own,c.heap.set b (.arr g ts l'),fun x=>c.az x/\∀ r∈rs,x≠r.blk,c.w⟩
 have aM:∀ r∈rs,l7 c0.w.heap.size c r:=fun r hr=>bq.all.each (.row r) (List.mem_append_left _ (by rw[pI];exact List.mem_map.2 ⟨r,hr,rfl⟩));have oF:∀ x,c'.bad x->c.bad x:=fun x hx=>hx.elim (fun h => .inl h.1) fun⟨i,n,h⟩ => .inr ⟨i,n,h⟩;have Ob:∀ x,x<c.w.heap.size->¬ c.bad x->¬ c'.bad x/\c'.w.heap[x]?=c.w.heap[x]? := fun x _ hx=>⟨fun h=>hx (oF x h),rfl⟩;have dF:c'.heap[b]?=some (.arr g ts l'):=List.getElem?_set_self eJ;have qN:∀ i,i≠b->c'.heap[i]?=c.heap[i]? := fun i hi=>List.getElem?_set_ne (Ne.symm hi);have dq:∀ i bx,c.heap[i]?=some bx->tG c c' i bx:=fun i bx hi=>by
  by_cases e:i=b
  ·subst e;rw[hb]at hi;cases hi;exact .inl ⟨g,l',dF,.inr ⟨rfl,hl,rfl⟩⟩
  ·exact l6 hi (qN i e) rfl
 have iC:∀ x v,VR c x v->VR c' x v:=fun x v hv=>rQ Ob dq hv;have fh:∀ x v,VD c.bad c.w x v->VD c'.bad c'.w x v:=fun x v hv=>hv.mono Ob;have YG:∀ r∈rs,VD c'.bad c'.w (.sl r.l) (.slice (some ⟨r.blk,0,none⟩) r.l.length r.cap):=fun r hr=>by
  obtain⟨k1,k2,k3,k4,vs,k5,k6,k7,k8,k9⟩:=aM r hr;have FW:=lY k5;refine .sl r.l r.blk 0 r.cap r.ts.2 (fun i j=>vs.toList.getD (i*r.ts.2+j) undef) (fun _ hx=>?_) k3 k7 k4 (fun i j e x he hx=>?_) (fun i j e x he hx=>?_) (fun i j e x he hx=>?_)
  ·rcases hx with hx|⟨i,n,hi⟩
   ·exact hx.2 r hr rfl
   ·exact h3.sep i _ n hi k1
  ·obtain⟨v,g1,-,g2⟩:=k9 i j e x he hx;rw[FW (i*r.ts.2+j) v (by simpa using g1)];simp[List.getD,g1]
  ·obtain⟨v,g1,-,g2⟩:=k9 i j e x he hx;simp only[List.getD,Array.getElem?_toList,g1,Option.getD_some];exact fh _ _ g2
  ·obtain⟨v,g1,g2,-⟩:=k9 i j e x he hx;simp only[List.getD,Array.getElem?_toList,g1,Option.getD_some];exact g2
 have dE:∀ {i:Nat} {e':DV},l'[i]?=some e'->∃ e,l[i]?=some e:=fun{i e'} he=>⟨l[i]'(by have:=aQ he;omega),List.getElem?_eq_getElem _⟩
 have YH:aK E.G c':={
  bQ:=fun x hx=>h3.bQ x hx.1
  bA:=fun i x n hi=>by have:=h3.bA i x n hi;exact⟨this.1,by show i<(c.heap.set b _).length;rw[List.length_set];exact this.2⟩
  inj:=h3.inj
  sep:=fun i x n hi hx=>h3.sep i x n hi hx.1
  box:=fun i bx hi=>by
   by_cases e:i=b
   ·subst e;rw[dF]at hi;cases hi;obtain⟨q0,q1,q2⟩:=h3.box i _ hb;refine⟨q0,fun j e' kE=>?_,?_⟩
    ·obtain⟨e,he⟩:=dE kE;rw[(hm j e e' he kE).1];exact q1 j e he
    ·rcases q2 with⟨q2,q3⟩|⟨blk,cap,vs,q2,q3,q4,q5,q6,q7⟩
     ·exact .inl ⟨q2,List.eq_nil_of_length_eq_zero (by rw[hl,q3];rfl)⟩
     ·refine .inr ⟨blk,cap,vs,q2,q3,q4,by rw[hl];exact q5,q6,fun j n e' x' kE dX=>?_⟩;obtain⟨e,he⟩:=dE kE;obtain⟨m1,m2⟩:=hm j e e' he kE;obtain⟨x,hx⟩:∃ x,e.cells[n]?=some x:=⟨e.cells[n]'(by have:=aQ dX;omega),List.getElem?_eq_getElem _⟩;obtain⟨v,g1,g2,g3⟩:=q7 j n e x he hx;refine⟨v,g1,g2,?_⟩;rcases m2 n x x' hx dX with rfl|⟨r,hr,rfl,rfl⟩
      ·exact fh _ _ g3
      ·cases g3;exact YG r hr
   ·rw[qN i e]at hi;exact(h3.box i bx hi).gen iC fh rfl (fun _ _ _=>rfl)
  fJ:=fun x e hg=>iC _ _ (h3.fJ x e hg) }
 have hblk:∀ x,c.az x->(∃ r∈rs,x=r.blk)->c0.w.heap.size<=x:=fun x _ ⟨r,hr,e⟩=>by rw[e];exact(aM r hr).new
 have hR:c8 c0 c':={
  lim:=hr.lim
  l5:=hr.l5
  az:=fun x hx=>⟨hr.az x hx,fun r yw e=>by have:=hr.lim x hx;have:=(aM r yw).new;omega⟩
  mO:=fun x hx=>hr.mO x hx.1
  os:=hr.os
  tape:=hr.tape
  output:=hr.output
  size:=hr.size
  keep:=hr.keep
  dy:=hr.dy
  boxes:=fun i bx hi=>uH (c:=c) (c':=c') (fun x hx=>by
   have bE:i≠b:=fun e=>by have:=aQ hi;omega
   rw[qN i bE];exact hx) (fun _ _=>rfl) (hr.boxes i bx hi) }
 have YI:cR c0.w.heap.size c' [] R.fx.loops:=by
  refine⟨⟨fun gh hg=>?_,?_⟩,fun gh hg=>by cases hg⟩
  ·have sE:gh∈R.rows++R.fx.loops:=List.mem_append_right _ (by simpa using hg);refine(bq.all.each gh sE).gen (fun x hx=>⟨⟨(bq.all.each gh sE).az x hx,fun r yw e=>?_⟩,rfl⟩) fh iC;have cX:=bq.all.nodup;rw[List.flatMap_append]at cX;refine(List.nodup_append.1 cX).2.2 r.blk (List.mem_flatMap.2 ⟨.row r,by rw[pI];exact List.mem_map.2 ⟨r,yw,rfl⟩,by simp[bk.cj]⟩) x (List.mem_flatMap.2 ⟨gh,by simpa using hg,hx⟩) e.symm
  ·have cX:=bq.all.nodup;rw[List.flatMap_append]at cX;exact(List.nodup_append.1 cX).2.1
 exact H c0 c' t oz h0 h1 rfl YH hR YI ⟨h4.1,fun i x v hx hv=>iC x v (h4.2 i x v hx hv)⟩ (nQ iC h5) cs
theorem HM{args:Array Operand}{Oc:Array Nat}{x:Operand}{a:Option Addr}{n cp:Nat}{t e:Nat}{i:br}(hE:E.OK)(hx:args.toList[0]?=some x)(ht:Oc.toList[0]?=some t)(hi:E.T[t]?=some i)(hk:i.k=.slice e)(hv:aZ E.G s x (.d (.raw (.slice a n cp)))) :
  bw E (.call { callee := .builtin .len,args:=args,argTypes:=Oc }) s h (.d (.int .i64 n)) h := .quiet fun o c ac e1 h2 h3 h4=>by
 have eD:=hv c ac h3 h4;have q:ac.eval x=.slice a n cp:=by
  generalize ac.eval x=p at eD ⊢;cases eD with|d _ _ hd=>cases hd;rfl
 exact⟨_,wg e1 hx ht (hE.types t i hi) q (.inl ⟨e,_,_,hk,rfl⟩),.d _ _ (.int _ _)⟩
theorem bR.op{K:List AV->Prop}{o:Oper}{l:List Oper}(hg:o.guard=none)(v:AV)(H1:bw E o.op (c9 (dJ ops o) 0 s) h v h)(H2:bw E o.op (c9 (dJ ops o) 0 s) (h++[.gone]) v (h++[.gone]))(H:cd s o.dst v fun s'=>bR E ops h K l s'):bR E ops h K (o::l) s:=by
 rw[dP]at H;unfold bR at H ⊢;exact⟨v,ee.any (fS hg) H1,ee.any (fS hg) H2,H⟩
theorem I.HN(hm:E.P.follows .mixedOrders=true)(m n:Nat){id d:Nat}{ox ol:Oper}(Dn:ops.toList=ops.toList.take m++ox::((ops.toList.drop (m+1)).take n++[ol]))(zC:BV ops=true)(vJ:BW ops ((List.range (ops.size-1)).map fun i=>(i,ops.size-1))=true)
  (AI:ox.guard=none) (AJ:ox.dst=some d) (nr:ol.dst=none) (bK:(ops.toList.take m++(ops.toList.drop (m+1)).take n).all (fun o=>match o.dst with|some e => !(Nat.beq e d)|none=>true)=true) (gj:d<s.length) (ts:Nat × Nat) (l':List DV) (rest:List bk)
  (H:bR E ops h (fun s1=>(∀ (c0 c:Cx) (a:Act),c0.heap.length=R.n->aK E.G c->c.heap=h->c8 c0 c->cR c0.w.heap.size c R.rows R.fx.loops->VS c (c9 (dJ ops ox) 0 s1) a.tmps->∃ c' blk cap,AH E ox c0 c a ts l' rest R.fx.loops c' blk cap) /\
   bR E ops h (fun s2=>∀ blk cap,∃ h2,ee E ops ol (s2.set d (.d (.raw (.slice (some ⟨blk,0,none⟩) l'.length cap)))) (h++[.gone]) (.d .undef) h2 /\
    I E ag ⟨R.n,R.Q,.row ⟨blk,cap,ts,l'⟩::rest,R.fx⟩ [] k (s2.set d (.d (.raw (.slice (some ⟨blk,0,none⟩) l'.length cap)))) h2) ((ops.toList.drop (m+1)).take n) (bX s1 ox.dst .any)) (ops.toList.take m) s):I E ag R lits (.code (.region id ops true)::k) s h :=
 I.YA hm Dn zC vJ AI AJ nr bK gj H
theorem bR.from{K:List AV->Prop}{l:List Oper}{d:Option Nat}{v:AV}(H:cd s d v fun s'=>bR E ops h K l s'):bR E ops h K l (bX s d v):=by rwa [dP]at H
theorem I.set{td:List aP}{d:Nat}{v:AV}(H:fz s d v fun s'=>I E ag R lits td s' h):I E ag R lits td (s.set d v) h:=by rwa [gq]at H
theorem Od{E:Env}(hE:E.OK){o:Op}{s:List AV}{h:List af}{v:AV}{h':List af}(H:jF E.T E.G o s h False fun u hh=>u=v/\hh=h'):bw E o s h v h':=by
 rcases Be hE H with h|⟨u,hh,⟨rfl,rfl⟩,h⟩
 ·exact h.elim
 ·exact h
theorem bR.o{K:List AV->Prop}{o:Oper}{l:List Oper}(hE:E.OK){v:AV}(H:cd s o.dst v fun s'=>bR E ops h K l s')(hg:o.guard=none:=by rfl)(H1:jF E.T E.G o.op (c9 (dJ ops o) 0 s) h False (fun u hh=>u=v/\hh=h):=by(conv=>whnf);exact⟨rfl,rfl⟩)(H2:jF E.T E.G o.op (c9 (dJ ops o) 0 s) (h++[.gone]) False (fun u hh=>u=v/\hh=h++[.gone]):=by(conv=>whnf);exact⟨rfl,rfl⟩):bR E ops h K (o::l) s:=bR.op hg v (Od hE H1) (Od hE H2) H
theorem HO{E:Env}(hE:E.OK){o:Op}{s:List AV}{h:List af}{v:AV}{h':List af}(H:r8 E.T E.G o s h False fun u hh=>u=v/\hh=h'):bw E o s h v h':=by
 rcases I2 hE H with h|⟨u,hh,⟨rfl,rfl⟩,h⟩
 ·exact h.elim
 ·exact h
theorem xY{E:Env}(hE:E.OK){o:Op}{s:List AV}{h:List af}{v:AV}{h':List af}(H:nY E o s h False fun u hh=>u=v/\hh=h'):bw E o s h v h':=by
 rcases yQ hE H with h|⟨u,hh,⟨rfl,rfl⟩,h⟩
 ·exact h.elim
 ·exact h
theorem I.HP{o:Oper}{l:List Oper}{v:AV}{h':List af}(hw:gW ops o s true)(ho:bw E o.op s h v h')(H:cd s o.dst v fun s'=>I E ag R lits (.bu ops l::k) s' h'):I E ag R lits (.bu ops (o::l)::k) s h:=by
 rw[dP]at H;exact .of (.op hw ho H.to)
end
end Go.ay
end
