/- Lemmas of mine. Conditions: as stated. -/
import Derived.Test.YtfmdaiojokniiaaGreatDoorS8
import Derived.Test.YtfmdaiojokniiaaGreatDoorS9
import Derived.ChangeArms
import Derived.ProofKit
import Derived.OpenShut
import Derived.Deep.DeepHandedRow
import Derived.Lib.LaidTab
set_option linter.unusedVariables false
set_option linter.unusedSimpArgs false
open Array renaming length_toList->aic,getElem?_eq_some_iff->agk
open Bool renaming and_eq_true->aft
open List renaming mem_of_getElem?->afh,getElem?_eq_getElem->afo,range->aeU,take_of_length_le->afS,getElem?_of_mem->afe,mem_cons_self->aeQ,map_cons->ad0,eq_nil_of_length_eq_zero->aee,getElem?_append_left->ael,getElem?_append_right->ae9,mem_append->aeI,drop_zero->agX,sum_cons->ail,length_take->aeu,drop_of_length_le->afG,mem_cons_of_mem->aeR,drop_drop->afQ,take_append_drop->afA,mem_cons->afu,mem_map->aer,all_eq_true->ad',forall_mem_cons->ahX,getElem?_map->ad1,flatten->aim,take_succ_cons->ain,mapM_cons->ae6,sum_replicate_nat->aio,getElem?_take->aek,mem_singleton->ah9,getElem?_range->aiq
open Nat renaming beq->adY,eq_of_beq_eq_true->adX,zero_le->afv,lt_or_ge->adV,zero_add->ad5,mul_one->aib,add_zero->aew,zero_mul->ae8,min_eq_left->afa
open Option renaming map_some->aeT,map_eq_some_iff->ad8
section
namespace Go.aA
open Go Go.RowKit
def cJ(E:Env)(t:Nat):Nat:=match dJ E.T t with
 |some i=>i.size
 |none=>0
def ji(E:Env)(t:Nat):TK:=match dJ E.T t with
 |some i=>i.k
 |none => .other
def qf(k:TK)(x:DV):Prop:=match k with
 | .struct _=>∃ cs,x=.agg cs
 |_=>x.cells=[x]
def fz(E:Env):Nat->Nat->List DV->Prop
 |0,_,_=>False
 |n+1,t,ds=>match ji E t with
  | .bool=>∃ b,ds=[.bool b]
  | .int k=>∃ m,ds=[.int k m]/\(Lit.int k m).wf=true
  | .string=>∃ l:List UInt8,ds=[.str l]/\l.length<=maxLen
  | .slice e=>∃ l:List DV,ds=[.sl l]/\l.length<=maxLen/\∀ x∈l,fz E n e x.cells/\qf (ji E e) x
  | .struct fs=>ds.length=cJ E t/\∀ p∈fs,fz E n p.2 ((ds.drop p.1).take (cJ E p.2))
  |_=>False
def rB(E:Env):Nat->List (Nat × Nat)->Nat->Bool
 |o,[],n=>adY o n
 |o,p::l,n=>adY p.1 o&&rB E (o+cJ E p.2) l n
def qh(E:Env):Nat->Nat->Bool
 |0,_=>false
 |m+1,t=>match dJ E.T t with
  |none=>false
  |some i=>match i.k with
   | .bool=>adY i.size 1
   | .int _=>adY i.size 1
   | .string=>adY i.size 1
   | .slice e=>adY i.size 1&&Nat.blt 0 (cJ E e)&&qh E m e
   | .struct fs=>rB E 0 fs i.size&&fs.all fun p=>qh E m p.2
   |_=>false
theorem Am{E:Env}(hE:E.OK){t:Nat}{i:bu}(hi:E.T[t]?=some i):cJ E t=E.P.cellsOf t:=by
 obtain⟨ti,d,g1,g2,g3,g4,-⟩:=cC (hE.types t i hi);simp[cJ,eC,hi,Program.cellsOf,g1,g4]
theorem Ml{E:Env}{m t:Nat}(h:qh E m t=true):∃ i,E.T[t]?=some i:=by
 cases m with
 |zero=>cases h
 |succ m =>
  unfold qh at h;split at h
  ·cases h
  ·rename_i i hi;rw[eC]at hi;exact⟨i,hi⟩
theorem Mm{E:Env}(hE:E.OK){m t:Nat}(h:qh E m t=true):cJ E t=E.P.cellsOf t:=by
 obtain⟨i,hi⟩:=Ml h;exact Am hE hi
theorem jE.UH{bad:Nat->Prop}{w:World}{a b:List DV}{u v:List Value}(h1:jE bad w a u)(h2:jE bad w b v):jE bad w (a++b) (u++v):=by
 refine⟨by simp[h1.1,h2.1],fun j x y hx hy=>?_⟩;rcases adV j a.length with hj|hj
 ·rw[ael hj]at hx;rw[ael (by rw[<- h1.1];exact hj)]at hy;exact h1.2 j x y hx hy
 ·rw[ae9 hj]at hx;rw[ae9 (by rw[<- h1.1];exact hj),<- h1.1]at hy;exact h2.2 _ x y hx hy
section
variable {E:Env} {H:Type} {enc:TypeId × Value->H} {w:World} {held:Bool}
theorem Mn{n:Nat}{cs:List Value}:∀ {fs:List (Nat × Nat)} {o tot:Nat},rB E o fs tot=true->cs.length=tot->o<=tot ->
  (∀ p∈fs,∃ ds,fz E n p.2 ds/\jE (fun _=>False) w ds ((cs.drop p.1).take (cJ E p.2))/\∀ v∈(cs.drop p.1).take (cJ E p.2),v.oneCell'=true) ->
  (∀ p∈fs,p.1+cJ E p.2<=tot) ->
  ∃ ds,ds.length=tot-o/\jE (fun _=>False) w ds (cs.drop o)/\(∀ v∈cs.drop o,v.oneCell'=true)/\∀ p∈fs,o<=p.1/\fz E n p.2 ((ds.drop (p.1-o)).take (cJ E p.2))
 |[],o,tot,h,hl,ho,_,_=>by
  obtain rfl:o=tot:=adX h;rw[afG (by omega)];exact⟨[],by simp,⟨rfl,fun j x v hx=>by simp at hx⟩,fun v hv=>by simp at hv,fun p hp=>by simp at hp⟩
 |p::fs,o,tot,h,hl,ho,hf,hb=>by
  simp only[rB,aft]at h;obtain⟨h1,h2⟩:=h;have h1:=adX h1;have hle:=hb p (aeQ ..);rw[h1]at hle;obtain⟨d1,k1,k2,k3⟩:=hf p (aeQ ..);rw[h1]at k2 k3;obtain⟨d2,q1,q2,q3,q4⟩:=Mn h2 hl hle (fun p hp=>hf p (aeR _ hp)) (fun p hp=>hb p (aeR _ hp));have nh:d1.length=cJ E p.2:=by rw[k2.1];simp;omega
  have Mo:cs.drop o=(cs.drop o).take (cJ E p.2)++cs.drop (o+cJ E p.2):=by
   rw[<- afQ,afA]
  refine⟨d1++d2,by simp[nh,q1];omega,by rw[Mo];exact k2.UH q2,fun v hv=>?_,fun p' hp=>?_⟩
  ·rw[Mo]at hv;rcases aeI.1 hv with hv|hv
   ·exact k3 v hv
   ·exact q3 v hv
  ·rcases afu.1 hp with rfl|hp
   ·refine⟨by omega,?_⟩;rw[h1,Nat.sub_self,agX,List.take_append_of_le_length (by omega),afS (by omega)];exact k1
   ·obtain⟨r1,r2⟩:=q4 p' hp;refine⟨by omega,?_⟩;rw[List.drop_append,afG (by omega),List.nil_append,show p'.1-o-d1.length=p'.1-(o+cJ E p.2) by omega];exact r2
theorem GO:∀ {fs:List (Nat × Nat)} {o tot:Nat},rB E o fs tot=true->o<=tot/\∀ p∈fs,p.1+cJ E p.2<=tot
 |[],o,tot,h=>⟨Nat.le_of_eq (adX h),fun p hp=>by simp at hp⟩
 |p::fs,o,tot,h=>by
  simp only[rB,aft]at h;obtain⟨h1,h2⟩:=h;have h1:=adX h1;obtain⟨k1,k2⟩:=GO h2;refine⟨by omega,fun p' hp=>?_⟩;rcases afu.1 hp with rfl|hp
  ·omega
  ·exact k2 p' hp
theorem UI(hE:E.OK):∀ (fuel m t:Nat) (cs:List Value) (x:DataW H × List MemPlace),qh E m t=true->DataW.trod enc E.P w 0 (fun _=>true) held fuel t cs=some x ->
  ∃ ds,fz E fuel t ds/\jE (fun _=>False) w ds cs/\∀ v∈cs,v.oneCell'=true:=by
 intro fuel
 induction fuel with
 |zero=>intro m t cs x _ h;simp[DataW.trod]at h
 |succ fuel ih =>
  intro m t cs x aP h;cases m with
  |zero=>cases aP
  |succ m =>
   unfold qh at aP;split at aP
   ·cases aP
   rename_i i hi;have hk:ji E t=i.k:=by simp[ji,hi]
   have bR:cJ E t=i.size:=by simp[cJ,hi]
   rw[eC]at hi;obtain⟨ti,d,g1,g2,g3,g4,-⟩:=cC (hE.types t i hi);have one:∀ {y:DV} {v:Value},VD (fun _=>False) w y v->v.oneCell'=true->cs=[v]->jE (fun _=>False) w [y] cs/\∀ v∈cs,v.oneCell'=true:=fun{y v} h1 h2 h3=>by
    subst h3;refine⟨⟨rfl,fun j x u hx hu=>?_⟩,fun u hu=>by simp at hu;subst hu;exact h2⟩;cases j with
    |zero=>simp at hx hu;subst hx;subst hu;exact h1
    |succ j=>simp at hx
   split at aP
   ·rename_i fJ;have hd:d=.bool:=by rw[fJ]at g3;cases d<;>first|rfl|cases g3
    subst hd;obtain⟨b,rfl,-⟩:=DataW.trod_bool g2 h;exact⟨[.bool b],by unfold fz;rw[hk,fJ];exact⟨b,rfl⟩,one (.bool b) rfl rfl⟩
   ·rename_i k fJ;obtain rfl:=wH (fJ.symm.trans g3);obtain⟨n,rfl,-,hw⟩:=DataW.trod_int g2 h;exact⟨[.int k n],by unfold fz;rw[hk,fJ];exact⟨n,rfl,hw⟩,one (.int k n) rfl rfl⟩
   ·rename_i fJ;obtain rfl:=ss (fJ.symm.trans g3);obtain⟨s,rfl,-,hl⟩:=DataW.trod_string g2 h;refine⟨[.str s.data.toList],?_,one (v := .string s) ?_ rfl rfl⟩
    ·unfold fz;rw[hk,fJ];exact⟨_,rfl,by rw[aic];exact hl⟩
    ·have:=VD.str (bad:=fun _=>False) (w:=w) s.data.toList
     simpa using this
   ·rename_i e fJ;obtain rfl:=lF (fJ.symm.trans g3);simp only[aft]at aP;obtain⟨⟨-,cS⟩,An⟩:=aP;have cS:=y0 cS;have GP:=Mm hE An;rcases DataW.trod_slice g2 h with⟨rfl,-⟩|⟨a,len,cap,elems,rest,n,hn,rfl,-,-,CU,fp,dW,GQ,wM,-⟩
    ·exact⟨[.sl []],by unfold fz;rw[hk,fJ];exact⟨[],rfl,afv _,fun x hx=>by simp at hx⟩,one .slnil rfl rfl⟩
    cases hn;obtain⟨vu,uD⟩:=wM rfl;rw[<- GP]at GQ uD;have spot:0<cap->a.spot=none:=fun hc=>by
     have dO:∀ {q:Option (DataW H × List MemPlace)},(w.cells? 0 (a.add 0) (cJ E e)).bind (DataW.trod enc E.P w 0 (fun _=>true) held fuel e)=q->q.isSome->a.spot=none:=fun{q} h1 h2=>by
      cases dP:w.cells? 0 (a.add 0) (cJ E e)with
      |none=>rw[dP]at h1;subst h1;cases h2
      |some l =>
       obtain⟨-,hl,dO⟩:=World.cells?_some dP;have:=dO 0 cS;rw[afo (by omega)]at this;cases hs:a.spot with
       |none=>rfl
       |some k =>
        have lb:((a.add 0).add 0).spot.isSome=true:=by simp[Addr.add,hs]
        simp only[World.cell?,lb,if_true]at this;split at this<;>cases this
     by_cases h0:0<len
     ·have:=GQ 0 h0;rw[ae8]at this;exact dO this (by simp[dW,h0])
     ·obtain rfl:len=0:=by omega
      have:=uD 0 (by omega);rw[ad5,ae8]at this;exact dO this (by simp[vu];omega)
    by_cases ry:cap=0
    ·subst ry;obtain rfl:len=0:=by omega
     exact⟨[.sl []],by unfold fz;rw[hk,fJ];exact⟨[],rfl,afv _,fun x hx=>by simp at hx⟩,one (.jX a) rfl rfl⟩
    have CV:=spot (by omega);obtain⟨blk,off,sp⟩:=a;cases CV;have key:∀ i,∃ x:DV,i<len->fz E fuel e x.cells/\qf (ji E e) x/\x.cells.length=cJ E e/\∀ (j:Nat) (y:DV),x.cells[j]?=some y->∃ v,w.cell? ⟨blk,off+(i*cJ E e+j),none⟩=some v/\v.oneCell'=true/\VD (fun _=>False) w y v:=fun i=>by
     by_cases hi:i<len
     case neg=>exact⟨.undef,fun h=>absurd h hi⟩
     have he:=GQ i hi;cases dP:w.cells? 0 ((⟨blk,off,none⟩:Addr).add (i*cJ E e)) (cJ E e)with
     |none=>rw[dP]at he;simp[dW,hi]at he
     |some l =>
      rw[dP]at he;obtain⟨-,hl,dO⟩:=World.cells?_some dP;have kY:DataW.trod enc E.P w 0 (fun _=>true) held fuel e l=some (elems[i]'(by omega)):=by
       rw[<- afo (by omega)];exact he
      obtain⟨ds,k1,k2,k3⟩:=ih m e l _ An kY;have nG:ds.length=cJ E e:=by rw[k2.1,hl]
      have Mp:∀ (j:Nat) (y:DV),ds[j]?=some y->∃ v,w.cell? ⟨blk,off+(i*cJ E e+j),none⟩=some v/\v.oneCell'=true/\VD (fun _=>False) w y v:=fun j y hy=>by
       have hj:=aX hy;have oU:j<l.length:=by rw[<- k2.1];exact hj
       have:=dO j (by omega);rw[afo oU]at this;refine⟨l[j],?_,k3 _ (List.getElem_mem oU),k2.2 j y _ hy (by simp[oU])⟩;rw[na,na,Nat.add_assoc]at this;exact this
      by_cases GR:∃ fs,ji E e=.struct fs
      ·obtain⟨fs,gQ⟩:=GR;exact⟨.agg ds,fun _=>⟨k1,by rw[gQ];exact⟨ds,rfl⟩,nG,Mp⟩⟩
      ·obtain⟨y,hy,CW⟩:∃ y,ds=[y]/\y.cells=[y]:=by
        unfold fz at k1;cases fuel with
        |zero=>exact k1.elim
        |succ fuel =>
         simp only at k1;split at k1
         ·obtain⟨b,rfl⟩:=k1;exact⟨_,rfl,rfl⟩
         ·obtain⟨b,rfl,-⟩:=k1;exact⟨_,rfl,rfl⟩
         ·obtain⟨b,rfl,-⟩:=k1;exact⟨_,rfl,rfl⟩
         ·obtain⟨b,rfl,-⟩:=k1;exact⟨_,rfl,rfl⟩
         ·rename_i fs gQ;exact absurd ⟨fs,gQ⟩ GR
         ·exact k1.elim
       subst hy;refine⟨y,fun _=>⟨by rw[CW];exact k1,?_,by rw[CW];exact nG,by rw[CW];exact Mp⟩⟩;unfold qf;split
       ·rename_i fs gQ;exact absurd ⟨fs,gQ⟩ GR
       ·exact CW
    let g:Nat->DV:=fun i=>Classical.choose (key i)
    have hg:∀ i,i<len->fz E fuel e (g i).cells/\qf (ji E e) (g i)/\(g i).cells.length=cJ E e/\∀ (j:Nat) (y:DV),(g i).cells[j]?=some y->∃ v,w.cell? ⟨blk,off+(i*cJ E e+j),none⟩=some v/\v.oneCell'=true/\VD (fun _=>False) w y v:=fun i=>Classical.choose_spec (key i);have dE:∀ (i:Nat) (y:DV),((aeU len).map g)[i]?=some y->i<len/\y=g i:=fun i y hy=>by
     have hi:i<len:=by have:=aX hy;simpa using this
     simp[hi]at hy;exact⟨hi,hy.symm⟩
    refine⟨[.sl ((aeU len).map g)],?_,one (v := .slice (some ⟨blk,off,none⟩) len cap) ?_ rfl rfl⟩
    ·unfold fz;rw[hk,fJ];refine⟨_,rfl,by simp;omega,fun x hx=>?_⟩;obtain⟨i,hi⟩:=afe hx;obtain⟨h1,rfl⟩:=dE i x hi;exact⟨(hg i h1).1,(hg i h1).2.1⟩
    ·have:=VD.sl (bad:=fun _=>False) (w:=w) ((aeU len).map g) blk off cap (cJ E e) (fun i j=>(w.cell? ⟨blk,off+(i*cJ E e+j),none⟩).getD undef) (fun _ h=>h) cS (by simpa using CU)
      (fun i y hy=>by obtain⟨h1,rfl⟩:=dE i y hy;exact(hg i h1).2.2.1)
      (fun i j y z hy hz=>by obtain⟨h1,rfl⟩:=dE i y hy;obtain⟨v,q1,q2,q3⟩:=(hg i h1).2.2.2 j z hz;rw[q1];rfl)
      (fun i j y z hy hz=>by obtain⟨h1,rfl⟩:=dE i y hy;obtain⟨v,q1,q2,q3⟩:=(hg i h1).2.2.2 j z hz;rw[q1];exact q3)
      (fun i j y z hy hz=>by obtain⟨h1,rfl⟩:=dE i y hy;obtain⟨v,q1,q2,q3⟩:=(hg i h1).2.2.2 j z hz;rw[q1];exact q2)
     simpa using this
   ·rename_i fs fJ;obtain⟨fl,rfl,rfl⟩:=qE (fJ.symm.trans g3);simp only[aft]at aP;obtain⟨CX,aL⟩:=aP;obtain⟨xs,n,hn,-,hlen,gS,hf⟩:=DataW.trod_struct g2 h;cases hn;rw[<- Am hE hi,bR]at hlen;obtain⟨-,hle⟩:=GO CX
    obtain⟨ds,r1,r2,r3,r4⟩:=Mn (n:=fuel) (w:=w) (cs:=cs) CX hlen (afv _) (fun p hp=>by
     obtain⟨f,yU,rfl⟩:=aer.1 hp;have Ao:=ad'.1 aL _ hp;obtain⟨i',cj⟩:=afe yU;have adg:fl.toList.toArray[i']?=some f:=by simpa using cj
     have:=hf i' f (by simpa using cj);have ah:i'<xs.length:=by rw[gS];have:=aX cj;simpa using this
     rw[afo ah]at this;obtain⟨ds,k1,k2,k3⟩:=ih m f.type _ _ Ao this;rw[<- Mm hE Ao]at k2 k3
     exact⟨ds,k1,k2,k3⟩) hle
    rw[agX]at r2 r3;refine⟨ds,?_,r2,r3⟩;unfold fz;rw[hk,fJ];exact⟨by rw[r1,bR];rfl,fun p hp=>(r4 p hp).2⟩
   ·cases aP
end
end Go.aA
end
section
namespace Go.aA
open Go Go.RowKit
variable {E:Env} {n t:Nat} {ds:List DV}
structure cy(E:Env)(t:Nat){α:Type}(enc:α->DV)(iw:α->Prop):Prop where
 dec:∀ {m ds},fz E m t ds->∃ a,ds=(enc a).cells/\iw a
 elem:∀ {x a},qf (ji E t) x->x.cells=(enc a).cells->x=enc a
variable {α β:Type} {enc:α->DV} {adh:β->DV} {iw:α->Prop} {CY:β->Prop}
theorem cy.get(c:cy E t enc iw){x:DV}(h:∃ m,fz E m t x.cells)(he:qf (ji E t) x):∃ a,x=enc a/\iw a:=by
 obtain⟨m,h⟩:=h;obtain⟨a,h1,h2⟩:=c.dec h;exact⟨a,c.elem he h1,h2⟩
theorem cy.of{k:TK}(hk:ji E t=k)(hn:∀ fs,k ≠ .struct fs)(h1:∀ a,(enc a).cells=[enc a])(h:∀ m ds,fz E (m+1) t ds->∃ a,ds=[enc a]/\iw a):cy E t enc iw:=by
 refine⟨fun{m ds} hd=>?_,fun{x a} he hx=>?_⟩
 ·cases m with
  |zero=>exact hd.elim
  |succ m=>obtain⟨a,h2,h3⟩:=h m ds hd;exact⟨a,by rw[h1,h2],h3⟩
 ·rw[h1]at hx;rw[hk]at he;unfold qf at he;split at he
  ·exact absurd rfl (hn _)
  ·rw[he]at hx;simpa using hx
theorem cy.str(hk:ji E t=.string):cy E t DV.str (fun l=>l.length<=maxLen) := .of hk (by simp) (fun _=>rfl) fun m ds h=>by
 unfold fz at h;rw[hk]at h;exact h
theorem cy.int{k:IntKind}{g:Int->Prop}(hk:ji E t=.int k)(hg:∀ n,(Lit.int k n).wf=true->g n):cy E t (DV.int k) g := .of hk (by simp) (fun _=>rfl) fun m ds h=>by
 unfold fz at h;rw[hk]at h;obtain⟨n,h1,h2⟩:=h;exact⟨n,h1,hg n h2⟩
theorem cy.bool(hk:ji E t=.bool):cy E t DV.bool (fun _=>True) := .of hk (by simp) (fun _=>rfl) fun m ds h=>by
 unfold fz at h;rw[hk]at h;obtain⟨n,h1⟩:=h;exact⟨n,h1,trivial⟩
theorem cy.list(c:cy E n enc iw):∀ {l:List DV},(∀ x∈l,(∃ m,fz E m n x.cells)/\qf (ji E n) x)->∃ l':List α,l=l'.map enc/\∀ a∈l',iw a
 |[],_=>⟨[],rfl,by simp⟩
 |x::l,h=>by
  obtain⟨⟨h1,h2⟩,h3⟩:=ahX.1 h;obtain⟨a,rfl,ha⟩:=c.get h1 h2;obtain⟨l',rfl,h4⟩:=cy.list c h3;exact⟨a::l',rfl,ahX.2 ⟨ha,h4⟩⟩
theorem cy.sl(c:cy E n enc iw)(hk:ji E t=.slice n):cy E t (fun l:List α=>DV.sl (l.map enc)) (fun l:List α=>l.length<=maxLen/\∀ x∈l,iw x) := .of hk (by simp) (fun _=>rfl) fun m ds h=>by
 unfold fz at h;rw[hk]at h;obtain⟨l,h1,h2,h3⟩:=h;obtain⟨l',rfl,h4⟩:=c.list fun x hx=>⟨⟨m,(h3 x hx).1⟩,(h3 x hx).2⟩;exact⟨l',h1,by simpa using h2,h4⟩
def gw(E:Env)(fs:List (Nat × Nat))(off sz:Nat){α:Type}(en:α->List DV)(iw:α->Prop):Prop:=∀ {m} {ds:List DV},ds.length=sz->(∀ p∈fs,fz E m p.2 ((ds.drop p.1).take (cJ E p.2)))->∃ a,ds.drop off=en a/\iw a
variable {off o2 sz:Nat} {fs:List (Nat × Nat)} {en:β->List DV}
theorem cy.last(c:cy E t enc iw)(h:off+cJ E t=sz):gw E [(off,t)] off sz (fun a=>(enc a).cells) iw:=fun{m ds} hl hf=>by
 have:=hf (off,t) (by simp);rw[afS (by simp;omega)]at this;exact c.dec this
theorem cy.cons(c:cy E t enc iw)(d:gw E fs o2 sz en CY)(h:off+cJ E t=o2):gw E ((off,t)::fs) off sz (fun p=>(enc p.1).cells++en p.2) (fun p:α × β=>iw p.1/\CY p.2):=fun{m ds} hl hf=>by
 obtain⟨h1,h2⟩:=ahX.1 hf;obtain⟨a,h3,h4⟩:=c.dec h1;obtain⟨b,h5,h6⟩:=d hl h2;refine⟨(a,b),?_,h4,h6⟩;show _=(enc a).cells++en b;rw[<- h3,<- h5,<- h,<- afQ,afA]
theorem gw.struct{f:β->α}(d:gw E fs 0 sz en CY)(hk:ji E t=.struct fs)(hs:cJ E t=sz)(he:∀ a,enc (f a)=.agg (en a))(ha:∀ a,∃ cs,enc a=.agg cs)(hg:∀ a,CY a->iw (f a)):cy E t enc iw:=by
 refine⟨fun{m ds} h=>?_,fun{x a} h1 h2=>?_⟩
 ·cases m with
  |zero=>exact h.elim
  |succ m =>
   unfold fz at h;rw[hk]at h;obtain⟨a,h3,h4⟩:=d (by rw[h.1,hs]) h.2;exact⟨f a,by rw[he];exact h3,hg a h4⟩
 ·rw[hk]at h1;obtain⟨cs,rfl⟩:∃ cs,x=.agg cs:=h1;obtain⟨SI,h3⟩:=ha a;rw[h3]at h2 ⊢;cases h2;rfl
def GS(E:Env)(t:Nat)(x:DV):Prop:=(∃ m,fz E m t x.cells)/\qf (ji E t) x
theorem UJ(hE:E.OK){H:Type}{enc:TypeId × Value->H}{W:World}{base m:Nat}{v:Value}{d:DataW H}{p:List MemPlace}{held:Bool}(aP:qh E m t=true)(hv:Value.okWide E.P W .any base t v)(h:DataW.Trod enc E.P W 0 (fun _=>true) held t v d p):∃ x,VD (fun _=>False) W x v/\GS E t x:=by
 obtain⟨fuel,h⟩:=h;obtain⟨ds,h1,h2,h3⟩:=UI hE fuel m t _ _ aP h;obtain⟨i,hi⟩:=Ml aP;obtain⟨ti,dd,g1,g2,g3,g4,-⟩:=cC (hE.types t i hi);have hk:ji E t=tk dd:=by simp[ji,eC,hi,g3]
 by_cases hs:∃ fs,dd=.struct fs
 ·obtain⟨fs,rfl⟩:=hs;simp only[Value.okWide,g2]at hv;obtain⟨cs,rfl,-,-⟩:=hv;refine⟨.agg ds,.agg ds cs (by simpa [Value.cells]using h2.1) (fun j x v hx hv=>h2.2 j x v hx (by simpa [Value.cells]using hv)),⟨fuel,h1⟩,?_⟩;rw[hk];exact⟨ds,rfl⟩
 ·have bZ:∃ y,ds=[y]/\y.cells=[y]:=by
   cases fuel with
   |zero=>exact h1.elim
   |succ fuel =>
    unfold fz at h1;split at h1
    ·obtain⟨b,rfl⟩:=h1;exact⟨_,rfl,rfl⟩
    ·obtain⟨b,rfl,-⟩:=h1;exact⟨_,rfl,rfl⟩
    ·obtain⟨b,rfl,-⟩:=h1;exact⟨_,rfl,rfl⟩
    ·obtain⟨b,rfl,-⟩:=h1;exact⟨_,rfl,rfl⟩
    ·rename_i fs gQ;rw[hk]at gQ;exact absurd (by cases dd<;>first|exact⟨_,rfl⟩|(cases gQ;done)) hs
    ·exact h1.elim
  obtain⟨y,rfl,hy⟩:=bZ;have fT:∀ cs,v ≠ .agg cs:=fun cs e=>by
   subst e;have z6:∀ n e',dd ≠ .array n e':=fun n e' e=>by
    subst e;cases fuel with
    |zero=>exact h1.elim
    |succ fuel=>unfold fz at h1;rw[hk]at h1;exact h1
   unfold Value.okWide at hv;rw[g2]at hv;cases dd<;>first
    |exact absurd ⟨_,rfl⟩ hs
    |exact absurd rfl (z6 _ _)
    |(simp[Cell.okWide,Cell.ok,g2]at hv;done)
  have UK:v.cells.toList=[v]:=by
   cases v<;>first|rfl|exact absurd rfl (fT _)
  rw[UK]at h2;refine⟨y,h2.2 0 y v rfl rfl,⟨fuel,by rw[hy];exact h1⟩,?_⟩;unfold qf;split
  ·rename_i fs gQ;rw[hk]at gQ;exact absurd (by cases dd<;>first|exact⟨_,rfl⟩|(cases gQ;done)) hs
  ·exact hy
def vv(E:Env):List Nat->List DV->Prop
 |[],xs=>xs=[]
 |t::ts,x::xs=>GS E t x/\vv E ts xs
 |_::_,[]=>False
theorem Mq(hE:E.OK){H:Type}{enc:TypeId × Value->H}{W:World}{base m:Nat}{held:Bool}:∀ {ts:List Nat} {vs:List Value} {ds:List (DataW H)} {ps:List MemPlace},ts.all (qh E m)=true ->
  (∀ (j:Nat) t v,ts[j]?=some t->vs[j]?=some v->Value.okWide E.P W .any base t v)->DataW.TrodAll enc E.P W 0 (fun _=>true) held ts vs ds ps->∃ xs,jE (fun _=>False) W xs vs/\vv E ts xs
 |[],vs,ds,ps,_,_,h=>by
  obtain⟨rfl,-,-⟩:=ChangeShapes.trodAll_nil h;exact⟨[],⟨rfl,fun j x v hx=>by simp at hx⟩,rfl⟩
 |t::ts,vs,ds,ps,aP,hv,h=>by
  obtain⟨v,GU,d,GV,p,q,rfl,rfl,rfl,h1,h2⟩:=ChangeShapes.trodAll_cons h;simp only[List.all_cons,aft]at aP;obtain⟨x,k1,k2⟩:=UJ hE aP.1 (hv 0 t v rfl rfl) h1;obtain⟨xs,q1,q2⟩:=Mq hE aP.2 (fun j t v ht eK=>hv (j+1) t v (by simpa using ht) (by simpa using eK)) h2;refine⟨x::xs,⟨by simp[q1.1],fun j y u hy hu=>?_⟩,k2,q2⟩;cases j with
  |zero=>simp at hy hu;subst hy;subst hu;exact k1
  |succ j=>exact q1.2 j y u (by simpa using hy) (by simpa using hu)
end Go.aA
end
section
namespace Go.Proofs.YtfmdaiojokniiaaGreatDoor.P
open Go Go.aA
set_option maxRecDepth 100000
def GW(n:Int):Prop:=0<=n/\n<=18446744073709551615
theorem UL{n:Int}(h:(Lit.int .i64 n).wf=true):eN n:=by
 simp[Lit.wf,IntKind.min,IntKind.max,IntKind.signed,IntKind.bits]at h;exact h
theorem UM{n:Int}(h:(Lit.int .u64 n).wf=true):GW n:=by
 simp[Lit.wf,IntKind.min,IntKind.max,IntKind.signed,IntKind.bits]at h;exact h
theorem tx:cy E 9 DV.str (fun l=>l.length<=maxLen):=cy.str (by kernel_rfl)
theorem fA:cy E 3 (DV.int .i64) eN:=cy.int (by kernel_rfl) fun _=>UL
theorem UN:cy E 188 (DV.int .u64) GW:=cy.int (by kernel_rfl) fun _=>UM
theorem UO:cy E 27 (fun l:List Int=>DV.sl (l.map (DV.int .i64))) (fun l=>l.length<=maxLen/\∀ x∈l,eN x):=fA.sl (by kernel_rfl)
def Datum.Good(a:Datum):Prop:=(a.text.length<=maxLen)/\(eN a.n)/\(eN a.m)
theorem UP:cy E 131 Datum.enc Datum.Good:=gw.struct (f:=fun p:Text × Int × Int=>⟨p.1,p.2.1,p.2.2⟩) (tx.cons (fA.cons (fA.last rfl) rfl) rfl) (by kernel_rfl) rfl (fun _=>rfl) (fun _=>⟨_,rfl⟩) fun _ h=>h
theorem UQ:cy E 24 (fun l:List Datum=>DV.sl (l.map Datum.enc)) (fun l=>l.length<=maxLen/\∀ x∈l,x.Good):=UP.sl (by kernel_rfl)
def cM.Good(a:cM):Prop:=(a.name.length<=maxLen)/\(eN a.type)/\(eN a.bY)/\(a.data.length<=maxLen/\∀ x∈a.data,x.Good)
theorem Mr:cy E 26 cM.enc cM.Good:=gw.struct (f:=fun p:Text × Int × Int × List Datum=>⟨p.1,p.2.1,p.2.2.1,p.2.2.2⟩) (tx.cons (fA.cons (fA.cons (UQ.last rfl) rfl) rfl) rfl) (by kernel_rfl) rfl (fun _=>rfl) (fun _=>⟨_,rfl⟩) fun _ h=>h
def c9.Good(a:c9):Prop:=(a.au.length<=maxLen)/\(eN a.key)/\(eN a.ku)/\(eN a.bL)/\(eN a.upto)/\(GW a.sum)
theorem UR:cy E 190 c9.enc c9.Good:=gw.struct (f:=fun p:Text × Int × Int × Int × Int × Int=>⟨p.1,p.2.1,p.2.2.1,p.2.2.2.1,p.2.2.2.2.1,p.2.2.2.2.2⟩) (tx.cons (fA.cons (fA.cons (fA.cons (fA.cons (UN.last rfl) rfl) rfl) rfl) rfl) rfl) (by kernel_rfl) rfl (fun _=>rfl) (fun _=>⟨_,rfl⟩) fun _ h=>h
theorem US:cy E 100 (fun l:List c9=>DV.sl (l.map c9.enc)) (fun l=>l.length<=maxLen/\∀ x∈l,x.Good):=UR.sl (by kernel_rfl)
def Signed.Good(a:Signed):Prop:=(a.set.Good)/\(a.sigs.length<=maxLen/\∀ x∈a.sigs,x.Good)
theorem Ms:cy E 102 Signed.enc Signed.Good:=gw.struct (f:=fun p:cM × List c9=>⟨p.1,p.2⟩) (Mr.cons (US.last rfl) rfl) (by kernel_rfl) rfl (fun _=>rfl) (fun _=>⟨_,rfl⟩) fun _ h=>h
theorem GX:cy E 37 (fun l:List Signed=>DV.sl (l.map Signed.enc)) (fun l=>l.length<=maxLen/\∀ x∈l,x.Good):=Ms.sl (by kernel_rfl)
def bc.Good(a:bc):Prop:=(a.ao.length<=maxLen)/\(a.ae.length<=maxLen/\∀ x∈a.ae,x.Good)
theorem GY:cy E 59 bc.enc bc.Good:=gw.struct (f:=fun p:Text × List Signed=>⟨p.1,p.2⟩) (tx.cons (GX.last rfl) rfl) (by kernel_rfl) rfl (fun _=>rfl) (fun _=>⟨_,rfl⟩) fun _ h=>h
def bC.Good(a:bC):Prop:=(a.name.length<=maxLen)/\(eN a.type)
theorem GZ:cy E 36 bC.enc bC.Good:=gw.struct (f:=fun p:Text × Int=>⟨p.1,p.2⟩) (tx.cons (fA.last rfl) rfl) (by kernel_rfl) rfl (fun _=>rfl) (fun _=>⟨_,rfl⟩) fun _ h=>h
def dZ.Good(a:dZ):Prop:=(eN a.kind)/\(a.ae.length<=maxLen/\∀ x∈a.ae,x.Good)/\(a.cut.length<=maxLen)
theorem UT:cy E 39 dZ.enc dZ.Good:=gw.struct (f:=fun p:Int × List Signed × Text=>⟨p.1,p.2.1,p.2.2⟩) (fA.cons (GX.cons (tx.last rfl) rfl) rfl) (by kernel_rfl) rfl (fun _=>rfl) (fun _=>⟨_,rfl⟩) fun _ h=>h
structure Host where
 name:Text
 addr:Int
 owner:Int
 deriving DecidableEq
@[reducible] def Host.enc (a : Host) : DV := .agg [.str a.name, .int .i64 a.addr, .int .i64 a.owner]
def Host.Good(a:Host):Prop:=(a.name.length<=maxLen)/\(eN a.addr)/\(eN a.owner)
theorem UU:cy E 84 Host.enc Host.Good:=gw.struct (f:=fun p:Text × Int × Int=>⟨p.1,p.2.1,p.2.2⟩) (tx.cons (fA.cons (fA.last rfl) rfl) rfl) (by kernel_rfl) rfl (fun _=>rfl) (fun _=>⟨_,rfl⟩) fun _ h=>h
theorem UW:cy E 22 (fun l:List Host=>DV.sl (l.map Host.enc)) (fun l=>l.length<=maxLen/\∀ x∈l,x.Good):=UU.sl (by kernel_rfl)
structure aQ where
 host:Int
 bL:Int
 upto:Int
 au:bc
 deriving DecidableEq
@[reducible] def aQ.enc (a : aQ) : DV := .agg [.int .i64 a.host, .int .i64 a.bL, .int .i64 a.upto, .str a.au.ao, .sl (a.au.ae.map Signed.enc)]
def aQ.Good(a:aQ):Prop:=(eN a.host)/\(eN a.bL)/\(eN a.upto)/\(a.au.Good)
theorem UX:cy E 68 aQ.enc aQ.Good:=gw.struct (f:=fun p:Int × Int × Int × bc=>⟨p.1,p.2.1,p.2.2.1,p.2.2.2⟩) (fA.cons (fA.cons (fA.cons (GY.last rfl) rfl) rfl) rfl) (by kernel_rfl) rfl (fun _=>rfl) (fun _=>⟨_,rfl⟩) fun _ h=>h
theorem UY:cy E 23 (fun l:List aQ=>DV.sl (l.map aQ.enc)) (fun l=>l.length<=maxLen/\∀ x∈l,x.Good):=UX.sl (by kernel_rfl)
structure aK where
 host:Int
 au:bc
 deriving DecidableEq
@[reducible] def aK.enc (a : aK) : DV := .agg [.int .i64 a.host, .str a.au.ao, .sl (a.au.ae.map Signed.enc)]
def aK.Good(a:aK):Prop:=(eN a.host)/\(a.au.Good)
theorem UZ:cy E 61 aK.enc aK.Good:=gw.struct (f:=fun p:Int × bc=>⟨p.1,p.2⟩) (fA.cons (GY.last rfl) rfl) (by kernel_rfl) rfl (fun _=>rfl) (fun _=>⟨_,rfl⟩) fun _ h=>h
theorem U0:cy E 53 (fun l:List aK=>DV.sl (l.map aK.enc)) (fun l=>l.length<=maxLen/\∀ x∈l,x.Good):=UZ.sl (by kernel_rfl)
structure bO where
 ay:List Host
 aB:List aQ
 anchor:cM
 hints:List Int
 bJ:Int
 fin:Int
 deriving DecidableEq
@[reducible] def bO.enc (a : bO) : DV := .agg [.sl (a.ay.map Host.enc), .sl (a.aB.map aQ.enc), .str a.anchor.name, .int .i64 a.anchor.type, .int .i64 a.anchor.bY, .sl (a.anchor.data.map Datum.enc), .sl (a.hints.map (.int .i64)), .int .i64 a.bJ, .int .i64 a.fin]
def bO.Good(a:bO):Prop:=(a.ay.length<=maxLen/\∀ x∈a.ay,x.Good)/\(a.aB.length<=maxLen/\∀ x∈a.aB,x.Good)/\(a.anchor.Good)/\(a.hints.length<=maxLen/\∀ x∈a.hints,eN x)/\(eN a.bJ)/\(eN a.fin)
theorem U1:cy E 29 bO.enc bO.Good:=gw.struct (f:=fun p:List Host × List aQ × cM × List Int × Int × Int=>⟨p.1,p.2.1,p.2.2.1,p.2.2.2.1,p.2.2.2.2.1,p.2.2.2.2.2⟩) (UW.cons (UY.cons (Mr.cons (UO.cons (fA.cons (fA.last rfl) rfl) rfl) rfl) rfl) rfl) (by kernel_rfl) rfl (fun _=>rfl) (fun _=>⟨_,rfl⟩) fun _ h=>h
structure kA where
 cZ:List aK
 deriving DecidableEq
@[reducible] def kA.enc (a : kA) : DV := .agg [.sl (a.cZ.map aK.enc)]
def kA.Good(a:kA):Prop:=(a.cZ.length<=maxLen/\∀ x∈a.cZ,x.Good)
theorem U2:cy E 55 kA.enc kA.Good:=gw.struct (f:=fun p:List aK=>⟨p⟩) (U0.last rfl) (by kernel_rfl) rfl (fun _=>rfl) (fun _=>⟨_,rfl⟩) fun _ h=>h
structure Step where
 time:Int
 cD:kA
 deriving DecidableEq
@[reducible] def Step.enc (a : Step) : DV := .agg [.int .i64 a.time, .sl (a.cD.cZ.map aK.enc)]
def Step.Good(a:Step):Prop:=(eN a.time)/\(a.cD.Good)
theorem U3:cy E 57 Step.enc Step.Good:=gw.struct (f:=fun p:Int × kA=>⟨p.1,p.2⟩) (fA.cons (U2.last rfl) rfl) (by kernel_rfl) rfl (fun _=>rfl) (fun _=>⟨_,rfl⟩) fun _ h=>h
theorem U4:cy E 30 (fun l:List Step=>DV.sl (l.map Step.enc)) (fun l=>l.length<=maxLen/\∀ x∈l,x.Good):=U3.sl (by kernel_rfl)
structure ix where
 ay:List Host
 eb:List aK
 anchor:cM
 hints:List Int
 deriving DecidableEq
@[reducible] def ix.enc (a : ix) : DV := .agg [.sl (a.ay.map Host.enc), .sl (a.eb.map aK.enc), .str a.anchor.name, .int .i64 a.anchor.type, .int .i64 a.anchor.bY, .sl (a.anchor.data.map Datum.enc), .sl (a.hints.map (.int .i64))]
def ix.Good(a:ix):Prop:=(a.ay.length<=maxLen/\∀ x∈a.ay,x.Good)/\(a.eb.length<=maxLen/\∀ x∈a.eb,x.Good)/\(a.anchor.Good)/\(a.hints.length<=maxLen/\∀ x∈a.hints,eN x)
structure Claim where
 host:Int
 time:Int
 au:bc
 deriving DecidableEq
@[reducible] def Claim.enc (a : Claim) : DV := .agg [.int .i64 a.host, .int .i64 a.time, .str a.au.ao, .sl (a.au.ae.map Signed.enc)]
def Claim.Good(a:Claim):Prop:=(eN a.host)/\(eN a.time)/\(a.au.Good)
theorem Mt:cy E 63 Claim.enc Claim.Good:=gw.struct (f:=fun p:Int × Int × bc=>⟨p.1,p.2.1,p.2.2⟩) (fA.cons (fA.cons (GY.last rfl) rfl) rfl) (by kernel_rfl) rfl (fun _=>rfl) (fun _=>⟨_,rfl⟩) fun _ h=>h
theorem U5:cy E 31 (fun l:List Claim=>DV.sl (l.map Claim.enc)) (fun l=>l.length<=maxLen/\∀ x∈l,x.Good):=Mt.sl (by kernel_rfl)
structure Entry where
 signed:Signed
 au:Text
 upto:Int
 deriving DecidableEq
@[reducible] def Entry.enc (a : Entry) : DV := .agg [.str a.signed.set.name, .int .i64 a.signed.set.type, .int .i64 a.signed.set.bY, .sl (a.signed.set.data.map Datum.enc), .sl (a.signed.sigs.map c9.enc), .str a.au, .int .i64 a.upto]
def Entry.Good(a:Entry):Prop:=(a.signed.Good)/\(a.au.length<=maxLen)/\(eN a.upto)
theorem U6:cy E 241 Entry.enc Entry.Good:=gw.struct (f:=fun p:Signed × Text × Int=>⟨p.1,p.2.1,p.2.2⟩) (Ms.cons (tx.cons (fA.last rfl) rfl) rfl) (by kernel_rfl) rfl (fun _=>rfl) (fun _=>⟨_,rfl⟩) fun _ h=>h
theorem U7:cy E 91 (fun l:List Entry=>DV.sl (l.map Entry.enc)) (fun l=>l.length<=maxLen/\∀ x∈l,x.Good):=U6.sl (by kernel_rfl)
structure Cache where
 list:List Entry
 deriving DecidableEq
@[reducible] def Cache.enc (a : Cache) : DV := .agg [.sl (a.list.map Entry.enc)]
def Cache.Good(a:Cache):Prop:=(a.list.length<=maxLen/\∀ x∈a.list,x.Good)
theorem U8:cy E 93 Cache.enc Cache.Good:=gw.struct (f:=fun p:List Entry=>⟨p⟩) (U7.last rfl) (by kernel_rfl) rfl (fun _=>rfl) (fun _=>⟨_,rfl⟩) fun _ h=>h
structure l3 where
 kind:Int
 q:bC
 ae:List Signed
 deriving DecidableEq
@[reducible] def l3.enc (a : l3) : DV := .agg [.int .i64 a.kind, .str a.q.name, .int .i64 a.q.type, .sl (a.ae.map Signed.enc)]
def l3.Good(a:l3):Prop:=(eN a.kind)/\(a.q.Good)/\(a.ae.length<=maxLen/\∀ x∈a.ae,x.Good)
theorem U9:cy E 96 l3.enc l3.Good:=gw.struct (f:=fun p:Int × bC × List Signed=>⟨p.1,p.2.1,p.2.2⟩) (fA.cons (GZ.cons (GX.last rfl) rfl) rfl) (by kernel_rfl) rfl (fun _=>rfl) (fun _=>⟨_,rfl⟩) fun _ h=>h
structure c7 where
 time:Int
 addr:Int
 q:bC
 answer:dZ
 deriving DecidableEq
@[reducible] def c7.enc (a : c7) : DV := .agg [.int .i64 a.time, .int .i64 a.addr, .str a.q.name, .int .i64 a.q.type, .int .i64 a.answer.kind, .sl (a.answer.ae.map Signed.enc), .str a.answer.cut]
def c7.Good(a:c7):Prop:=(eN a.time)/\(eN a.addr)/\(a.q.Good)/\(a.answer.Good)
theorem U':cy E 41 c7.enc c7.Good:=gw.struct (f:=fun p:Int × Int × bC × dZ=>⟨p.1,p.2.1,p.2.2.1,p.2.2.2⟩) (fA.cons (fA.cons (GZ.cons (UT.last rfl) rfl) rfl) rfl) (by kernel_rfl) rfl (fun _=>rfl) (fun _=>⟨_,rfl⟩) fun _ h=>h
theorem Va:cy E 94 (fun l:List c7=>DV.sl (l.map c7.enc)) (fun l=>l.length<=maxLen/\∀ x∈l,x.Good):=U'.sl (by kernel_rfl)
structure cO where
 q:bC
 time:Int
 cache:Cache
 heard:List c7
 result:l3
 deriving DecidableEq
@[reducible] def cO.enc (a : cO) : DV := .agg [.str a.q.name, .int .i64 a.q.type, .int .i64 a.time, .sl (a.cache.list.map Entry.enc), .sl (a.heard.map c7.enc), .int .i64 a.result.kind, .str a.result.q.name, .int .i64 a.result.q.type, .sl (a.result.ae.map Signed.enc)]
def cO.Good(a:cO):Prop:=(a.q.Good)/\(eN a.time)/\(a.cache.Good)/\(a.heard.length<=maxLen/\∀ x∈a.heard,x.Good)/\(a.result.Good)
theorem Vb:cy E 98 cO.enc cO.Good:=gw.struct (f:=fun p:bC × Int × Cache × List c7 × l3=>⟨p.1,p.2.1,p.2.2.1,p.2.2.2.1,p.2.2.2.2⟩) (GZ.cons (fA.cons (U8.cons (Va.cons (U9.last rfl) rfl) rfl) rfl) rfl) (by kernel_rfl) rfl (fun _=>rfl) (fun _=>⟨_,rfl⟩) fun _ h=>h
theorem Vc:cy E 32 (fun l:List cO=>DV.sl (l.map cO.enc)) (fun l=>l.length<=maxLen/\∀ x∈l,x.Good):=Vb.sl (by kernel_rfl)
structure eH where
 before:bO
 steps:List Step
 bM:List Claim
 jR:List cO
 deriving DecidableEq
@[reducible] def eH.enc (a : eH) : DV := .agg [.sl (a.before.ay.map Host.enc), .sl (a.before.aB.map aQ.enc), .str a.before.anchor.name, .int .i64 a.before.anchor.type, .int .i64 a.before.anchor.bY, .sl (a.before.anchor.data.map Datum.enc), .sl (a.before.hints.map (.int .i64)), .int .i64 a.before.bJ, .int .i64 a.before.fin, .sl (a.steps.map Step.enc), .sl (a.bM.map Claim.enc), .sl (a.jR.map cO.enc)]
def eH.Good(a:eH):Prop:=(a.before.Good)/\(a.steps.length<=maxLen/\∀ x∈a.steps,x.Good)/\(a.bM.length<=maxLen/\∀ x∈a.bM,x.Good)/\(a.jR.length<=maxLen/\∀ x∈a.jR,x.Good)
theorem Vd:cy E 34 eH.enc eH.Good:=gw.struct (f:=fun p:bO × List Step × List Claim × List cO=>⟨p.1,p.2.1,p.2.2.1,p.2.2.2⟩) (U1.cons (U4.cons (U5.cons (Vc.last rfl) rfl) rfl) rfl) (by kernel_rfl) rfl (fun _=>rfl) (fun _=>⟨_,rfl⟩) fun _ h=>h
end Go.Proofs.YtfmdaiojokniiaaGreatDoor.P
end
section
namespace Go.aA
open Go Go.RowKit
def lq{H:Type}:Nat->DataW H->Option (List Value)
 |0,_=>none
 |_+1,.lit (.int k n)=>some [.int k n]
 |_+1,.lit (.bool b)=>some [.bool b]
 |_+1,.lit (.string s)=>some [.string ⟨s.toArray⟩]
 |n+1,.agg ps=>(ps.mapM (lq n)).map aim
 |_+1,_=>none
def rA(E:Env):Nat->Nat->Bool
 |0,_=>false
 |m+1,t=>match dJ E.T t with
  |none=>false
  |some i=>match i.k with
   | .bool=>adY i.size 1
   | .int _=>adY i.size 1
   | .string=>adY i.size 1
   | .array n e=>adY i.size (n*cJ E e)&&rA E m e
   | .struct fs=>rB E 0 fs i.size&&fs.all fun p=>rA E m p.2
   |_=>false
theorem Ve{E:Env}{m t:Nat}(h:rA E m t=true):∃ i,E.T[t]?=some i:=by
 cases m with
 |zero=>cases h
 |succ m =>
  unfold rA at h;split at h
  ·cases h
  ·rename_i i hi;rw[eC]at hi;exact⟨i,hi⟩
theorem Mu{E:Env}(hE:E.OK){m t:Nat}(h:rA E m t=true):cJ E t=E.P.cellsOf t:=by
 obtain⟨i,hi⟩:=Ve h;exact Am hE hi
section
variable {H:Type}
theorem G1{n:Nat}{cs:List Value}:∀ {L:List (Nat × Nat)} {xs:List (DataW H × List MemPlace)} {o tot:Nat},xs.length=L.length->cs.length=tot ->
  (∀ (i:Nat) (p:Nat × Nat),L[i]?=some p->p.1=o+((L.take i).map (·.2)).sum/\p.1+p.2<=tot)->o+(L.map (·.2)).sum=tot ->
  (∀ (i:Nat) (p:Nat × Nat) (y:DataW H × List MemPlace),L[i]?=some p->xs[i]?=some y->lq n y.1=some ((cs.drop p.1).take p.2)) ->
  ∃ ls,(xs.map (·.1)).mapM (lq n)=some ls/\ls.flatten=cs.drop o
 |[],[],o,tot,_,hc,_,hs,_=>⟨[],rfl,by rw[afG (by simp at hs;omega)];rfl⟩
 |p::L,y::xs,o,tot,hl,hc,ho,hs,hx=>by
  have h0:=ho 0 p rfl;simp at h0;have hy:=hx 0 p y rfl rfl;simp only[ad0,ail]at hs
  obtain⟨ls,k1,k2⟩:=G1 (n:=n) (cs:=cs) (L:=L) (xs:=xs) (o:=o+p.2) (tot:=tot) (by simpa using hl) hc (fun i q hq=>by
   have:=ho (i+1) q (by simpa using hq);simp only[ain,ad0,ail]at this
   omega) (by omega) (fun i q z hq hz=>hx (i+1) q z (by simpa using hq) (by simpa using hz))
  refine⟨(cs.drop p.1).take p.2::ls,?_,?_⟩
  ·simp only[ad0,ae6,hy,k1];rfl
  ·rw[List.flatten_cons,k2,h0.1,<- afQ,afA]
 |[],_::_,_,_,h,_,_,_,_=>by simp at h
 |_::_,[],_,_,h,_,_,_,_=>by simp at h
variable {E:Env} {enc:TypeId × Value->H} {w:World} {held:Bool} {sp:Nat->Bool}
theorem Mv:∀ {fs:List (Nat × Nat)} {o tot:Nat},rB E o fs tot=true->o+((fs.map fun p=>(p.1,cJ E p.2)).map (·.2)).sum=tot /\
  ∀ (i:Nat) (p:Nat × Nat),(fs.map fun p=>(p.1,cJ E p.2))[i]?=some p->p.1=o+(((fs.map fun p=>(p.1,cJ E p.2)).take i).map (·.2)).sum/\p.1+p.2<=tot
 |[],o,tot,h=>⟨by simpa using adX h,fun i p hp=>by simp at hp⟩
 |q::fs,o,tot,h=>by
  have hle:=(GO h).2 q (aeQ ..);simp only[rB,aft]at h;obtain⟨h1,h2⟩:=h;have h1:=adX h1;obtain⟨k1,k2⟩:=Mv h2;refine⟨by simp only[ad0,ail];omega,fun i p hp=>?_⟩;cases i with
  |zero=>simp at hp;subst hp;simp;omega
  |succ i =>
   have:=k2 i p (by simpa using hp);simp only[ad0,ain,ail];omega
theorem Vf(hE:E.OK):∀ (fuel m t:Nat) (cs:List Value) (x:DataW H × List MemPlace),rA E m t=true->DataW.trod enc E.P w 0 sp held fuel t cs=some x->lq fuel x.1=some cs:=by
 intro fuel
 induction fuel with
 |zero=>intro m t cs x _ h;simp[DataW.trod]at h
 |succ fuel ih =>
  intro m t cs x aP h;cases m with
  |zero=>cases aP
  |succ m =>
   unfold rA at aP;split at aP
   ·cases aP
   rename_i i hi;have bR:cJ E t=i.size:=by simp[cJ,hi]
   rw[eC]at hi;obtain⟨ti,d,g1,g2,g3,g4,-⟩:=cC (hE.types t i hi);split at aP
   ·rename_i fJ;have hd:d=.bool:=by rw[fJ]at g3;cases d<;>first|rfl|cases g3
    subst hd;obtain⟨b,rfl,rfl⟩:=DataW.trod_bool g2 h;rfl
   ·rename_i k fJ;obtain rfl:=wH (fJ.symm.trans g3);obtain⟨n,rfl,rfl,hw⟩:=DataW.trod_int g2 h;rfl
   ·rename_i fJ;obtain rfl:=ss (fJ.symm.trans g3);obtain⟨s,rfl,rfl,hl⟩:=DataW.trod_string g2 h;rfl
   ·rename_i n e fJ;obtain rfl:=wI (fJ.symm.trans g3);simp only[aft]at aP;obtain⟨hs,An⟩:=aP;have hs:=adX hs;obtain⟨xs,k,hk,rfl,hlen,gS,hf⟩:=DataW.trod_array g2 h;cases hk;have GP:=Mu hE An;rw[<- Am hE hi,bR,hs]at hlen;rw[<- GP]at hf;have hL:∀ (i:Nat) (p:Nat × Nat),((aeU n).map fun i=>(i*cJ E e,cJ E e))[i]?=some p->i<n/\p=(i*cJ E e,cJ E e):=fun i p hp=>by
     have hi:i<n:=by have:=aX hp;simpa using this
     simp[hi]at hp;exact⟨hi,hp.symm⟩
    have Mw:∀ k,(((aeU n).map fun i=>(i*cJ E e,cJ E e)).take k).map (·.2)=List.replicate (min k n) (cJ E e):=fun k=>by
     apply List.ext_getElem
     ·simp
     ·intro j h1 h2;simp
    obtain⟨ls,k1,k2⟩:=G1 (n:=fuel) (cs:=cs) (L:=(aeU n).map fun i=>(i*cJ E e,cJ E e)) (xs:=xs) (o:=0) (tot:=n*cJ E e) (by simp[gS]) hlen (fun i p hp=>by
     obtain⟨h1,rfl⟩:=hL i p hp;rw[Mw,aio,afa (by omega)];refine⟨by simp,?_⟩;have:(i+1)*cJ E e<=n*cJ E e:=Nat.mul_le_mul_right _ h1;rw[Nat.add_mul,Nat.one_mul]at this;exact this) (by
      have:=Mw n;rw[afS (by simp)]at this;rw[this,aio,Nat.min_self,ad5]) (fun i p y hp hy=>by
     obtain⟨h1,rfl⟩:=hL i p hp;have:=hf i h1;rw[hy]at this
     exact ih m e _ _ An this)
    rw[agX]at k2;simp only[lq,k1,aeT,k2]
   ·rename_i fs fJ;obtain⟨fl,rfl,rfl⟩:=qE (fJ.symm.trans g3);simp only[aft]at aP;obtain⟨CX,aL⟩:=aP;obtain⟨xs,n,hn,rfl,hlen,gS,hf⟩:=DataW.trod_struct g2 h;cases hn;rw[<- Am hE hi,bR]at hlen;obtain⟨s1,s2⟩:=Mv CX
    obtain⟨ls,k1,k2⟩:=G1 (n:=fuel) (cs:=cs) (xs:=xs) (by simp[gS]) hlen s2 s1 (fun i p y hp hy=>by
     simp only[List.map_map,ad1,ad8]at hp;obtain⟨f,gN,rfl⟩:=hp;have Ao:=ad'.1 aL (f.offset,f.type) (aer.2 ⟨f,afh gN,rfl⟩);have:=hf i f (by simpa using gN);rw[hy,<- Mu hE Ao]at this
     exact ih m _ _ _ Ao this)
    rw[agX]at k2;simp only[lq,k1,aeT,k2]
   ·cases aP
end
def vw:List DV->List Value->Bool
 |[],[]=>true
 | .int k n::l,.int k' m::r=>IntKind.same k k'&&decide (n=m)&&vw l r
 | .bool a::l,.bool b::r=>(a==b)&&vw l r
 | .str a::l,.string b::r=>decide (b=⟨a.toArray⟩)&&vw l r
 |_,_=>false
theorem Mx{bad:Nat->Prop}{w:World}:∀ {ds:List DV} {vs:List Value},vw ds vs=true->jE bad w ds vs
 |[],[],_=>⟨rfl,fun j x v hx=>by simp at hx⟩
 |d::ds,v::vs,h=>by
  have key:VD bad w d v/\vw ds vs=true:=by
   unfold vw at h;split at h
   ·rename_i e1 e2;cases e1
   ·rename_i e1 e2;cases e1;cases e2;simp only[aft,decide_eq_true_eq]at h;obtain⟨⟨h1,rfl⟩,h3⟩:=h;obtain rfl:=sr h1;exact⟨.int _ _,h3⟩
   ·rename_i e1 e2;cases e1;cases e2;simp only[aft,beq_iff_eq]at h;obtain⟨rfl,h3⟩:=h;exact⟨.bool _,h3⟩
   ·rename_i e1 e2;cases e1;cases e2;simp only[aft,decide_eq_true_eq]at h;obtain⟨rfl,h3⟩:=h;exact⟨.str _,h3⟩
   ·cases h
  have ih:=Mx (bad:=bad) (w:=w) key.2;refine⟨by simp[ih.1],fun j x u hx hu=>?_⟩;cases j with
  |zero=>simp at hx hu;subst hx;subst hu;exact key.1
  |succ j=>exact ih.2 j x u (by simpa using hx) (by simpa using hu)
 |[],_::_,h=>by cases h
 |d::_,[],h=>by cases d<;>cases h
theorem My{P:Program}{w:World}{name:String}{d:DataW Unit}:∀ {laid:List (String × DataW Unit)} {ps:List MemPlace},DataW.LaidVars P w laid ps->(name,d)∈laid ->
  ∃ g t cs fuel p,P.globalNamed name=some g/\(P.globals[g]?).map (·.type)=some t/\w.var? P name=some cs/\DataW.trod (fun _=>()) P w 0 (fun _=>true) false fuel t cs.toList=some (d,p)
 |[],_,_,h=>by simp at h
 |(n,d')::r,ps,hv,h=>by
  obtain⟨g,t,cs,fuel,p,q,h1,h2,h3,h4,h5,-⟩:=hv;rcases afu.1 h with h|h
  ·cases h;exact⟨g,t,cs,fuel,p,h1,h2,h3,h4⟩
  ·exact My h5 h
theorem Vg{H:Type}:∀ {n:Nat} {d:DataW H} {cs:List Value},lq n d=some cs->lq (n+1) d=some cs:=by
 intro n
 induction n with
 |zero=>intro d cs h;cases h
 |succ n ih =>
  intro d cs h;unfold lq at h;split at h
  ·cases h
  ·exact h
  ·exact h
  ·exact h
  ·rename_i m ps e;cases e;simp only[ad8]at h;obtain⟨ls,h1,rfl⟩:=h;have:∀ {ps:List (DataW H)} {ls:List (List Value)},ps.mapM (lq n)=some ls->ps.mapM (lq (n+1))=some ls:=by
    intro ps
    induction ps with
    |nil=>intro ls h;exact h
    |cons p ps Vh =>
     intro ls h;simp only[ae6,Option.bind_eq_bind,Option.bind_eq_some_iff]at h ⊢;obtain⟨a,h1,b,h2,h3⟩:=h;exact⟨a,ih h1,b,Vh h2,h3⟩
   have e2:=this h1;show(ps.mapM (lq (n+1))).map aim=_;rw[e2];rfl
  ·cases h
theorem G2{H:Type}{n:Nat}{d:DataW H}{cs:List Value}(h:lq n d=some cs):∀ k,lq (n+k) d=some cs
 |0=>h
 |k+1=>Vg (G2 h k)
theorem Vi{E:Env}(hE:E.OK){W:World}{laid:List (String × DataW Unit)}{name:String}{g t m n:Nat}{d:DataW Unit}{e:DV}{vs:List Value}(hl:laidMet E.P laid W)(hm:(name,d)∈laid)(hg:E.P.globalNamed name=some g)(ht:(E.P.globals[g]?).map (·.type)=some t)
  (aP:rA E m t=true) (hv:lq n d=some vs) (he:vw e.cells vs=true) (aJ:e.cells≠[]) {aE:Nat->Prop} (yP:¬ aE g):VR ⟨fun _=>none,[],aE,W⟩ (.bQ e 0) (.pointer (some ⟨g,0,none⟩)):=by
 obtain⟨ps,Vj,-,-⟩:=hl;obtain⟨g',t',cs,fuel,p,h1,h2,h3,h4⟩:=My Vj hm;rw[hg]at h1;cases h1;rw[ht]at h2;cases h2;have h5:=Vf hE fuel m t _ _ aP h4;have h6:vs=cs.toList:=by
  have a:=G2 hv fuel;have b:=G2 h5 n;rw[Nat.add_comm]at b;exact Option.some.inj (a.symm.trans b)
 have iL:=Mx (bad:=aE) (w:=W) he;rw[h6]at iL;have dO:∀ (j:Nat) (v:Value),cs.toList[j]?=some v->W.cell? ⟨g,0+j,none⟩=some v:=fun j v hj=>by
  rw[ad5];have:=World.var?_cell hg h3 j;rw[this]
  simpa using hj
 have dE:∀ (j:Nat) (x:DV),e.cells[j]?=some x->∃ v,cs.toList[j]?=some v:=fun j x hx=>by
  have:=aX hx;rw[iL.1]at this;exact⟨cs.toList[j],by simp[this]⟩
 have:=VR.bQ (c:=⟨fun _=>none,[],aE,W⟩) e 0 g 0 (fun j=>(cs.toList[j]?).getD undef) (fun hb=>yP (wS.1 hb)) aJ (fun j x hx=>by
   obtain⟨v,hv⟩:=dE j x hx;rw[hv];exact dO j v hv) (fun j x hx=>by
   obtain⟨v,hv⟩:=dE j x hx;rw[hv]
   exact wT (iL.2 j x v hx hv))
 exact this
end Go.aA
end
section
namespace Go.Proofs.YtfmdaiojokniiaaGreatDoor
open Go.ChangeShapes Go.WideShapes Go.ChangeAt Go.RowKit
theorem Tryz.own:ownKnob Tryz.prog.godebug=none:=by kernel_rfl
theorem Tryz.laidOut:laidOutB Tryz.prog=true:=by kernel_rfl
theorem Ext.trodAll{H:Type}{enc:TypeId × Value->H}{P:Program}(hl:laidOutB P=true){W W':World}(hx:Ext W W') :
  ∀ {ts:List TypeId} {vs:List Value} {ds:List (DataW H)} {ps:List MemPlace},(∀ t∈ts,P.readableRec t=true/\t<P.types.size)->(∀ x∈ps,x.block<W.heap.size) ->
   DataW.TrodAll enc P W 0 (fun _=>true) true ts vs ds ps->DataW.TrodAll enc P W' 0 (fun b=>decide (b<W.heap.size)) true ts vs ds ps
 |[],_,_,_,_,_,h=>by
  obtain⟨rfl,rfl,rfl⟩:=trodAll_nil h;exact h
 |t::ts,_,_,_,hr,ah,h=>by
  obtain⟨v,GU,d,GV,a,b,rfl,rfl,rfl,h1,h2⟩:=trodAll_cons h;obtain⟨r1,r2⟩:=hr t (aeQ ..);exact⟨a,b,Below.trod hl r1 r2 h1 hx.below (fun x hx=>ah x (List.mem_append_left _ hx)),Ext.trodAll hl hx (fun u hu=>hr u (aeR _ hu)) (fun x hx=>ah x (List.mem_append_right _ hx)) h2,rfl⟩
theorem Vk{H:Type}{enc:TypeId × Value->H}{P:Program}{f:Func}{s:ChangeSpec}{W W':World}{args:Array Value}{ds gs:List (DataW H)}{before:List MemPlace}{tb:TypeId}(hl:laidOutB P=true)
  (hr:∀ t∈f.params.toList,P.readableRec t=true/\t<P.types.size) (hv:s.vars=[]) (ht:f.resultTypes = #[tb]) (hb:P.underlying tb=some .bool)
  (pT:(s.fn H (ds++[])).results=[.lit (.bool true)]) (iN:(s.fn H (ds++[])).args=ds) (Vl:(s.fn H (ds++[])).vars=[])
  (hW:DataW.Whole enc P f.params.toList s.vars false W args.toList ds gs before) (hx:Ext W W'):s.post enc P f false true false false W args (.bool true) W':=by
 have Ap:=hW;obtain⟨p,q,hA,hV,rfl,Cd,c8⟩:=hW;rw[hv]at hV;obtain⟨rfl,rfl⟩:=trodVars_none hV;simp only[List.append_nil]at Ap;refine⟨ds,[],p,[],p,[],Ap,?_,?_,?_,?_,fun h=>by cases h⟩
 ·rw[pT,ht];exact trodAll_cons_mk (shut_bool hb _) trodAll_mk0
 ·rw[iN];exact Ext.trodAll hl hx hr (fun x hx=>by simpa using Ap.lt x hx) hA
 ·rw[Vl,hv];rfl
 ·exact hx.below.frame _
end Go.Proofs.YtfmdaiojokniiaaGreatDoor
end
section
set_option maxRecDepth 100000
namespace Go.Proofs.YtfmdaiojokniiaaGreatDoor
open Go Go.aA Go.ChangeShapes Go.WideShapes Go.ChangeAt Go.RowKit
theorem Mz{H:Type}{enc:TypeId × Value->H}{P:Program}{W:World}:∀ {ts:List TypeId} {vs:List Value} {ds:List (DataW H)} {ps:List MemPlace} {held:Bool},DataW.TrodAll enc P W 0 (fun _=>true) held ts vs ds ps->ds.length=ts.length
 |[],_,_,_,_,h=>by obtain⟨rfl,rfl,rfl⟩:=trodAll_nil h;rfl
 |t::ts,_,_,_,_,h=>by
  obtain⟨v,GU,d,GV,a,b,rfl,rfl,rfl,h1,h2⟩:=trodAll_cons h;simp[Mz h2]
theorem G3{E:Env}{t:Nat}{ts:List Nat}{xs:List DV}(h:vv E (t::ts) xs):∃ x r,xs=x::r/\GS E t x/\vv E ts r:=by
 cases xs with
 |nil=>exact h.elim
 |cons x r=>exact⟨x,r,rfl,h⟩
theorem Vm{P:Program}{l:List TypeId}(h:(l.all fun t=>P.readableRec t&&Nat.blt t P.types.size)=true):∀ t∈l,P.readableRec t=true/\t<P.types.size:=fun t ht=>by
 have:=ad'.1 h t ht;rw[aft]at this;exact⟨this.1,y0 this.2⟩
theorem Vn {laid : List (String × DataW Unit)} {W : World} (hl : laidMet Tryz.prog laid W) (hm : ("nameplan/record.rules", Rows.laid_nameplan_record_rules) ∈ laid) : uq E.G (fun _ => False) W := by
 intro g e hg;have:(g,e)=(0,Cs):=by
  have:(g,e)∈Gh:=hg
  simpa [Gh]using this
 cases this;exact Vi ag (n:=8) (m:=8) (t:=326) (vs:=(lq 8 (Rows.laid_nameplan_record_rules (H:=Unit))).getD []) hl hm (by kernel_rfl) (by kernel_rfl) (by kernel_rfl) (by kernel_rfl) (by kernel_rfl) (by simp[Cs,DV.cells]) (fun h=>h)
end Go.Proofs.YtfmdaiojokniiaaGreatDoor
end
section
namespace Go.Proofs.YtfmdaiojokniiaaGreatDoor.P
open Go Go.aA
set_option maxRecDepth 100000
set_option maxHeartbeats 4000000
def fM(q:bC):Bool:=Nm.valid q.name&&(decide (1<=q.type)&&decide (q.type<=8))
def mK(g:c9):Bool:=Nm.valid g.au&&(decide (1<=g.key)&&decide (g.key<=1000000))&&(decide (1<=g.ku)&&decide (g.ku<=3))&&Ak g.bL g.upto
def l4(s:Signed):Bool:=s.sigs.all mK&&er s.set&&decide (s.sigs.length<=6)
def CZ(a:dZ):Bool:=if a.kind=4 then Nm.valid a.cut else a.cut==[]
def nH(a:dZ):Bool:=(decide (1<=a.kind)&&decide (a.kind<=7))&&decide (a.ae.length<=40)&&CZ a&&a.ae.all l4
def Signed.cV(s:Signed):Prop:=s.set.Fits/\s.sigs.length<=maxLen/\∀ g∈s.sigs,g.au.length<=maxLen
def dZ.cV(a:dZ):Prop:=a.ae.length<=maxLen/\(∀ s∈a.ae,s.cV)/\a.cut.length<=maxLen
theorem C0(n a b:Int):ar E 165 [.int .i64 n,.int .i64 a,.int .i64 b] (· = .bool (decide (a<=n)&&decide (n<=b))):=by
 refine eP Tryz.func165 ?_;repeat' (first|with_reducible(first|refine cY ?_|refine cN ?_|refine ai (fun _=>?_) (fun _=>?_))|refine gA Tryz.func165 ?_|refine gB ?_|with_reducible rfl)
 all_goals (simp_all;try omega)
theorem Vo(g:c9)(hf:g.au.length<=maxLen):ar E 243 [g.enc] (· = .bool (mK g)):=by
 refine eP Tryz.func243 ?_;repeat' (first|with_reducible(first|refine aq (eO _ hf) ?_|refine ax (eO _ hf) ?_|refine aq (C0 _ _ _) ?_|refine ax (C0 _ _ _) ?_|refine aq (Mj _ _) ?_|refine ax (Mj _ _) ?_|refine cY ?_|refine cN ?_|refine ai (fun _=>?_) (fun _=>?_))|refine gA Tryz.func243 ?_|refine gB ?_|with_reducible rfl)
 all_goals (simp_all[mK];try omega)
theorem Vp(s:Signed)(hf:s.cV):ar E 166 [s.enc] (· = .bool (l4 s)):=by
 obtain⟨s,l⟩:=s;obtain⟨h1,h2,h3⟩:=hf;simp only at h1 h2 h3;unfold maxLen at h2;unfold l4;simp only;show ar E _ [DV.agg [.str s.name,.int .i64 s.type,.int .i64 s.bY,pX s.data,pY l]] _;refine eP F166 ?_;refine J.loop (κ:=Nat) (rg 2 16) (fun k=>[(3,.d (.int .i64 k))]) (fun _=>[]) (fun k=>k<=l.length/\(l.take k).all mK=true) (fun k=>l.length-k) 0 ⟨afv _,rfl⟩ ?_ ?_
 ·exact sZ
 rintro k ⟨hk,aL⟩ IH;refine J.head ag F166 2000 ?_;(conv=>whnf);refine ai (fun h5=>?_) (fun h5=>?_)
 ·have ah:k<l.length:=by simpa using h5
  obtain⟨x,hx⟩:=aH ah;have c1:=Vo x (h3 x (afh hx));refine gO F166 ?_;refine aD (e:=x.enc) (aO hx) rfl ?_;refine gO F166 ?_;refine aq (c1) ?_;refine gO F166 ?_;cases hp:mK x
  ·refine a8 ?_;refine gO F166 ?_;rw[di hx hp];rfl
  ·refine aR ?_;refine gO F166 ?_;refine J.back (IH (k+1) ⟨by omega,dv aL hx hp⟩ (by omega)) ?_;exact sZ
 ·have aC:l.length<=k:=by simpa using h5
  rw[afS aC]at aL;rw[aL];have c2:=xO s h1;refine gO F166 ?_;repeat' (first|with_reducible(first|refine aq (c2) ?_|refine ax (c2) ?_|refine cY ?_|refine cN ?_|refine ai (fun _=>?_) (fun _=>?_))|refine gA F166 ?_|refine gB ?_|with_reducible rfl)
  all_goals (simp_all;try omega)
theorem MA(a:dZ)(hf:a.cV):ar E 89 [a.enc] (· = .bool (nH a)):=by
 obtain⟨kd,l,cut⟩:=a;obtain⟨h2,h3,h1⟩:=hf;simp only at h1 h2 h3;unfold maxLen at h2;unfold nH CZ;simp only;show ar E _ [DV.agg [.int .i64 kd,.sl (l.map Signed.enc),.str cut]] _;refine eP F89 ?_;repeat' (first|with_reducible(first|refine aq (C0 _ _ _) ?_|refine ax (C0 _ _ _) ?_|refine aq (eO cut h1) ?_|refine ax (eO cut h1) ?_|refine cY ?_|refine cN ?_|refine ai (fun _=>?_) (fun _=>?_))|refine gA F89 ?_|refine gB ?_|with_reducible rfl)
 all_goals try (refine congrArg DV.bool ?_;simp_all;try omega)
 all_goals
  refine gO F89 ?_;refine J.loop (κ:=Nat) ([2,3]++rg 35 14) (fun k=>[(3,.d (.int .i64 k))]) (fun _=>[]) (fun k=>k<=l.length/\(l.take k).all l4=true) (fun k=>l.length-k) 0 ⟨afv _,rfl⟩ ?_ ?_
  ·exact sZ
  rintro k ⟨hk,aL⟩ IH;refine J.head ag F89 2000 ?_;(conv=>whnf);refine ai (fun h5=>?_) (fun h5=>?_)
  ·have ah:k<l.length:=by simpa using h5
   obtain⟨x,hx⟩:=aH ah;have c1:=Vp x (h3 x (afh hx));refine gO F89 ?_;refine aD (e:=x.enc) (aO hx) rfl ?_;refine gO F89 ?_;refine aq (c1) ?_;refine gO F89 ?_;cases hp:l4 x
   ·refine a8 ?_;refine gO F89 ?_;rw[di hx hp,Bool.and_false]
   ·refine aR ?_;refine gO F89 ?_;refine J.back (IH (k+1) ⟨by omega,dv aL hx hp⟩ (by omega)) ?_;exact sZ
  ·have aC:l.length<=k:=by simpa using h5
   rw[afS aC]at aL;refine gO F89 ?_;refine congrArg DV.bool ?_;rw[aL];simp_all;try omega
theorem xP(n a b:Int):ar E 178 [.int .i64 n,.int .i64 a,.int .i64 b] (· = .bool (decide (a<=n)&&decide (n<=b))):=by
 refine eP Tryz.func178 ?_;repeat' (first|with_reducible(first|refine cY ?_|refine cN ?_|refine ai (fun _=>?_) (fun _=>?_))|refine gA Tryz.func178 ?_|refine gB ?_|with_reducible rfl)
 all_goals (simp_all;try omega)
theorem Vq(g:c9)(hf:g.au.length<=maxLen):ar E 305 [g.enc] (· = .bool (mK g)):=by
 refine eP Tryz.func305 ?_;repeat' (first|with_reducible(first|refine aq (gU _ hf) ?_|refine ax (gU _ hf) ?_|refine aq (xP _ _ _) ?_|refine ax (xP _ _ _) ?_|refine cY ?_|refine cN ?_|refine ai (fun _=>?_) (fun _=>?_))|refine gA Tryz.func305 ?_|refine gB ?_|with_reducible rfl)
 all_goals (simp_all[mK,Ak];try omega)
theorem Vr(g:c9)(hf:g.au.length<=maxLen):ar E 304 [g.enc] (· = .bool (!mK g)):=by
 have c1:=Vq g hf;refine eP Tryz.func304 ?_;refine aq (c1) ?_;refine gO Tryz.func304 ?_
 with_reducible rfl
theorem Vs(l:List c9)(hl:l.length<=maxLen)(hf:∀ g∈l,g.au.length<=maxLen):aw E 343 [] [.d (.sl (l.map c9.enc)),.fn (.func 304) [] []] (fun a b=>∃ n:Int,a=.d (.int .i64 n)/\b=[]/\decide (n>=0) = !l.all mK):=by
 unfold maxLen at hl;refine aw.run ag (fn:=Tryz.f343) Tryz.func343 (body:=Tryz.f343.body.getD .skip) rfl (by decide) 2000 rfl ?_;(conv=>whnf);refine J.loop (κ:=Nat) ([4,5]++rg 8 11) (fun k=>[(8,.d (.int .i64 k))]) (fun _=>[]) (fun k=>k<=l.length/\(l.take k).all mK=true) (fun k=>l.length-k) 0 ⟨afv _,rfl⟩ ?_ ?_
 ·exact sZ
 rintro k ⟨hk,aL⟩ IH;refine J.head ag F343 2000 ?_;(conv=>whnf);refine ai (fun h5=>?_) (fun h5=>?_)
 ·have ah:k<l.length:=by simpa using h5
  obtain⟨x,hx⟩:=aH ah;have c1:=Vr x (hf x (afh hx));refine gO F343 ?_;refine aD (e:=x.enc) (aO hx) rfl ?_;refine gO F343 ?_;refine aq (c1) ?_;refine gO F343 ?_;cases hp:mK x
  ·refine a8 ?_;refine gO F343 ?_;exact⟨k,rfl,rfl,by rw[di hx hp];simp⟩
  ·refine aR ?_;refine gO F343 ?_;refine J.back (IH (k+1) ⟨by omega,dv aL hx hp⟩ (by omega)) ?_;exact sZ
 ·have aC:l.length<=k:=by simpa using h5
  rw[afS aC]at aL;refine gO F343 ?_;exact⟨_,rfl,rfl,by rw[aL];rfl⟩
theorem Vt(l:List c9)(hl:l.length<=maxLen)(hf:∀ g∈l,g.au.length<=maxLen):aw E 303 [] [.d (.sl (l.map c9.enc)),.fn (.func 304) [] []] (fun a b=>a=.d (.bool (!l.all mK))/\b=[]):=by
 refine aw.run ag (fn:=Tryz.f303) Tryz.func303 (body:=Tryz.f303.body.getD .skip) rfl (by decide) 2000 rfl ?_;(conv=>whnf);refine jK (Vs l hl hf) ?_;rintro r b ⟨n,rfl,rfl,h⟩;refine gO Tryz.func303 ?_;exact⟨by rw[h],rfl⟩
theorem Vu(s:Signed)(hf:s.cV):ar E 258 [s.enc] (· = .bool (l4 s)):=by
 obtain⟨s,l⟩:=s;obtain⟨h1,h2,h3⟩:=hf;simp only at h1 h2 h3;unfold l4;simp only;show ar E _ [DV.agg [.str s.name,.int .i64 s.type,.int .i64 s.bY,pX s.data,pY l]] _;refine eP Tryz.func258 ?_;repeat' (first|with_reducible(first|refine aq (tp s h1) ?_|refine ax (tp s h1) ?_|refine cY ?_|refine cN ?_|refine ai (fun _=>?_) (fun _=>?_))|refine gA Tryz.func258 ?_|refine gB ?_|with_reducible rfl)
 all_goals try (refine congrArg DV.bool ?_;simp_all;try omega)
 refine jK (Vt l h2 h3) ?_;rintro r b ⟨rfl,rfl⟩;refine gO Tryz.func258 ?_;refine congrArg DV.bool ?_;simp_all;try omega
theorem Vv(s:Signed)(hf:s.cV):ar E 257 [s.enc] (· = .bool (!l4 s)):=by
 have c1:=Vu s hf;refine eP Tryz.func257 ?_;refine aq (c1) ?_;refine gO Tryz.func257 ?_
 with_reducible rfl
theorem Vw(l:List Signed)(hl:l.length<=maxLen)(hf:∀ s∈l,s.cV):aw E 302 [] [.d (.sl (l.map Signed.enc)),.fn (.func 257) [] []] (fun a b=>∃ n:Int,a=.d (.int .i64 n)/\b=[]/\decide (n>=0) = !l.all l4):=by
 unfold maxLen at hl;refine aw.run ag (fn:=Tryz.f302) Tryz.func302 (body:=Tryz.f302.body.getD .skip) rfl (by decide) 2000 rfl ?_;(conv=>whnf);refine J.loop (κ:=Nat) ([4,5]++rg 8 11) (fun k=>[(8,.d (.int .i64 k))]) (fun _=>[]) (fun k=>k<=l.length/\(l.take k).all l4=true) (fun k=>l.length-k) 0 ⟨afv _,rfl⟩ ?_ ?_
 ·exact sZ
 rintro k ⟨hk,aL⟩ IH;refine J.head ag F302 2000 ?_;(conv=>whnf);refine ai (fun h5=>?_) (fun h5=>?_)
 ·have ah:k<l.length:=by simpa using h5
  obtain⟨x,hx⟩:=aH ah;have c1:=Vv x (hf x (afh hx));refine gO F302 ?_;refine aD (e:=x.enc) (aO hx) rfl ?_;refine gO F302 ?_;refine aq (c1) ?_;refine gO F302 ?_;cases hp:l4 x
  ·refine a8 ?_;refine gO F302 ?_;exact⟨k,rfl,rfl,by rw[di hx hp];simp⟩
  ·refine aR ?_;refine gO F302 ?_;refine J.back (IH (k+1) ⟨by omega,dv aL hx hp⟩ (by omega)) ?_;exact sZ
 ·have aC:l.length<=k:=by simpa using h5
  rw[afS aC]at aL;refine gO F302 ?_;exact⟨_,rfl,rfl,by rw[aL];rfl⟩
theorem Vx(l:List Signed)(hl:l.length<=maxLen)(hf:∀ s∈l,s.cV):aw E 256 [] [.d (.sl (l.map Signed.enc)),.fn (.func 257) [] []] (fun a b=>a=.d (.bool (!l.all l4))/\b=[]):=by
 refine aw.run ag (fn:=Tryz.f256) Tryz.func256 (body:=Tryz.f256.body.getD .skip) rfl (by decide) 2000 rfl ?_;(conv=>whnf);refine jK (Vw l hl hf) ?_;rintro r b ⟨n,rfl,rfl,h⟩;refine gO Tryz.func256 ?_;exact⟨by rw[h],rfl⟩
theorem Vy(a:dZ)(hf:a.cV):ar E 179 [a.enc] (· = .bool (nH a)):=by
 obtain⟨kd,l,cut⟩:=a;obtain⟨h2,h3,h1⟩:=hf;simp only at h1 h2 h3;unfold nH CZ;simp only;show ar E _ [DV.agg [.int .i64 kd,.sl (l.map Signed.enc),.str cut]] _;refine eP Tryz.func179 ?_;repeat' (first|with_reducible(first|refine aq (xP _ _ _) ?_|refine ax (xP _ _ _) ?_|refine cY ?_|refine cN ?_|refine ai (fun _=>?_) (fun _=>?_))|refine gA Tryz.func179 ?_|refine gB ?_|with_reducible rfl)
 all_goals try (refine congrArg DV.bool ?_;simp_all;try omega)
 refine jK (Vx l h2 h3) ?_;rintro r b ⟨rfl,rfl⟩;refine gO Tryz.func179 ?_;repeat' (first|with_reducible(first|refine aq (gU cut h1) ?_|refine ax (gU cut h1) ?_|refine cY ?_|refine cN ?_|refine ai (fun _=>?_) (fun _=>?_))|refine gA Tryz.func179 ?_|refine gB ?_|with_reducible rfl)
 all_goals
  refine congrArg DV.bool ?_;have e1:l.length<=40:=by simp_all;omega
  generalize l.all l4=b at *;cases b<;>simp_all
def G4(q:bC)(a:dZ):DV := .agg [.int .i64 2,.int .i64 0,.int .i64 1,.int .i64 1,.str q.name,.int .i64 q.type,.int .i64 a.kind,.sl (a.ae.map Signed.enc),.str a.cut]
theorem MB(q:bC)(a:dZ)(hq:q.name.length<=maxLen)(hf:a.cV):ar E 105 [G4 q a] (· = .bool (fM q&&nH a)):=by
 unfold G4 fM;have c1:=Vy a hf;refine eP Tryz.func105 ?_;repeat' (first|with_reducible(first|refine aq (xP _ _ _) ?_|refine ax (xP _ _ _) ?_|refine aq (gU _ hq) ?_|refine ax (gU _ hq) ?_|refine aq (c1) ?_|refine ax (c1) ?_|refine cY ?_|refine cN ?_|refine ai (fun _=>?_) (fun _=>?_))|refine gA Tryz.func105 ?_|refine gB ?_|with_reducible rfl)
 all_goals (refine congrArg DV.bool ?_;simp_all;try omega)
theorem G5(q:bC)(hq:q.name.length<=maxLen):ar E 30 [q.enc] (· = .bool (fM q)):=by
 refine eP Tryz.func30 ?_;repeat' (first|with_reducible(first|refine aq (eO _ hq) ?_|refine ax (eO _ hq) ?_|refine cY ?_|refine cN ?_|refine ai (fun _=>?_) (fun _=>?_))|refine gA Tryz.func30 ?_|refine gB ?_|with_reducible rfl)
 all_goals (simp_all[fM];try omega)
theorem MC(q:bC)(hq:q.name.length<=maxLen):ar E 79 [q.enc] (· = .bool (fM q)):=by
 refine eP Tryz.func79 ?_;repeat' (first|with_reducible(first|refine aq (gU _ hq) ?_|refine ax (gU _ hq) ?_|refine cY ?_|refine cN ?_|refine ai (fun _=>?_) (fun _=>?_))|refine gA Tryz.func79 ?_|refine gB ?_|with_reducible rfl)
 all_goals (simp_all[fM];try omega)
end Go.Proofs.YtfmdaiojokniiaaGreatDoor.P
end
section
namespace Go.Proofs.YtfmdaiojokniiaaGreatDoor.P
open Go Go.aA Go.RowKit
theorem DH{E:Env}{c:Cx}{t:Nat}{L:List DV}(hh:c.heap=[.cells [.own 1 0,.d (.int .i64 0),.d (.int .i8 0)],.arr 0 (t,1) L])(ho:aM E.G c)(hL:L≠[])(hc:∀ x∈L,x.cells=[x]){v0:Value}(hv:VR c (.ptr 0 0) v0) :
  ∃ (b iU g rW:Nat) (T:TypeId) (bs:List Value),v0=.pointer (some ⟨b,0,none⟩)/\c.own 0=some (b,iU)/\c.own 1=some (g,rW)/\bs.length=L.length/\ey T (fun _=>none) t b 0 g bs 0 c.w /\
   ∀ (j:Nat) (x:DV) (v:Value),L[j]?=some x->bs[j]?=some v->v.oneCell'=true/\VD c.bad c.w x v:=by
 have kj:c.heap[0]?=some (.cells [.own 1 0,.d (.int .i64 0),.d (.int .i8 0)]):=by rw[hh];rfl
 have np:c.heap[1]?=some (.arr 0 (t,1) L):=by rw[hh];rfl
 obtain⟨b,iU,vs,ty,k1,k2,k3,k4⟩:=ho.box 0 _ kj;obtain⟨a0,a1,a2,rfl⟩:∃ a0 a1 a2,vs = #[a0,a1,a2]:=by
  match vs,k3 with
  |⟨[x,y,z]⟩,_=>exact⟨x,y,z,rfl⟩
 have h0:=k4 0 _ a0 rfl rfl;have h1:=k4 1 _ a1 rfl rfl;have h2:=k4 2 _ a2 rfl rfl;obtain rfl:a1=.int .i64 0:=by cases h1 with|d _ _ h=>cases h;rfl
 obtain rfl:a2=.int .i8 0:=by cases h2 with|d _ _ h=>cases h;rfl
 rcases kW np h0 with⟨g,cap,r1,rfl⟩|⟨nB,-,-⟩
 case inr=>exact absurd nB hL
 obtain⟨q0,q1,q2⟩:=ho.box 1 _ np;rcases q2 with⟨q2,-⟩|⟨g',gZ,us,q2,q3,q4,q5,q6,q7⟩
 ·rw[r1]at q2;cases q2
 rw[r1]at q2;cases q2;have aJ:g≠b:=fun e=>by
  subst e;have:=ho.inj 0 1 g iU cap k1 r1;cases this
 obtain rfl:v0=.pointer (some ⟨b,0,none⟩):=by
  cases hv with
  |ptr _ _ cs blk ea e1 e2=>rw[k1]at e2;cases e2;rfl
  |iI _ _ _ e1=>rw[kj]at e1;cases e1
 have hlen:us.toList.length=us.size:=aic;simp only[aib]at q4 q7;refine⟨b,iU,g,cap,ty,us.toList.take L.length,rfl,k1,r1,by rw[aeu,hlen];omega,⟨cap,us,?_,q3,?_,q6,q4,?_,aJ⟩,fun j x v hx hv=>?_⟩
 ·have:=LibA.three_whole k2
  rwa [show(us.toList.take L.length).length+0=L.length by rw[aeu,hlen];omega]
 ·rw[aeu,hlen];omega
 ·rw[aeu,hlen,afa (by omega)]
 ·obtain⟨u,e1,e2,e3⟩:=q7 j 0 x x hx (by rw[hc x (afh hx)];rfl);have hj:j<L.length:=aX hx;rw[aek,if_pos hj]at hv;have:us[j]?=some v:=by simpa using hv
  rw[aew,this]at e1;cases e1;exact⟨e2,e3⟩
theorem DI{E:Env}{c:Cx}{t:Nat}{L M:List DV}{b iU g rW:Nat}(hh:c.heap=[.cells [.own 1 0,.d (.int .i64 0),.d (.int .i8 0)],.arr 0 (t,1) L])(ho:aM E.G c)(hb:c.own 0=some (b,iU))(hg:c.own 1=some (g,rW))
  {w':World} {T:TypeId} {g2:Nat} {bs:List Value} (hX:ey T (fun _=>none) t b 0 g2 bs 0 w') (hN:vS g g2 c.w) (hK:cq b (some g) c.w w') (hlen:bs.length=M.length) (hc:∀ x∈M,x.cells=[x])
  (hv:∀ (j:Nat) (x:DV) (v:Value),M[j]?=some x->bs[j]?=some v->v.oneCell'=true/\VD c.bad c.w x v) :
  ∃ c':Cx,c'.w=w'/\(c'.heap=[.cells [.own 1 1,.d (.int .i64 0),.d (.int .i8 0)],.arr 1 (t,1) M])/\aM E.G c'/\Rel c c':=by
 obtain⟨cap,cur,h1,h2,h3,h4,h5,h6,h7⟩:=hX;rw[hlen,aew]at h1;rw[hlen,aew]at h3;rw[hlen]at h6;obtain⟨cs,d1,d2,d3,d4,d5⟩:=h1;have bR:cs.size=3:=by
  rcases adV 3 cs.size with h|h
  ·have:=d5 3 (Or.inr (Nat.le_refl _));simp[h]at this
  ·have:=(agk.1 d4).1;omega
 have Im:∀ i n,2<=i->c.own i≠some n:=fun i n hi h=>by have:=(ho.bB i n.1 n.2 h).2;rw[hh]at this;simp at this;omega
 let c':Cx:={ own:=fun i=>if i=1 then some (g2,cap)else c.own i,heap:=[.cells [.own 1 1,.d (.int .i64 0),.d (.int .i8 0)],.arr 1 (t,1) M],aE:=c.aE,w:=w' }
 have bH:∀ i n m,c.own i=some (n,m)->i=0/\n=b/\m=iU\/i=1/\n=g/\m=rW:=fun i n m hi=>by
  match i with
  |0=>rw[hb]at hi;cases hi;exact .inl ⟨rfl,rfl,rfl⟩
  |1=>rw[hg]at hi;cases hi;exact .inr ⟨rfl,rfl,rfl⟩
  |i+2=>exact absurd hi (Im _ _ (by omega))
 have rX:∀ i n m,c'.own i=some (n,m)->i=0/\n=b/\m=iU\/i=1/\n=g2/\m=cap:=fun i n m hi=>by
  simp only[c']at hi;split at hi
  ·rename_i he;cases hi;exact .inr ⟨he,rfl,rfl⟩
  ·rcases bH i n m hi with h|⟨h,-⟩
   ·exact .inl h
   ·contradiction
 have bZ:∀ i bx,c.heap[i]?=some bx->i=0/\bx=.cells [.own 1 0,.d (.int .i64 0),.d (.int .i8 0)]\/i=1/\bx=.arr 0 (t,1) L:=fun i bx hi=>by
  rw[hh]at hi
  match i,hi with
  |0,hi=>cases hi;exact .inl ⟨rfl,rfl⟩
  |1,hi=>cases hi;exact .inr ⟨rfl,rfl⟩
 have sE:∀ k,k<c.w.heap.size->(∀ i n,c.own i≠some (k,n))->w'.heap[k]?=c.w.heap[k]? := fun k hk hn=>hK.keep k hk (fun e=>hn 0 iU (by rw[e];exact hb)) (fun e=>hn 1 rW (by cases e;exact hg));have dF:∀ i n m,c'.own i=some (n,m)->n<c.w.heap.size->∃ m',c.own i=some (n,m'):=fun i n m hi ah=>by
  rcases rX i n m hi with⟨rfl,rfl,rfl⟩|⟨rfl,rfl,rfl⟩
  ·exact⟨_,hb⟩
  ·rcases hN with rfl|hN
   ·exact⟨_,hg⟩
   ·omega
 have bg:aA.Step c c':=⟨rfl,ho.bS,hK.os,hK.tape,hK.output,hK.size,sE,dF,fun i bx hi=>by
  rcases bZ i bx hi with⟨rfl,rfl⟩|⟨rfl,rfl⟩
  ·exact .inl ⟨_,rfl,rfl,rfl⟩
  ·exact .inl ⟨1,M,rfl,.inl (by decide)⟩⟩
 have Io:VR c' (.own 1 1) (.slice (some ⟨g2,0,none⟩) M.length cap) := .own 1 1 (t,1) M g2 cap rfl rfl
 have aP:aM E.G c':=ho.next bg (fun i n m hi=>by
   rcases rX i n m hi with⟨rfl,rfl,-⟩|⟨rfl,rfl,-⟩
   ·exact⟨Lib.lt_of_heap d1,by show _<2;omega⟩
   ·exact⟨Lib.lt_of_heap h2,by show _<2;omega⟩) (fun i j n m k hi hj=>by
   rcases rX i n m hi with⟨rfl,e1,-⟩|⟨rfl,e1,-⟩<;>rcases rX j n k hj with⟨rfl,e2,-⟩|⟨rfl,e2,-⟩
   ·rfl
   ·exact absurd (e2.symm.trans e1) h7
   ·exact absurd (e1.symm.trans e2) h7
   ·rfl) (fun i bx hi=>by
  right
  match i,hi with
  |0,hi =>
   cases hi;refine⟨b,iU,cs,T,hb,d1,bR,fun j x v hx hv=>?_⟩
   match j,hx with
   |0,hx=>cases hx;rw[show cs[0]?=_ from d2]at hv;cases hv;exact Io
   |1,hx=>cases hx;rw[show cs[1]?=_ from d3]at hv;cases hv;exact .d _ _ (.int ..)
   |2,hx=>cases hx;rw[show cs[2]?=_ from d4]at hv;cases hv;exact .d _ _ (.int ..)
  |1,hi =>
   cases hi;refine⟨Nat.one_pos,fun i e he=>by rw[hc e (afh he)];rfl,.inr ⟨g2,cap,cur,rfl,h2,by rw[aib];exact h5,h3,h4,fun i j e x he hx=>?_⟩⟩;rw[hc e (afh he)]at hx;obtain⟨rfl,rfl⟩:j=0/\x=e:=by
    match j,hx with
    |0,hx=>cases hx;exact⟨rfl,rfl⟩
   have cj:i<M.length:=aX he;have Ow:bs[i]?=some (bs[i]'(by omega)):=afo _;obtain⟨e1,e2⟩:=hv i x _ he Ow;refine⟨bs[i]'(by omega),?_,e1,bg.vd e2⟩;have h8:(cur.toList.take M.length)[i]?=some (bs[i]'(by omega)):=by rw[h6];exact Ow
   rw[aek,if_pos cj]at h8
   simpa using h8)
 refine⟨c',rfl,rfl,aP,⟨rfl,hK.os,hK.tape,hK.output,hK.size,sE,dF,fun i bx hi=>?_⟩⟩;rcases bZ i bx hi with⟨rfl,rfl⟩|⟨rfl,rfl⟩
 ·exact .inl ⟨_,rfl,rfl,rfl⟩
 ·exact .inl ⟨1,M,rfl,.inl (by decide)⟩
theorem Ip{c:Cx}{L M:List DV}{bs cs:List Value}(h:∀ (j:Nat) (x:DV) (v:Value),L[j]?=some x->bs[j]?=some v->v.oneCell'=true/\VD c.bad c.w x v)(hl:bs.length=L.length)
  (k:∀ (j:Nat) (x:DV) (v:Value),M[j]?=some x->cs[j]?=some v->v.oneCell'=true/\VD c.bad c.w x v) :
  ∀ (j:Nat) (x:DV) (v:Value),(L++M)[j]?=some x->(bs++cs)[j]?=some v->v.oneCell'=true/\VD c.bad c.w x v:=fun j x v hx hv=>by
 rcases adV j L.length with hj|hj
 ·rw[ael hj]at hx;rw[ael (by omega)]at hv;exact h j x v hx hv
 ·rw[ae9 hj]at hx;rw[ae9 (by omega),hl]at hv;exact k _ x v hx hv
def Ox(P:Program)(f:FuncId)(t:TypeId):Prop:=∀ (T:TypeId) (R:Nat->Option Value) (b q g:Nat) (bs:List Value) (c:Int) (w:World),ey T R t b q g bs 0 w->¬ bs.length=0->(∀ v∈bs,v.oneCell'=true)->bs.length+1<=140737488355328 ->
 Calls P f #[.pointer (some ⟨b,q,none⟩),.int .u8 c] w fun e w'=>e=.returned .nilIface/\∃ g2,vS g g2 w/\ey T R t b q g2 (bs++[.int .u8 c]) 0 w'/\cq b (some g) w w'
theorem YN{E:Env}{f:FuncId}{t:Nat}(hS:Ox E.P f t)(fo:lH E.P f){L:List DV}{n:Int}(hL:L≠[])(hc:∀ x∈L,x.cells=[x])(qp:L.length+1<=140737488355328) :
  aw E f [.cells [.own 1 0,.d (.int .i64 0),.d (.int .i8 0)],.arr 0 (t,1) L] [.ptr 0 0,.d (.int .u8 n)] (fun a h=>a=.d .eR/\h=[.cells [.own 1 1,.d (.int .i64 0),.d (.int .i8 0)],.arr 1 (t,1) (L++[.int .u8 n])]):=by
 unfold aw;refine⟨fo,kn rfl,fun c vs h1 h2 h3=>?_⟩;obtain⟨v1,v2,rfl⟩:∃ v1 v2,vs=[v1,v2]:=by
  have:=h3.1
  match vs,this with
  |[a,b],_=>exact⟨a,b,rfl⟩
 have lg:=h3.2 0 _ v1 rfl rfl;have mC:=h3.2 1 _ v2 rfl rfl;obtain rfl:v2=.int .u8 n:=by cases mC with|d _ _ h=>cases h;rfl
 obtain⟨b,iU,g,rW,T,bs,rfl,k1,k2,k3,k4,k5⟩:=DH h1 h2 hL hc lg;have aJ:¬ bs.length=0:=by rw[k3];exact fun h=>hL (aee h)
 have bG:∀ j v,bs[j]?=some v->∃ x,L[j]?=some x:=fun j v hj=>⟨L[j]'(by have:=aX hj;omega),afo _⟩
 refine(hS T _ b 0 g bs n c.w k4 aJ (fun v hv=>by
  obtain⟨j,hj⟩:=afe hv;obtain⟨x,hx⟩:=bG j v hj
  exact(k5 j x v hx hj).1) (by omega)).mono fun e w' ⟨e1,g2,e2,e3,e4⟩=>?_
 obtain⟨c',q1,q2,q3,q4⟩:=DI (M:=L++[.int .u8 n]) h1 h2 k1 k2 e3 e2 e4 (by simp[k3]) (fun x hx=>(aeI.1 hx).elim (hc x) fun h=>by rw[ah9.1 h];rfl) (Ip k5 k3 fun j x v hx hv=>by
  match j,hx,hv with
  |0,hx,hv=>cases hx;cases hv;exact⟨rfl,.int ..⟩
  |k+1,hx,hv=>cases hx)
 exact⟨c',.d .eR,.nilIface,e1,q1,⟨rfl,q2⟩,.d _ _ .eR,q3,q4⟩
def Oy(P:Program)(f:FuncId)(t:TypeId):Prop:=∀ (T:TypeId) (R:Nat->Option Value) (b q g:Nat) (bs:List Value) (s:ByteArray) (w:World),ey T R t b q g bs 0 w->¬ bs.length=0->¬ s.size=0->(∀ v∈bs,v.oneCell'=true)->bs.length+s.size<=140737488355328 ->
 Calls P f #[.pointer (some ⟨b,q,none⟩),.string s] w fun e w'=>e=.returned (.tuple #[.int .i64 s.size,.nilIface])/\∃ g2,vS g g2 w/\ey T R t b q g2 (bs++Lib.byteCells s.data.toList) 0 w'/\cq b (some g) w w'
theorem YO{E:Env}{f:FuncId}{t:Nat}(hS:Oy E.P f t)(fo:lH E.P f){L:List DV}{s:List UInt8}(hL:L≠[])(hs:s≠[])(hc:∀ x∈L,x.cells=[x])(qp:L.length+s.length<=140737488355328) :
  aw E f [.cells [.own 1 0,.d (.int .i64 0),.d (.int .i8 0)],.arr 0 (t,1) L] [.ptr 0 0,.d (.str s)] (fun a h=>a=.aF [.d (.int .i64 s.length),.d .eR]/\h=[.cells [.own 1 1,.d (.int .i64 0),.d (.int .i8 0)],.arr 1 (t,1) (L++s.map fun x => .int .u8 x.toNat)]):=by
 unfold aw;refine⟨fo,kn rfl,fun c vs h1 h2 h3=>?_⟩;obtain⟨v1,v2,rfl⟩:∃ v1 v2,vs=[v1,v2]:=by
  have:=h3.1
  match vs,this with
  |[a,b],_=>exact⟨a,b,rfl⟩
 have lg:=h3.2 0 _ v1 rfl rfl;have mC:=h3.2 1 _ v2 rfl rfl;obtain rfl:v2=.string ⟨s.toArray⟩:=by cases mC with|d _ _ h=>cases h;rfl
 obtain⟨b,iU,g,rW,T,bs,rfl,k1,k2,k3,k4,k5⟩:=DH h1 h2 hL hc lg;have aJ:¬ bs.length=0:=by rw[k3];exact fun h=>hL (aee h)
 have bR:(⟨s.toArray⟩:ByteArray).size=s.length:=by simp[ByteArray.size]
 refine(hS T _ b 0 g bs ⟨s.toArray⟩ c.w k4 aJ (by rw[bR];exact fun h=>hs (aee h)) (fun v hv=>by
  obtain⟨j,hj⟩:=afe hv
  exact(k5 j _ v (afo (by have:=aX hj;omega)) hj).1) (by rw[bR];omega)).mono fun e w' ⟨e1,g2,e2,e3,e4⟩=>?_
 have e0:Lib.byteCells (⟨s.toArray⟩:ByteArray).data.toList=s.map fun x => .int .u8 x.toNat:=rfl;rw[e0]at e3
 obtain⟨c',q1,q2,q3,q4⟩:=DI (M:=L++s.map fun x => .int .u8 x.toNat) h1 h2 k1 k2 e3 e2 e4 (by simp[k3]) (fun x hx=>(aeI.1 hx).elim (hc x) fun h=>by obtain⟨y,-,rfl⟩:=aer.1 h;rfl) (Ip k5 k3 fun j x v hx hv=>by
  rw[ad1]at hx hv;cases hq:s[j]? with
  |none=>rw[hq]at hx;cases hx
  |some y=>rw[hq]at hx hv;cases hx;cases hv;exact⟨rfl,.int ..⟩)
 refine⟨c',.aF [.d (.int .i64 s.length),.d .eR],.tuple #[.int .i64 s.length,.nilIface],by rw[e1,bR],q1,⟨rfl,q2⟩,.aF _ _ rfl (fun j x v hx hv=>?_),q3,q4⟩
 match j,hx,hv with
 |0,hx,hv=>cases hx;cases hv;exact .d _ _ (.int ..)
 |1,hx,hv=>cases hx;cases hv;exact .d _ _ .eR
def Oz(P:Program)(f:FuncId)(t:TypeId):Prop:=∀ (T:TypeId) (R:Nat->Option Value) (b q g:Nat) (bs cs:List Value) (a:Addr) (n c:Nat) (w:World),ey T R t b q g bs 0 w->¬ bs.length=0->¬ n=0->(∀ v∈bs,v.oneCell'=true) ->
 cs.length=n->a.block≠b->(∀ j v,cs[j]?=some v->w.cell? (a.add j)=some v)->(∀ v∈cs,v.oneCell'=true)->bs.length+n<=140737488355328 ->
 Calls P f #[.pointer (some ⟨b,q,none⟩),.slice (some a) n c] w fun e w'=>e=.returned (.tuple #[.int .i64 n,.nilIface])/\∃ g2,vS g g2 w/\ey T R t b q g2 (bs++cs) 0 w'/\cq b (some g) w w'
theorem YP{E:Env}{f:FuncId}{t:Nat}(hS:Oz E.P f t)(fo:lH E.P f){L M:List DV}(hL:L≠[])(hM:M≠[])(hc:∀ x∈L,x.cells=[x])(AX:∀ x∈M,x.cells=[x])(qp:L.length+M.length<=140737488355328) :
  aw E f [.cells [.own 1 0,.d (.int .i64 0),.d (.int .i8 0)],.arr 0 (t,1) L] [.ptr 0 0,.d (.sl M)] (fun a h=>a=.aF [.d (.int .i64 M.length),.d .eR]/\h=[.cells [.own 1 1,.d (.int .i64 0),.d (.int .i8 0)],.arr 1 (t,1) (L++M)]):=by
 unfold aw;refine⟨fo,kn rfl,fun c vs h1 h2 h3=>?_⟩;obtain⟨v1,v2,rfl⟩:∃ v1 v2,vs=[v1,v2]:=by
  have:=h3.1
  match vs,this with
  |[a,b],_=>exact⟨a,b,rfl⟩
 have lg:=h3.2 0 _ v1 rfl rfl;have mC:=h3.2 1 _ v2 rfl rfl;obtain⟨b,iU,g,rW,T,bs,rfl,k1,k2,k3,k4,k5⟩:=DH h1 h2 hL hc lg;have aJ:¬ bs.length=0:=by rw[k3];exact fun h=>hL (aee h)
 cases mC with|d _ _ hd=>?_;cases hd with
 |slnil=>exact absurd rfl hM
 |jX a=>exact absurd rfl hM
 |sl _ blk off cap sz f hb bR jB hlen dO bG bZ=>?_
 have YQ:sz=1:=by
  obtain⟨e,r,rfl⟩:=List.exists_cons_of_ne_nil hM;rw[<- hlen 0 e rfl,AX e (aeQ ..)];rfl
 subst YQ;have dP:∀ (i:Nat) (e:DV),M[i]?=some e->e.cells[0]?=some e:=fun i e he=>by rw[AX e (afh he)];rfl
 have dE:∀ (j:Nat) (v:Value),((aeU M.length).map fun i=>f i 0)[j]?=some v->∃ e,M[j]?=some e/\v=f j 0:=fun j v hv=>by
  rw[ad1]at hv;cases hq:(aeU M.length)[j]? with
  |none=>rw[hq]at hv;cases hv
  |some y =>
   have ah:j<M.length:=by have:=aX hq;simpa using this
   rw[aiq ah]at hq;cases hq;rw[aiq ah]at hv;cases hv;exact⟨_,afo ah,rfl⟩
 refine(hS T _ b 0 g bs ((aeU M.length).map fun i=>f i 0) ⟨blk,off,none⟩ M.length cap c.w k4 aJ (fun h=>hM (aee h)) (fun v hv=>by
  obtain⟨j,hj⟩:=afe hv;exact(k5 j _ v (afo (by have:=aX hj;omega)) hj).1) (by simp) (fun e=>by cases e;exact hb hM (.inr ⟨0,iU,k1⟩)) (fun j v hv=>by
  obtain⟨e,he,rfl⟩:=dE j v hv;have:=dO j 0 e e he (dP j e he);rw[Lib.addr_add]
  simpa using this) (fun v hv=>by
  obtain⟨j,hj⟩:=afe hv;obtain⟨e,he,rfl⟩:=dE j v hj
  exact bZ j 0 e e he (dP j e he)) (by omega)).mono fun e w' ⟨e1,g2,e2,e3,e4⟩=>?_
 obtain⟨c',q1,q2,q3,q4⟩:=DI (M:=L++M) h1 h2 k1 k2 e3 e2 e4 (by simp[k3]) (fun x hx=>(aeI.1 hx).elim (hc x) (AX x)) (Ip k5 k3 fun j x v hx hv=>by
  obtain⟨e,he,rfl⟩:=dE j v hv;rw[hx]at he;cases he
  exact⟨bZ j 0 x x hx (dP j x hx),bG j 0 x x hx (dP j x hx)⟩)
 refine⟨c',.aF [.d (.int .i64 M.length),.d .eR],.tuple #[.int .i64 M.length,.nilIface],e1,q1,⟨rfl,q2⟩,.aF _ _ rfl (fun j x v hx hv=>?_),q3,q4⟩
 match j,hx,hv with
 |0,hx,hv=>cases hx;cases hv;exact .d _ _ (.int ..)
 |1,hx,hv=>cases hx;cases hv;exact .d _ _ .eR
def OA(P:Program)(f:FuncId)(t:TypeId):Prop:=∀ (T:TypeId) (R:Nat->Option Value) (b q:Nat) (c:Int) (w:World),LibA.Three w b q T R (.slice none 0 0) (.int .i64 0) (.int .i8 0) ->
 Calls P f #[.pointer (some ⟨b,q,none⟩),.int .u8 c] w fun e w'=>e=.returned .nilIface/\∃ g2,w.heap.size<=g2/\ey T R t b q g2 [.int .u8 c] 0 w'/\cq b none w w'
theorem YR{E:Env}{f:FuncId}{t:Nat}(hS:OA E.P f t)(fo:lH E.P f){n:Int} :
  aw E f [.cells [.d .aI,.d (.int .i64 0),.d (.int .i8 0)]] [.ptr 0 0,.d (.int .u8 n)] (fun a h=>a=.d .eR/\h=[.cells [.own 1 0,.d (.int .i64 0),.d (.int .i8 0)],.arr 0 (t,1) [.int .u8 n]]):=by
 unfold aw;refine⟨fo,kn rfl,fun c vs hh ho h3=>?_⟩;obtain⟨v1,v2,rfl⟩:∃ v1 v2,vs=[v1,v2]:=by
  have:=h3.1
  match vs,this with
  |[a,b],_=>exact⟨a,b,rfl⟩
 have lg:=h3.2 0 _ v1 rfl rfl;have mC:=h3.2 1 _ v2 rfl rfl;obtain rfl:v2=.int .u8 n:=by cases mC with|d _ _ h=>cases h;rfl
 have kj:c.heap[0]?=some (.cells [.d .aI,.d (.int .i64 0),.d (.int .i8 0)]):=by rw[hh];rfl
 obtain⟨b,iU,vs,ty,k1,k2,k3,k4⟩:=ho.box 0 _ kj;obtain⟨a0,a1,a2,rfl⟩:∃ a0 a1 a2,vs = #[a0,a1,a2]:=by
  match vs,k3 with
  |⟨[x,y,z]⟩,_=>exact⟨x,y,z,rfl⟩
 have h0:=k4 0 _ a0 rfl rfl;have h1:=k4 1 _ a1 rfl rfl;have h2:=k4 2 _ a2 rfl rfl;obtain rfl:a0=.slice none 0 0:=by cases h0 with|d _ _ h=>cases h;rfl
 obtain rfl:a1=.int .i64 0:=by cases h1 with|d _ _ h=>cases h;rfl
 obtain rfl:a2=.int .i8 0:=by cases h2 with|d _ _ h=>cases h;rfl
 obtain rfl:v1=.pointer (some ⟨b,0,none⟩):=by
  cases lg with
  |ptr _ _ cs blk ea e1 e2=>rw[k1]at e2;cases e2;rfl
  |iI _ _ _ e1=>rw[kj]at e1;cases e1
 refine(hS ty _ b 0 n c.w (LibA.three_whole k2)).mono fun e w' ⟨e1,g2,e2,hX,hK⟩=>?_;obtain⟨cap,cur,d0,d2,d3,d4,d5,d6,d7⟩:=hX;obtain⟨cs,f1,f2,f3,f4,f5⟩:=d0;have bR:cs.size=3:=by
  rcases adV 3 cs.size with h|h
  ·have:=f5 3 (Or.inr (Nat.le_refl _));simp[h]at this
  ·have:=(agk.1 f4).1;omega
 have TE:=(ho.bB 0 b iU k1).1;have Im:∀ i n,1<=i->c.own i≠some n:=fun i n hi h=>by have:=(ho.bB i n.1 n.2 h).2;rw[hh]at this;simp at this;omega
 let c':Cx:={ own:=fun i=>if i=1 then some (g2,cap)else c.own i,heap:=[.cells [.own 1 0,.d (.int .i64 0),.d (.int .i8 0)],.arr 0 (t,1) [.int .u8 n]],aE:=c.aE,w:=w' }
 have rX:∀ i n m,c'.own i=some (n,m)->i=0/\n=b/\m=iU\/i=1/\n=g2/\m=cap:=fun i n m hi=>by
  simp only[c']at hi;split at hi
  ·rename_i he;cases hi;exact .inr ⟨he,rfl,rfl⟩
  ·match i with
   |0=>rw[k1]at hi;cases hi;exact .inl ⟨rfl,rfl,rfl⟩
   |i+1=>exact absurd hi (Im _ _ (by omega))
 have bZ:∀ i bx,c.heap[i]?=some bx->i=0/\bx=.cells [.d .aI,.d (.int .i64 0),.d (.int .i8 0)]:=fun i bx hi=>by
  rw[hh]at hi
  match i,hi with
  |0,hi=>cases hi;exact⟨rfl,rfl⟩
 have sE:∀ k,k<c.w.heap.size->(∀ i n,c.own i≠some (k,n))->w'.heap[k]?=c.w.heap[k]? := fun k hk hn=>hK.keep k hk (fun e=>hn 0 iU (by rw[e];exact k1)) (by simp);have dF:∀ i n m,c'.own i=some (n,m)->n<c.w.heap.size->∃ m',c.own i=some (n,m'):=fun i n m hi ah=>by
  rcases rX i n m hi with⟨rfl,rfl,rfl⟩|⟨rfl,rfl,rfl⟩
  ·exact⟨_,k1⟩
  ·omega
 have bg:aA.Step c c':=⟨rfl,ho.bS,hK.os,hK.tape,hK.output,hK.size,sE,dF,fun i bx hi=>by
  obtain⟨rfl,rfl⟩:=bZ i bx hi
  exact .inl ⟨_,rfl,rfl,rfl⟩⟩
 have Io:VR c' (.own 1 0) (.slice (some ⟨g2,0,none⟩) 1 cap) := .own 1 0 (t,1) [.int .u8 n] g2 cap rfl rfl
 have aP:aM E.G c':=ho.next bg (fun i n m hi=>by
   rcases rX i n m hi with⟨rfl,rfl,-⟩|⟨rfl,rfl,-⟩
   ·exact⟨Lib.lt_of_heap f1,by show _<2;omega⟩
   ·exact⟨Lib.lt_of_heap d2,by show _<2;omega⟩) (fun i j n m k hi hj=>by
   rcases rX i n m hi with⟨rfl,e1,-⟩|⟨rfl,e1,-⟩<;>rcases rX j n k hj with⟨rfl,e2,-⟩|⟨rfl,e2,-⟩
   ·rfl
   ·exact absurd (e2.symm.trans e1) d7
   ·exact absurd (e1.symm.trans e2) d7
   ·rfl) (fun i bx hi=>by
  right
  match i,hi with
  |0,hi =>
   cases hi;refine⟨b,iU,cs,ty,k1,f1,bR,fun j x v hx hv=>?_⟩
   match j,hx with
   |0,hx=>cases hx;rw[show cs[0]?=_ from f2]at hv;cases hv;exact Io
   |1,hx=>cases hx;rw[show cs[1]?=_ from f3]at hv;cases hv;exact .d _ _ (.int ..)
   |2,hx=>cases hx;rw[show cs[2]?=_ from f4]at hv;cases hv;exact .d _ _ (.int ..)
  |1,hi =>
   cases hi;refine⟨Nat.one_pos,fun i e he=>by rw[ah9.1 (afh he)];rfl,.inr ⟨g2,cap,cur,rfl,d2,by rw[aib];exact d5,d3,d4,fun i j e x he hx=>?_⟩⟩
   match i,he with
   |0,he =>
    cases he
    match j,hx with
    |0,hx =>
     cases hx;refine⟨.int .u8 n,?_,rfl,.int ..⟩;have h8:(cur.toList.take 1)[0]?=some (.int .u8 n):=by rw[show cur.toList.take 1=_ from d6];rfl
     simpa using h8)
 refine⟨c',.d .eR,.nilIface,e1,rfl,⟨rfl,rfl⟩,.d _ _ .eR,aP,⟨rfl,hK.os,hK.tape,hK.output,hK.size,sE,dF,fun i bx hi=>?_⟩⟩;obtain⟨rfl,rfl⟩:=bZ i bx hi;exact .inl ⟨_,rfl,rfl,rfl⟩
def OB(P:Program)(f:FuncId)(t:TypeId):Prop:=∀ (T:TypeId) (R:Nat->Option Value) (b q g:Nat) (bs:List Value) (s:ByteArray) (w:World),ey T R t b q g bs 0 w->s.size=0 ->
 Calls P f #[.pointer (some ⟨b,q,none⟩),.string s] w fun e w'=>e=.returned (.tuple #[.int .i64 0,.nilIface])/\ey T R t b q g bs 0 w'/\cq b (some g) w w'
theorem YS{E:Env}{f:FuncId}{t:Nat}(hS:OB E.P f t)(fo:lH E.P f){L:List DV}(hL:L≠[])(hc:∀ x∈L,x.cells=[x]) :
  aw E f [.cells [.own 1 0,.d (.int .i64 0),.d (.int .i8 0)],.arr 0 (t,1) L] [.ptr 0 0,.d (.str [])] (fun a h=>a=.aF [.d (.int .i64 0),.d .eR]/\h=[.cells [.own 1 1,.d (.int .i64 0),.d (.int .i8 0)],.arr 1 (t,1) L]):=by
 unfold aw;refine⟨fo,kn rfl,fun c vs h1 h2 h3=>?_⟩;obtain⟨v1,v2,rfl⟩:∃ v1 v2,vs=[v1,v2]:=by
  have:=h3.1
  match vs,this with
  |[a,b],_=>exact⟨a,b,rfl⟩
 have lg:=h3.2 0 _ v1 rfl rfl;have mC:=h3.2 1 _ v2 rfl rfl;obtain rfl:v2=.string ⟨([]:List UInt8).toArray⟩:=by cases mC with|d _ _ h=>cases h;rfl
 obtain⟨b,iU,g,rW,T,bs,rfl,k1,k2,k3,k4,k5⟩:=DH h1 h2 hL hc lg;refine(hS T _ b 0 g bs ⟨([]:List UInt8).toArray⟩ c.w k4 rfl).mono fun e w' ⟨e1,e3,e4⟩=>?_;obtain⟨c',q1,q2,q3,q4⟩:=DI (M:=L) h1 h2 k1 k2 e3 (.inl rfl) e4 k3 hc k5;refine⟨c',.aF [.d (.int .i64 0),.d .eR],.tuple #[.int .i64 0,.nilIface],e1,q1,⟨rfl,q2⟩,.aF _ _ rfl (fun j x v hx hv=>?_),q3,q4⟩
 match j,hx,hv with
 |0,hx,hv=>cases hx;cases hv;exact .d _ _ (.int ..)
 |1,hx,hv=>cases hx;cases hv;exact .d _ _ .eR
end Go.Proofs.YtfmdaiojokniiaaGreatDoor.P
end
