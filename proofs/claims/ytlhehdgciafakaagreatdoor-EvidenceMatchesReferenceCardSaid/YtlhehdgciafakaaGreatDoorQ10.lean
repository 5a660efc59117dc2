/- Lemmas of mine. Conditions: as stated. -/
import Derived.Test.YtlhehdgciafakaaGreatDoorQ8
import Derived.ChangeArms
import Derived.ProofKit
import Derived.OpenShut
import Derived.Deep.DeepHandedRow
import Derived.Lib.LaidTab
import Derived.Shelf.SlicesG.Cmp
import Derived.Shelf.Slices.CompactI
import Derived.Ground.SlgmProg
import Derived.Ground.Names2Prog
import Derived.Ground.SlsfProg
import Derived.Ground.SlgcProg
import Derived.Lib.BufferWrite
import Derived.Lib.BufferOwn
import Derived.Lib.BufferSrc
import Derived.Shelf.Bytes.WriteByteAt
set_option linter.unusedVariables false
set_option linter.unusedSimpArgs false
open Array renaming getElem?_toList->ahP,length_toList->ami,getElem?_eq_getElem->ah2
open Bool renaming and_eq_true->ai2
open List renaming getElem?_append_right->aiH,range->ais,mem_cons->ai3,take_of_length_le->ajq,getElem?_eq_getElem->aiX,mem_map->ahY,mem_of_getElem?->aiQ,map_cons->ahx,getElem?_append_left->ahT,mem_cons_self->aio,mem_cons_of_mem->aip,drop_zero->aku,all_eq_true->ahH,sum_cons->amh,nodup_append->aii,getElem?_cons_succ->ajO,drop_of_length_le->aje,drop_drop->ajo,take_append_drop->ai9,forall_mem_cons->alw,mem_append_left->ajL,mem_append_right->ajM,getElem?_set_self->ahQ,cons_append->aie,getD->ahU,getElem?_of_mem->aiN,flatten->amk,take_succ_cons->aml,mapM_cons->aiE,sum_replicate_nat->amm,set_append_right->ak4,set_cons_zero->amo,flatMap_cons->ahJ,length_cons->ahN,length_set->aiv,getElem?_set_ne->ahR,flatMap_append->akg,mem_flatMap->aiM
open Nat renaming le_refl->ahL,zero_le->ai4,beq->ahv,eq_of_beq_eq_true->ahu,sub_self->ajw,zero_add->ahB,lt_or_ge->ahs,min_self->amj,le_trans->aic,lt_of_lt_of_le->ahD,lt_trichotomy->ajV,zero_mul->aiG,zero_lt_succ->aj1
open Option renaming map_some->air,map_eq_some_iff->ahF,getD_some->ah8
section
namespace Go.az
open Go Go.RowKit
def da(E:Env)(t:Nat):Nat:=match eB E.T t with
 |some i=>i.size
 |none=>0
def kZ(E:Env)(t:Nat):TK:=match eB E.T t with
 |some i=>i.k
 |none => .other
def rX(k:TK)(x:DV):Prop:=match k with
 | .struct _=>∃ cs,x=.agg cs
 |_=>x.cells=[x]
def gQ(E:Env):Nat->Nat->List DV->Prop
 |0,_,_=>False
 |n+1,t,ds=>match kZ E t with
  | .bool=>∃ b,ds=[.bool b]
  | .int k=>∃ m,ds=[.int k m]/\(Lit.int k m).wf=true
  | .string=>∃ l:List UInt8,ds=[.str l]/\l.length<=maxLen
  | .slice e=>∃ l:List DV,ds=[.sl l]/\l.length<=maxLen/\∀ x∈l,gQ E n e x.cells/\rX (kZ E e) x
  | .struct fs=>ds.length=da E t/\∀ p∈fs,gQ E n p.2 ((ds.drop p.1).take (da E p.2))
  |_=>False
def tP(E:Env):Nat->List (Nat × Nat)->Nat->Bool
 |o,[],n=>ahv o n
 |o,p::l,n=>ahv p.1 o&&tP E (o+da E p.2) l n
def rY(E:Env):Nat->Nat->Bool
 |0,_=>false
 |m+1,t=>match eB E.T t with
  |none=>false
  |some i=>match i.k with
   | .bool=>ahv i.size 1
   | .int _=>ahv i.size 1
   | .string=>ahv i.size 1
   | .slice e=>ahv i.size 1&&Nat.blt 0 (da E e)&&rY E m e
   | .struct fs=>tP E 0 fs i.size&&fs.all fun p=>rY E m p.2
   |_=>false
theorem B2{E:Env}(hE:E.OK){t:Nat}{i:bA}(hi:E.T[t]?=some i):da E t=E.P.cellsOf t:=by
 obtain⟨ti,d,g1,g2,g3,g4,-⟩:=cK (hE.types t i hi);simp[da,ff,hi,Program.cellsOf,g1,g4]
theorem PB{E:Env}{m t:Nat}(h:rY E m t=true):∃ i,E.T[t]?=some i:=by
 cases m with
 |zero=>cases h
 |succ m =>
  unfold rY at h;split at h
  ·cases h
  ·rename_i i hi;rw[ff]at hi;exact⟨i,hi⟩
theorem PC{E:Env}(hE:E.OK){m t:Nat}(h:rY E m t=true):da E t=E.P.cellsOf t:=by
 obtain⟨i,hi⟩:=PB h;exact B2 hE hi
theorem kM.Yl{bad:Nat->Prop}{w:World}{a b:List DV}{u v:List Value}(h1:kM bad w a u)(h2:kM bad w b v):kM bad w (a++b) (u++v):=by
 refine⟨by simp[h1.1,h2.1],fun j x y hx hy=>?_⟩;rcases ahs j a.length with hj|hj
 ·rw[ahT hj]at hx;rw[ahT (by rw[<- h1.1];exact hj)]at hy;exact h1.2 j x y hx hy
 ·rw[aiH hj]at hx;rw[aiH (by rw[<- h1.1];exact hj),<- h1.1]at hy;exact h2.2 _ x y hx hy
section
variable {E:Env} {H:Type} {enc:TypeId × Value->H} {w:World} {held:Bool}
theorem PD{n:Nat}{cs:List Value}:∀ {fs:List (Nat × Nat)} {o tot:Nat},tP E o fs tot=true->cs.length=tot->o<=tot ->
  (∀ p∈fs,∃ ds,gQ E n p.2 ds/\kM (fun _=>False) w ds ((cs.drop p.1).take (da E p.2))/\∀ v∈(cs.drop p.1).take (da E p.2),v.oneCell'=true) ->
  (∀ p∈fs,p.1+da E p.2<=tot) ->
  ∃ ds,ds.length=tot-o/\kM (fun _=>False) w ds (cs.drop o)/\(∀ v∈cs.drop o,v.oneCell'=true)/\∀ p∈fs,o<=p.1/\gQ E n p.2 ((ds.drop (p.1-o)).take (da E p.2))
 |[],o,tot,h,hl,ho,_,_=>by
  obtain rfl:o=tot:=ahu h;rw[aje oM];exact⟨[],by simp,⟨rfl,fun j x v hx=>by simp at hx⟩,fun v hv=>by simp at hv,fun p hp=>by simp at hp⟩
 |p::fs,o,tot,h,hl,ho,hf,hb=>by
  simp only[tP,ai2]at h;obtain⟨h1,h2⟩:=h;have h1:=ahu h1;have hle:=hb p (aio ..);rw[h1]at hle;obtain⟨d1,k1,k2,k3⟩:=hf p (aio ..);rw[h1]at k2 k3;obtain⟨d2,q1,q2,q3,q4⟩:=PD h2 hl hle (fun p hp=>hf p (aip _ hp)) (fun p hp=>hb p (aip _ hp));have oD:d1.length=da E p.2:=by rw[k2.1];simp;omega
  have PE:cs.drop o=(cs.drop o).take (da E p.2)++cs.drop (o+da E p.2):=by
   rw[<- ajo,ai9]
  refine⟨d1++d2,by simp[oD,q1];omega,by rw[PE];exact k2.Yl q2,fun v hv=>?_,fun p' hp=>?_⟩
  ·rw[PE]at hv;rcases List.mem_append.1 hv with hv|hv
   ·exact k3 v hv
   ·exact q3 v hv
  ·rcases ai3.1 hp with rfl|hp
   ·refine⟨by omega,?_⟩;rw[h1,ajw,aku,List.take_append_of_le_length oM,ajq oM];exact k1
   ·obtain⟨r1,r2⟩:=q4 p' hp;refine⟨by omega,?_⟩;rw[List.drop_append,aje oM,List.nil_append,show p'.1-o-d1.length=p'.1-(o+da E p.2) by omega];exact r2
theorem Jk:∀ {fs:List (Nat × Nat)} {o tot:Nat},tP E o fs tot=true->o<=tot/\∀ p∈fs,p.1+da E p.2<=tot
 |[],o,tot,h=>⟨Nat.le_of_eq (ahu h),fun p hp=>by simp at hp⟩
 |p::fs,o,tot,h=>by
  simp only[tP,ai2]at h;obtain⟨h1,h2⟩:=h;have h1:=ahu h1;obtain⟨k1,k2⟩:=Jk h2;refine⟨by omega,fun p' hp=>?_⟩;rcases ai3.1 hp with rfl|hp
  ·omega
  ·exact k2 p' hp
theorem Ym(hE:E.OK):∀ (fuel m t:Nat) (cs:List Value) (x:DataW H × List MemPlace),rY E m t=true->DataW.trod enc E.P w 0 (fun _=>true) held fuel t cs=some x ->
  ∃ ds,gQ E fuel t ds/\kM (fun _=>False) w ds cs/\∀ v∈cs,v.oneCell'=true:=by
 intro fuel
 induction fuel with
 |zero=>intro m t cs x _ h;simp[DataW.trod]at h
 |succ fuel ih =>
  intro m t cs x aV h;cases m with
  |zero=>cases aV
  |succ m =>
   unfold rY at aV;split at aV
   ·cases aV
   rename_i i hi;have hk:kZ E t=i.k:=by simp[kZ,hi]
   have bP:da E t=i.size:=by simp[da,hi]
   rw[ff]at hi;obtain⟨ti,d,g1,g2,g3,g4,-⟩:=cK (hE.types t i hi);have one:∀ {y:DV} {v:Value},VD (fun _=>False) w y v->v.oneCell'=true->cs=[v]->kM (fun _=>False) w [y] cs/\∀ v∈cs,v.oneCell'=true:=fun{y v} h1 h2 h3=>by
    subst h3;refine⟨⟨rfl,fun j x u hx hu=>?_⟩,fun u hu=>by simp at hu;subst hu;exact h2⟩;cases j with
    |zero=>simp at hx hu;subst hx;subst hu;exact h1
    |succ j=>simp at hx
   split at aV
   ·rename_i gM;have hd:d=.bool:=by rw[gM]at g3;cases d<;>first|rfl|cases g3
    subst hd;obtain⟨b,rfl,-⟩:=DataW.trod_bool g2 h;exact⟨[.bool b],by unfold gQ;rw[hk,gM];exact⟨b,rfl⟩,one (.bool b) rfl rfl⟩
   ·rename_i k gM;obtain rfl:=ym (gM.symm.trans g3);obtain⟨n,rfl,-,hw⟩:=DataW.trod_int g2 h;exact⟨[.int k n],by unfold gQ;rw[hk,gM];exact⟨n,rfl,hw⟩,one (.int k n) rfl rfl⟩
   ·rename_i gM;obtain rfl:=uu (gM.symm.trans g3);obtain⟨s,rfl,-,hl⟩:=DataW.trod_string g2 h;refine⟨[.str s.data.toList],?_,one (v := .string s) ?_ rfl rfl⟩
    ·unfold gQ;rw[hk,gM];exact⟨_,rfl,by rw[ami];exact hl⟩
    ·have:=VD.str (bad:=fun _=>False) (w:=w) s.data.toList
     simpa using this
   ·rename_i e gM;obtain rfl:=mM (gM.symm.trans g3);simp only[ai2]at aV;obtain⟨⟨-,db⟩,B3⟩:=aV;have db:=AN db;have Jl:=PC hE B3;rcases DataW.trod_slice g2 h with⟨rfl,-⟩|⟨a,len,cap,elems,rest,n,hn,rfl,-,-,EJ,fB,eU,Jm,yr,-⟩
    ·exact⟨[.sl []],by unfold gQ;rw[hk,gM];exact⟨[],rfl,ai4 _,fun x hx=>by simp at hx⟩,one .slnil rfl rfl⟩
    cases hn;obtain⟨rZ,wC⟩:=yr rfl;rw[<- Jl]at Jm wC;have spot:0<cap->a.spot=none:=fun hc=>by
     have dQ:∀ {q:Option (DataW H × List MemPlace)},(w.cells? 0 (a.add 0) (da E e)).bind (DataW.trod enc E.P w 0 (fun _=>true) held fuel e)=q->q.isSome->a.spot=none:=fun{q} h1 h2=>by
      cases eE:w.cells? 0 (a.add 0) (da E e)with
      |none=>rw[eE]at h1;subst h1;cases h2
      |some l =>
       obtain⟨-,hl,dQ⟩:=World.cells?_some eE;have:=dQ 0 db;rw[aiX oM]at this;cases hs:a.spot with
       |none=>rfl
       |some k =>
        have iY:((a.add 0).add 0).spot.isSome=true:=by simp[Addr.add,hs]
        simp only[World.cell?,iY,if_true]at this;split at this<;>cases this
     by_cases h0:0<len
     ·have:=Jm 0 h0;rw[aiG]at this;exact dQ this (by simp[eU,h0])
     ·obtain rfl:len=0:=by omega
      have:=wC 0 oM;rw[ahB,aiG]at this;exact dQ this (by simp[rZ];omega)
    by_cases tA:cap=0
    ·subst tA;obtain rfl:len=0:=by omega
     exact⟨[.sl []],by unfold gQ;rw[hk,gM];exact⟨[],rfl,ai4 _,fun x hx=>by simp at hx⟩,one (.l6 a) rfl rfl⟩
    have EK:=spot oM;obtain⟨blk,off,sp⟩:=a;cases EK;have key:∀ i,∃ x:DV,i<len->gQ E fuel e x.cells/\rX (kZ E e) x/\x.cells.length=da E e/\∀ (j:Nat) (y:DV),x.cells[j]?=some y->∃ v,w.cell? ⟨blk,off+(i*da E e+j),none⟩=some v/\v.oneCell'=true/\VD (fun _=>False) w y v:=fun i=>by
     by_cases hi:i<len
     case neg=>exact⟨.undef,fun h=>absurd h hi⟩
     have he:=Jm i hi;cases eE:w.cells? 0 ((⟨blk,off,none⟩:Addr).add (i*da E e)) (da E e)with
     |none=>rw[eE]at he;simp[eU,hi]at he
     |some l =>
      rw[eE]at he;obtain⟨-,hl,dQ⟩:=World.cells?_some eE;have jR:DataW.trod enc E.P w 0 (fun _=>true) held fuel e l=some (elems[i]' oM):=by
       rw[<- aiX oM];exact he
      obtain⟨ds,k1,k2,k3⟩:=ih m e l _ B3 jR;have nV:ds.length=da E e:=by rw[k2.1,hl]
      have PF:∀ (j:Nat) (y:DV),ds[j]?=some y->∃ v,w.cell? ⟨blk,off+(i*da E e+j),none⟩=some v/\v.oneCell'=true/\VD (fun _=>False) w y v:=fun j y hy=>by
       have hj:=aW hy;have ra:j<l.length:=by rw[<- k2.1];exact hj
       have:=dQ j oM;rw[aiX ra]at this;refine⟨l[j],?_,k3 _ (List.getElem_mem ra),k2.2 j y _ hy (by simp[ra])⟩;rw[oy,oy,Nat.add_assoc]at this;exact this
      by_cases Jn:∃ fs,kZ E e=.struct fs
      ·obtain⟨fs,jq⟩:=Jn;exact⟨.agg ds,fun _=>⟨k1,by rw[jq];exact⟨ds,rfl⟩,nV,PF⟩⟩
      ·obtain⟨y,hy,EL⟩:∃ y,ds=[y]/\y.cells=[y]:=by
        unfold gQ at k1;cases fuel with
        |zero=>exact k1.elim
        |succ fuel =>
         simp only at k1;split at k1
         ·obtain⟨b,rfl⟩:=k1;exact⟨_,rfl,rfl⟩
         ·obtain⟨b,rfl,-⟩:=k1;exact⟨_,rfl,rfl⟩
         ·obtain⟨b,rfl,-⟩:=k1;exact⟨_,rfl,rfl⟩
         ·obtain⟨b,rfl,-⟩:=k1;exact⟨_,rfl,rfl⟩
         ·rename_i fs jq;exact absurd ⟨fs,jq⟩ Jn
         ·exact k1.elim
       subst hy;refine⟨y,fun _=>⟨by rw[EL];exact k1,?_,by rw[EL];exact nV,by rw[EL];exact PF⟩⟩;unfold rX;split
       ·rename_i fs jq;exact absurd ⟨fs,jq⟩ Jn
       ·exact EL
    let g:Nat->DV:=fun i=>Classical.choose (key i)
    have hg:∀ i,i<len->gQ E fuel e (g i).cells/\rX (kZ E e) (g i)/\(g i).cells.length=da E e/\∀ (j:Nat) (y:DV),(g i).cells[j]?=some y->∃ v,w.cell? ⟨blk,off+(i*da E e+j),none⟩=some v/\v.oneCell'=true/\VD (fun _=>False) w y v:=fun i=>Classical.choose_spec (key i);have ew:∀ (i:Nat) (y:DV),((ais len).map g)[i]?=some y->i<len/\y=g i:=fun i y hy=>by
     have hi:i<len:=by have:=aW hy;simpa using this
     simp[hi]at hy;exact⟨hi,hy.symm⟩
    refine⟨[.sl ((ais len).map g)],?_,one (v := .slice (some ⟨blk,off,none⟩) len cap) ?_ rfl rfl⟩
    ·unfold gQ;rw[hk,gM];refine⟨_,rfl,by simp;omega,fun x hx=>?_⟩;obtain⟨i,hi⟩:=aiN hx;obtain⟨h1,rfl⟩:=ew i x hi;exact⟨(hg i h1).1,(hg i h1).2.1⟩
    ·have:=VD.sl (bad:=fun _=>False) (w:=w) ((ais len).map g) blk off cap (da E e) (fun i j=>(w.cell? ⟨blk,off+(i*da E e+j),none⟩).getD undef) (fun _ h=>h) db (zD EJ)
      (fun i y hy=>by obtain⟨h1,rfl⟩:=ew i y hy;exact(hg i h1).2.2.1)
      (fun i j y z hy hz=>by obtain⟨h1,rfl⟩:=ew i y hy;obtain⟨v,q1,q2,q3⟩:=(hg i h1).2.2.2 j z hz;rw[q1];rfl)
      (fun i j y z hy hz=>by obtain⟨h1,rfl⟩:=ew i y hy;obtain⟨v,q1,q2,q3⟩:=(hg i h1).2.2.2 j z hz;rw[q1];exact q3)
      (fun i j y z hy hz=>by obtain⟨h1,rfl⟩:=ew i y hy;obtain⟨v,q1,q2,q3⟩:=(hg i h1).2.2.2 j z hz;rw[q1];exact q2)
     simpa using this
   ·rename_i fs gM;obtain⟨fl,rfl,rfl⟩:=sJ (gM.symm.trans g3);simp only[ai2]at aV;obtain⟨EM,aM⟩:=aV;obtain⟨xs,n,hn,-,hlen,iO,hf⟩:=DataW.trod_struct g2 h;cases hn;rw[<- B2 hE hi,bP]at hlen;obtain⟨-,hle⟩:=Jk EM
    obtain⟨ds,r1,r2,r3,r4⟩:=PD (n:=fuel) (w:=w) (cs:=cs) EM hlen (ai4 _) (fun p hp=>by
     obtain⟨f,AH,rfl⟩:=ahY.1 hp;have B4:=ahH.1 aM _ hp;obtain⟨i',cu⟩:=aiN AH;have agI:fl.toList.toArray[i']?=some f:=zD cu
     have:=hf i' f (zD cu);have ai:i'<xs.length:=by rw[iO];have:=aW cu;simpa using this
     rw[aiX ai]at this;obtain⟨ds,k1,k2,k3⟩:=ih m f.type _ _ B4 this;rw[<- PC hE B4]at k2 k3
     exact⟨ds,k1,k2,k3⟩) hle
    rw[aku]at r2 r3;refine⟨ds,?_,r2,r3⟩;unfold gQ;rw[hk,gM];exact⟨by rw[r1,bP];rfl,fun p hp=>(r4 p hp).2⟩
   ·cases aV
end
end Go.az
end
section
namespace Go.az
open Go Go.RowKit
variable {E:Env} {n t:Nat} {ds:List DV}
structure cJ(E:Env)(t:Nat){α:Type}(enc:α->DV)(iI:α->Prop):Prop where
 dec:∀ {m ds},gQ E m t ds->∃ a,ds=(enc a).cells/\iI a
 elem:∀ {x a},rX (kZ E t) x->x.cells=(enc a).cells->x=enc a
variable {α β:Type} {enc:α->DV} {agJ:β->DV} {iI:α->Prop} {EN:β->Prop}
theorem cJ.get(c:cJ E t enc iI){x:DV}(h:∃ m,gQ E m t x.cells)(he:rX (kZ E t) x):∃ a,x=enc a/\iI a:=by
 obtain⟨m,h⟩:=h;obtain⟨a,h1,h2⟩:=c.dec h;exact⟨a,c.elem he h1,h2⟩
theorem cJ.of{k:TK}(hk:kZ E t=k)(hn:∀ fs,k ≠ .struct fs)(h1:∀ a,(enc a).cells=[enc a])(h:∀ m ds,gQ E (m+1) t ds->∃ a,ds=[enc a]/\iI a):cJ E t enc iI:=by
 refine⟨fun{m ds} hd=>?_,fun{x a} he hx=>?_⟩
 ·cases m with
  |zero=>exact hd.elim
  |succ m=>obtain⟨a,h2,h3⟩:=h m ds hd;exact⟨a,by rw[h1,h2],h3⟩
 ·rw[h1]at hx;rw[hk]at he;unfold rX at he;split at he
  ·exact absurd rfl (hn _)
  ·rw[he]at hx;simpa using hx
theorem cJ.str(hk:kZ E t=.string):cJ E t DV.str (fun l=>l.length<=maxLen) := .of hk sP (fun _=>rfl) fun m ds h=>by
 unfold gQ at h;rw[hk]at h;exact h
theorem cJ.int{k:IntKind}{g:Int->Prop}(hk:kZ E t=.int k)(hg:∀ n,(Lit.int k n).wf=true->g n):cJ E t (DV.int k) g := .of hk sP (fun _=>rfl) fun m ds h=>by
 unfold gQ at h;rw[hk]at h;obtain⟨n,h1,h2⟩:=h;exact⟨n,h1,hg n h2⟩
theorem cJ.list(c:cJ E n enc iI):∀ {l:List DV},(∀ x∈l,(∃ m,gQ E m n x.cells)/\rX (kZ E n) x)->∃ l':List α,l=l'.map enc/\∀ a∈l',iI a
 |[],_=>⟨[],rfl,by simp⟩
 |x::l,h=>by
  obtain⟨⟨h1,h2⟩,h3⟩:=alw.1 h;obtain⟨a,rfl,ha⟩:=c.get h1 h2;obtain⟨l',rfl,h4⟩:=cJ.list c h3;exact⟨a::l',rfl,alw.2 ⟨ha,h4⟩⟩
theorem cJ.sl(c:cJ E n enc iI)(hk:kZ E t=.slice n):cJ E t (fun l:List α=>DV.sl (l.map enc)) (fun l:List α=>l.length<=maxLen/\∀ x∈l,iI x) := .of hk sP (fun _=>rfl) fun m ds h=>by
 unfold gQ at h;rw[hk]at h;obtain⟨l,h1,h2,h3⟩:=h;obtain⟨l',rfl,h4⟩:=c.list fun x hx=>⟨⟨m,(h3 x hx).1⟩,(h3 x hx).2⟩;exact⟨l',h1,zD h2,h4⟩
def iu(E:Env)(fs:List (Nat × Nat))(off sz:Nat){α:Type}(en:α->List DV)(iI:α->Prop):Prop:=∀ {m} {ds:List DV},ds.length=sz->(∀ p∈fs,gQ E m p.2 ((ds.drop p.1).take (da E p.2)))->∃ a,ds.drop off=en a/\iI a
variable {off o2 sz:Nat} {fs:List (Nat × Nat)} {en:β->List DV}
theorem cJ.last(c:cJ E t enc iI)(h:off+da E t=sz):iu E [(off,t)] off sz (fun a=>(enc a).cells) iI:=fun{m ds} hl hf=>by
 have:=hf (off,t) sP;rw[ajq (by simp;omega)]at this;exact c.dec this
theorem cJ.cons(c:cJ E t enc iI)(d:iu E fs o2 sz en EN)(h:off+da E t=o2):iu E ((off,t)::fs) off sz (fun p=>(enc p.1).cells++en p.2) (fun p:α × β=>iI p.1/\EN p.2):=fun{m ds} hl hf=>by
 obtain⟨h1,h2⟩:=alw.1 hf;obtain⟨a,h3,h4⟩:=c.dec h1;obtain⟨b,h5,h6⟩:=d hl h2;refine⟨(a,b),?_,h4,h6⟩;show _=(enc a).cells++en b;rw[<- h3,<- h5,<- h,<- ajo,ai9]
theorem iu.struct{f:β->α}(d:iu E fs 0 sz en EN)(hk:kZ E t=.struct fs)(hs:da E t=sz)(he:∀ a,enc (f a)=.agg (en a))(ha:∀ a,∃ cs,enc a=.agg cs)(hg:∀ a,EN a->iI (f a)):cJ E t enc iI:=by
 refine⟨fun{m ds} h=>?_,fun{x a} h1 h2=>?_⟩
 ·cases m with
  |zero=>exact h.elim
  |succ m =>
   unfold gQ at h;rw[hk]at h;obtain⟨a,h3,h4⟩:=d (by rw[h.1,hs]) h.2;exact⟨f a,by rw[he];exact h3,hg a h4⟩
 ·rw[hk]at h1;obtain⟨cs,rfl⟩:∃ cs,x=.agg cs:=h1;obtain⟨VH,h3⟩:=ha a;rw[h3]at h2 ⊢;cases h2;rfl
def Jo(E:Env)(t:Nat)(x:DV):Prop:=(∃ m,gQ E m t x.cells)/\rX (kZ E t) x
theorem Yn(hE:E.OK){H:Type}{enc:TypeId × Value->H}{W:World}{base m:Nat}{v:Value}{d:DataW H}{p:List MemPlace}{held:Bool}(aV:rY E m t=true)(hv:Value.okWide E.P W .any base t v)(h:DataW.Trod enc E.P W 0 (fun _=>true) held t v d p):∃ x,VD (fun _=>False) W x v/\Jo E t x:=by
 obtain⟨fuel,h⟩:=h;obtain⟨ds,h1,h2,h3⟩:=Ym hE fuel m t _ _ aV h;obtain⟨i,hi⟩:=PB aV;obtain⟨ti,dd,g1,g2,g3,g4,-⟩:=cK (hE.types t i hi);have hk:kZ E t=tk dd:=by simp[kZ,ff,hi,g3]
 by_cases hs:∃ fs,dd=.struct fs
 ·obtain⟨fs,rfl⟩:=hs;simp only[Value.okWide,g2]at hv;obtain⟨cs,rfl,-,-⟩:=hv;refine⟨.agg ds,.agg ds cs (by simpa [Value.cells]using h2.1) (fun j x v hx hv=>h2.2 j x v hx (by simpa [Value.cells]using hv)),⟨fuel,h1⟩,?_⟩;rw[hk];exact⟨ds,rfl⟩
 ·have bW:∃ y,ds=[y]/\y.cells=[y]:=by
   cases fuel with
   |zero=>exact h1.elim
   |succ fuel =>
    unfold gQ at h1;split at h1
    ·obtain⟨b,rfl⟩:=h1;exact⟨_,rfl,rfl⟩
    ·obtain⟨b,rfl,-⟩:=h1;exact⟨_,rfl,rfl⟩
    ·obtain⟨b,rfl,-⟩:=h1;exact⟨_,rfl,rfl⟩
    ·obtain⟨b,rfl,-⟩:=h1;exact⟨_,rfl,rfl⟩
    ·rename_i fs jq;rw[hk]at jq;exact absurd (by cases dd<;>first|exact⟨_,rfl⟩|(cases jq;done)) hs
    ·exact h1.elim
  obtain⟨y,rfl,hy⟩:=bW;have gT:∀ cs,v ≠ .agg cs:=fun cs e=>by
   subst e;have BG:∀ n e',dd ≠ .array n e':=fun n e' e=>by
    subst e;cases fuel with
    |zero=>exact h1.elim
    |succ fuel=>unfold gQ at h1;rw[hk]at h1;exact h1
   unfold Value.okWide at hv;rw[g2]at hv;cases dd<;>first
    |exact absurd ⟨_,rfl⟩ hs
    |exact absurd rfl (BG _ _)
    |(simp[Cell.okWide,Cell.ok,g2]at hv;done)
  have Yo:v.cells.toList=[v]:=by
   cases v<;>first|rfl|exact absurd rfl (gT _)
  rw[Yo]at h2;refine⟨y,h2.2 0 y v rfl rfl,⟨fuel,by rw[hy];exact h1⟩,?_⟩;unfold rX;split
  ·rename_i fs jq;rw[hk]at jq;exact absurd (by cases dd<;>first|exact⟨_,rfl⟩|(cases jq;done)) hs
  ·exact hy
def xu(E:Env):List Nat->List DV->Prop
 |[],xs=>xs=[]
 |t::ts,x::xs=>Jo E t x/\xu E ts xs
 |_::_,[]=>False
theorem PG(hE:E.OK){H:Type}{enc:TypeId × Value->H}{W:World}{base m:Nat}{held:Bool}:∀ {ts:List Nat} {vs:List Value} {ds:List (DataW H)} {ps:List MemPlace},ts.all (rY E m)=true ->
  (∀ (j:Nat) t v,ts[j]?=some t->vs[j]?=some v->Value.okWide E.P W .any base t v)->DataW.TrodAll enc E.P W 0 (fun _=>true) held ts vs ds ps->∃ xs,kM (fun _=>False) W xs vs/\xu E ts xs
 |[],vs,ds,ps,_,_,h=>by
  obtain⟨rfl,-,-⟩:=ChangeShapes.trodAll_nil h;exact⟨[],⟨rfl,fun j x v hx=>by simp at hx⟩,rfl⟩
 |t::ts,vs,ds,ps,aV,hv,h=>by
  obtain⟨v,PH,d,PI,p,q,rfl,rfl,rfl,h1,h2⟩:=ChangeShapes.trodAll_cons h;simp only[List.all_cons,ai2]at aV;obtain⟨x,k1,k2⟩:=Yn hE aV.1 (hv 0 t v rfl rfl) h1;obtain⟨xs,q1,q2⟩:=PG hE aV.2 (fun j t v ht fu=>hv (j+1) t v (zD ht) (zD fu)) h2;refine⟨x::xs,⟨by simp[q1.1],fun j y u hy hu=>?_⟩,k2,q2⟩;cases j with
  |zero=>simp at hy hu;subst hy;subst hu;exact k1
  |succ j=>exact q1.2 j y u (zD hy) (zD hu)
end Go.az
end
section
namespace Go.Proofs.YtlhehdgciafakaaGreatDoor.P
open Go Go.az
set_option maxRecDepth 100000
def Jp(n:Int):Prop:=0<=n/\n<=18446744073709551615
theorem Yp{n:Int}(h:(Lit.int .i64 n).wf=true):fY n:=by
 simp[Lit.wf,IntKind.min,IntKind.max,IntKind.signed,IntKind.bits]at h;exact h
theorem Yq{n:Int}(h:(Lit.int .u64 n).wf=true):Jp n:=by
 simp[Lit.wf,IntKind.min,IntKind.max,IntKind.signed,IntKind.bits]at h;exact h
theorem vB:cJ E 9 DV.str (fun l=>l.length<=maxLen):=cJ.str (by kernel_rfl)
theorem gR:cJ E 3 (DV.int .i64) fY:=cJ.int (by kernel_rfl) fun _=>Yp
theorem Yr:cJ E 170 (DV.int .u64) Jp:=cJ.int (by kernel_rfl) fun _=>Yq
theorem Ys:cJ E 27 (fun l:List Int=>DV.sl (l.map (DV.int .i64))) (fun l=>l.length<=maxLen/\∀ x∈l,fY x):=gR.sl (by kernel_rfl)
def Datum.Good(a:Datum):Prop:=(a.text.length<=maxLen)/\(fY a.n)/\(fY a.m)
theorem Yt:cJ E 109 Datum.enc Datum.Good:=iu.struct (f:=fun p:Text × Int × Int=>⟨p.1,p.2.1,p.2.2⟩) (vB.cons (gR.cons (gR.last rfl) rfl) rfl) (by kernel_rfl) rfl (fun _=>rfl) (fun _=>⟨_,rfl⟩) fun _ h=>h
theorem Yu:cJ E 24 (fun l:List Datum=>DV.sl (l.map Datum.enc)) (fun l=>l.length<=maxLen/\∀ x∈l,x.Good):=Yt.sl (by kernel_rfl)
def dw.Good(a:dw):Prop:=(a.name.length<=maxLen)/\(fY a.type)/\(fY a.dD)/\(a.data.length<=maxLen/\∀ x∈a.data,x.Good)
theorem PJ:cJ E 26 dw.enc dw.Good:=iu.struct (f:=fun p:Text × Int × Int × List Datum=>⟨p.1,p.2.1,p.2.2.1,p.2.2.2⟩) (vB.cons (gR.cons (gR.cons (Yu.last rfl) rfl) rfl) rfl) (by kernel_rfl) rfl (fun _=>rfl) (fun _=>⟨_,rfl⟩) fun _ h=>h
def dE.Good(a:dE):Prop:=(a.ar.length<=maxLen)/\(fY a.key)/\(fY a.nN)/\(fY a.bQ)/\(fY a.upto)/\(Jp a.sum)
theorem Yv:cJ E 172 dE.enc dE.Good:=iu.struct (f:=fun p:Text × Int × Int × Int × Int × Int=>⟨p.1,p.2.1,p.2.2.1,p.2.2.2.1,p.2.2.2.2.1,p.2.2.2.2.2⟩) (vB.cons (gR.cons (gR.cons (gR.cons (gR.cons (Yr.last rfl) rfl) rfl) rfl) rfl) rfl) (by kernel_rfl) rfl (fun _=>rfl) (fun _=>⟨_,rfl⟩) fun _ h=>h
theorem Yw:cJ E 75 (fun l:List dE=>DV.sl (l.map dE.enc)) (fun l=>l.length<=maxLen/\∀ x∈l,x.Good):=Yv.sl (by kernel_rfl)
def Signed.Good(a:Signed):Prop:=(a.set.Good)/\(a.sigs.length<=maxLen/\∀ x∈a.sigs,x.Good)
theorem PK:cJ E 77 Signed.enc Signed.Good:=iu.struct (f:=fun p:dw × List dE=>⟨p.1,p.2⟩) (PJ.cons (Yw.last rfl) rfl) (by kernel_rfl) rfl (fun _=>rfl) (fun _=>⟨_,rfl⟩) fun _ h=>h
theorem Jq:cJ E 37 (fun l:List Signed=>DV.sl (l.map Signed.enc)) (fun l=>l.length<=maxLen/\∀ x∈l,x.Good):=PK.sl (by kernel_rfl)
def aK.Good(a:aK):Prop:=(a.af.length<=maxLen)/\(a.J.length<=maxLen/\∀ x∈a.J,x.Good)
theorem Jr:cJ E 57 aK.enc aK.Good:=iu.struct (f:=fun p:Text × List Signed=>⟨p.1,p.2⟩) (vB.cons (Jq.last rfl) rfl) (by kernel_rfl) rfl (fun _=>rfl) (fun _=>⟨_,rfl⟩) fun _ h=>h
def bp.Good(a:bp):Prop:=(a.name.length<=maxLen)/\(fY a.type)
theorem Js:cJ E 36 bp.enc bp.Good:=iu.struct (f:=fun p:Text × Int=>⟨p.1,p.2⟩) (vB.cons (gR.last rfl) rfl) (by kernel_rfl) rfl (fun _=>rfl) (fun _=>⟨_,rfl⟩) fun _ h=>h
def dJ.Good(a:dJ):Prop:=(fY a.kind)/\(a.J.length<=maxLen/\∀ x∈a.J,x.Good)/\(a.cut.length<=maxLen)
theorem Yx:cJ E 39 dJ.enc dJ.Good:=iu.struct (f:=fun p:Int × List Signed × Text=>⟨p.1,p.2.1,p.2.2⟩) (gR.cons (Jq.cons (vB.last rfl) rfl) rfl) (by kernel_rfl) rfl (fun _=>rfl) (fun _=>⟨_,rfl⟩) fun _ h=>h
structure Host where
 name:Text
 addr:Int
 owner:Int
 deriving DecidableEq
@[reducible] def Host.enc (a : Host) : DV := .agg [.str a.name, .int .i64 a.addr, .int .i64 a.owner]
def Host.Good(a:Host):Prop:=(a.name.length<=maxLen)/\(fY a.addr)/\(fY a.owner)
theorem Yy:cJ E 74 Host.enc Host.Good:=iu.struct (f:=fun p:Text × Int × Int=>⟨p.1,p.2.1,p.2.2⟩) (vB.cons (gR.cons (gR.last rfl) rfl) rfl) (by kernel_rfl) rfl (fun _=>rfl) (fun _=>⟨_,rfl⟩) fun _ h=>h
theorem Yz:cJ E 22 (fun l:List Host=>DV.sl (l.map Host.enc)) (fun l=>l.length<=maxLen/\∀ x∈l,x.Good):=Yy.sl (by kernel_rfl)
structure aT where
 host:Int
 bQ:Int
 upto:Int
 ar:aK
 deriving DecidableEq
@[reducible] def aT.enc (a : aT) : DV := .agg [.int .i64 a.host, .int .i64 a.bQ, .int .i64 a.upto, .str a.ar.af, .sl (a.ar.J.map Signed.enc)]
def aT.Good(a:aT):Prop:=(fY a.host)/\(fY a.bQ)/\(fY a.upto)/\(a.ar.Good)
theorem YA:cJ E 72 aT.enc aT.Good:=iu.struct (f:=fun p:Int × Int × Int × aK=>⟨p.1,p.2.1,p.2.2.1,p.2.2.2⟩) (gR.cons (gR.cons (gR.cons (Jr.last rfl) rfl) rfl) rfl) (by kernel_rfl) rfl (fun _=>rfl) (fun _=>⟨_,rfl⟩) fun _ h=>h
theorem YB:cJ E 23 (fun l:List aT=>DV.sl (l.map aT.enc)) (fun l=>l.length<=maxLen/\∀ x∈l,x.Good):=YA.sl (by kernel_rfl)
structure aH where
 host:Int
 ar:aK
 deriving DecidableEq
@[reducible] def aH.enc (a : aH) : DV := .agg [.int .i64 a.host, .str a.ar.af, .sl (a.ar.J.map Signed.enc)]
def aH.Good(a:aH):Prop:=(fY a.host)/\(a.ar.Good)
theorem YC:cJ E 85 aH.enc aH.Good:=iu.struct (f:=fun p:Int × aK=>⟨p.1,p.2⟩) (gR.cons (Jr.last rfl) rfl) (by kernel_rfl) rfl (fun _=>rfl) (fun _=>⟨_,rfl⟩) fun _ h=>h
theorem YD:cJ E 78 (fun l:List aH=>DV.sl (l.map aH.enc)) (fun l=>l.length<=maxLen/\∀ x∈l,x.Good):=YC.sl (by kernel_rfl)
structure bB where
 ay:List Host
 aw:List aT
 anchor:dw
 hints:List Int
 bq:Int
 fin:Int
 deriving DecidableEq
@[reducible] def bB.enc (a : bB) : DV := .agg [.sl (a.ay.map Host.enc), .sl (a.aw.map aT.enc), .str a.anchor.name, .int .i64 a.anchor.type, .int .i64 a.anchor.dD, .sl (a.anchor.data.map Datum.enc), .sl (a.hints.map (.int .i64)), .int .i64 a.bq, .int .i64 a.fin]
def bB.Good(a:bB):Prop:=(a.ay.length<=maxLen/\∀ x∈a.ay,x.Good)/\(a.aw.length<=maxLen/\∀ x∈a.aw,x.Good)/\(a.anchor.Good)/\(a.hints.length<=maxLen/\∀ x∈a.hints,fY x)/\(fY a.bq)/\(fY a.fin)
theorem PL:cJ E 29 bB.enc bB.Good:=iu.struct (f:=fun p:List Host × List aT × dw × List Int × Int × Int=>⟨p.1,p.2.1,p.2.2.1,p.2.2.2.1,p.2.2.2.2.1,p.2.2.2.2.2⟩) (Yz.cons (YB.cons (PJ.cons (Ys.cons (gR.cons (gR.last rfl) rfl) rfl) rfl) rfl) rfl) (by kernel_rfl) rfl (fun _=>rfl) (fun _=>⟨_,rfl⟩) fun _ h=>h
structure mv where
 cQ:List aH
 deriving DecidableEq
@[reducible] def mv.enc (a : mv) : DV := .agg [.sl (a.cQ.map aH.enc)]
def mv.Good(a:mv):Prop:=(a.cQ.length<=maxLen/\∀ x∈a.cQ,x.Good)
theorem YE:cJ E 80 mv.enc mv.Good:=iu.struct (f:=fun p:List aH=>⟨p⟩) (YD.last rfl) (by kernel_rfl) rfl (fun _=>rfl) (fun _=>⟨_,rfl⟩) fun _ h=>h
structure Step where
 time:Int
 cE:mv
 deriving DecidableEq
@[reducible] def Step.enc (a : Step) : DV := .agg [.int .i64 a.time, .sl (a.cE.cQ.map aH.enc)]
def Step.Good(a:Step):Prop:=(fY a.time)/\(a.cE.Good)
theorem YF:cJ E 82 Step.enc Step.Good:=iu.struct (f:=fun p:Int × mv=>⟨p.1,p.2⟩) (gR.cons (YE.last rfl) rfl) (by kernel_rfl) rfl (fun _=>rfl) (fun _=>⟨_,rfl⟩) fun _ h=>h
theorem YG:cJ E 30 (fun l:List Step=>DV.sl (l.map Step.enc)) (fun l=>l.length<=maxLen/\∀ x∈l,x.Good):=YF.sl (by kernel_rfl)
structure pT where
 ay:List Host
 dS:List aH
 anchor:dw
 hints:List Int
 deriving DecidableEq
@[reducible] def pT.enc (a : pT) : DV := .agg [.sl (a.ay.map Host.enc), .sl (a.dS.map aH.enc), .str a.anchor.name, .int .i64 a.anchor.type, .int .i64 a.anchor.dD, .sl (a.anchor.data.map Datum.enc), .sl (a.hints.map (.int .i64))]
structure Claim where
 host:Int
 time:Int
 ar:aK
 deriving DecidableEq
@[reducible] def Claim.enc (a : Claim) : DV := .agg [.int .i64 a.host, .int .i64 a.time, .str a.ar.af, .sl (a.ar.J.map Signed.enc)]
def Claim.Good(a:Claim):Prop:=(fY a.host)/\(fY a.time)/\(a.ar.Good)
theorem YH:cJ E 59 Claim.enc Claim.Good:=iu.struct (f:=fun p:Int × Int × aK=>⟨p.1,p.2.1,p.2.2⟩) (gR.cons (gR.cons (Jr.last rfl) rfl) rfl) (by kernel_rfl) rfl (fun _=>rfl) (fun _=>⟨_,rfl⟩) fun _ h=>h
theorem YI:cJ E 31 (fun l:List Claim=>DV.sl (l.map Claim.enc)) (fun l=>l.length<=maxLen/\∀ x∈l,x.Good):=YH.sl (by kernel_rfl)
structure Entry where
 signed:Signed
 ar:Text
 upto:Int
 deriving DecidableEq
@[reducible] def Entry.enc (a : Entry) : DV := .agg [.str a.signed.set.name, .int .i64 a.signed.set.type, .int .i64 a.signed.set.dD, .sl (a.signed.set.data.map Datum.enc), .sl (a.signed.sigs.map dE.enc), .str a.ar, .int .i64 a.upto]
def Entry.Good(a:Entry):Prop:=(a.signed.Good)/\(a.ar.length<=maxLen)/\(fY a.upto)
theorem YJ:cJ E 200 Entry.enc Entry.Good:=iu.struct (f:=fun p:Signed × Text × Int=>⟨p.1,p.2.1,p.2.2⟩) (PK.cons (vB.cons (gR.last rfl) rfl) rfl) (by kernel_rfl) rfl (fun _=>rfl) (fun _=>⟨_,rfl⟩) fun _ h=>h
theorem YK:cJ E 62 (fun l:List Entry=>DV.sl (l.map Entry.enc)) (fun l=>l.length<=maxLen/\∀ x∈l,x.Good):=YJ.sl (by kernel_rfl)
structure Cache where
 list:List Entry
 deriving DecidableEq
@[reducible] def Cache.enc (a : Cache) : DV := .agg [.sl (a.list.map Entry.enc)]
def Cache.Good(a:Cache):Prop:=(a.list.length<=maxLen/\∀ x∈a.list,x.Good)
theorem YL:cJ E 64 Cache.enc Cache.Good:=iu.struct (f:=fun p:List Entry=>⟨p⟩) (YK.last rfl) (by kernel_rfl) rfl (fun _=>rfl) (fun _=>⟨_,rfl⟩) fun _ h=>h
structure nj where
 kind:Int
 q:bp
 J:List Signed
 deriving DecidableEq
@[reducible] def nj.enc (a : nj) : DV := .agg [.int .i64 a.kind, .str a.q.name, .int .i64 a.q.type, .sl (a.J.map Signed.enc)]
def nj.Good(a:nj):Prop:=(fY a.kind)/\(a.q.Good)/\(a.J.length<=maxLen/\∀ x∈a.J,x.Good)
theorem YM:cJ E 67 nj.enc nj.Good:=iu.struct (f:=fun p:Int × bp × List Signed=>⟨p.1,p.2.1,p.2.2⟩) (gR.cons (Js.cons (Jq.last rfl) rfl) rfl) (by kernel_rfl) rfl (fun _=>rfl) (fun _=>⟨_,rfl⟩) fun _ h=>h
structure bZ where
 time:Int
 addr:Int
 q:bp
 answer:dJ
 deriving DecidableEq
@[reducible] def bZ.enc (a : bZ) : DV := .agg [.int .i64 a.time, .int .i64 a.addr, .str a.q.name, .int .i64 a.q.type, .int .i64 a.answer.kind, .sl (a.answer.J.map Signed.enc), .str a.answer.cut]
def bZ.Good(a:bZ):Prop:=(fY a.time)/\(fY a.addr)/\(a.q.Good)/\(a.answer.Good)
theorem PM:cJ E 41 bZ.enc bZ.Good:=iu.struct (f:=fun p:Int × Int × bp × dJ=>⟨p.1,p.2.1,p.2.2.1,p.2.2.2⟩) (gR.cons (gR.cons (Js.cons (Yx.last rfl) rfl) rfl) rfl) (by kernel_rfl) rfl (fun _=>rfl) (fun _=>⟨_,rfl⟩) fun _ h=>h
theorem YN:cJ E 65 (fun l:List bZ=>DV.sl (l.map bZ.enc)) (fun l=>l.length<=maxLen/\∀ x∈l,x.Good):=PM.sl (by kernel_rfl)
structure dO where
 q:bp
 time:Int
 cache:Cache
 heard:List bZ
 result:nj
 deriving DecidableEq
@[reducible] def dO.enc (a : dO) : DV := .agg [.str a.q.name, .int .i64 a.q.type, .int .i64 a.time, .sl (a.cache.list.map Entry.enc), .sl (a.heard.map bZ.enc), .int .i64 a.result.kind, .str a.result.q.name, .int .i64 a.result.q.type, .sl (a.result.J.map Signed.enc)]
def dO.Good(a:dO):Prop:=(a.q.Good)/\(fY a.time)/\(a.cache.Good)/\(a.heard.length<=maxLen/\∀ x∈a.heard,x.Good)/\(a.result.Good)
theorem YO:cJ E 69 dO.enc dO.Good:=iu.struct (f:=fun p:bp × Int × Cache × List bZ × nj=>⟨p.1,p.2.1,p.2.2.1,p.2.2.2.1,p.2.2.2.2⟩) (Js.cons (gR.cons (YL.cons (YN.cons (YM.last rfl) rfl) rfl) rfl) rfl) (by kernel_rfl) rfl (fun _=>rfl) (fun _=>⟨_,rfl⟩) fun _ h=>h
theorem YP:cJ E 32 (fun l:List dO=>DV.sl (l.map dO.enc)) (fun l=>l.length<=maxLen/\∀ x∈l,x.Good):=YO.sl (by kernel_rfl)
structure iR where
 before:bB
 steps:List Step
 dA:List Claim
 mw:List dO
 deriving DecidableEq
@[reducible] def iR.enc (a : iR) : DV := .agg [.sl (a.before.ay.map Host.enc), .sl (a.before.aw.map aT.enc), .str a.before.anchor.name, .int .i64 a.before.anchor.type, .int .i64 a.before.anchor.dD, .sl (a.before.anchor.data.map Datum.enc), .sl (a.before.hints.map (.int .i64)), .int .i64 a.before.bq, .int .i64 a.before.fin, .sl (a.steps.map Step.enc), .sl (a.dA.map Claim.enc), .sl (a.mw.map dO.enc)]
def iR.Good(a:iR):Prop:=(a.before.Good)/\(a.steps.length<=maxLen/\∀ x∈a.steps,x.Good)/\(a.dA.length<=maxLen/\∀ x∈a.dA,x.Good)/\(a.mw.length<=maxLen/\∀ x∈a.mw,x.Good)
theorem YQ:cJ E 34 iR.enc iR.Good:=iu.struct (f:=fun p:bB × List Step × List Claim × List dO=>⟨p.1,p.2.1,p.2.2.1,p.2.2.2⟩) (PL.cons (YG.cons (YI.cons (YP.last rfl) rfl) rfl) rfl) (by kernel_rfl) rfl (fun _=>rfl) (fun _=>⟨_,rfl⟩) fun _ h=>h
abbrev HD(ay:List Host)(aw:List aT)(anchor:dw)(hints:List Int)(bq fin:Int):DV:=DV.agg [.sl (ay.map Host.enc),.sl (aw.map aT.enc),.str anchor.name,.int .i64 anchor.type,.int .i64 anchor.dD,.sl (anchor.data.map Datum.enc),.sl (hints.map (.int .i64)),.int .i64 bq,.int .i64 fin]
abbrev HE(ay:List Host)(aw:List aT)(anchor:dw)(hints:List Int)(bq fin:Int)(sl:List Step)(cl:List Claim)(tl:List dO):DV:=DV.agg [.sl (ay.map Host.enc),.sl (aw.map aT.enc),.str anchor.name,.int .i64 anchor.type,.int .i64 anchor.dD,.sl (anchor.data.map Datum.enc),.sl (hints.map (.int .i64)),.int .i64 bq,.int .i64 fin,.sl (sl.map Step.enc),.sl (cl.map Claim.enc),.sl (tl.map dO.enc)]
end Go.Proofs.YtlhehdgciafakaaGreatDoor.P
end
section
namespace Go.az
open Go Go.RowKit
def my{H:Type}:Nat->DataW H->Option (List Value)
 |0,_=>none
 |_+1,.lit (.int k n)=>some [.int k n]
 |_+1,.lit (.bool b)=>some [.bool b]
 |_+1,.lit (.string s)=>some [.string ⟨s.toArray⟩]
 |n+1,.agg ps=>(ps.mapM (my n)).map amk
 |_+1,_=>none
def tC(E:Env):Nat->Nat->Bool
 |0,_=>false
 |m+1,t=>match eB E.T t with
  |none=>false
  |some i=>match i.k with
   | .bool=>ahv i.size 1
   | .int _=>ahv i.size 1
   | .string=>ahv i.size 1
   | .array n e=>ahv i.size (n*da E e)&&tC E m e
   | .struct fs=>tP E 0 fs i.size&&fs.all fun p=>tC E m p.2
   |_=>false
theorem YR{E:Env}{m t:Nat}(h:tC E m t=true):∃ i,E.T[t]?=some i:=by
 cases m with
 |zero=>cases h
 |succ m =>
  unfold tC at h;split at h
  ·cases h
  ·rename_i i hi;rw[ff]at hi;exact⟨i,hi⟩
theorem PN{E:Env}(hE:E.OK){m t:Nat}(h:tC E m t=true):da E t=E.P.cellsOf t:=by
 obtain⟨i,hi⟩:=YR h;exact B2 hE hi
section
variable {H:Type}
theorem Jt{n:Nat}{cs:List Value}:∀ {L:List (Nat × Nat)} {xs:List (DataW H × List MemPlace)} {o tot:Nat},xs.length=L.length->cs.length=tot ->
  (∀ (i:Nat) (p:Nat × Nat),L[i]?=some p->p.1=o+((L.take i).map (·.2)).sum/\p.1+p.2<=tot)->o+(L.map (·.2)).sum=tot ->
  (∀ (i:Nat) (p:Nat × Nat) (y:DataW H × List MemPlace),L[i]?=some p->xs[i]?=some y->my n y.1=some ((cs.drop p.1).take p.2)) ->
  ∃ ls,(xs.map (·.1)).mapM (my n)=some ls/\ls.flatten=cs.drop o
 |[],[],o,tot,_,hc,_,hs,_=>⟨[],rfl,by rw[aje (by simp at hs;omega)];rfl⟩
 |p::L,y::xs,o,tot,hl,hc,ho,hs,hx=>by
  have h0:=ho 0 p rfl;simp at h0;have hy:=hx 0 p y rfl rfl;simp only[ahx,amh]at hs
  obtain⟨ls,k1,k2⟩:=Jt (n:=n) (cs:=cs) (L:=L) (xs:=xs) (o:=o+p.2) (tot:=tot) (zD hl) hc (fun i q hq=>by
   have:=ho (i+1) q (zD hq);simp only[aml,ahx,amh]at this
   omega) oM (fun i q z hq hz=>hx (i+1) q z (zD hq) (zD hz))
  refine⟨(cs.drop p.1).take p.2::ls,?_,?_⟩
  ·simp only[ahx,aiE,hy,k1];rfl
  ·rw[List.flatten_cons,k2,h0.1,<- ajo,ai9]
 |[],_::_,_,_,h,_,_,_,_=>by simp at h
 |_::_,[],_,_,h,_,_,_,_=>by simp at h
variable {E:Env} {enc:TypeId × Value->H} {w:World} {held:Bool} {sp:Nat->Bool}
theorem PO:∀ {fs:List (Nat × Nat)} {o tot:Nat},tP E o fs tot=true->o+((fs.map fun p=>(p.1,da E p.2)).map (·.2)).sum=tot /\
  ∀ (i:Nat) (p:Nat × Nat),(fs.map fun p=>(p.1,da E p.2))[i]?=some p->p.1=o+(((fs.map fun p=>(p.1,da E p.2)).take i).map (·.2)).sum/\p.1+p.2<=tot
 |[],o,tot,h=>⟨zD (ahu h),fun i p hp=>by simp at hp⟩
 |q::fs,o,tot,h=>by
  have hle:=(Jk h).2 q (aio ..);simp only[tP,ai2]at h;obtain⟨h1,h2⟩:=h;have h1:=ahu h1;obtain⟨k1,k2⟩:=PO h2;refine⟨by simp only[ahx,amh];omega,fun i p hp=>?_⟩;cases i with
  |zero=>simp at hp;subst hp;simp;omega
  |succ i =>
   have:=k2 i p (zD hp);simp only[ahx,aml,amh];omega
theorem YS(hE:E.OK):∀ (fuel m t:Nat) (cs:List Value) (x:DataW H × List MemPlace),tC E m t=true->DataW.trod enc E.P w 0 sp held fuel t cs=some x->my fuel x.1=some cs:=by
 intro fuel
 induction fuel with
 |zero=>intro m t cs x _ h;simp[DataW.trod]at h
 |succ fuel ih =>
  intro m t cs x aV h;cases m with
  |zero=>cases aV
  |succ m =>
   unfold tC at aV;split at aV
   ·cases aV
   rename_i i hi;have bP:da E t=i.size:=by simp[da,hi]
   rw[ff]at hi;obtain⟨ti,d,g1,g2,g3,g4,-⟩:=cK (hE.types t i hi);split at aV
   ·rename_i gM;have hd:d=.bool:=by rw[gM]at g3;cases d<;>first|rfl|cases g3
    subst hd;obtain⟨b,rfl,rfl⟩:=DataW.trod_bool g2 h;rfl
   ·rename_i k gM;obtain rfl:=ym (gM.symm.trans g3);obtain⟨n,rfl,rfl,hw⟩:=DataW.trod_int g2 h;rfl
   ·rename_i gM;obtain rfl:=uu (gM.symm.trans g3);obtain⟨s,rfl,rfl,hl⟩:=DataW.trod_string g2 h;rfl
   ·rename_i n e gM;obtain rfl:=yn (gM.symm.trans g3);simp only[ai2]at aV;obtain⟨hs,B3⟩:=aV;have hs:=ahu hs;obtain⟨xs,k,hk,rfl,hlen,iO,hf⟩:=DataW.trod_array g2 h;cases hk;have Jl:=PN hE B3;rw[<- B2 hE hi,bP,hs]at hlen;rw[<- Jl]at hf;have hL:∀ (i:Nat) (p:Nat × Nat),((ais n).map fun i=>(i*da E e,da E e))[i]?=some p->i<n/\p=(i*da E e,da E e):=fun i p hp=>by
     have hi:i<n:=by have:=aW hp;simpa using this
     simp[hi]at hp;exact⟨hi,hp.symm⟩
    have PQ:∀ k,(((ais n).map fun i=>(i*da E e,da E e)).take k).map (·.2)=List.replicate (min k n) (da E e):=fun k=>by
     apply List.ext_getElem
     ·simp
     ·intro j h1 h2;simp
    obtain⟨ls,k1,k2⟩:=Jt (n:=fuel) (cs:=cs) (L:=(ais n).map fun i=>(i*da E e,da E e)) (xs:=xs) (o:=0) (tot:=n*da E e) (by simp[iO]) hlen (fun i p hp=>by
     obtain⟨h1,rfl⟩:=hL i p hp;rw[PQ,amm,Nat.min_eq_left oM];refine⟨by simp,?_⟩;have:(i+1)*da E e<=n*da E e:=Nat.mul_le_mul_right _ h1;rw[Nat.add_mul,Nat.one_mul]at this;exact this) (by
      have:=PQ n;rw[ajq sP]at this;rw[this,amm,amj,ahB]) (fun i p y hp hy=>by
     obtain⟨h1,rfl⟩:=hL i p hp;have:=hf i h1;rw[hy]at this
     exact ih m e _ _ B3 this)
    rw[aku]at k2;simp only[my,k1,air,k2]
   ·rename_i fs gM;obtain⟨fl,rfl,rfl⟩:=sJ (gM.symm.trans g3);simp only[ai2]at aV;obtain⟨EM,aM⟩:=aV;obtain⟨xs,n,hn,rfl,hlen,iO,hf⟩:=DataW.trod_struct g2 h;cases hn;rw[<- B2 hE hi,bP]at hlen;obtain⟨s1,s2⟩:=PO EM
    obtain⟨ls,k1,k2⟩:=Jt (n:=fuel) (cs:=cs) (xs:=xs) (by simp[iO]) hlen s2 s1 (fun i p y hp hy=>by
     simp only[List.map_map,List.getElem?_map,ahF]at hp;obtain⟨f,lq,rfl⟩:=hp;have B4:=ahH.1 aM (f.offset,f.type) (ahY.2 ⟨f,aiQ lq,rfl⟩);have:=hf i f (zD lq);rw[hy,<- PN hE B4]at this
     exact ih m _ _ _ B4 this)
    rw[aku]at k2;simp only[my,k1,air,k2]
   ·cases aV
end
def xv:List DV->List Value->Bool
 |[],[]=>true
 | .int k n::l,.int k' m::r=>IntKind.same k k'&&decide (n=m)&&xv l r
 | .bool a::l,.bool b::r=>(a==b)&&xv l r
 | .str a::l,.string b::r=>decide (b=⟨a.toArray⟩)&&xv l r
 |_,_=>false
theorem PR{bad:Nat->Prop}{w:World}:∀ {ds:List DV} {vs:List Value},xv ds vs=true->kM bad w ds vs
 |[],[],_=>⟨rfl,fun j x v hx=>by simp at hx⟩
 |d::ds,v::vs,h=>by
  have key:VD bad w d v/\xv ds vs=true:=by
   unfold xv at h;split at h
   ·rename_i e1 e2;cases e1
   ·rename_i e1 e2;cases e1;cases e2;simp only[ai2,decide_eq_true_eq]at h;obtain⟨⟨h1,rfl⟩,h3⟩:=h;obtain rfl:=ur h1;exact⟨.int _ _,h3⟩
   ·rename_i e1 e2;cases e1;cases e2;simp only[ai2,beq_iff_eq]at h;obtain⟨rfl,h3⟩:=h;exact⟨.bool _,h3⟩
   ·rename_i e1 e2;cases e1;cases e2;simp only[ai2,decide_eq_true_eq]at h;obtain⟨rfl,h3⟩:=h;exact⟨.str _,h3⟩
   ·cases h
  have ih:=PR (bad:=bad) (w:=w) key.2;refine⟨by simp[ih.1],fun j x u hx hu=>?_⟩;cases j with
  |zero=>simp at hx hu;subst hx;subst hu;exact key.1
  |succ j=>exact ih.2 j x u (zD hx) (zD hu)
 |[],_::_,h=>by cases h
 |d::_,[],h=>by cases d<;>cases h
theorem PT{P:Program}{w:World}{name:String}{d:DataW Unit}:∀ {laid:List (String × DataW Unit)} {ps:List MemPlace},DataW.LaidVars P w laid ps->(name,d)∈laid ->
  ∃ g t cs fuel p,P.globalNamed name=some g/\(P.globals[g]?).map (·.type)=some t/\w.var? P name=some cs/\DataW.trod (fun _=>()) P w 0 (fun _=>true) false fuel t cs.toList=some (d,p)
 |[],_,_,h=>by simp at h
 |(n,d')::r,ps,hv,h=>by
  obtain⟨g,t,cs,fuel,p,q,h1,h2,h3,h4,h5,-⟩:=hv;rcases ai3.1 h with h|h
  ·cases h;exact⟨g,t,cs,fuel,p,h1,h2,h3,h4⟩
  ·exact PT h5 h
theorem YT{H:Type}:∀ {n:Nat} {d:DataW H} {cs:List Value},my n d=some cs->my (n+1) d=some cs:=by
 intro n
 induction n with
 |zero=>intro d cs h;cases h
 |succ n ih =>
  intro d cs h;unfold my at h;split at h
  ·cases h
  ·exact h
  ·exact h
  ·exact h
  ·rename_i m ps e;cases e;simp only[ahF]at h;obtain⟨ls,h1,rfl⟩:=h;have:∀ {ps:List (DataW H)} {ls:List (List Value)},ps.mapM (my n)=some ls->ps.mapM (my (n+1))=some ls:=by
    intro ps
    induction ps with
    |nil=>intro ls h;exact h
    |cons p ps YU =>
     intro ls h;simp only[aiE,Option.bind_eq_bind,Option.bind_eq_some_iff]at h ⊢;obtain⟨a,h1,b,h2,h3⟩:=h;exact⟨a,ih h1,b,YU h2,h3⟩
   have e2:=this h1;show(ps.mapM (my (n+1))).map amk=_;rw[e2];rfl
  ·cases h
theorem Ju{H:Type}{n:Nat}{d:DataW H}{cs:List Value}(h:my n d=some cs):∀ k,my (n+k) d=some cs
 |0=>h
 |k+1=>YT (Ju h k)
theorem YV{E:Env}(hE:E.OK){W:World}{laid:List (String × DataW Unit)}{name:String}{g t m n:Nat}{d:DataW Unit}{e:DV}{vs:List Value}(hl:laidMet E.P laid W)(hm:(name,d)∈laid)(hg:E.P.globalNamed name=some g)(ht:(E.P.globals[g]?).map (·.type)=some t)
  (aV:tC E m t=true) (hv:my n d=some vs) (he:xv e.cells vs=true) (aL:e.cells≠[]) {aD:Nat->Prop} (wo:¬ aD g):VR ⟨fun _=>none,[],aD,W⟩ (.bT e 0) (.pointer (some ⟨g,0,none⟩)):=by
 obtain⟨ps,YW,-,-⟩:=hl;obtain⟨g',t',cs,fuel,p,h1,h2,h3,h4⟩:=PT YW hm;rw[hg]at h1;cases h1;rw[ht]at h2;cases h2;have h5:=YS hE fuel m t _ _ aV h4;have h6:vs=cs.toList:=by
  have a:=Ju hv fuel;have b:=Ju h5 n;rw[Nat.add_comm]at b;exact Option.some.inj (a.symm.trans b)
 have jl:=PR (bad:=aD) (w:=W) he;rw[h6]at jl;have dQ:∀ (j:Nat) (v:Value),cs.toList[j]?=some v->W.cell? ⟨g,0+j,none⟩=some v:=fun j v hj=>by
  rw[ahB];have:=World.var?_cell hg h3 j;rw[this]
  simpa using hj
 have ew:∀ (j:Nat) (x:DV),e.cells[j]?=some x->∃ v,cs.toList[j]?=some v:=fun j x hx=>by
  have:=aW hx;rw[jl.1]at this;exact⟨cs.toList[j],by simp[this]⟩
 have:=VR.bT (c:=⟨fun _=>none,[],aD,W⟩) e 0 g 0 (fun j=>(cs.toList[j]?).getD undef) (fun hb=>wo (wj.1 hb)) aL (fun j x hx=>by
   obtain⟨v,hv⟩:=ew j x hx;rw[hv];exact dQ j v hv) (fun j x hx=>by
   obtain⟨v,hv⟩:=ew j x hx;rw[hv]
   exact wk (jl.2 j x v hx hv))
 exact this
end Go.az
end
section
namespace Go.Proofs.YtlhehdgciafakaaGreatDoor
open Go.ChangeShapes Go.WideShapes Go.ChangeAt Go.RowKit
theorem Tryz.own:ownKnob Tryz.prog.godebug=none:=by kernel_rfl
theorem Tryz.laidOut:laidOutB Tryz.prog=true:=by kernel_rfl
theorem Ext.trodAll{H:Type}{enc:TypeId × Value->H}{P:Program}(hl:laidOutB P=true){W W':World}(hx:Ext W W') :
  ∀ {ts:List TypeId} {vs:List Value} {ds:List (DataW H)} {ps:List MemPlace},(∀ t∈ts,P.readableRec t=true/\t<P.types.size)->(∀ x∈ps,x.block<W.heap.size) ->
   DataW.TrodAll enc P W 0 (fun _=>true) true ts vs ds ps->DataW.TrodAll enc P W' 0 (fun b=>decide (b<W.heap.size)) true ts vs ds ps
 |[],_,_,_,_,_,h=>by
  obtain⟨rfl,rfl,rfl⟩:=trodAll_nil h;exact h
 |t::ts,_,_,_,hr,ai,h=>by
  obtain⟨v,PH,d,PI,a,b,rfl,rfl,rfl,h1,h2⟩:=trodAll_cons h;obtain⟨r1,r2⟩:=hr t (aio ..);exact⟨a,b,Below.trod hl r1 r2 h1 hx.below (fun x hx=>ai x (ajL _ hx)),Ext.trodAll hl hx (fun u hu=>hr u (aip _ hu)) (fun x hx=>ai x (ajM _ hx)) h2,rfl⟩
theorem YX{H:Type}{enc:TypeId × Value->H}{P:Program}{f:Func}{s:ChangeSpec}{W W':World}{args:Array Value}{ds gs:List (DataW H)}{before:List MemPlace}{tb:TypeId}(hl:laidOutB P=true)
  (hr:∀ t∈f.params.toList,P.readableRec t=true/\t<P.types.size) (hv:s.vars=[]) (ht:f.resultTypes = #[tb]) (hb:P.underlying tb=some .bool)
  (rB:(s.fn H (ds++[])).results=[.lit (.bool true)]) (iC:(s.fn H (ds++[])).args=ds) (YY:(s.fn H (ds++[])).vars=[])
  (hW:DataW.Whole enc P f.params.toList s.vars false W args.toList ds gs before) (hx:Ext W W'):s.post enc P f false true false false W args (.bool true) W':=by
 have B5:=hW;obtain⟨p,q,hA,hV,rfl,DJ,cW⟩:=hW;rw[hv]at hV;obtain⟨rfl,rfl⟩:=trodVars_none hV;simp only[List.append_nil]at B5;refine⟨ds,[],p,[],p,[],B5,?_,?_,?_,?_,fun h=>by cases h⟩
 ·rw[rB,ht];exact trodAll_cons_mk (shut_bool hb _) trodAll_mk0
 ·rw[iC];exact Ext.trodAll hl hx hr (fun x hx=>zD (B5.lt x hx)) hA
 ·rw[YY,hv];rfl
 ·exact hx.below.frame _
end Go.Proofs.YtlhehdgciafakaaGreatDoor
end
section
set_option maxRecDepth 100000
namespace Go.Proofs.YtlhehdgciafakaaGreatDoor
open Go Go.az Go.ChangeShapes Go.WideShapes Go.ChangeAt Go.RowKit
theorem PU{H:Type}{enc:TypeId × Value->H}{P:Program}{W:World}:∀ {ts:List TypeId} {vs:List Value} {ds:List (DataW H)} {ps:List MemPlace} {held:Bool},DataW.TrodAll enc P W 0 (fun _=>true) held ts vs ds ps->ds.length=ts.length
 |[],_,_,_,_,h=>by obtain⟨rfl,rfl,rfl⟩:=trodAll_nil h;rfl
 |t::ts,_,_,_,_,h=>by
  obtain⟨v,PH,d,PI,a,b,rfl,rfl,rfl,h1,h2⟩:=trodAll_cons h;simp[PU h2]
theorem YZ{H:Type}{enc:TypeId × Value->H}{aj:FuncId}{fn:Func}{s:ChangeSpec}{W:World}{base:Nat}{args:Array Value}{ds gs:List (DataW H)}{before:List MemPlace}{tb:TypeId}
  (bJ:∀ (j:Nat) t v,fn.params[j]?=some t->args[j]?=some v->Value.okWide Tryz.prog W .any base t v)
  (hW:DataW.Whole enc Tryz.prog fn.params.toList s.vars false W args.toList ds gs before) (hG:uz E.G (fun _=>False) W)
  (aV:fn.params.toList.all (rY E 20)=true) (hr:∀ t∈fn.params.toList,Tryz.prog.readableRec t=true/\t<Tryz.prog.types.size) (hv:s.vars=[]) (ht:fn.resultTypes = #[tb]) (hb:Tryz.prog.underlying tb=some .bool)
  (hs:∀ ds:List (DataW H),ds.length=fn.params.toList.length->(s.fn H (ds++[])).results=[.lit (.bool true)]/\(s.fn H (ds++[])).args=ds/\(s.fn H (ds++[])).vars=[])
  (hc:∀ xs,xu E fn.params.toList xs->aq E aj xs (· = .bool true)) :
  Calls Tryz.prog aj args W fun e W'=>∃ v,e=.returned v/\s.post enc Tryz.prog fn false true false false W args v W':=by
 have B5:=hW;obtain⟨p,q,hA,hV,rfl,DJ,cW⟩:=hW;have Y0:∀ (j:Nat) t v,fn.params.toList[j]?=some t->args.toList[j]?=some v->Value.okWide E.P W .any base t v:=fun j t v ht hv=>bJ j t v (by rwa [ahP]at ht) (by rwa [ahP]at hv);obtain⟨xs,h1,h2⟩:=PG ag aV Y0 hA;obtain⟨s1,s2,s3⟩:=hs ds (PU hA);have iZ:=hc xs h2;unfold aq at iZ;have:=iZ.2 (fun _=>False) W args.toList (fun _ h=>h.elim) hG h1;rw[Array.toArray_toList]at this;refine this.mono fun e W' Y1=>?_;obtain⟨v,r,rfl,rfl,fH,hx⟩:=Y1;cases fH;exact⟨_,rfl,YX Tryz.laidOut hr hv ht hb s1 s2 s3 B5 hx⟩
theorem Jv{E:Env}{t:Nat}{ts:List Nat}{xs:List DV}(h:xu E (t::ts) xs):∃ x r,xs=x::r/\Jo E t x/\xu E ts r:=by
 cases xs with
 |nil=>exact h.elim
 |cons x r=>exact⟨x,r,rfl,h⟩
theorem Y2{P:Program}{l:List TypeId}(h:(l.all fun t=>P.readableRec t&&Nat.blt t P.types.size)=true):∀ t∈l,P.readableRec t=true/\t<P.types.size:=fun t ht=>by
 have:=ahH.1 h t ht;rw[ai2]at this;exact⟨this.1,AN this.2⟩
theorem Y3 {laid : List (String × DataW Unit)} {W : World} (hl : laidMet Tryz.prog laid W) (hm : ("nameplan/record.rules", Rows.laid_nameplan_record_rules) ∈ laid) : uz E.G (fun _ => False) W := by
 intro g e hg;have:(g,e)=(0,DZ):=by
  have:(g,e)∈Il:=hg
  simpa [Il]using this
 cases this;exact YV ag (n:=8) (m:=8) (t:=314) (vs:=(my 8 (Rows.laid_nameplan_record_rules (H:=Unit))).getD []) hl hm (by kernel_rfl) (by kernel_rfl) (by kernel_rfl) (by kernel_rfl) (by kernel_rfl) (by simp[DZ,DV.cells]) (fun h=>h)
end Go.Proofs.YtlhehdgciafakaaGreatDoor
end
section
namespace Go.Proofs
open Go.Shelf
def Tryz.Zw:Go.Shelf.Ren:=⟨fun|5=>67|7=>134|n=>n,fun|22=>3|3=>3|4=>4|n=>n,fun|n=>n⟩
theorem Tryz.Zx:Go.Proofs.SlLaysC2.n5 Tryz.prog Tryz.Zw:={
 mixed:=by kernel_rfl
 f5:=⟨Tryz.f67.name,by decide,Tryz.func67.trans (congrArg some (by kernel_rfl))⟩
 f7:=⟨Tryz.f134.name,by decide,Tryz.func134.trans (congrArg some (by kernel_rfl))⟩
 t3:=Tryz.underlying3
 a3:=Tryz.isAgg3
 z3:=Tryz.sizeOf3
 v3:=Tryz.zeroValue3
 t4:=Tryz.underlying4
 a4:=Tryz.isAgg4
 z4:=Tryz.sizeOf4
 v4:=Tryz.zeroValue4
 t22:=Tryz.underlying3
 a22:=Tryz.isAgg3
 z22:=Tryz.sizeOf3
 v22:=Tryz.zeroValue3 }
def Tryz.Zy:Go.Shelf.Ren:=⟨fun|6=>65|15=>133|14=>132|28=>208|29=>209|20=>200|21=>201|22=>202|23=>203|24=>204|25=>205|26=>206|27=>207|46=>270|47=>271|48=>272|49=>273|50=>274|57=>322|n=>n,fun|22=>135|24=>137|25=>140|3=>3|39=>216|0=>0|53=>273|55=>170|4=>4|46=>267|45=>266|50=>261|5=>5|9=>9|66=>322|70=>326|76=>354|77=>355|n=>n,fun|n=>n⟩
theorem Tryz.Zz:Go.Proofs.SlLaysF0.n6 Tryz.prog Tryz.Zy:={
 mixed:=by kernel_rfl
 f6:=⟨Tryz.f65.name,by decide,Tryz.func65.trans (congrArg some (by kernel_rfl))⟩
 f14:=⟨Tryz.f132.name,by decide,Tryz.func132.trans (congrArg some (by kernel_rfl))⟩
 f15:=Tryz.func133.trans (congrArg some (by kernel_rfl))
 f20:=⟨Tryz.f200.name,by decide,Tryz.func200.trans (congrArg some (by kernel_rfl))⟩
 f21:=⟨Tryz.f201.name,by decide,Tryz.func201.trans (congrArg some (by kernel_rfl))⟩
 f22:=⟨Tryz.f202.name,by decide,Tryz.func202.trans (congrArg some (by kernel_rfl))⟩
 f23:=⟨Tryz.f203.name,by decide,Tryz.func203.trans (congrArg some (by kernel_rfl))⟩
 f24:=⟨Tryz.f204.name,by decide,Tryz.func204.trans (congrArg some (by kernel_rfl))⟩
 f25:=⟨Tryz.f205.name,by decide,Tryz.func205.trans (congrArg some (by kernel_rfl))⟩
 f26:=⟨Tryz.f206.name,by decide,Tryz.func206.trans (congrArg some (by kernel_rfl))⟩
 f27:=⟨Tryz.f207.name,by decide,Tryz.func207.trans (congrArg some (by kernel_rfl))⟩
 f28:=Tryz.func208.trans (congrArg some (by kernel_rfl))
 f29:=Tryz.func209.trans (congrArg some (by kernel_rfl))
 f46:=⟨Tryz.f270.name,by decide,Tryz.func270.trans (congrArg some (by kernel_rfl))⟩
 f47:=Tryz.func271.trans (congrArg some (by kernel_rfl))
 f48:=Tryz.func272.trans (congrArg some (by kernel_rfl))
 f49:=⟨Tryz.f273.name,by decide,Tryz.func273.trans (congrArg some (by kernel_rfl))⟩
 f50:=⟨Tryz.f274.name,by decide,Tryz.func274.trans (congrArg some (by kernel_rfl))⟩
 f57:=⟨Tryz.f322.name,by decide,Tryz.func322.trans (congrArg some (by kernel_rfl))⟩
 t0:=Tryz.underlying0
 a0:=Tryz.isAgg0
 z0:=Tryz.sizeOf0
 v0:=Tryz.zeroValue0
 t3:=Tryz.underlying3
 a3:=Tryz.isAgg3
 z3:=Tryz.sizeOf3
 v3:=Tryz.zeroValue3
 t4:=Tryz.underlying4
 a4:=Tryz.isAgg4
 z4:=Tryz.sizeOf4
 v4:=Tryz.zeroValue4
 t5:=Tryz.underlying5
 a5:=Tryz.isAgg5
 z5:=Tryz.sizeOf5
 v5:=Tryz.zeroValue5
 t9:=Tryz.underlying9
 a9:=Tryz.isAgg9
 z9:=Tryz.sizeOf9
 v9:=Tryz.zeroValue9
 t22:=Tryz.underlying135
 a22:=Tryz.isAgg135
 z22:=Tryz.sizeOf135
 v22:=Tryz.zeroValue135
 t25:=Tryz.underlying140
 a25:=Tryz.isAgg140
 z25:=Tryz.sizeOf140
 v25:=Tryz.zeroValue140
 t39:=Tryz.underlying216
 a39:=Tryz.isAgg216
 z39:=Tryz.sizeOf216
 v39:=Tryz.zeroValue216
 t45:=Tryz.underlying266
 a45:=Tryz.isAgg266
 z45:=Tryz.sizeOf266
 v45:=Tryz.zeroValue266
 t46:=Tryz.underlying267
 a46:=Tryz.isAgg267
 z46:=Tryz.sizeOf267
 v46:=Tryz.zeroValue267
 t50:=Tryz.underlying261
 a50:=Tryz.isAgg261
 z50:=Tryz.sizeOf261
 v50:=Tryz.zeroValue261
 t53:=Tryz.underlying273
 a53:=Tryz.isAgg273
 z53:=Tryz.sizeOf273
 v53:=Tryz.zeroValue273
 t55:=Tryz.underlying170
 a55:=Tryz.isAgg170
 z55:=Tryz.sizeOf170
 v55:=Tryz.zeroValue170
 t66:=Tryz.underlying322
 a66:=Tryz.isAgg322
 z66:=Tryz.sizeOf322
 v66:=Tryz.zeroValue322
 t70:=Tryz.underlying326
 a70:=Tryz.isAgg326
 z70:=Tryz.sizeOf326
 v70:=Tryz.zeroValue326
 t76:=Tryz.underlying354
 a76:=Tryz.isAgg354
 z76:=Tryz.sizeOf354
 v76:=Tryz.zeroValue354
 t77:=Tryz.underlying355
 a77:=Tryz.isAgg355
 z77:=Tryz.sizeOf355
 v77:=Tryz.zeroValue355 }
def Tryz.ZA:Go.Shelf.Ren:=⟨fun|6=>83|15=>133|14=>143|28=>208|29=>209|20=>218|21=>219|22=>220|23=>221|24=>222|25=>223|26=>224|27=>225|46=>289|47=>271|48=>272|49=>290|50=>291|57=>328|n=>n,fun|22=>157|24=>57|25=>165|3=>3|39=>216|0=>0|53=>273|55=>170|4=>4|46=>267|45=>266|50=>261|5=>5|9=>9|66=>322|70=>326|76=>354|77=>355|n=>n,fun|n=>n⟩
theorem Tryz.ZB:Go.Proofs.SlLaysF0.n6 Tryz.prog Tryz.ZA:={
 mixed:=by kernel_rfl
 f6:=⟨Tryz.f83.name,by decide,Tryz.func83.trans (congrArg some (by kernel_rfl))⟩
 f14:=⟨Tryz.f143.name,by decide,Tryz.func143.trans (congrArg some (by kernel_rfl))⟩
 f15:=Tryz.func133.trans (congrArg some (by kernel_rfl))
 f20:=⟨Tryz.f218.name,by decide,Tryz.func218.trans (congrArg some (by kernel_rfl))⟩
 f21:=⟨Tryz.f219.name,by decide,Tryz.func219.trans (congrArg some (by kernel_rfl))⟩
 f22:=⟨Tryz.f220.name,by decide,Tryz.func220.trans (congrArg some (by kernel_rfl))⟩
 f23:=⟨Tryz.f221.name,by decide,Tryz.func221.trans (congrArg some (by kernel_rfl))⟩
 f24:=⟨Tryz.f222.name,by decide,Tryz.func222.trans (congrArg some (by kernel_rfl))⟩
 f25:=⟨Tryz.f223.name,by decide,Tryz.func223.trans (congrArg some (by kernel_rfl))⟩
 f26:=⟨Tryz.f224.name,by decide,Tryz.func224.trans (congrArg some (by kernel_rfl))⟩
 f27:=⟨Tryz.f225.name,by decide,Tryz.func225.trans (congrArg some (by kernel_rfl))⟩
 f28:=Tryz.func208.trans (congrArg some (by kernel_rfl))
 f29:=Tryz.func209.trans (congrArg some (by kernel_rfl))
 f46:=⟨Tryz.f289.name,by decide,Tryz.func289.trans (congrArg some (by kernel_rfl))⟩
 f47:=Tryz.func271.trans (congrArg some (by kernel_rfl))
 f48:=Tryz.func272.trans (congrArg some (by kernel_rfl))
 f49:=⟨Tryz.f290.name,by decide,Tryz.func290.trans (congrArg some (by kernel_rfl))⟩
 f50:=⟨Tryz.f291.name,by decide,Tryz.func291.trans (congrArg some (by kernel_rfl))⟩
 f57:=⟨Tryz.f328.name,by decide,Tryz.func328.trans (congrArg some (by kernel_rfl))⟩
 t0:=Tryz.underlying0
 a0:=Tryz.isAgg0
 z0:=Tryz.sizeOf0
 v0:=Tryz.zeroValue0
 t3:=Tryz.underlying3
 a3:=Tryz.isAgg3
 z3:=Tryz.sizeOf3
 v3:=Tryz.zeroValue3
 t4:=Tryz.underlying4
 a4:=Tryz.isAgg4
 z4:=Tryz.sizeOf4
 v4:=Tryz.zeroValue4
 t5:=Tryz.underlying5
 a5:=Tryz.isAgg5
 z5:=Tryz.sizeOf5
 v5:=Tryz.zeroValue5
 t9:=Tryz.underlying9
 a9:=Tryz.isAgg9
 z9:=Tryz.sizeOf9
 v9:=Tryz.zeroValue9
 t22:=Tryz.underlying157
 a22:=Tryz.isAgg157
 z22:=Tryz.sizeOf157
 v22:=Tryz.zeroValue157
 t25:=Tryz.underlying165
 a25:=Tryz.isAgg165
 z25:=Tryz.sizeOf165
 v25:=Tryz.zeroValue165
 t39:=Tryz.underlying216
 a39:=Tryz.isAgg216
 z39:=Tryz.sizeOf216
 v39:=Tryz.zeroValue216
 t45:=Tryz.underlying266
 a45:=Tryz.isAgg266
 z45:=Tryz.sizeOf266
 v45:=Tryz.zeroValue266
 t46:=Tryz.underlying267
 a46:=Tryz.isAgg267
 z46:=Tryz.sizeOf267
 v46:=Tryz.zeroValue267
 t50:=Tryz.underlying261
 a50:=Tryz.isAgg261
 z50:=Tryz.sizeOf261
 v50:=Tryz.zeroValue261
 t53:=Tryz.underlying273
 a53:=Tryz.isAgg273
 z53:=Tryz.sizeOf273
 v53:=Tryz.zeroValue273
 t55:=Tryz.underlying170
 a55:=Tryz.isAgg170
 z55:=Tryz.sizeOf170
 v55:=Tryz.zeroValue170
 t66:=Tryz.underlying322
 a66:=Tryz.isAgg322
 z66:=Tryz.sizeOf322
 v66:=Tryz.zeroValue322
 t70:=Tryz.underlying326
 a70:=Tryz.isAgg326
 z70:=Tryz.sizeOf326
 v70:=Tryz.zeroValue326
 t76:=Tryz.underlying354
 a76:=Tryz.isAgg354
 z76:=Tryz.sizeOf354
 v76:=Tryz.zeroValue354
 t77:=Tryz.underlying355
 a77:=Tryz.isAgg355
 z77:=Tryz.sizeOf355
 v77:=Tryz.zeroValue355 }
def Tryz.ZC:Go.Shelf.Ren:=⟨fun|5=>140|8=>133|7=>217|19=>208|20=>209|10=>280|11=>281|12=>282|13=>283|14=>284|15=>285|16=>286|17=>287|18=>288|30=>325|31=>271|32=>272|33=>326|34=>327|35=>134|40=>342|n=>n,fun|23=>27|25=>3|3=>3|32=>216|22=>27|0=>0|44=>273|46=>170|4=>4|36=>267|35=>266|41=>261|5=>5|9=>9|53=>322|57=>326|63=>354|64=>355|n=>n,fun|n=>n⟩
theorem Tryz.sortInt:Go.Proofs.SlLaysM.n5 Tryz.prog Tryz.ZC:={
 mixed:=by kernel_rfl
 f5:=⟨Tryz.f140.name,by decide,Tryz.func140.trans (congrArg some (by kernel_rfl))⟩
 f7:=⟨Tryz.f217.name,by decide,Tryz.func217.trans (congrArg some (by kernel_rfl))⟩
 f8:=Tryz.func133.trans (congrArg some (by kernel_rfl))
 f10:=⟨Tryz.f280.name,by decide,Tryz.func280.trans (congrArg some (by kernel_rfl))⟩
 f11:=⟨Tryz.f281.name,by decide,Tryz.func281.trans (congrArg some (by kernel_rfl))⟩
 f12:=⟨Tryz.f282.name,by decide,Tryz.func282.trans (congrArg some (by kernel_rfl))⟩
 f13:=⟨Tryz.f283.name,by decide,Tryz.func283.trans (congrArg some (by kernel_rfl))⟩
 f14:=⟨Tryz.f284.name,by decide,Tryz.func284.trans (congrArg some (by kernel_rfl))⟩
 f15:=⟨Tryz.f285.name,by decide,Tryz.func285.trans (congrArg some (by kernel_rfl))⟩
 f16:=⟨Tryz.f286.name,by decide,Tryz.func286.trans (congrArg some (by kernel_rfl))⟩
 f17:=⟨Tryz.f287.name,by decide,Tryz.func287.trans (congrArg some (by kernel_rfl))⟩
 f18:=⟨Tryz.f288.name,by decide,Tryz.func288.trans (congrArg some (by kernel_rfl))⟩
 f19:=Tryz.func208.trans (congrArg some (by kernel_rfl))
 f20:=Tryz.func209.trans (congrArg some (by kernel_rfl))
 f30:=⟨Tryz.f325.name,by decide,Tryz.func325.trans (congrArg some (by kernel_rfl))⟩
 f31:=Tryz.func271.trans (congrArg some (by kernel_rfl))
 f32:=Tryz.func272.trans (congrArg some (by kernel_rfl))
 f33:=⟨Tryz.f326.name,by decide,Tryz.func326.trans (congrArg some (by kernel_rfl))⟩
 f34:=⟨Tryz.f327.name,by decide,Tryz.func327.trans (congrArg some (by kernel_rfl))⟩
 f35:=⟨Tryz.f134.name,by decide,Tryz.func134.trans (congrArg some (by kernel_rfl))⟩
 f40:=⟨Tryz.f342.name,by decide,Tryz.func342.trans (congrArg some (by kernel_rfl))⟩
 t0:=Tryz.underlying0
 a0:=Tryz.isAgg0
 z0:=Tryz.sizeOf0
 v0:=Tryz.zeroValue0
 t3:=Tryz.underlying3
 a3:=Tryz.isAgg3
 z3:=Tryz.sizeOf3
 v3:=Tryz.zeroValue3
 t4:=Tryz.underlying4
 a4:=Tryz.isAgg4
 z4:=Tryz.sizeOf4
 v4:=Tryz.zeroValue4
 t5:=Tryz.underlying5
 a5:=Tryz.isAgg5
 z5:=Tryz.sizeOf5
 v5:=Tryz.zeroValue5
 t9:=Tryz.underlying9
 a9:=Tryz.isAgg9
 z9:=Tryz.sizeOf9
 v9:=Tryz.zeroValue9
 t22:=Tryz.underlying27
 a22:=Tryz.isAgg27
 z22:=Tryz.sizeOf27
 v22:=Tryz.zeroValue27
 t23:=Tryz.underlying27
 a23:=Tryz.isAgg27
 z23:=Tryz.sizeOf27
 v23:=Tryz.zeroValue27
 t25:=Tryz.underlying3
 a25:=Tryz.isAgg3
 z25:=Tryz.sizeOf3
 v25:=Tryz.zeroValue3
 t32:=Tryz.underlying216
 a32:=Tryz.isAgg216
 z32:=Tryz.sizeOf216
 v32:=Tryz.zeroValue216
 t35:=Tryz.underlying266
 a35:=Tryz.isAgg266
 z35:=Tryz.sizeOf266
 v35:=Tryz.zeroValue266
 t36:=Tryz.underlying267
 a36:=Tryz.isAgg267
 z36:=Tryz.sizeOf267
 v36:=Tryz.zeroValue267
 t41:=Tryz.underlying261
 a41:=Tryz.isAgg261
 z41:=Tryz.sizeOf261
 v41:=Tryz.zeroValue261
 t44:=Tryz.underlying273
 a44:=Tryz.isAgg273
 z44:=Tryz.sizeOf273
 v44:=Tryz.zeroValue273
 t46:=Tryz.underlying170
 a46:=Tryz.isAgg170
 z46:=Tryz.sizeOf170
 v46:=Tryz.zeroValue170
 t53:=Tryz.underlying322
 a53:=Tryz.isAgg322
 z53:=Tryz.sizeOf322
 v53:=Tryz.zeroValue322
 t57:=Tryz.underlying326
 a57:=Tryz.isAgg326
 z57:=Tryz.sizeOf326
 v57:=Tryz.zeroValue326
 t63:=Tryz.underlying354
 a63:=Tryz.isAgg354
 z63:=Tryz.sizeOf354
 v63:=Tryz.zeroValue354
 t64:=Tryz.underlying355
 a64:=Tryz.isAgg355
 z64:=Tryz.sizeOf355
 v64:=Tryz.zeroValue355 }
end Go.Proofs
end
section
namespace Go.Proofs.YtlhehdgciafakaaGreatDoor.P
open Go Go.az
set_option maxRecDepth 100000
set_option maxHeartbeats 4000000
def eD(q:bp):Bool:=Nm.valid q.name&&(decide (1<=q.type)&&decide (q.type<=8))
def oa(g:dE):Bool:=Nm.valid g.ar&&(decide (1<=g.key)&&decide (g.key<=1000000))&&(decide (1<=g.nN)&&decide (g.nN<=3))&&El g.bQ g.upto
def np(s:Signed):Bool:=s.sigs.all oa&&eX s.set&&decide (s.sigs.length<=6)
def Fa(a:dJ):Bool:=if a.kind=4 then Nm.valid a.cut else a.cut==[]
def o6(a:dJ):Bool:=(decide (1<=a.kind)&&decide (a.kind<=7))&&decide (a.J.length<=40)&&Fa a&&a.J.all np
def Signed.cR(s:Signed):Prop:=s.set.Fits/\s.sigs.length<=maxLen/\∀ g∈s.sigs,g.ar.length<=maxLen
def dJ.cR(a:dJ):Prop:=a.J.length<=maxLen/\(∀ s∈a.J,s.cR)/\a.cut.length<=maxLen
theorem Fb(n a b:Int):aq E 164 [.int .i64 n,.int .i64 a,.int .i64 b] (· = .bool (decide (a<=n)&&decide (n<=b))):=by
 refine eP Tryz.func164 ?_;repeat' (first|with_reducible(first|refine cX ?_|apply ah<;>intro)|refine gA Tryz.func164 ?_|refine gB ?_|with_reducible rfl)
 all_goals (simp_all;try omega)
theorem aaJ(g:dE)(hf:g.ar.length<=maxLen):aq E 248 [g.enc] (· = .bool (oa g)):=by
 refine eP Tryz.func248 ?_;repeat' (first|with_reducible(first|refine cC (fA _ hf) ?_|refine cC (Fb _ _ _) ?_|refine cC (OC _ _) ?_|refine cX ?_|apply ah<;>intro)|refine gA Tryz.func248 ?_|refine gB ?_|with_reducible rfl)
 all_goals (simp_all[oa];try omega)
theorem aaK(s:Signed)(hf:s.cR):aq E 165 [s.enc] (· = .bool (np s)):=by
 obtain⟨s,l⟩:=s;obtain⟨h1,h2,h3⟩:=hf;simp only at h1 h2 h3;unfold maxLen at h2;unfold np;simp only;show aq E _ [DV.agg [.str s.name,.int .i64 s.type,.int .i64 s.dD,rH s.data,rI l]] _;refine eP F165.h ?_;refine I.lP l.length (rg 2 16) (fun k=>[(3,.d (.int .i64 k))]) (fun _=>[]) (fun k=>k<=l.length/\(l.take k).all oa=true) ⟨ai4 _,rfl⟩ ?_ ?_
 ·exact sZ
 rintro k ⟨hk,aM⟩ IH;refine zA ?_ ?_<;>intro h5
 ·have ai:k<l.length:=zD h5
  obtain⟨x,hx⟩:=aI ai;have c1:=aaJ x (h3 x (aiQ hx));refine gC ?_;refine eM hx (gC ?_);refine ao (c1) (gC ?_);cases hp:oa x
  ·refine vT ?_;rw[dK hx hp];rfl
  ·refine vF ?_;exact I.back (IH (k+1) ⟨by omega,ea aM hx hp⟩ oM) sZ
 ·have aA:l.length<=k:=zD h5
  rw[ajq aA]at aM;rw[aM];have c2:=zp s h1;refine gC ?_;repeat' (first|with_reducible(first|refine cC c2 ?_|refine cX ?_|apply ah<;>intro)|refine gE ?_|with_reducible rfl)
  all_goals (simp_all;try omega)
theorem J4(a:dJ)(hf:a.cR):aq E 96 [a.enc] (· = .bool (o6 a)):=by
 obtain⟨kd,l,cut⟩:=a;obtain⟨h2,h3,h1⟩:=hf;simp only at h1 h2 h3;unfold maxLen at h2;unfold o6 Fa;simp only;show aq E _ [DV.agg [.int .i64 kd,.sl (l.map Signed.enc),.str cut]] _;refine eP F96.h ?_;repeat' (first|with_reducible(first|refine cC (Fb _ _ _) ?_|refine cC (fA cut h1) ?_|refine cX ?_|apply ah<;>intro)|refine gE ?_|with_reducible rfl)
 all_goals try (refine congrArg DV.bool ?_;simp_all;try omega)
 all_goals
  refine gC ?_;refine I.lP l.length ([2,3]++rg 35 14) (fun k=>[(3,.d (.int .i64 k))]) (fun _=>[]) (fun k=>k<=l.length/\(l.take k).all np=true) ⟨ai4 _,rfl⟩ ?_ ?_
  ·exact sZ
  rintro k ⟨hk,aM⟩ IH;refine zA ?_ ?_<;>intro h5
  ·have ai:k<l.length:=zD h5
   obtain⟨x,hx⟩:=aI ai;have c1:=aaK x (h3 x (aiQ hx));refine gC ?_;refine eM hx (gC ?_);refine ao (c1) (gC ?_);cases hp:np x
   ·refine vT ?_;rw[dK hx hp,Bool.and_false]
   ·refine vF ?_;exact I.back (IH (k+1) ⟨by omega,ea aM hx hp⟩ oM) sZ
  ·have aA:l.length<=k:=zD h5
   rw[ajq aA]at aM;refine gC ?_;refine congrArg DV.bool ?_;rw[aM];simp_all;try omega
theorem zL(n a b:Int):aq E 136 [.int .i64 n,.int .i64 a,.int .i64 b] (· = .bool (decide (a<=n)&&decide (n<=b))):=by
 refine eP Tryz.func136 ?_;repeat' (first|with_reducible(first|refine cX ?_|apply ah<;>intro)|refine gA Tryz.func136 ?_|refine gB ?_|with_reducible rfl)
 all_goals (simp_all;try omega)
theorem aaL(g:dE)(hf:g.ar.length<=maxLen):aq E 279 [g.enc] (· = .bool (oa g)):=by
 refine eP Tryz.func279 ?_;repeat' (first|with_reducible(first|refine cC (iP _ hf) ?_|refine cC (zL _ _ _) ?_|refine cX ?_|apply ah<;>intro)|refine gA Tryz.func279 ?_|refine gB ?_|with_reducible rfl)
 all_goals (simp_all[oa,El];try omega)
theorem aaM(g:dE)(hf:g.ar.length<=maxLen):aq E 278 [g.enc] (· = .bool (!oa g)):=by
 have c1:=aaL g hf;refine eP Tryz.func278 ?_;refine ao (c1) ?_;refine gO Tryz.func278 ?_
 with_reducible rfl
theorem aaN(l:List dE)(hl:l.length<=maxLen)(hf:∀ g∈l,g.ar.length<=maxLen):au E 324 [] [.d (.sl (l.map dE.enc)),.fn (.func 278) [] []] (fun a b=>∃ n:Int,a=.d (.int .i64 n)/\b=[]/\decide (n>=0) = !l.all oa):=by
 unfold maxLen at hl;refine aE ?_;refine I.lP l.length ([4,5]++rg 8 11) (fun k=>[(8,.d (.int .i64 k))]) (fun _=>[]) (fun k=>k<=l.length/\(l.take k).all oa=true) ⟨ai4 _,rfl⟩ ?_ ?_
 ·exact sZ
 rintro k ⟨hk,aM⟩ IH;refine zA ?_ ?_<;>intro h5
 ·have ai:k<l.length:=zD h5
  obtain⟨x,hx⟩:=aI ai;have c1:=aaM x (hf x (aiQ hx));refine gC ?_;refine eM hx (gC ?_);refine ao (c1) (gC ?_);cases hp:oa x
  ·refine vT ?_;exact⟨k,rfl,rfl,by rw[dK hx hp];simp⟩
  ·refine vF ?_;exact I.back (IH (k+1) ⟨by omega,ea aM hx hp⟩ oM) sZ
 ·have aA:l.length<=k:=zD h5
  rw[ajq aA]at aM;refine gC ?_;exact⟨_,rfl,rfl,by rw[aM];rfl⟩
theorem aaO(l:List dE)(hl:l.length<=maxLen)(hf:∀ g∈l,g.ar.length<=maxLen):au E 277 [] [.d (.sl (l.map dE.enc)),.fn (.func 278) [] []] (fun a b=>a=.d (.bool (!l.all oa))/\b=[]):=by
 refine aE ?_;refine lB (aaN l hl hf) ?_;rintro r b ⟨n,rfl,rfl,h⟩;refine gC ?_;exact⟨by rw[h],rfl⟩
theorem aaP(s:Signed)(hf:s.cR):aq E 214 [s.enc] (· = .bool (np s)):=by
 obtain⟨s,l⟩:=s;obtain⟨h1,h2,h3⟩:=hf;simp only at h1 h2 h3;unfold np;simp only;show aq E _ [DV.agg [.str s.name,.int .i64 s.type,.int .i64 s.dD,rH s.data,rI l]] _;refine eP F214.h ?_;repeat' (first|with_reducible(first|refine cC (vj s h1) ?_|refine cX ?_|apply ah<;>intro)|refine gE ?_|with_reducible rfl)
 all_goals try (refine congrArg DV.bool ?_;simp_all;try omega)
 refine lB (aaO l h2 h3) ?_;rintro r b ⟨rfl,rfl⟩;refine gC ?_;refine congrArg DV.bool ?_;simp_all;try omega
theorem aaQ(s:Signed)(hf:s.cR):aq E 213 [s.enc] (· = .bool (!np s)):=by
 have c1:=aaP s hf;refine eP Tryz.func213 ?_;refine ao (c1) ?_;refine gO Tryz.func213 ?_
 with_reducible rfl
theorem aaR(l:List Signed)(hl:l.length<=maxLen)(hf:∀ s∈l,s.cR):au E 276 [] [.d (.sl (l.map Signed.enc)),.fn (.func 213) [] []] (fun a b=>∃ n:Int,a=.d (.int .i64 n)/\b=[]/\decide (n>=0) = !l.all np):=by
 unfold maxLen at hl;refine aE ?_;refine I.lP l.length ([4,5]++rg 8 11) (fun k=>[(8,.d (.int .i64 k))]) (fun _=>[]) (fun k=>k<=l.length/\(l.take k).all np=true) ⟨ai4 _,rfl⟩ ?_ ?_
 ·exact sZ
 rintro k ⟨hk,aM⟩ IH;refine zA ?_ ?_<;>intro h5
 ·have ai:k<l.length:=zD h5
  obtain⟨x,hx⟩:=aI ai;have c1:=aaQ x (hf x (aiQ hx));refine gC ?_;refine eM hx (gC ?_);refine ao (c1) (gC ?_);cases hp:np x
  ·refine vT ?_;exact⟨k,rfl,rfl,by rw[dK hx hp];simp⟩
  ·refine vF ?_;exact I.back (IH (k+1) ⟨by omega,ea aM hx hp⟩ oM) sZ
 ·have aA:l.length<=k:=zD h5
  rw[ajq aA]at aM;refine gC ?_;exact⟨_,rfl,rfl,by rw[aM];rfl⟩
theorem aaS(l:List Signed)(hl:l.length<=maxLen)(hf:∀ s∈l,s.cR):au E 212 [] [.d (.sl (l.map Signed.enc)),.fn (.func 213) [] []] (fun a b=>a=.d (.bool (!l.all np))/\b=[]):=by
 refine aE ?_;refine lB (aaR l hl hf) ?_;rintro r b ⟨n,rfl,rfl,h⟩;refine gC ?_;exact⟨by rw[h],rfl⟩
theorem aaT(a:dJ)(hf:a.cR):aq E 137 [a.enc] (· = .bool (o6 a)):=by
 obtain⟨kd,l,cut⟩:=a;obtain⟨h2,h3,h1⟩:=hf;simp only at h1 h2 h3;unfold o6 Fa;simp only;show aq E _ [DV.agg [.int .i64 kd,.sl (l.map Signed.enc),.str cut]] _;refine eP F137.h ?_;repeat' (first|with_reducible(first|refine cC (zL _ _ _) ?_|refine cX ?_|apply ah<;>intro)|refine gE ?_|with_reducible rfl)
 all_goals try (refine congrArg DV.bool ?_;simp_all;try omega)
 refine lB (aaS l h2 h3) ?_;rintro r b ⟨rfl,rfl⟩;refine gC ?_;repeat' (first|with_reducible(first|refine cC (iP cut h1) ?_|refine cX ?_|apply ah<;>intro)|refine gE ?_|with_reducible rfl)
 all_goals
  refine congrArg DV.bool ?_;have e1:l.length<=40:=by simp_all;omega
  generalize l.all np=b at *;cases b<;>simp_all
def J5(q:bp)(a:dJ):DV := .agg [.int .i64 2,.int .i64 0,.int .i64 1,.int .i64 1,.str q.name,.int .i64 q.type,.int .i64 a.kind,.sl (a.J.map Signed.enc),.str a.cut]
theorem QW(q:bp)(a:dJ)(hq:q.name.length<=maxLen)(hf:a.cR):aq E 71 [J5 q a] (· = .bool (eD q&&o6 a)):=by
 unfold J5 eD;have c1:=aaT a hf;refine eP Tryz.func71 ?_;repeat' (first|with_reducible(first|refine cC (zL _ _ _) ?_|refine cC (iP _ hq) ?_|refine cC c1 ?_|refine cX ?_|apply ah<;>intro)|refine gA Tryz.func71 ?_|refine gB ?_|with_reducible rfl)
 all_goals (refine congrArg DV.bool ?_;simp_all;try omega)
theorem Cn(q:bp)(hq:q.name.length<=maxLen):aq E 95 [q.enc] (· = .bool (eD q)):=by
 refine eP Tryz.func95 ?_;repeat' (first|with_reducible(first|refine cC (fA _ hq) ?_|refine cX ?_|apply ah<;>intro)|refine gA Tryz.func95 ?_|refine gB ?_|with_reducible rfl)
 all_goals (simp_all[eD];try omega)
theorem aaU(q:bp)(hq:q.name.length<=maxLen):aq E 77 [q.enc] (· = .bool (eD q)):=by
 refine eP Tryz.func77 ?_;repeat' (first|with_reducible(first|refine cC (iP _ hq) ?_|refine cX ?_|apply ah<;>intro)|refine gA Tryz.func77 ?_|refine gB ?_|with_reducible rfl)
 all_goals (simp_all[eD];try omega)
end Go.Proofs.YtlhehdgciafakaaGreatDoor.P
end
section
namespace Go.Proofs.YtlhehdgciafakaaGreatDoor
open Go Go.Shelf Go.RowKit Go.Proofs
structure cD(b:Nat)(g:Option Nat)(w w':World):Prop where
 os:w'.os=w.os
 tape:w'.tape=w.tape
 output:w'.output=w.output
 size:w.heap.size<=w'.heap.size
 keep:∀ k,k<w.heap.size->k≠b->g≠some k->w'.heap[k]?=w.heap[k]?
theorem cD.refl(b:Nat)(g:Option Nat)(w:World):cD b g w w:=⟨rfl,rfl,rfl,ahL _,fun _ _ _ _=>rfl⟩
theorem cD.trans{b:Nat}{g g2:Option Nat}{w w1 w2:World}(h:cD b g w w1)(k:cD b g2 w1 w2)(hg:g2=g\/∃ n,g2=some n/\w.heap.size<=n):cD b g w w2 :=
 ⟨k.os.trans h.os,k.tape.trans h.tape,k.output.trans h.output,aic h.size k.size,fun i hi hb hn=>by
  rw[k.keep i (ahD hi h.size) hb (by rcases hg with rfl|⟨n,rfl,hle⟩;exact hn;exact fun e=>by cases e;omega)]
  exact h.keep i hi hb hn⟩
theorem cD.set{b:Nat}{g:Option Nat}{w w1:World}(h:cD b g w w1)(i:Nat)(v:Value):cD b g w (w1.setCell ⟨b,i,none⟩ v) :=
 ⟨h.os,h.tape,h.output,by simpa [World.setCell]using h.size,fun k hk hb hn=>by rw[Below.heap_setCell _ _ _ _ hb];exact h.keep k hk hb hn⟩
theorem cD.aeE{b g:Nat}{w w1:World}(h:cD b (some g) w w1)(i:Nat)(v:Value):cD b (some g) w (w1.setCell ⟨g,i,none⟩ v) :=
 ⟨h.os,h.tape,h.output,by simpa [World.setCell]using h.size,fun k hk hb hn=>by rw[Below.heap_setCell _ _ _ _ (fun e=>hn (by rw[e]))];exact h.keep k hk hb hn⟩
theorem cD.row{b g:Nat}{w w1:World}(h:cD b (some g) w w1)(l:Array Value):cD b (some g) w (w1.setRow g l) :=
 ⟨h.os,h.tape,h.output,zD h.size,fun k hk hb hn=>by rw[setRow_other _ _ _ _ (fun e=>hn (by rw[e]))];exact h.keep k hk hb hn⟩
theorem cD.below{b:Nat}{g:Option Nat}{w w1 w2:World}(h:cD b g w w1)(k:Below w1.heap.size w1 w2):cD b g w w2 :=
 ⟨k.os.trans h.os,k.tape.trans h.tape,k.output.trans h.output,aic h.size k.size,fun i hi hb hn=>by rw[k.block i (ahD hi h.size)];exact h.keep i hi hb hn⟩
theorem cD.alloc{b:Nat}{g:Option Nat}{w w1:World}(h:cD b g w w1)(o:Obj):cD b g w (w1.alloc o) :=
 ⟨h.os,h.tape,h.output,aic h.size (by show w1.heap.size<=(w1.heap.push o).size;rw[Array.size_push];omega),fun i hi hb hn=>by rw[Below.heap_alloc w1 o i (ahD hi h.size)];exact h.keep i hi hb hn⟩
theorem cD.fresh{b g2:Nat}{g:Option Nat}{w w1:World}(h:cD b g w w1)(hle:w.heap.size<=g2)(l:Array Value):cD b g w (w1.setRow g2 l) :=
 ⟨h.os,h.tape,h.output,zD h.size,fun k hk hb hn=>by rw[setRow_other _ _ _ _ oM];exact h.keep k hk hb hn⟩
theorem cD.wide{b:Nat}{g:Option Nat}{w w1:World}(h:cD b none w w1):cD b g w w1:=⟨h.os,h.tape,h.output,h.size,fun k hk hb _=>h.keep k hk hb sP⟩
def fa(T:TypeId)(R:Nat->Option Value)(e:TypeId)(b q g:Nat)(bs:List Value)(n:Nat)(w:World):Prop:=∃ cap cur,
 LibA.Three w b q T R (.slice (some ⟨g,0,none⟩) (bs.length+n) cap) (.int .i64 0) (.int .i8 0)/\w.heap[g]?=some (.cells cur e (0,0)) /\
 bs.length+n<=cap/\cap<=maxLen/\cur.size=cap/\cur.toList.take bs.length=bs/\g≠b
theorem aeF{T:TypeId}{R:Nat->Option Value}{e:TypeId}{b q N n eN:Nat}{bs:List Value}{w2:World}{v0 v1:Value}{cells:Array Value}(dP:LibA.Three w2 b q T R v0 (.int .i64 0) (.int .i8 0))(hN:w2.heap[N]?=some (.cells cells e (0,0)))(FH:N≠b)
  (eE:cells.size=eN) (jQ:cells.toList.take bs.length=bs) (hc:bs.length+n<=eN) (hm:eN<=maxLen) :
  fa T R e b q N bs n (((w2.setCell ⟨b,q,none⟩ v1).setCell ⟨b,q+1,none⟩ (.int .i64 0)).setCell ⟨b,q,none⟩ (.slice (some ⟨N,0,none⟩) (bs.length+n) eN)) :=
 ⟨eN,cells,((dP.set0 v1).set1 (.int .i64 0)).set0 _,by rw[Below.heap_setCell _ _ _ _ FH,Below.heap_setCell _ _ _ _ FH,Below.heap_setCell _ _ _ _ FH];exact hN,hc,hm,eE,jQ,FH⟩
section
variable {P:Program} {ρ : Ren}
set_option maxHeartbeats 12800000 in
set_option maxRecDepth 100000 in
theorem K3(L:LaysM.n252 P ρ)(T:TypeId)(R:Nat->Option Value)(b q g l cap n:Nat)(cur:Array Value)(bs:List Value)(w:World)
  (dP:LibA.Three w b q T R (.slice (some ⟨g,0,none⟩) l cap) (.int .i64 0) (.int .i8 0)) (hl:bs.length=l) (hg:w.heap[g]?=some (.cells cur (ρ.t 5) (0,0))) (EJ:l<=cap) (fB:cap<=maxLen) (eE:cur.size=cap)
  (K4:cur.toList.take l=bs) (mE:g≠b) (h1:∀ v∈bs,v.oneCell'=true) (qd:¬ l=0) (hn:1<=n) (sL:cap-l<n) (sx:l+n<=140737488355328) :
  Calls P (ρ.f 252) #[.pointer (some ⟨b,q,none⟩),.int .i64 n] w fun e w'=>e=.returned (.int .i64 l)/\∃ g2,w.heap.size<=g2/\fa T R (ρ.t 5) b q g2 bs n w'/\cD b none w w':=by
 have mixed:=L.mixed;have t5:=L.t5;have a5:=L.a5;have z5:=L.z5;have v5:=L.v5;have t130:=L.t130;have a130:=L.a130;have z130:=L.z130;have v130:=L.v130;have t3:=L.t3;have a3:=L.a3;have z3:=L.z3;have v3:=L.v3;have t4:=L.t4;have a4:=L.a4;have z4:=L.z4;have v4:=L.v4;have t0:=L.t0;have a0:=L.a0;have z0:=L.z0;have v0:=L.v0;have t93:=L.t93;have u93:=run_underlying L.t93;have a93:=L.a93;have z93:=L.z93;have v93:=L.v93;have t131:=L.t131;have a131:=L.a131;have z131:=L.z131;have v131:=L.v131;have t37:=L.t37;have a37:=L.a37;have z37:=L.z37;have v37:=L.v37;have t75:=L.t75;have a75:=L.a75;have z75:=L.z75;have v75:=L.v75;have aeG:∀ args w,(callFunc (ρ.f 181) args).run P w=.ok (.enter (ρ.f 181) args) w:=enters_of L.f181 (by kernel_rfl) rfl;have z8:∀ args w,(callFunc (ρ.f 251) args).run P w=.ok (.enter (ρ.f 251) args) w:=enters_of L.f251 (by kernel_rfl) rfl;have ag1:∀ args w,(callFunc (ρ.f 290) args).run P w=.ok (.enter (ρ.f 290) args) w:=enters_of L.f290 (by kernel_rfl) rfl;have CE:LibA.IsBuffer T R (ρ.t 5) 0 b q bs w:=⟨ai4 _,_,_,dP,⟨by rw[hl,Nat.mul_one],.inr ⟨g,cap,cur,by rw[hl],ai4 _,hg,by omega,fB,by omega,by rw[hl,Nat.mul_one];exact K4⟩⟩,by simp[Value.ownBlock];exact mE⟩;have lK:∀ W,(binOp .eql (ρ.t 37) (.slice (some ⟨g,0,none⟩) l cap) (.slice none 0 0)).run P W=.ok (.bool false) W:=fun W=>Lib.run_eql_slice_some_nil W _ _ _ L.t37
 go_enter L.f252,Body.n252_ntmps ρ
 go_wp2_with (go_at_fn (ρ.f 181);refine(Any.Buffer_Len_at { L with } T R 0 b q bs _ CE).mono ?_)
 rintro e W0 ⟨rfl,k,vM⟩;rw[hl];have fb:LibA.Three W0 b q T R (.slice (some ⟨g,0,none⟩) l cap) (.int .i64 0) (.int .i8 0):=by rw[vM];exact dP
 have c0:W0.cell? ⟨b,q,none⟩=some (.slice (some ⟨g,0,none⟩) l cap):=fb.c0;have c1:W0.cell? ⟨b,q+1,none⟩=some (.int .i64 0):=fb.c1;have f0:W0.frozen? ⟨b,q,none⟩=false:=fb.f q;have f1:W0.frozen? ⟨b,q+1,none⟩=false:=fb.f (q+1);have ue:W0.heap[g]?=some (.cells cur (ρ.t 5) (0,0)):=by rw[vM];exact hg
 have CF:=Lib.hid vM;clear vM CE;have aeH:=fB;unfold maxLen at aeH
 go_wp2_with (go_at_fn (ρ.f 251);refine(Any.Buffer_tryGrow_none_at { L with } b q _ l cap n _ c0 EJ fB sL).mono ?_;rintro e w' ⟨rfl,rfl⟩)
 have CG:cap<=140737488355328:=by omega
 have sU:∀ v∈cur.toList.take l,v.oneCell'=true:=by rw[K4];exact h1
 have hbW:=fb.lt;have hwn:IntKind.i64.wrap (n:Int)=n:=by rw[IntKind.wrap_i64];omega
 go_region_with_o (
   go_at_fn (ρ.f 290)
   refine(Any.bytes_growSlice_row { L with } g l cap n cur _ ?_ eE EJ hn sx CG sU).mono ?_;exact ue;rintro e w2 ⟨eN,cells,rfl,hN,aeJ,jQ,aeK,lY,SO⟩;have jF:LibA.Three w2 b q T R (.slice (some ⟨g,0,none⟩) l cap) (.int .i64 0) (.int .i8 0):=fb.of_heap (SO.block b hbW);have d0:w2.cell? ⟨b,q,none⟩=some (.slice (some ⟨g,0,none⟩) l cap):=jF.c0;have d1:w2.cell? ⟨b,q+1,none⟩=some (.int .i64 0):=jF.c1;have e0:w2.frozen? ⟨b,q,none⟩=false:=jF.f q
   have e1:w2.frozen? ⟨b,q+1,none⟩=false:=jF.f (q+1))
 all_goals (
  go_wp2
  go_ret
  have aeL:w'.heap.size=w.heap.size:=by rw[CF.out];rfl
  have cb:cD b none w w'.drew:=by rw[CF.out];exact⟨rfl,rfl,rfl,ahL _,fun _ _ _ _=>rfl⟩
  have fq:cD b none w w2:=cb.below SO;subst hl
  exact⟨rfl,w'.heap.size,by omega,aeF jF hN oM aeJ (jQ.trans K4) aeK lY,((fq.set q _).set (q+1) _).set q _⟩)
def xV(g g2:Nat)(w:World):Prop:=g2=g\/w.heap.size<=g2
theorem vN{T:TypeId}{R:Nat->Option Value}{e:TypeId}{b q g:Nat}{bs:List Value}{w:World}(h:fa T R e b q g bs 0 w):∃ cap cur,
  LibA.Three w b q T R (.slice (some ⟨g,0,none⟩) bs.length cap) (.int .i64 0) (.int .i8 0)/\w.heap[g]?=some (.cells cur e (0,0))/\bs.length<=cap/\cap<=maxLen/\cur.size=cap/\cur.toList.take bs.length=bs/\g≠b:=h
theorem FI{T:TypeId}{R:Nat->Option Value}{e:TypeId}{b q g n:Nat}{bs:List Value}{w:World}(h:fa T R e b q g bs n w):fa T R e b q g bs n (w.setCell ⟨b,q+2,none⟩ (.int .i8 0)):=by
 obtain⟨cap,cur,h1,h2,h3,h4,h5,h6,h7⟩:=h;exact⟨cap,cur,h1.set2 _,by rw[Below.heap_setCell _ _ _ _ h7];exact h2,h3,h4,h5,h6,h7⟩
theorem aeM{cur:Array Value}{l:Nat}{bs:List Value}{v:Value}(jQ:cur.toList.take l=bs)(hl:bs.length=l)(ai:l<cur.size):(cur.setIfInBounds l v).toList.take (l+1)=bs++[v]:=by
 have l9:l<cur.toList.length:=by rw[ami];exact ai
 rw[Array.toList_setIfInBounds,List.take_add_one,List.take_set_of_le (ahL _),ahQ l9,jQ];rfl
theorem aeN{cur:Array Value}{l:Nat}{bs cs:List Value}(jQ:cur.toList.take l=bs):(cur.toList.take l++cs++cur.toList.drop (l+cs.length)).toArray.toList.take (bs++cs).length=bs++cs:=by
 rw[List.toList_toArray,jQ,List.take_left' rfl]
theorem K5{T:TypeId}{R:Nat->Option Value}{e:TypeId}{b q g:Nat}{bs:List Value}{w:World}{v:Value}(h:fa T R e b q g bs 1 w):fa T R e b q g (bs++[v]) 0 (w.setCell ⟨g,bs.length,none⟩ v):=by
 obtain⟨cap,cur,h1,h2,h3,h4,h5,h6,h7⟩:=h;refine⟨cap,cur.setIfInBounds bs.length v,?_,Lib.heap_setCell_same (i:=bs.length) h2 v,zD h3,h4,zD h5,?_,h7⟩
 ·have:=h1.of_heap (w':=w.setCell ⟨g,bs.length,none⟩ v) (Below.heap_setCell _ _ _ _ (Ne.symm h7))
  simpa using this
 ·have:=aeM (v:=v) h6 rfl oM
  simpa using this
theorem FJ{T:TypeId}{R:Nat->Option Value}{e:TypeId}{b q g n:Nat}{bs cs:List Value}{w:World}{cur:Array Value}(h:fa T R e b q g bs n w)(hg:w.heap[g]?=some (.cells cur e (0,0)))(hn:cs.length=n) :
  fa T R e b q g (bs++cs) 0 (w.setRow g (cur.toList.take bs.length++cs++cur.toList.drop (bs.length+n)).toArray):=by
 obtain⟨cap,cur',h1,h2,h3,h4,h5,h6,h7⟩:=h;rw[hg]at h2;injection h2 with h2;injection h2 with h2 _ _;subst h2;subst hn;refine⟨cap,_,?_,setRow_heap w g cur _ e (0,0) hg,zD h3,h4,?_,aeN h6,h7⟩
 ·have:=h1.of_heap (w':=w.setRow g (cur.toList.take bs.length++cs++cur.toList.drop (bs.length+cs.length)).toArray) (setRow_other _ _ _ _ (Ne.symm h7))
  simpa using this
 ·have hl:cur.toList.length=cur.size:=ami;simp only[List.size_toArray,List.length_append,List.length_take,List.length_drop,hl];omega
set_option maxHeartbeats 6400000 in
set_option maxRecDepth 100000 in
theorem aeO(L:LaysM.n179 P ρ)(T:TypeId)(R:Nat->Option Value)(b q g:Nat)(bs:List Value)(c:Int)(w:World)(h:fa T R (ρ.t 5) b q g bs 0 w)(aL:¬ bs.length=0)(h1:∀ v∈bs,v.oneCell'=true)(sx:bs.length+1<=140737488355328) :
  Calls P (ρ.f 179) #[.pointer (some ⟨b,q,none⟩),.int .u8 c] w fun e w'=>e=.returned .nilIface/\∃ g2,xV g g2 w/\fa T R (ρ.t 5) b q g2 (bs++[.int .u8 c]) 0 w'/\cD b (some g) w w':=by
 have mixed:=L.mixed;have t5:=L.t5;have a5:=L.a5;have z5:=L.z5;have v5:=L.v5;have t130:=L.t130;have a130:=L.a130;have z130:=L.z130;have v130:=L.v130;have t75:=L.t75;have a75:=L.a75;have z75:=L.z75;have v75:=L.v75;have t0:=L.t0;have a0:=L.a0;have z0:=L.z0;have v0:=L.v0;have t93:=L.t93;have u93:=run_underlying L.t93;have a93:=L.a93;have z93:=L.z93;have v93:=L.v93;have t91:=L.t91;have a91:=L.a91;have z91:=L.z91;have v91:=L.v91;have t3:=L.t3;have a3:=L.a3;have z3:=L.z3;have v3:=L.v3;have t131:=L.t131;have a131:=L.a131;have z131:=L.z131;have v131:=L.v131;have t4:=L.t4;have a4:=L.a4;have z4:=L.z4;have v4:=L.v4;have t37:=L.t37;have a37:=L.a37;have z37:=L.z37;have v37:=L.v37;have z8:∀ args w,(callFunc (ρ.f 251) args).run P w=.ok (.enter (ρ.f 251) args) w:=enters_of L.f251 (by kernel_rfl) rfl;have FK:∀ args w,(callFunc (ρ.f 252) args).run P w=.ok (.enter (ρ.f 252) args) w:=enters_of L.f252 (by kernel_rfl) rfl;have h0:=FI h;have cb:cD b (some g) w (w.setCell ⟨b,q+2,none⟩ (.int .i8 0)):=(cD.refl b (some g) w).set _ _;have bP:(w.setCell ⟨b,q+2,none⟩ (.int .i8 0)).heap.size=w.heap.size:=by simp[World.setCell]
 obtain⟨K6,K7,fb,ue,xW,xX,xY,xZ,K8⟩:=vN h;have c2:w.cell? ⟨b,q+2,none⟩=some (.int .i8 0):=fb.c2;have f2:w.frozen? ⟨b,q+2,none⟩=false:=fb.f (q+2);clear fb ue xZ xY xX xW;obtain⟨cap,cur,dP,hg,pb,fB,eE,jQ,mE⟩:=vN h0;clear h0;by_cases hr:1<=cap-bs.length
 ·have hT:=Any.Buffer_tryGrow_room_at { L with } b q (some ⟨g,0,none⟩) bs.length cap 1 _ dP.c0 (dP.f q) pb fB hr
  go_enter L.f179,Body.n179_ntmps ρ
  go_wp2_with (go_at_fn (ρ.f 251);refine hT.mono ?_)
  rintro e W1 ⟨rfl,lZ⟩;have hX:fa T R (ρ.t 5) b q g bs 1 W1:=by rw[lZ];exact⟨cap,cur,dP.set0 _,by rw[Below.heap_setCell _ _ _ _ mE];exact hg,by omega,fB,eE,jQ,mE⟩
  have hK:cD b (some g) w W1:=by rw[lZ];exact cb.set _ _
  clear lZ hT dP hg;obtain⟨eN,l3,jF,jG,vO,lY,x4,qW,-⟩:=id hX;have d0:W1.cell? ⟨b,q,none⟩=some (.slice (some ⟨g,0,none⟩) (bs.length+1) eN):=jF.c0;have ai:bs.length<l3.size:=by omega
  have dg:W1.cell? ⟨g,bs.length,none⟩=some l3[bs.length]:=by rw[Lib.cell_of_heap jG,ah2 ai]
  have fg:W1.frozen? ⟨g,bs.length,none⟩=false:=Lib.frozen_of_heap jG _;unfold maxLen at fB lY
  go_wp2
  go_ret
  exact⟨rfl,g,.inl rfl,K5 hX,hK.aeE _ _⟩
 ·have hT:=Any.Buffer_tryGrow_none_at { L with } b q (some ⟨g,0,none⟩) bs.length cap 1 _ dP.c0 pb fB oM;have hG:=K3 { L with } T R b q g bs.length cap 1 cur bs _ dP rfl hg pb fB eE jQ mE h1 aL (ahL _) oM sx
  go_enter L.f179,Body.n179_ntmps ρ
  go_wp2_with (go_at_fn (ρ.f 251);refine hT.mono ?_;rintro e w' ⟨rfl,rfl⟩)
  go_wp2_with (go_at_fn (ρ.f 252);refine hG.mono ?_)
  rintro e W1 ⟨rfl,g2,K9,hX,l4⟩;have hK:cD b (some g) w W1:=cb.trans l4.wide (.inl rfl);clear hT hG dP hg;obtain⟨eN,l3,jF,jG,vO,lY,x4,qW,-⟩:=id hX;have d0:W1.cell? ⟨b,q,none⟩=some (.slice (some ⟨g2,0,none⟩) (bs.length+1) eN):=jF.c0;have ai:bs.length<l3.size:=by omega
  have dg:W1.cell? ⟨g2,bs.length,none⟩=some l3[bs.length]:=by rw[Lib.cell_of_heap jG,ah2 ai]
  have fg:W1.frozen? ⟨g2,bs.length,none⟩=false:=Lib.frozen_of_heap jG _;unfold maxLen at fB lY
  go_wp2
  go_ret
  refine⟨rfl,g2,.inr oM,K5 hX,⟨hK.os,hK.tape,hK.output,by simpa [World.setCell]using hK.size,fun k hk hb hn=>?_⟩⟩;rw[Below.heap_setCell _ _ _ _ (by show k≠g2;omega)];exact hK.keep k hk hb hn
set_option maxHeartbeats 6400000 in
set_option maxRecDepth 100000 in
theorem aeP(L:LaysM.n178 P ρ)(T:TypeId)(R:Nat->Option Value)(b q g:Nat)(bs:List Value)(s:ByteArray)(w:World)(h:fa T R (ρ.t 5) b q g bs 0 w)(aL:¬ bs.length=0)(hs:¬ s.size=0)(h1:∀ v∈bs,v.oneCell'=true)(sx:bs.length+s.size<=140737488355328) :
  Calls P (ρ.f 178) #[.pointer (some ⟨b,q,none⟩),.string s] w fun e w'=>e=.returned (.tuple #[.int .i64 s.size,.nilIface])/\∃ g2,xV g g2 w/\fa T R (ρ.t 5) b q g2 (bs++Lib.byteCells s.data.toList) 0 w'/\cD b (some g) w w':=by
 have mixed:=L.mixed;have t5:=L.t5;have a5:=L.a5;have z5:=L.z5;have v5:=L.v5;have t130:=L.t130;have a130:=L.a130;have z130:=L.z130;have v130:=L.v130;have t75:=L.t75;have a75:=L.a75;have z75:=L.z75;have v75:=L.v75;have t0:=L.t0;have a0:=L.a0;have z0:=L.z0;have v0:=L.v0;have t93:=L.t93;have u93:=run_underlying L.t93;have a93:=L.a93;have z93:=L.z93;have v93:=L.v93;have t91:=L.t91;have a91:=L.a91;have z91:=L.z91;have v91:=L.v91;have t3:=L.t3;have a3:=L.a3;have z3:=L.z3;have v3:=L.v3;have t131:=L.t131;have a131:=L.a131;have z131:=L.z131;have v131:=L.v131;have t4:=L.t4;have a4:=L.a4;have z4:=L.z4;have v4:=L.v4;have t37:=L.t37;have a37:=L.a37;have z37:=L.z37;have v37:=L.v37;have t9:=L.t9;have a9:=L.a9;have z9:=L.z9;have v9:=L.v9;have z8:∀ args w,(callFunc (ρ.f 251) args).run P w=.ok (.enter (ρ.f 251) args) w:=enters_of L.f251 (by kernel_rfl) rfl;have FK:∀ args w,(callFunc (ρ.f 252) args).run P w=.ok (.enter (ρ.f 252) args) w:=enters_of L.f252 (by kernel_rfl) rfl;have h0:=FI h;have cb:cD b (some g) w (w.setCell ⟨b,q+2,none⟩ (.int .i8 0)):=(cD.refl b (some g) w).set _ _;have bP:(w.setCell ⟨b,q+2,none⟩ (.int .i8 0)).heap.size=w.heap.size:=by simp[World.setCell]
 obtain⟨K6,K7,fb,ue,xW,xX,xY,xZ,K8⟩:=vN h;have c2:w.cell? ⟨b,q+2,none⟩=some (.int .i8 0):=fb.c2;have f2:w.frozen? ⟨b,q+2,none⟩=false:=fb.f (q+2);clear fb ue xZ xY xX xW;obtain⟨cap,cur,dP,hg,pb,fB,eE,jQ,mE⟩:=vN h0;clear h0;have x5:(P.info? (ρ.t 5)).map (·.size)=some 1:=by
  obtain⟨i0,hi,-,iB,-⟩:=info_parts L.i5;rw[hi];simp[iB]
 by_cases hr:s.size<=cap-bs.length
 ·have hT:=Any.Buffer_tryGrow_room_at { L with } b q (some ⟨g,0,none⟩) bs.length cap s.size _ dP.c0 (dP.f q) pb fB hr
  go_enter L.f178,Body.n178_ntmps ρ
  go_wp2_with (go_at_fn (ρ.f 251);refine hT.mono ?_)
  rintro e W1 ⟨rfl,lZ⟩;have hX:fa T R (ρ.t 5) b q g bs s.size W1:=by rw[lZ];exact⟨cap,cur,dP.set0 _,by rw[Below.heap_setCell _ _ _ _ mE];exact hg,by omega,fB,eE,jQ,mE⟩
  have hK:cD b (some g) w W1:=by rw[lZ];exact cb.set _ _
  have CH:w.grownBy W1 (some b):=by rw[lZ];exact Lib.grownBy_setB (Lib.grownBy_setCell w b (q+2) _) q _
  clear lZ;clear hT dP hg;obtain⟨eN,l3,jF,jG,vO,lY,x4,qW,-⟩:=id hX;have d0:W1.cell? ⟨b,q,none⟩=some (.slice (some ⟨g,0,none⟩) (bs.length+s.size) eN):=jF.c0;have La:¬ eN=bs.length:=by omega
  have CI:=Lib.run_copy_row_string (P:=P) W1 (ρ.t 37) (ρ.t 9) (ρ.t 3) (ρ.t 5) g bs.length s.size (eN-bs.length) s l3 (ρ.t 5) L.t37 x5 jG oM oM;have x6:=lY;unfold maxLen at x6;unfold maxLen at fB
  go_wp2
  go_ret2
  refine⟨rfl,g,.inl rfl,?_,hK.row _⟩;have:=FJ (cs:=Lib.byteCells s.data.toList) hX jG (by rw[Lib.byteCells_length,<- Lib.size_eq])
  simpa [qW]using this
 ·have hT:=Any.Buffer_tryGrow_none_at { L with } b q (some ⟨g,0,none⟩) bs.length cap s.size _ dP.c0 pb fB oM;have hG:=K3 { L with } T R b q g bs.length cap s.size cur bs _ dP rfl hg pb fB eE jQ mE h1 aL oM oM sx
  go_enter L.f178,Body.n178_ntmps ρ
  go_wp2_with (go_at_fn (ρ.f 251);refine hT.mono ?_;rintro e w' ⟨rfl,rfl⟩)
  go_wp2_with (go_at_fn (ρ.f 252);refine hG.mono ?_)
  rintro e W1 ⟨rfl,g2,K9,hX,l4⟩;have hK:cD b (some g) w W1:=cb.trans l4.wide (.inl rfl);have CH:w.grownBy W1 (some b):=Lib.grownBy_trans (Lib.grownBy_setCell w b (q+2) _) ⟨l4.os,l4.tape,l4.output,l4.size,fun k hk hb=>l4.keep k hk (fun e=>hb (by rw[e])) sP⟩;have hle:w.heap.size<=g2:=by omega
  clear hT hG dP hg;obtain⟨eN,l3,jF,jG,vO,lY,x4,qW,-⟩:=id hX;have d0:W1.cell? ⟨b,q,none⟩=some (.slice (some ⟨g2,0,none⟩) (bs.length+s.size) eN):=jF.c0;have La:¬ eN=bs.length:=by omega
  have CI:=Lib.run_copy_row_string (P:=P) W1 (ρ.t 37) (ρ.t 9) (ρ.t 3) (ρ.t 5) g2 bs.length s.size (eN-bs.length) s l3 (ρ.t 5) L.t37 x5 jG oM oM;have x6:=lY;unfold maxLen at x6;unfold maxLen at fB
  go_wp2
  go_ret2
  refine⟨rfl,g2,.inr hle,?_,hK.fresh hle _⟩;have:=FJ (cs:=Lib.byteCells s.data.toList) hX jG (by rw[Lib.byteCells_length,<- Lib.size_eq])
  simpa [qW]using this
set_option maxHeartbeats 6400000 in
set_option maxRecDepth 100000 in
theorem aeQ(L:LaysM.n180 P ρ)(T:TypeId)(R:Nat->Option Value)(b q g:Nat)(bs cs:List Value)(a:Addr)(n c:Nat)(w:World)(h:fa T R (ρ.t 5) b q g bs 0 w)(aL:¬ bs.length=0)(hs:¬ n=0)(h1:∀ v∈bs,v.oneCell'=true)
  (hn:cs.length=n) (oF:a.block≠b) (sO:∀ j v,cs[j]?=some v->w.cell? (a.add j)=some v) (SP:∀ v∈cs,v.oneCell'=true) (sx:bs.length+n<=140737488355328) :
  Calls P (ρ.f 180) #[.pointer (some ⟨b,q,none⟩),.slice (some a) n c] w fun e w'=>e=.returned (.tuple #[.int .i64 n,.nilIface])/\∃ g2,xV g g2 w/\fa T R (ρ.t 5) b q g2 (bs++cs) 0 w'/\cD b (some g) w w':=by
 have mixed:=L.mixed;have t5:=L.t5;have a5:=L.a5;have z5:=L.z5;have v5:=L.v5;have t130:=L.t130;have a130:=L.a130;have z130:=L.z130;have v130:=L.v130;have t75:=L.t75;have a75:=L.a75;have z75:=L.z75;have v75:=L.v75;have t0:=L.t0;have a0:=L.a0;have z0:=L.z0;have v0:=L.v0;have t93:=L.t93;have u93:=run_underlying L.t93;have a93:=L.a93;have z93:=L.z93;have v93:=L.v93;have t91:=L.t91;have a91:=L.a91;have z91:=L.z91;have v91:=L.v91;have t3:=L.t3;have a3:=L.a3;have z3:=L.z3;have v3:=L.v3;have t131:=L.t131;have a131:=L.a131;have z131:=L.z131;have v131:=L.v131;have t4:=L.t4;have a4:=L.a4;have z4:=L.z4;have v4:=L.v4;have t37:=L.t37;have a37:=L.a37;have z37:=L.z37;have v37:=L.v37;have z8:∀ args w,(callFunc (ρ.f 251) args).run P w=.ok (.enter (ρ.f 251) args) w:=enters_of L.f251 (by kernel_rfl) rfl;have FK:∀ args w,(callFunc (ρ.f 252) args).run P w=.ok (.enter (ρ.f 252) args) w:=enters_of L.f252 (by kernel_rfl) rfl;have h0:=FI h;have cb:cD b (some g) w (w.setCell ⟨b,q+2,none⟩ (.int .i8 0)):=(cD.refl b (some g) w).set _ _;have bP:(w.setCell ⟨b,q+2,none⟩ (.int .i8 0)).heap.size=w.heap.size:=by simp[World.setCell]
 obtain⟨K6,K7,fb,ue,xW,xX,xY,xZ,K8⟩:=vN h;have c2:w.cell? ⟨b,q+2,none⟩=some (.int .i8 0):=fb.c2;have f2:w.frozen? ⟨b,q+2,none⟩=false:=fb.f (q+2);clear fb ue xZ xY xX xW;obtain⟨cap,cur,dP,hg,pb,fB,eE,jQ,mE⟩:=vN h0;clear h0;have x5:(P.info? (ρ.t 5)).map (·.size)=some 1:=by
  obtain⟨i0,hi,-,iB,-⟩:=info_parts L.i5;rw[hi];simp[iB]
 by_cases hr:n<=cap-bs.length
 ·have hT:=Any.Buffer_tryGrow_room_at { L with } b q (some ⟨g,0,none⟩) bs.length cap n _ dP.c0 (dP.f q) pb fB hr
  go_enter L.f180,Body.n180_ntmps ρ
  go_wp2_with (go_at_fn (ρ.f 251);refine hT.mono ?_)
  rintro e W1 ⟨rfl,lZ⟩;have hX:fa T R (ρ.t 5) b q g bs n W1:=by rw[lZ];exact⟨cap,cur,dP.set0 _,by rw[Below.heap_setCell _ _ _ _ mE];exact hg,by omega,fB,eE,jQ,mE⟩
  have hK:cD b (some g) w W1:=by rw[lZ];exact cb.set _ _
  have CH:w.grownBy W1 (some b):=by rw[lZ];exact Lib.grownBy_setB (Lib.grownBy_setCell w b (q+2) _) q _
  clear lZ;clear hT dP hg;obtain⟨eN,l3,jF,jG,vO,lY,x4,qW,-⟩:=id hX;have d0:W1.cell? ⟨b,q,none⟩=some (.slice (some ⟨g,0,none⟩) (bs.length+n) eN):=jF.c0;have La:¬ eN=bs.length:=by omega
  have Lb:∀ j v,cs[j]?=some v->W1.cell? (a.add j)=some v:=fun j v hj=>CH.cell (sO j v hj) (by rw[Lib.block_add];exact fun e=>oF (Option.some.inj e));have CI:=run_copy_row (P:=P) W1 (ρ.t 37) (ρ.t 37) (ρ.t 3) (ρ.t 5) g bs.length n (eN-bs.length) a n c l3 (ρ.t 5) cs L.t37 x5 jG (by rw[hn];exact(amj n).symm) Lb (by rw[hn];omega) SP;rw[hn]at CI;have x6:=lY;unfold maxLen at x6;unfold maxLen at fB
  go_wp2
  go_ret2
  refine⟨rfl,g,.inl rfl,?_,hK.row _⟩;have:=FJ (cs:=cs) hX jG hn
  simpa [qW]using this
 ·have hT:=Any.Buffer_tryGrow_none_at { L with } b q (some ⟨g,0,none⟩) bs.length cap n _ dP.c0 pb fB oM;have hG:=K3 { L with } T R b q g bs.length cap n cur bs _ dP rfl hg pb fB eE jQ mE h1 aL oM oM sx
  go_enter L.f180,Body.n180_ntmps ρ
  go_wp2_with (go_at_fn (ρ.f 251);refine hT.mono ?_;rintro e w' ⟨rfl,rfl⟩)
  go_wp2_with (go_at_fn (ρ.f 252);refine hG.mono ?_)
  rintro e W1 ⟨rfl,g2,K9,hX,l4⟩;have hK:cD b (some g) w W1:=cb.trans l4.wide (.inl rfl);have CH:w.grownBy W1 (some b):=Lib.grownBy_trans (Lib.grownBy_setCell w b (q+2) _) ⟨l4.os,l4.tape,l4.output,l4.size,fun k hk hb=>l4.keep k hk (fun e=>hb (by rw[e])) sP⟩;have hle:w.heap.size<=g2:=by omega
  clear hT hG dP hg;obtain⟨eN,l3,jF,jG,vO,lY,x4,qW,-⟩:=id hX;have d0:W1.cell? ⟨b,q,none⟩=some (.slice (some ⟨g2,0,none⟩) (bs.length+n) eN):=jF.c0;have La:¬ eN=bs.length:=by omega
  have Lb:∀ j v,cs[j]?=some v->W1.cell? (a.add j)=some v:=fun j v hj=>CH.cell (sO j v hj) (by rw[Lib.block_add];exact fun e=>oF (Option.some.inj e));have CI:=run_copy_row (P:=P) W1 (ρ.t 37) (ρ.t 37) (ρ.t 3) (ρ.t 5) g2 bs.length n (eN-bs.length) a n c l3 (ρ.t 5) cs L.t37 x5 jG (by rw[hn];exact(amj n).symm) Lb (by rw[hn];omega) SP;rw[hn]at CI;have x6:=lY;unfold maxLen at x6;unfold maxLen at fB
  go_wp2
  go_ret2
  refine⟨rfl,g2,.inr hle,?_,hK.fresh hle _⟩;have:=FJ (cs:=cs) hX jG hn
  simpa [qW]using this
set_option maxHeartbeats 12800000 in
set_option maxRecDepth 100000 in
theorem aeR(L:LaysM.n252 P ρ)(T:TypeId)(R:Nat->Option Value)(b q:Nat)(w:World)(dP:LibA.Three w b q T R (.slice none 0 0) (.int .i64 0) (.int .i8 0)) :
  Calls P (ρ.f 252) #[.pointer (some ⟨b,q,none⟩),.int .i64 1] w fun e w'=>e=.returned (.int .i64 0)/\∃ g2,w.heap.size<=g2/\fa T R (ρ.t 5) b q g2 [] 1 w'/\cD b none w w':=by
 have mixed:=L.mixed;have t5:=L.t5;have a5:=L.a5;have z5:=L.z5;have v5:=L.v5;have t130:=L.t130;have a130:=L.a130;have z130:=L.z130;have v130:=L.v130;have t3:=L.t3;have a3:=L.a3;have z3:=L.z3;have v3:=L.v3;have t4:=L.t4;have a4:=L.a4;have z4:=L.z4;have v4:=L.v4;have t0:=L.t0;have a0:=L.a0;have z0:=L.z0;have v0:=L.v0;have t93:=L.t93;have u93:=run_underlying L.t93;have a93:=L.a93;have z93:=L.z93;have v93:=L.v93;have t131:=L.t131;have a131:=L.a131;have z131:=L.z131;have v131:=L.v131;have t37:=L.t37;have a37:=L.a37;have z37:=L.z37;have v37:=L.v37;have t75:=L.t75;have a75:=L.a75;have z75:=L.z75;have v75:=L.v75;have aeG:∀ args w,(callFunc (ρ.f 181) args).run P w=.ok (.enter (ρ.f 181) args) w:=enters_of L.f181 (by kernel_rfl) rfl;have z8:∀ args w,(callFunc (ρ.f 251) args).run P w=.ok (.enter (ρ.f 251) args) w:=enters_of L.f251 (by kernel_rfl) rfl;obtain⟨i0,hi,BJ,iB,iW⟩:=info_parts L.i5;obtain⟨M,hM⟩:∃ M,M=madeCells (Value.int .u8 0).cells ((64:Int).toNat*i0.size):=⟨_,rfl⟩;have hMs:M.size=64:=by rw[hM,size_madeCells,iB];rfl
 have nk:∀ W:World,(Instr.makeSlice (ρ.t 37) (.int .i64 1) (.int .i64 64)).run P W=.ok (.slice (some ⟨W.heap.size,0,none⟩) 1 64) (W.alloc (.cells M (ρ.t 5))):=fun W=>by
  have h:=run_makeSlice (P:=P) W (ρ.t 37) (ρ.t 5) i0 (.int .u8 0) L.t37 hi BJ .i64 .i64 1 64 oM oM (by rw[iB];decide) (by rw[iW];decide) dC;rw[<- hM]at h
  simpa using h
 clear hM;have CE:LibA.IsBuffer T R (ρ.t 5) 0 b q [] w:=⟨ai4 _,_,_,dP,World.ownsRow_nil _ _ _ _,by simp[Value.ownBlock]⟩;have lK:∀ W,(binOp .eql (ρ.t 37) (.slice none 0 0) (.slice none 0 0)).run P W=.ok (.bool true) W:=fun W=>Lib.run_eql_slice_nil_nil W _ _ L.t37
 go_enter L.f252,Body.n252_ntmps ρ
 go_wp2_with (go_at_fn (ρ.f 181);refine(Any.Buffer_Len_at { L with } T R 0 b q [] _ CE).mono ?_)
 rintro e W0 ⟨rfl,k,vM⟩;have fb:LibA.Three W0 b q T R (.slice none 0 0) (.int .i64 0) (.int .i8 0):=by rw[vM];exact dP
 have c0:W0.cell? ⟨b,q,none⟩=some (.slice none 0 0):=fb.c0;have c1:W0.cell? ⟨b,q+1,none⟩=some (.int .i64 0):=fb.c1;have f0:W0.frozen? ⟨b,q,none⟩=false:=fb.f q;have f1:W0.frozen? ⟨b,q+1,none⟩=false:=fb.f (q+1);have Lc:=fb.lt;have c0a:∀ o,(W0.alloc o).cell? ⟨b,q,none⟩=some (.slice none 0 0):=fun o=>(World.cell?_of_block (a:=⟨b,q,none⟩) (Below.heap_alloc W0 o b Lc)).trans c0;have f0a:∀ o,(W0.alloc o).frozen? ⟨b,q,none⟩=false:=fun o=>(World.frozen?_of_block (a:=⟨b,q,none⟩) (Below.heap_alloc W0 o b Lc)).trans f0;have CF:=Lib.hid vM;clear vM CE
 go_wp2_with (go_at_fn (ρ.f 251);refine(Any.Buffer_tryGrow_none_at { L with } b q _ 0 0 1 _ c0 (ahL _) (ai4 _) oM).mono ?_;rintro e w' ⟨rfl,rfl⟩)
 go_ret
 have aeL:w'.heap.size=w.heap.size:=by rw[CF.out];rfl
 have cb:cD b none w w':=by rw[CF.out];exact⟨rfl,rfl,rfl,ahL _,fun _ _ _ _=>rfl⟩
 have SQ:∀ v,(w'.setCell ⟨b,q,none⟩ v).heap.size=w'.heap.size:=fun v=>by simp[World.setCell]
 refine⟨rfl,w'.heap.size,by omega,⟨64,M,?_,?_,by decide,by decide,hMs,rfl,by omega⟩,(cb.set q _).alloc _⟩
 ·exact(fb.set0 _).of_heap (Below.heap_alloc _ _ b (by rw[SQ];exact Lc))
 ·have h:=heap_alloc_new (w'.setCell ⟨b,q,none⟩ (.slice (some ⟨w'.heap.size,0,none⟩) 1 64)) (.cells M (ρ.t 5));rw[SQ]at h;exact h
set_option maxHeartbeats 6400000 in
set_option maxRecDepth 100000 in
theorem aeT(L:LaysM.n179 P ρ)(T:TypeId)(R:Nat->Option Value)(b q:Nat)(c:Int)(w:World)(fb:LibA.Three w b q T R (.slice none 0 0) (.int .i64 0) (.int .i8 0)) :
  Calls P (ρ.f 179) #[.pointer (some ⟨b,q,none⟩),.int .u8 c] w fun e w'=>e=.returned .nilIface/\∃ g2,w.heap.size<=g2/\fa T R (ρ.t 5) b q g2 [.int .u8 c] 0 w'/\cD b none w w':=by
 have mixed:=L.mixed;have t5:=L.t5;have a5:=L.a5;have z5:=L.z5;have v5:=L.v5;have t130:=L.t130;have a130:=L.a130;have z130:=L.z130;have v130:=L.v130;have t75:=L.t75;have a75:=L.a75;have z75:=L.z75;have v75:=L.v75;have t0:=L.t0;have a0:=L.a0;have z0:=L.z0;have v0:=L.v0;have t93:=L.t93;have u93:=run_underlying L.t93;have a93:=L.a93;have z93:=L.z93;have v93:=L.v93;have t91:=L.t91;have a91:=L.a91;have z91:=L.z91;have v91:=L.v91;have t3:=L.t3;have a3:=L.a3;have z3:=L.z3;have v3:=L.v3;have t131:=L.t131;have a131:=L.a131;have z131:=L.z131;have v131:=L.v131;have t4:=L.t4;have a4:=L.a4;have z4:=L.z4;have v4:=L.v4;have t37:=L.t37;have a37:=L.a37;have z37:=L.z37;have v37:=L.v37;have z8:∀ args w,(callFunc (ρ.f 251) args).run P w=.ok (.enter (ρ.f 251) args) w:=enters_of L.f251 (by kernel_rfl) rfl;have FK:∀ args w,(callFunc (ρ.f 252) args).run P w=.ok (.enter (ρ.f 252) args) w:=enters_of L.f252 (by kernel_rfl) rfl;have c2:w.cell? ⟨b,q+2,none⟩=some (.int .i8 0):=fb.c2;have f2:w.frozen? ⟨b,q+2,none⟩=false:=fb.f (q+2);have dP:=fb.set2 (.int .i8 0);have cb:cD b none w (w.setCell ⟨b,q+2,none⟩ (.int .i8 0)):=(cD.refl b none w).set _ _;have bP:(w.setCell ⟨b,q+2,none⟩ (.int .i8 0)).heap.size=w.heap.size:=by simp[World.setCell]
 have hT:=Any.Buffer_tryGrow_none_at { L with } b q none 0 0 1 _ dP.c0 (ahL _) (ai4 _) oM;have hG:=aeR { L with } T R b q _ dP;clear dP fb
 go_enter L.f179,Body.n179_ntmps ρ
 go_wp2_with (go_at_fn (ρ.f 251);refine hT.mono ?_;rintro e w' ⟨rfl,rfl⟩)
 go_wp2_with (go_at_fn (ρ.f 252);refine hG.mono ?_)
 rintro e W1 ⟨rfl,g2,K9,hX,l4⟩;have hK:cD b none w W1:=cb.trans l4 (.inl rfl);clear hT hG;obtain⟨eN,l3,jF,jG,vO,lY,x4,qW,-⟩:=id hX;have ag5:1<=eN:=vO;have d0:W1.cell? ⟨b,q,none⟩=some (.slice (some ⟨g2,0,none⟩) 1 eN):=jF.c0;have ai:0<l3.size:=by omega
 have dg:W1.cell? ⟨g2,0,none⟩=some l3[0]:=by rw[Lib.cell_of_heap jG,ah2 ai]
 have fg:W1.frozen? ⟨g2,0,none⟩=false:=Lib.frozen_of_heap jG _;unfold maxLen at lY
 go_wp2
 go_ret
 refine⟨rfl,g2,by omega,K5 hX,⟨hK.os,hK.tape,hK.output,by simpa [World.setCell]using hK.size,fun k hk hb hn=>?_⟩⟩;rw[Below.heap_setCell _ _ _ _ (by show k≠g2;omega)];exact hK.keep k hk hb hn
set_option maxHeartbeats 6400000 in
set_option maxRecDepth 100000 in
theorem aeU(L:LaysM.n178 P ρ)(T:TypeId)(R:Nat->Option Value)(b q g:Nat)(bs:List Value)(s:ByteArray)(w:World)(h:fa T R (ρ.t 5) b q g bs 0 w)(hs:s.size=0) :
  Calls P (ρ.f 178) #[.pointer (some ⟨b,q,none⟩),.string s] w fun e w'=>e=.returned (.tuple #[.int .i64 0,.nilIface])/\fa T R (ρ.t 5) b q g bs 0 w'/\cD b (some g) w w':=by
 have mixed:=L.mixed;have t5:=L.t5;have a5:=L.a5;have z5:=L.z5;have v5:=L.v5;have t130:=L.t130;have a130:=L.a130;have z130:=L.z130;have v130:=L.v130;have t75:=L.t75;have a75:=L.a75;have z75:=L.z75;have v75:=L.v75;have t0:=L.t0;have a0:=L.a0;have z0:=L.z0;have v0:=L.v0;have t93:=L.t93;have u93:=run_underlying L.t93;have a93:=L.a93;have z93:=L.z93;have v93:=L.v93;have t91:=L.t91;have a91:=L.a91;have z91:=L.z91;have v91:=L.v91;have t3:=L.t3;have a3:=L.a3;have z3:=L.z3;have v3:=L.v3;have t131:=L.t131;have a131:=L.a131;have z131:=L.z131;have v131:=L.v131;have t4:=L.t4;have a4:=L.a4;have z4:=L.z4;have v4:=L.v4;have t37:=L.t37;have a37:=L.a37;have z37:=L.z37;have v37:=L.v37;have t9:=L.t9;have a9:=L.a9;have z9:=L.z9;have v9:=L.v9;have z8:∀ args w,(callFunc (ρ.f 251) args).run P w=.ok (.enter (ρ.f 251) args) w:=enters_of L.f251 (by kernel_rfl) rfl;have FK:∀ args w,(callFunc (ρ.f 252) args).run P w=.ok (.enter (ρ.f 252) args) w:=enters_of L.f252 (by kernel_rfl) rfl;have h0:=FI h;have cb:cD b (some g) w (w.setCell ⟨b,q+2,none⟩ (.int .i8 0)):=(cD.refl b (some g) w).set _ _;obtain⟨K6,K7,fb,ue,xW,xX,xY,xZ,K8⟩:=vN h;have c2:w.cell? ⟨b,q+2,none⟩=some (.int .i8 0):=fb.c2;have f2:w.frozen? ⟨b,q+2,none⟩=false:=fb.f (q+2);clear fb ue xZ xY xX xW;obtain⟨cap,cur,dP,hg,pb,fB,eE,jQ,mE⟩:=vN h0;clear h0;have x5:(P.info? (ρ.t 5)).map (·.size)=some 1:=by
  obtain⟨i0,hi,-,iB,-⟩:=info_parts L.i5;rw[hi];simp[iB]
 have hce:∀ d xc BI W,(Builtin.copy_ #[(ρ.t 37),(ρ.t 9)] (ρ.t 3) #[.slice d xc BI,.string s]).run P W=.ok (goInt 0) W:=fun d xc BI W=>Lib.run_copy_empty_string W (ρ.t 37) (ρ.t 9) (ρ.t 3) (ρ.t 5) d xc BI s L.t37 (by rw[x5];rfl) hs;have hT:=Any.Buffer_tryGrow_room_at { L with } b q (some ⟨g,0,none⟩) bs.length cap 0 _ dP.c0 (dP.f q) pb fB (ai4 _)
 go_enter L.f178,Body.n178_ntmps ρ
 go_wp2_with (go_at_fn (ρ.f 251);refine hT.mono ?_)
 rintro e W1 ⟨rfl,lZ⟩;have hX:fa T R (ρ.t 5) b q g bs 0 W1:=by rw[lZ];exact⟨cap,cur,dP.set0 _,by rw[Below.heap_setCell _ _ _ _ mE];exact hg,by omega,fB,eE,jQ,mE⟩
 have hK:cD b (some g) w W1:=by rw[lZ];exact cb.set _ _
 clear lZ hT dP hg;obtain⟨eN,l3,jF,jG,vO,lY,x4,qW,-⟩:=id hX;have d0:W1.cell? ⟨b,q,none⟩=some (.slice (some ⟨g,0,none⟩) bs.length eN):=jF.c0;unfold maxLen at fB lY
 go_wp2
 all_goals
  go_ret2
  first|exact⟨rfl,hX,hK⟩|exact⟨by simp[hs],hX,hK⟩
end
end Go.Proofs.YtlhehdgciafakaaGreatDoor
end
section
namespace Go.az
open Go Go.RowKit
structure CP(E:Env)(o:Oper)(c0 c:Cx)(a:Act)(ts:Nat × Nat)(l':List DV)(rest loops:List br)(c':Cx)(blk cap:Nat):Prop where
 afw:Gm E.P o a c.w (.slice (some ⟨blk,0,none⟩) l'.length cap) c'.w
 heap:c'.heap=c.heap++[.gone]
 ok:aO E.G c'
 vr:∀ x v,VR c x v->VR c' x v
 rel:dy c0 c'
 rows:dp c0.w.heap.size c' (.row ⟨blk,cap,ts,l'⟩::rest) loops
theorem FR{E:Env}{o:Oper}{c0 c:Cx}{a:Act}{sm:List AV}{ts:Nat × Nat}{l':List DV}{rest loops:List br}(h1:aO E.G c)(hr:dy c0 c)(bz:dp c0.w.heap.size c rest loops)(h4:VS c sm a.tmps){h:List ae}(h2:c.heap=h)
  (hX:bE E o.op sm h (.own h.length 1) (h++[.arr 1 ts l'])) (aL:l'≠[]) (hn:c0.heap.length<=h.length):∃ c' blk cap,CP E o c0 c a ts l' rest loops c' blk cap:=by
 obtain⟨c1,v,k1,k2,k3,k4,k5⟩:=hX o c a rfl h2 h1 h4;subst h2;have hb:c1.heap[c.heap.length]?=some (.arr 1 ts l'):=by rw[k2];simp
 rcases lu hb k4 with⟨blk,cap,r1,rfl⟩|⟨rfl,-,-⟩
 case inr=>exact absurd rfl aL
 obtain⟨q0,q1,q2⟩:=k3.box _ _ hb;rcases q2 with⟨q2,-⟩|⟨jL,iV,vs,q2,q3,q4,q5,q6,q7⟩
 ·rw[r1]at q2;cases q2
 rw[r1]at q2;cases q2;have xb:=hr.step k5;have x8:=bz.step h1 k5;have eK:=D3 xb r1 hn;refine⟨c1.dj c.heap.length blk,blk,cap,k1,?_,k3.dj r1,fun x v hv=>tn r1 (k5.vr hv),xb.dj r1 hn,⟨⟨fun r qz=>?_,?_⟩,fun g hg=>(ai3.1 hg).elim (fun e=>by subst e;trivial) (bz.flat g)⟩⟩
 ·show c1.heap.set c.heap.length .gone=_;rw[k2,ak4 _ _ (ahL _),ajw,amo]
 ·rcases ai3.1 qz with rfl|qz
  ·show nC c0.w.heap.size (c1.dj c.heap.length blk) ⟨blk,cap,ts,l'⟩
   exact⟨Or.inr rfl,eK,q0,q1,vs,q3,q4,q5,q6,fun i j e x he hx=>by
    obtain⟨v,k1,k2,k3⟩:=q7 i j e x he hx
    exact⟨v,k1,k2,wZ r1 k3⟩⟩
  ·exact(x8.all.dj r1).each r qz
 ·rw[aie,ahJ];refine aii.2 ⟨by simp[br.cy],x8.all.nodup,fun x hx y hy e=>?_⟩;simp[br.cy]at hx;subst hx;subst e;exact D4 x8.all k3 r1 hy
theorem Tk{E:Env}{o:Oper}{c0 c:Cx}{a:Act}{sm:List AV}{bG:Row}{l':List DV}{rest loops:List br}(h1:aO E.G c)(hr:dy c0 c)(bz:dp c0.w.heap.size c (.row bG::rest) loops)(h4:VS c sm a.tmps){h:List ae}(h2:c.heap=h){d:Nat}
  (hd:sm[d]?=some (.d (.raw (.slice (some ⟨bG.blk,0,none⟩) bG.l.length bG.cap)))) (hX:bE E o.op (sm.set d (.own h.length 0)) (h++[.arr 0 bG.ts bG.l]) (.own h.length 1) (h++[.arr 1 bG.ts l'])) (aL:l'≠[]) (hn:c0.heap.length<=h.length):∃ c' blk cap,CP E o c0 c a bG.ts l' rest loops c' blk cap:=by
 subst h2;obtain⟨r1,r2,r3⟩:=dp.w7 (g1:=[]) bz;have r2:nC c0.w.heap.size c bG:=r2;have BG:bG.blk ∉ (rest++loops).flatMap br.cy:=r3 _ (by simp[br.cy]);have cZ:(c.dc (.arr 0 bG.ts bG.l) bG.blk bG.cap).heap[c.heap.length]?=some (.arr 0 bG.ts bG.l):=by simp[Cx.dc]
 have bN:(c.dc (.arr 0 bG.ts bG.l) bG.blk bG.cap).own c.heap.length=some (bG.blk,bG.cap):=by simp[Cx.dc]
 have aV:aO E.G (c.dc (.arr 0 bG.ts bG.l) bG.blk bG.cap):=h1.dc r2.aD (by
  obtain⟨q1,q2,q3,q4,vs,q5,q6,q7,q8,q9⟩:=r2;refine⟨q3,q4,.inr ⟨bG.blk,bG.cap,vs,bN,q5,q6,q7,q8,fun i j e x he hx=>?_⟩⟩;obtain⟨v,k1,k2,k3⟩:=q9 i j e x he hx
  exact⟨v,k1,k2,D2 h1 q1 k3⟩)
 have fw:VS (c.dc (.arr 0 bG.ts bG.l) bG.blk bG.cap) sm a.tmps:=⟨h4.1,fun i x v hx hv=>wY h1 r2.aD (h4.2 i x v hx hv)⟩;have afx:VS (c.dc (.arr 0 bG.ts bG.l) bG.blk bG.cap) (sm.set d (.own c.heap.length 0)) a.tmps:=D5 fw fun v hv=>by
  have fu:=h4.2 d _ v hd hv;cases fu with
  |d _ _ hq =>
   cases hq;exact .own _ 0 bG.ts bG.l bG.blk bG.cap cZ bN
 obtain⟨c1,v,k1,k2,k3,k4,k5⟩:=hX o _ a rfl rfl aV afx;have hb:c1.heap[c.heap.length]?=some (.arr 1 bG.ts l'):=by rw[k2];simp
 rcases lu hb k4 with⟨blk,cap,uj,rfl⟩|⟨rfl,-,-⟩
 case inr=>exact absurd rfl aL
 obtain⟨q0,q1,q2⟩:=k3.box _ _ hb;rcases q2 with⟨q2,-⟩|⟨jL,iV,vs,q2,q3,q4,q5,q6,q7⟩
 ·rw[uj]at q2;cases q2
 rw[uj]at q2;cases q2;have rZ:dy c0 (c.dc (.arr 0 bG.ts bG.l) bG.blk bG.cap):=hr.dc r2.new;have afy:dp c0.w.heap.size (c.dc (.arr 0 bG.ts bG.l) bG.blk bG.cap) rest loops:=⟨r1.all.dc h1 r2.aD BG,r1.flat⟩;have xb:=rZ.step k5;have x8:=afy.step aV k5;have eK:=D3 xb uj hn;refine⟨c1.dj c.heap.length blk,blk,cap,k1,?_,k3.dj uj,fun x v hv=>tn uj (k5.vr (wY h1 r2.aD hv)),xb.dj uj hn,⟨⟨fun r qz=>?_,?_⟩,fun g hg=>(ai3.1 hg).elim (fun e=>by subst e;trivial) (fun hg=>bz.flat g (aip _ hg))⟩⟩
 ·show c1.heap.set c.heap.length .gone=_;rw[k2,ak4 _ _ (ahL _),ajw,amo]
 ·rcases ai3.1 qz with rfl|qz
  ·show nC c0.w.heap.size (c1.dj c.heap.length blk) ⟨blk,cap,bG.ts,l'⟩
   exact⟨Or.inr rfl,eK,q0,q1,vs,q3,q4,q5,q6,fun i j e x he hx=>by
    obtain⟨v,k1,k2,k3⟩:=q7 i j e x he hx
    exact⟨v,k1,k2,wZ uj k3⟩⟩
  ·exact(x8.all.dj uj).each r qz
 ·rw[aie,ahJ];refine aii.2 ⟨by simp[br.cy],x8.all.nodup,fun x hx y hy e=>?_⟩;simp[br.cy]at hx;subst hx;subst e;exact D4 x8.all k3 uj hy
section
variable {E:Env} {ops:Array Oper} {aj:FuncId} {R:cT} {s:List AV} {h:List ae} {lits:List Nat}
theorem AW.afz{id:Nat}{k:List aY}(hm:E.P.follows .mixedOrders=true)
  (H:∀ (c0 c:Cx) (t:Array Value) (qb:List (Array Value)) (Q:Exit->Act->World->Prop),c0.heap.length=R.n ->
   (∀ (a:Act) (c':Cx) (s':List AV) (h':List ae) (vQ:List br),AW E R.fx.f0 ⟨⟨aj,R.fx.cI,R.fx.aS⟩,k,s'⟩ R.fx.cls h' ⟨R.n,R.Q,vQ,R.fx⟩->aO E.G c'->c'.heap=h'->a.defers=[]->VS c' s' a.tmps->dy c0 c'->dp c0.w.heap.size c' vQ R.fx.loops->CR c' R.fx.cls qb->Q .normal a c'.w) ->
   aO E.G c->c.heap=h->VS c s t->dy c0 c->dp c0.w.heap.size c R.rows R.fx.loops->CR c R.fx.cls qb->wpAny E.P .any ops Q ops.size (Array.replicate ops.size false) ⟨t,[]⟩ c.w) :
  AW E R.fx.f0 ⟨⟨aj,R.fx.cI,R.fx.aS⟩,.code (.region id ops true)::k,s⟩ R.fx.cls h R:=by
 unfold AW;intro c0 c t ts h0 h1 h2 h3 hr bz h4 h5 cs;have hx:Proofs.YtlhehdgciafakaaGreatDoor.Ext c.w { c.w with drawn:=c.w.drawn+1 }:=⟨rfl,rfl,rfl,ahL _,fun _ _=>rfl⟩;obtain⟨g1,g2⟩:=h3.grow hx
 let Q:Exit->Act->World->Prop:=fun e a w=>(e=.normal/\a.defers=[])/\∃ (c':Cx) (s':List AV) (h':List ae) (vQ:List br),AW E R.fx.f0 ⟨⟨aj,R.fx.cI,R.fx.aS⟩,k,s'⟩ R.fx.cls h' ⟨R.n,R.Q,vQ,R.fx⟩/\aO E.G c'/\c'.heap=h'/\VS c' s' a.tmps/\dy c0 c'/\dp c0.w.heap.size c' vQ R.fx.loops/\CR c' R.fx.cls ts/\w=c'.w
 have H6:(Code.region id ops true).wpIn (wR R.fx.cI) 0 E.P (fun e a w=>a.defers=marks R.fx.aS/\Q e ⟨a.tmps,[]⟩ w) ⟨t,marks R.fx.aS⟩ c.w:=by
  refine wpIn_region_draw fun tt=>?_;simp only[Region.schedule,hm,Bool.true_or,if_true];refine Bv R.fx.cI (marks R.fx.aS) (fun e a w he=>he.1) _ t _ (wpAny_sound ops.size tt _ _ _ ?_);exact H c0 (c.fe { c.w with drawn:=c.w.drawn+1 }) t ts Q h0 (fun a c' s' h' vQ hK r1 r2 r3 r4 r5 r6 r7=>⟨⟨rfl,r3⟩,c',s',h',vQ,hK,r1,r2,r4,r5,r6,r7,rfl⟩) g1 h2 (g2.vs h4) (hr.step g2) (bz.step h3 g2) (g2.cr h5)
 obtain⟨e,a',w',⟨hd,⟨⟨rfl,-⟩,c',s',h',vQ,hA,r1,r2,r4,r5,r6,r7,rfl⟩⟩,H7⟩:=H6 (bf ⟨aj,R.fx.cI,R.fx.aS⟩) (k.map aY.bO) (fG R.fx.cls ts++cs) rfl trivial (fun d hd=>by cases hd);unfold AW at hA;obtain⟨c2,fr,r,v,q1,q2,q3,wu,q4,q5,q6⟩:=hA c0 c' a'.tmps ts h0 (eV h1) r2 r1 r5 r6 r4 r7 cs;refine⟨c2,fr,r,v,q1,q2,q3,wu,?_,q5,q6⟩;have A8:a'=⟨a'.tmps,marks R.fx.aS⟩:=by cases a';simp only at hd;subst hd;rfl
 have:Steps E.P (lone ((bf ⟨aj,R.fx.cI,R.fx.aS⟩).atR ⟨t,marks R.fx.aS⟩ (.code (.region id ops true)::k.map aY.bO)) (fG R.fx.cls ts++cs) c.w) (lone ((bf ⟨aj,R.fx.cI,R.fx.aS⟩).atR a' (k.map aY.bO)) (fG R.fx.cls ts++cs) c'.w):=StepsIn.steps H7;rw[A8]at this;exact this.trans q4
end
def Ll(E:Env)(ops:Array Oper)(h:List ae)(K:List AV->Prop):List Oper->List AV->Prop
 |[],s=>K s
 |o::l,s=>∃ v,eL E ops o s h v h/\eL E ops o s (h++[.gone]) v (h++[.gone])/\Ll E ops h K l (cg s o.dst v)
@[irreducible] def cw (E : Env) (ops : Array Oper) (h : List ae) (K : List AV -> Prop) (l : List Oper) (s : List AV) : Prop := Ll E ops h K l s
section
variable {E:Env} {ops:Array Oper} {h:List ae}
theorem cw.Tl{K:List AV->Prop}:∀ {l:List Oper} {s:List AV},Ll E ops h K l s ->
  ∃ pl:List (Oper × AV),pl.map (·.1)=l/\K (cur pl (fun k=>decide (k<pl.length)) 0 s)/\∀ k o v,pl[k]?=some (o,v)->eL E ops o (cur pl (fun i=>decide (i<k)) 0 s) h v h/\eL E ops o (cur pl (fun i=>decide (i<k)) 0 s) (h++[.gone]) v (h++[.gone])
 |[],s,H=>⟨[],rfl,H,fun k o v hk=>by simp at hk⟩
 |o::l,s,⟨v,a,b,H⟩=>by
  obtain⟨pl,p1,p2,p3⟩:=cw.Tl H;have shift:∀ (pl:List (Oper × AV)) (n:Nat) (s:List AV),cur pl (fun k=>decide (k<n+1)) (0+1) s=cur pl (fun k=>decide (k<n)) 0 s:=fun pl n s=>by
   rw[DQ 1]
   congr 1
   funext k;simp
  refine⟨(o,v)::pl,by simp[p1],?_,fun k o' v' hk=>?_⟩
  ·rw[cur];simp only[ahN,aj1,decide_true,if_true];rw[shift];exact p2
  ·cases k with
   |zero =>
    simp at hk;obtain⟨rfl,rfl⟩:=hk;rw[tf _ _ _ _ (fun k _=>decide_eq_false oM)];exact⟨a,b⟩
   |succ k =>
    have:=p3 k o' v' (zD hk);rw[cur];simp only[aj1,decide_true,if_true];rw[shift];exact this
theorem cw.lay{K:List AV->Prop}{l:List Oper}{s:List AV}(H:cw E ops h K l s) :
  ∃ pl:List (Oper × AV),pl.map (·.1)=l/\K (cur pl (fun k=>decide (k<pl.length)) 0 s)/\∀ k o v,pl[k]?=some (o,v)->eL E ops o (cur pl (fun i=>decide (i<k)) 0 s) h v h/\eL E ops o (cur pl (fun i=>decide (i<k)) 0 s) (h++[.gone]) v (h++[.gone]):=by
 unfold cw at H;exact cw.Tl H
theorem cw.nil{K:List AV->Prop}{s:List AV}(H:K s):cw E ops h K [] s:=by unfold cw;exact H
theorem afA{c:Cx}{s:List AV}{t:Array Value}(h:VS c s t){d:Nat}{x:AV}{v:Value}(hv:t[d]?=some v)(hx:VR c x v):VS c (s.set d x) t:=by
 refine⟨by rw[aiv];exact h.1,fun i y u hy hu=>?_⟩;by_cases e:d=i
 ·subst e;rw[hv]at hu;cases hu;rw[ahQ (by have:=aW hy;simpa using this)]at hy;cases hy;exact hx
 ·rw[ahR e]at hy;exact h.2 i y u hy hu
theorem afB{a:Act}{o:Oper}{d:Nat}(hd:o.dst≠some d)(u:Value):(a.put o.dst u).tmps[d]?=a.tmps[d]? := by
 cases hq:o.dst with
 |none=>rfl
 |some e =>
  have:e≠d:=fun h=>hd (by rw[hq,h]);simp[Act.put,Array.getElem?_setIfInBounds_ne this]
theorem afC(hc:DN ops){s0:List AV}{P:List (Oper × AV)}{m d:Nat}{ox ol:Oper}(fF:(P.map (·.1))=ops.toList)(hN:0<ops.size)(Tm:m<ops.size-1)(hox:P[m]?=some (ox,.any))(yB:∃ v,P[ops.size-1]?=some (ol,v))
  (CQ:ox.guard=none) (CS:ox.dst=some d) (eO:d<s0.length) (bI:∀ k o v,k≠m->P[k]?=some (o,v)->o.dst≠some d) (x9:∀ i,i<ops.size-1->kS ops i (ops.size-1))
  (hx:∀ k o v,k≠m->k<ops.size-1->P[k]?=some (o,v)->eL E ops o (cur P (fun i=>decide (i<k)) 0 s0) h v h/\eL E ops o (cur P (fun i=>decide (i<k)) 0 s0) (h++[.gone]) v (h++[.gone]))
  {c0:Cx} {qb:List (Array Value)} {cls:List cn} {Lm rest loops:List br} {ts:Nat × Nat} {l':List DV}
  (hX:∀ (c:Cx) (a:Act),aO E.G c->c.heap=h->dy c0 c->dp c0.w.heap.size c Lm loops->VS c (dz (ey ops ox) 0 (cur P (fun i=>decide (i<m)) 0 s0)) a.tmps->∃ c' blk cap,CP E ox c0 c a ts l' rest loops c' blk cap)
  {Q:Exit->Act->World->Prop}
  (hQ:∀ (blk cap:Nat) (a:Act) (c:Cx),aO E.G c->c.heap=h++[.gone]->a.defers=[]->VS c ((cur P (fun i=>decide (i<ops.size-1)) 0 s0).set d (.d (.raw (.slice (some ⟨blk,0,none⟩) l'.length cap)))) a.tmps->dy c0 c->dp c0.w.heap.size c (.row ⟨blk,cap,ts,l'⟩::rest) loops->CR c cls qb ->
   ∀ (K:Act->World->Prop),(∀ (a':Act) (w':World),Q .normal a' w'->K a' w')->wpOp E.P ops Q (ops.size-1) K a c.w) :
  (∀ (blk cap f:Nat) (listed:Array Bool) (a:Act) (c:Cx),aO E.G c->c.heap=h++[.gone]->a.defers=[]->VS c (cur P (bY listed) 0 s0) a.tmps->a.tmps[d]?=some (.slice (some ⟨blk,0,none⟩) l'.length cap)->dy c0 c->dp c0.w.heap.size c (.row ⟨blk,cap,ts,l'⟩::rest) loops->CR c cls qb->DC ops listed ->
   bY listed m=true->bY listed (ops.size-1)=false->(∀ i,ops.size<=i->bY listed i=false)->kT (bY listed) ops.size<=f->wpAny E.P .any ops Q f listed a c.w) /\
  (∀ (f:Nat) (listed:Array Bool) (a:Act) (c:Cx),aO E.G c->c.heap=h->a.defers=[]->VS c (cur P (bY listed) 0 s0) a.tmps->dy c0 c->dp c0.w.heap.size c Lm loops->CR c cls qb->DC ops listed ->
   bY listed m=false->(∀ i,ops.size<=i->bY listed i=false)->kT (bY listed) ops.size<=f->wpAny E.P .any ops Q f listed a c.w):=by
 obtain⟨hlen,cZ⟩:=Nv fF;have Bz:∀ k,k<ops.size->∃ o v,P[k]?=some (o,v):=fun k hk=>⟨(P[k]' oM).1,(P[k]' oM).2,by rw[aiX]⟩;have Tn:∀ (f:Nat) (listed:Array Bool) (i:Nat),DC ops listed->i∈Region.ready .any ops listed->(∀ i,ops.size<=i->bY listed i=false)->kT (bY listed) ops.size<=f+1 ->
   (∀ q,bY (listed.setIfInBounds i true) q=(bY listed q||decide (q=i)))/\kT (bY (listed.setIfInBounds i true)) ops.size<=f/\(∀ q,ops.size<=q->bY (listed.setIfInBounds i true) q=false):=fun f listed i hd hi ho oQ=>by
  obtain⟨mX,fX⟩:=wQ hd hi;have eH:=fun q=>HW (i:=q) (show i<listed.size by rw[hd.1];exact fX);refine⟨eH,?_,fun q hq=>by rw[eH,ho q hq];simp;omega⟩;have:=(HY (L:=bY listed) (L':=bY (listed.setIfInBounds i true)) (j:=i) (fun q hq=>by rw[eH];simp[hq]) mX (by rw[eH];simp) ops.size).1 fX;omega
 have B:∀ (blk cap f:Nat) (listed:Array Bool) (a:Act) (c:Cx),aO E.G c->c.heap=h++[.gone]->a.defers=[]->VS c (cur P (bY listed) 0 s0) a.tmps->a.tmps[d]?=some (.slice (some ⟨blk,0,none⟩) l'.length cap)->dy c0 c->dp c0.w.heap.size c (.row ⟨blk,cap,ts,l'⟩::rest) loops->CR c cls qb->DC ops listed ->
   bY listed m=true->bY listed (ops.size-1)=false->(∀ i,ops.size<=i->bY listed i=false)->kT (bY listed) ops.size<=f->wpAny E.P .any ops Q f listed a c.w:=by
  intro blk cap f
  induction f with
  |zero =>
   intro listed a c h1 h2 h3 h4 Ln hr bz h5 hd rQ l9 ho oQ;have:=H5 oQ (show ops.size-1<ops.size by omega);rw[l9]at this;cases this
  |succ f ih =>
   intro listed a c h1 h2 h3 h4 Ln hr bz h5 hd rQ l9 ho oQ;refine⟨fun s5=>?_,fun i hi=>?_⟩
   ·obtain⟨k,-,hk⟩:=HX hc hd (show ops.size-1<ops.size by omega) l9;rw[s5]at hk;cases hk
   obtain⟨mX,fX⟩:=wQ hd hi;obtain⟨eH,zc,du⟩:=Tn f listed i hd hi ho oQ;have zj:i≠m:=fun e=>by rw[e,rQ]at mX;cases mX
   by_cases hY:i=ops.size-1
   ·subst hY;have aM:∀ q,q<ops.size-1->bY listed q=true:=fun q hq=>hd.ready hi (x9 q hq);have e:cur P (bY listed) 0 s0=cur P (fun i=>decide (i<ops.size-1)) 0 s0:=by
     congr 1
     funext q;rcases ajV q (ops.size-1)with hq|rfl|hq
     ·rw[aM q hq];simp[hq]
     ·rw[l9];simp
     ·rw[ho q oM];simp;omega
    rw[e]at h4;refine hQ blk cap a c h1 h2 h3 (afA h4 Ln (.d _ _ (.raw _ rfl))) hr bz h5 _ fun a' w' hq=>?_;have afE:∀ q,q<ops.size->bY (listed.setIfInBounds (ops.size-1) true) q=true:=fun q hq=>by
     rw[eH];rcases ahs q (ops.size-1)with h|h
     ·simp[aM q h]
     ·simp;right;omega
    have s5:Region.ready .any ops (listed.setIfInBounds (ops.size-1) true)=[]:=by
     apply List.eq_nil_iff_forall_not_mem.2;intro q hq;obtain⟨k1,k2⟩:=wQ (hd.set hi) hq;rw[afE q k2]at k1;cases k1
    cases f with
    |zero=>exact⟨s5,hq⟩
    |succ f=>exact⟨fun _=>hq,fun q lL=>by rw[s5]at lL;cases lL⟩
   ·obtain⟨o,v,kU⟩:=Bz i fX;have nG:=cZ i o v kU;obtain⟨y9,zb⟩:=H3 hc.pair cZ hd hi kU h4;refine(hx i o v zj oM kU).2 c a h1 h2 h3 zb i nG _ _ (fun c' u k1 k2 k3 k4=>?_);exact ih _ _ c' k1 k2 (by rw[qx];exact h3) (y9 c' u (fun _ _=>k3.vr) k4) (by rw[afB (bI i o v zj kU)];exact Ln) (hr.step k3) (bz.step h1 k3) (k3.cr h5) (hd.set hi) (by rw[eH,rQ];rfl) (by rw[eH,l9];simp;omega) du zc
 refine⟨B,?_⟩;intro f
 induction f with
 |zero =>
  intro listed a c h1 h2 h3 h4 hr bz h5 hd rQ ho oQ;have:=H5 oQ (show m<ops.size by omega);rw[rQ]at this;cases this
 |succ f ih =>
  intro listed a c h1 h2 h3 h4 hr bz h5 hd rQ ho oQ;refine⟨fun s5=>?_,fun i hi=>?_⟩
  ·obtain⟨k,-,hk⟩:=HX hc hd (show m<ops.size by omega) rQ;rw[s5]at hk;cases hk
  obtain⟨mX,fX⟩:=wQ hd hi;obtain⟨eH,zc,du⟩:=Tn f listed i hd hi ho oQ;have hY:i≠ops.size-1:=fun e=>by
   subst e;have:=hd.ready hi (x9 m Tm);rw[rQ]at this;cases this
  obtain⟨o,v,kU⟩:=Bz i fX;have nG:=cZ i o v kU;obtain⟨y9,zb⟩:=H3 hc.pair cZ hd hi kU h4;by_cases zj:i=m
  ·subst zj;rw[hox]at kU;cases kU;obtain⟨c1,blk,cap,A⟩:=hX c a h1 h2 hr bz zb;unfold wpOp;have hw:Region.wanted ox (yielded ops a.tmps)=true:=by simp[Region.wanted,CQ]
   simp only[nG,hw,if_true];left;have jn:d<a.tmps.size:=by
    have h7:=h4.1;rw[uX]at h7;omega
   have next:=B blk cap f (listed.setIfInBounds i true) (a.put ox.dst (.slice (some ⟨blk,0,none⟩) l'.length cap)) c1 A.ok (by rw[A.heap,h2]) (by rw[qx];exact h3) (y9 c1 _ A.vr (.any _)) (by rw[CS];simp[Act.put,jn]) A.rel A.rows (px A.vr h5) (hd.set hi) (by rw[eH];simp) (by
    rw[eH];have:bY listed (ops.size-1)=false:=by
     cases hl:bY listed (ops.size-1)with
     |false=>rfl
     |true=>have:=hd.dep (x9 i Tm) hl;rw[mX]at this;cases this
    rw[this]
    simp;omega) du zc
   unfold Oper.wp;rcases A.afw with k1|⟨k1,k2⟩
   ·rw[k1];exact next
   ·cases k2
  ·refine(hx i o v zj oM kU).1 c a h1 h2 h3 zb i nG _ _ (fun c' u k1 k2 k3 k4=>?_);exact ih _ _ c' k1 k2 (by rw[qx];exact h3) (y9 c' u (fun _ _=>k3.vr) k4) (hr.step k3) (bz.step h1 k3) (k3.cr h5) (hd.set hi) (by rw[eH,rQ];simp;omega) du zc
theorem FT:∀ (a b:List (Oper × AV)) (L:Nat->Bool) (i:Nat) (s:List AV),cur (a++b) L i s=cur b L (i+a.length) (cur a L i s)
 |[],b,L,i,s=>rfl
 |(o,v)::a,b,L,i,s=>by
  simp only[aie,cur,ahN];rw[FT a b,show i+1+a.length=i+(a.length+1) by omega]
theorem To(q:List (Oper × AV))(i k:Nat)(s:List AV):cur q (fun x=>decide (x<i+k)) i s=cur q (fun x=>decide (x<k)) 0 s:=by
 have:=DQ i q (fun x=>decide (x<i+k)) 0 s;rw[ahB]at this;rw[this]
 congr 1
 funext x;exact decide_eq_decide.2 oM
theorem afF(q:List (Oper × AV))(i k:Nat)(s:List AV)(hk:q.length<=k):cur q (fun x=>decide (x<i+k)) i s=cur q (fun x=>decide (x<q.length)) 0 s:=by
 rw[To];apply List.ext_getElem?;intro t;refine Bt q _ _ 0 s s rfl rfl fun j o v hj _=>?_;have:=(List.getElem?_eq_some_iff.1 hj).1;rw[decide_eq_true oM,decide_eq_true oM]
end
section
variable {E:Env} {aj:FuncId} {R:cT} {ops:Array Oper} {k:List aY} {lits:List Nat} {s:List AV} {h:List ae}
theorem I.afG(hm:E.P.follows .mixedOrders=true){id d:Nat}{L1 L2:List Oper}{ox ol:Oper}(FU:ops.toList=L1++ox::(L2++[ol]))(BE:DO ops=true)(x9:DP ops ((ais (ops.size-1)).map fun i=>(i,ops.size-1))=true)
  (CQ:ox.guard=none) (CS:ox.dst=some d) (nV:ol.dst=none) (bI:(L1++L2).all (fun o=>match o.dst with|some e => !(ahv e d)|none=>true)=true) (eO:d<s.length) {ts:Nat × Nat} {l':List DV} {rest:List br}
  (H:cw E ops h (fun s1=>(∀ (c0 c:Cx) (a:Act),c0.heap.length=R.n->aO E.G c->c.heap=h->dy c0 c->dp c0.w.heap.size c R.rows R.fx.loops->VS c (dz (ey ops ox) 0 s1) a.tmps->∃ c' blk cap,CP E ox c0 c a ts l' rest R.fx.loops c' blk cap) /\
   cw E ops h (fun s2=>∀ blk cap,∃ h2,eL E ops ol (s2.set d (.d (.raw (.slice (some ⟨blk,0,none⟩) l'.length cap)))) (h++[.gone]) (.d .undef) h2 /\
    I E aj ⟨R.n,R.Q,.row ⟨blk,cap,ts,l'⟩::rest,R.fx⟩ [] k (s2.set d (.d (.raw (.slice (some ⟨blk,0,none⟩) l'.length cap)))) h2) L2 (cg s1 ox.dst .any)) L1 s):I E aj R lits (.code (.region id ops true)::k) s h:=by
 obtain⟨ee,p1,⟨hX,H2⟩,p3⟩:=cw.lay H;obtain⟨mI,q1,iE,q3⟩:=cw.lay H2
 let P:List (Oper × AV):=ee++(ox,.any)::(mI++[(ol,.d .undef)])
 have fF:P.map (·.1)=ops.toList:=by simp[P,p1,q1,FU]
 have bP:ops.size=ee.length+mI.length+2:=by
  have:=congrArg List.length fF;simp[P]at this;omega
 have e1:∀ k,k<=ee.length->cur P (fun i=>decide (i<k)) 0 s=cur ee (fun i=>decide (i<k)) 0 s:=fun k hk=>by
  show cur (ee++_) _ 0 s=_;rw[FT,tf _ _ _ _ (fun j _=>decide_eq_false oM)]
 have e2:∀ k,k<=mI.length->cur P (fun i=>decide (i<ee.length+1+k)) 0 s=cur mI (fun i=>decide (i<k)) 0 (cg (cur ee (fun i=>decide (i<ee.length)) 0 s) ox.dst .any):=fun k hk=>by
  show cur (ee++_) _ 0 s=_;rw[FT,cur,if_pos (decide_eq_true oM),FT,tf _ _ _ _ (fun j _=>decide_eq_false oM),show 0+ee.length+1=ee.length+1 by omega,To mI (ee.length+1) k];have:=afF ee 0 (ee.length+1+k) s oM;rw[ahB]at this;rw[this]
 have Tp:ops.size-1=ee.length+1+mI.length:=by omega
 have hsN:cur P (fun i=>decide (i<ops.size-1)) 0 s=cur mI (fun i=>decide (i<mI.length)) 0 (cg (cur ee (fun i=>decide (i<ee.length)) 0 s) ox.dst .any):=by rw[Tp];exact e2 _ (ahL _)
 refine .of (AW.afz hm fun c0 c t qb Q h0 hQ h1 h2 h4 hr bz h5=>?_);have Tq:∀ k,k<ee.length->P[k]?=ee[k]? := fun k hk=>ahT hk;have Tr:∀ k,k<mI.length->P[ee.length+1+k]?=mI[k]? := fun k hk=>by
  show(ee++_)[_]?=_;rw[aiH oM,show ee.length+1+k-ee.length=k+1 by omega,ajO,ahT hk]
 have afI:∀ k o v,k≠ee.length->P[k]?=some (o,v)->o.dst≠some d:=fun k o v hk sD he=>by
  have iq:o∈L1++L2\/o=ol:=by
   rcases ajV k ee.length with h|h|h
   ·rw[Tq k h]at sD;exact .inl (ajL _ (by rw[<- p1];exact ahY.2 ⟨_,aiQ sD,rfl⟩))
   ·exact absurd h hk
   ·obtain⟨j,rfl⟩:∃ j,k=ee.length+1+j:=⟨k-ee.length-1,by omega⟩;rcases ahs j mI.length with hj|hj
    ·rw[Tr j hj]at sD;exact .inl (ajM _ (by rw[<- q1];exact ahY.2 ⟨_,aiQ sD,rfl⟩))
    ·have:(ee++(ox,AV.any)::(mI++[(ol,AV.d .undef)]))[ee.length+1+j]?=some (o,v):=sD;rw[aiH oM,show ee.length+1+j-ee.length=j+1 by omega,ajO,aiH hj]at this;have oJ:j-mI.length=0:=by have:=aW this;simp at this;omega
     rw[oJ]at this;simp at this;exact .inr this.1.symm
  rcases iq with iq|rfl
  ·have:=ahH.1 bI o iq;rw[he]at this;simp at this
  ·rw[nV]at he;cases he
 have afJ:=afC (E:=E) (ops:=ops) (h:=h) (Nq BE) (s0:=s) (P:=P) (m:=ee.length) (d:=d) (ox:=ox) (ol:=ol) fF oM oM (by show(ee++_)[_]?=_;simp) ⟨.d .undef,by
   rw[Tp];show(ee++_)[_]?=_;rw[aiH oM,show ee.length+1+mI.length-ee.length=mI.length+1 by omega,ajO,aiH (ahL _),ajw]
   rfl⟩ CQ CS eO afI (fun i hi=>Nr x9 (i,ops.size-1) (ahY.2 ⟨i,List.mem_range.2 hi,rfl⟩))
  (fun k o v hk hkN sD=>by
   rcases ajV k ee.length with h'|h'|h'
   ·rw[e1 k oM];rw[Tq k h']at sD;exact p3 k o v sD
   ·exact absurd h' hk
   ·obtain⟨j,rfl⟩:∃ j,k=ee.length+1+j:=⟨k-ee.length-1,by omega⟩;rw[e2 j oM];rw[Tr j oM]at sD
    exact q3 j o v sD) (c0:=c0) (qb:=qb) (cls:=R.fx.cls) (Lm:=R.rows) (rest:=rest) (loops:=R.fx.loops) (ts:=ts) (l':=l')
  (fun c a a1 a2 a3 a4 a5=>hX c0 c a h0 a1 a2 a3 a4 (by rw[e1 _ (ahL _)]at a5;exact a5)) (Q:=Q)
  (fun blk cap a c a1 a2 a3 a4 a5 a6 a7 K hK=>by
   rw[hsN]at a4;obtain⟨xk,hS,hA⟩:=iE blk cap;have yB:ops[ops.size-1]?=some ol:=by
    have:ops.toList[ops.size-1]?=some ol:=by
     rw[FU];have l1:L1.length=ee.length:=by rw[<- p1];simp
     have l2:L2.length=mI.length:=by rw[<- q1];simp
     rw[aiH oM,show ops.size-1-L1.length=L2.length+1 by omega,ajO,aiH (ahL _),ajw];rfl
    simpa using this
   refine hS c a a1 a2 a3 a4.mask _ yB _ _ fun c' u b1 b2 b3 b4=>hK _ _ ?_;have e:a.put ol.dst u=a:=by rw[nV];rfl
   rw[e];have hAW:=I.to hA
   exact hQ a c' _ xk _ hAW b1 b2 a3 (b3.vs a4) (a5.step b3) (a6.step a1 b3) (b3.cr a7))
 exact afJ.2 ops.size _ ⟨t,[]⟩ c h1 h2 rfl (by rw[tf _ 0 s _ (fun i _=>uY _ _)];exact h4) hr bz h5 ⟨by simp,fun j o e _ hl=>by rw[uY]at hl;cases hl⟩ (uY _ _) (fun i _=>uY _ i) (Nw _ _)
theorem eL.to{o:Oper}{v:AV}{h':List ae}(hg:o.guard=none)(ho:bE E o.op (dz (ey ops o) 0 s) h v h'):eL E ops o s h v h':=fun c a h1 h2 _ h4 j hj K Q hK=>by
 obtain⟨c',u,k1,k2,k3,k4,k5⟩:=ho o c a rfl h2 h1 h4;unfold wpOp;simp only[hj,(iF hg) c a.tmps h4,if_true];left;have:=hK c' u k3 k2 k5 k4;unfold Oper.wp;rcases k1 with k1|⟨k1,rfl⟩
 ·rw[k1];exact this
 ·rw[k1];exact this
@[irreducible] def ov (E : Env) (ops : Array Oper) (o : Oper) (s : List AV) (h : List ae) (K : List ae -> Prop) : Prop := ∃ h2, eL E ops o s h (.d .undef) h2 /\ K h2
theorem ov.of(hE:E.OK){o:Oper}{K:List ae->Prop}(hg:o.guard=none)(H:pF E o.op (dz (ey ops o) 0 s) h False fun u hh=>u=.d .undef/\K hh):ov E ops o s h K:=by
 unfold ov;rcases A2 hE H with h|⟨u,hh,⟨rfl,hK⟩,h⟩
 ·exact h.elim
 ·exact⟨hh,eL.to hg h,hK⟩
theorem I.last{o:Oper}{d:Nat}{v:AV}{td:List aY}(H:iA s d v fun s'=>ov E ops o s' h fun h2=>I E aj R lits td s' h2):∃ h2,eL E ops o (s.set d v) h (.d .undef) h2/\I E aj R lits td (s.set d v) h2:=by
 rw[jk]at H;unfold ov at H;exact H
theorem I.Ts{td:List aY}{b g:Nat}{ts:Nat × Nat}{l l':List DV}(rs:List Row)(rL:R.rows=rs.map .row)(hb:h[b]?=some (.arr g ts l))(hn:R.n<=b)(hl:l'.length=l.length)
  (hm:∀ (i:Nat) (e e':DV),l[i]?=some e->l'[i]?=some e'->e'.cells.length=e.cells.length/\∀ (j:Nat) (x x':DV),e.cells[j]?=some x->e'.cells[j]?=some x'->x'=x\/∃ r∈rs,x=.raw (.slice (some ⟨r.blk,0,none⟩) r.l.length r.cap)/\x'=.sl r.l)
  (H:iA h b (.arr g ts l') fun h2=>I E aj ⟨R.n,R.Q,[],R.fx⟩ lits td s h2):I E aj R lits td s h:=by
 rw[jk]at H;have H:=H.to;refine .of ?_;unfold AW at H ⊢;intro c0 c t qb h0 h1 h2 h3 hr bz h4 h5 cs;subst h2;have fE:=aW hb
 let c':Cx:=⟨c.own,c.heap.set b (.arr g ts l'),fun x=>c.aD x/\∀ r∈rs,x≠r.blk,c.w⟩
 have aV:∀ r∈rs,nC c0.w.heap.size c r:=fun r hr=>bz.all.each (.row r) (ajL _ (by rw[rL];exact ahY.2 ⟨r,hr,rfl⟩));have qf:∀ x,c'.bad x->c.bad x:=fun x hx=>hx.elim (fun h => .inl h.1) fun⟨i,n,h⟩ => .inr ⟨i,n,h⟩;have Tt:∀ x,x<c.w.heap.size->¬ c.bad x->¬ c'.bad x/\c'.w.heap[x]?=c.w.heap[x]? := fun x _ hx=>⟨fun h=>hx (qf x h),rfl⟩;have cZ:c'.heap[b]?=some (.arr g ts l'):=ahQ fE;have tp:∀ i,i≠b->c'.heap[i]?=c.heap[i]? := fun i hi=>ahR (Ne.symm hi);have dF:∀ i bx,c.heap[i]?=some bx->vR c c' i bx:=fun i bx hi=>by
  by_cases e:i=b
  ·subst e;rw[hb]at hi;cases hi;exact .inl ⟨g,l',cZ,.inr ⟨rfl,hl,rfl⟩⟩
  ·exact nB hi (tp i e) rfl
 have iX:∀ x v,VR c x v->VR c' x v:=fun x v hv=>um Tt dF hv;have fH:∀ x v,VD c.bad c.w x v->VD c'.bad c'.w x v:=fun x v hv=>hv.mono Tt;have afL:∀ r∈rs,VD c'.bad c'.w (.sl r.l) (.slice (some ⟨r.blk,0,none⟩) r.l.length r.cap):=fun r hr=>by
  obtain⟨k1,k2,k3,k4,vs,k5,k6,k7,k8,k9⟩:=aV r hr;have IC:=mL k5;refine .sl r.l r.blk 0 r.cap r.ts.2 (fun i j=>vs.toList.getD (i*r.ts.2+j) undef) (fun _ hx=>?_) k3 k7 k4 (fun i j e x he hx=>?_) (fun i j e x he hx=>?_) (fun i j e x he hx=>?_)
  ·rcases hx with hx|⟨i,n,hi⟩
   ·exact hx.2 r hr rfl
   ·exact h3.sep i _ n hi k1
  ·obtain⟨v,g1,-,g2⟩:=k9 i j e x he hx;rw[IC (i*r.ts.2+j) v (zD g1)];simp[ahU,g1]
  ·obtain⟨v,g1,-,g2⟩:=k9 i j e x he hx;simp only[ahU,ahP,g1,ah8];exact fH _ _ g2
  ·obtain⟨v,g1,g2,-⟩:=k9 i j e x he hx;simp only[ahU,ahP,g1,ah8];exact g2
 have ew:∀ {i:Nat} {e':DV},l'[i]?=some e'->∃ e,l[i]?=some e:=fun{i e'} he=>⟨l[i]'(by have:=aW he;omega),aiX _⟩
 have hOK:aO E.G c':={
  bV:=fun x hx=>h3.bV x hx.1
  bD:=fun i x n hi=>by have:=h3.bD i x n hi;exact⟨this.1,by show i<(c.heap.set b _).length;rw[aiv];exact this.2⟩
  inj:=h3.inj
  sep:=fun i x n hi hx=>h3.sep i x n hi hx.1
  box:=fun i bx hi=>by
   by_cases e:i=b
   ·subst e;rw[cZ]at hi;cases hi;obtain⟨q0,q1,q2⟩:=h3.box i _ hb;refine⟨q0,fun j e' jR=>?_,?_⟩
    ·obtain⟨e,he⟩:=ew jR;rw[(hm j e e' he jR).1];exact q1 j e he
    ·rcases q2 with⟨q2,q3⟩|⟨blk,cap,vs,q2,q3,q4,q5,q6,q7⟩
     ·exact .inl ⟨q2,List.eq_nil_of_length_eq_zero (by rw[hl,q3];rfl)⟩
     ·refine .inr ⟨blk,cap,vs,q2,q3,q4,by rw[hl];exact q5,q6,fun j n e' x' jR dY=>?_⟩;obtain⟨e,he⟩:=ew jR;obtain⟨m1,m2⟩:=hm j e e' he jR;obtain⟨x,hx⟩:∃ x,e.cells[n]?=some x:=⟨e.cells[n]'(by have:=aW dY;omega),aiX _⟩;obtain⟨v,g1,g2,g3⟩:=q7 j n e x he hx;refine⟨v,g1,g2,?_⟩;rcases m2 n x x' hx dY with rfl|⟨r,hr,rfl,rfl⟩
      ·exact fH _ _ g3
      ·cases g3;exact afL r hr
   ·rw[tp i e]at hi;exact(h3.box i bx hi).gen iX fH rfl (fun _ _ _=>rfl)
  gI:=fun x e hg=>iX _ _ (h3.gI x e hg) }
 have hblk:∀ x,c.aD x->(∃ r∈rs,x=r.blk)->c0.w.heap.size<=x:=fun x _ ⟨r,hr,e⟩=>by rw[e];exact(aV r hr).new
 have hR:dy c0 c':={
  lim:=hr.lim
  nz:=hr.nz
  aD:=fun x hx=>⟨hr.aD x hx,fun r AE e=>by have:=hr.lim x hx;have:=(aV r AE).new;omega⟩
  oz:=fun x hx=>hr.oz x hx.1
  os:=hr.os
  tape:=hr.tape
  output:=hr.output
  size:=hr.size
  keep:=hr.keep
  eh:=hr.eh
  boxes:=fun i bx hi=>wX (c:=c) (c':=c') (fun x hx=>by
   have bL:i≠b:=fun e=>by have:=aW hi;omega
   rw[tp i bL];exact hx) (fun _ _=>rfl) (hr.boxes i bx hi) }
 have afN:dp c0.w.heap.size c' [] R.fx.loops:=by
  refine⟨⟨fun gh hg=>?_,?_⟩,fun gh hg=>by cases hg⟩
  ·have uU:gh∈R.rows++R.fx.loops:=ajM _ (zD hg);refine(bz.all.each gh uU).gen (fun x hx=>⟨⟨(bz.all.each gh uU).aD x hx,fun r AE e=>?_⟩,rfl⟩) fH iX;have cW:=bz.all.nodup;rw[akg]at cW;refine(aii.1 cW).2.2 r.blk (aiM.2 ⟨.row r,by rw[rL];exact ahY.2 ⟨r,AE,rfl⟩,by simp[br.cy]⟩) x (aiM.2 ⟨gh,zD hg,hx⟩) e.symm
  ·have cW:=bz.all.nodup;rw[akg]at cW;exact(aii.1 cW).2.1
 exact H c0 c' t qb h0 h1 rfl hOK hR afN ⟨h4.1,fun i x v hx hv=>iX x v (h4.2 i x v hx hv)⟩ (px iX h5) cs
theorem Lo{args:Array Operand}{Tu:Array Nat}{x:Operand}{a:Option Addr}{n cp:Nat}{t e:Nat}{i:bA}(hE:E.OK)(hx:args.toList[0]?=some x)(ht:Tu.toList[0]?=some t)(hi:E.T[t]?=some i)(hk:i.k=.slice e)(hv:bk E.G s x (.d (.raw (.slice a n cp)))) :
  bE E (.call { callee := .builtin .len,args:=args,argTypes:=Tu }) s h (.d (.int .i64 n)) h := .quiet fun o c ac e1 h2 h3 h4=>by
 have fu:=hv c ac h3 h4;have q:ac.eval x=.slice a n cp:=by
  generalize ac.eval x=p at fu ⊢;cases fu with|d _ _ hd=>cases hd;rfl
 exact⟨_,yo e1 hx ht (hE.types t i hi) q (.inl ⟨e,_,_,hk,rfl⟩),.d _ _ (.int _ _)⟩
theorem cw.op{K:List AV->Prop}{o:Oper}{l:List Oper}(hg:o.guard=none)(v:AV)(H1:bE E o.op (dz (ey ops o) 0 s) h v h)(H2:bE E o.op (dz (ey ops o) 0 s) (h++[.gone]) v (h++[.gone]))(H:cz s o.dst v fun s'=>cw E ops h K l s'):cw E ops h K (o::l) s:=by
 rw[eW]at H;unfold cw at H ⊢;exact⟨v,eL.any (iF hg) H1,eL.any (iF hg) H2,H⟩
theorem I.Ad(hm:E.P.follows .mixedOrders=true)(m n:Nat){id d:Nat}{ox ol:Oper}(FU:ops.toList=ops.toList.take m++ox::((ops.toList.drop (m+1)).take n++[ol]))(BE:DO ops=true)(x9:DP ops ((ais (ops.size-1)).map fun i=>(i,ops.size-1))=true)
  (CQ:ox.guard=none) (CS:ox.dst=some d) (nV:ol.dst=none) (bI:(ops.toList.take m++(ops.toList.drop (m+1)).take n).all (fun o=>match o.dst with|some e => !(ahv e d)|none=>true)=true) (eO:d<s.length) (ts:Nat × Nat) (l':List DV) (rest:List br)
  (H:cw E ops h (fun s1=>(∀ (c0 c:Cx) (a:Act),c0.heap.length=R.n->aO E.G c->c.heap=h->dy c0 c->dp c0.w.heap.size c R.rows R.fx.loops->VS c (dz (ey ops ox) 0 s1) a.tmps->∃ c' blk cap,CP E ox c0 c a ts l' rest R.fx.loops c' blk cap) /\
   cw E ops h (fun s2=>∀ blk cap,∃ h2,eL E ops ol (s2.set d (.d (.raw (.slice (some ⟨blk,0,none⟩) l'.length cap)))) (h++[.gone]) (.d .undef) h2 /\
    I E aj ⟨R.n,R.Q,.row ⟨blk,cap,ts,l'⟩::rest,R.fx⟩ [] k (s2.set d (.d (.raw (.slice (some ⟨blk,0,none⟩) l'.length cap)))) h2) ((ops.toList.drop (m+1)).take n) (cg s1 ox.dst .any)) (ops.toList.take m) s):I E aj R lits (.code (.region id ops true)::k) s h :=
 I.afG hm FU BE x9 CQ CS nV bI eO H
theorem cw.from{K:List AV->Prop}{l:List Oper}{d:Option Nat}{v:AV}(H:cz s d v fun s'=>cw E ops h K l s'):cw E ops h K l (cg s d v):=by rwa [eW]at H
theorem Tv{E:Env}(hE:E.OK){o:Op}{s:List AV}{h:List ae}{v:AV}{h':List ae}(H:kJ E.T E.G o s h False fun u hh=>u=v/\hh=h'):bE E o s h v h':=by
 rcases Ax hE H with h|⟨u,hh,⟨rfl,rfl⟩,h⟩
 ·exact h.elim
 ·exact h
theorem cw.o{K:List AV->Prop}{o:Oper}{l:List Oper}(hE:E.OK){v:AV}(H:cz s o.dst v fun s'=>cw E ops h K l s')(hg:o.guard=none:=by rfl)(H1:kJ E.T E.G o.op (dz (ey ops o) 0 s) h False (fun u hh=>u=v/\hh=h):=by(conv=>whnf);exact⟨rfl,rfl⟩)(H2:kJ E.T E.G o.op (dz (ey ops o) 0 s) (h++[.gone]) False (fun u hh=>u=v/\hh=h++[.gone]):=by(conv=>whnf);exact⟨rfl,rfl⟩):cw E ops h K (o::l) s:=cw.op hg v (Tv hE H1) (Tv hE H2) H
theorem Ae{E:Env}(hE:E.OK){o:Op}{s:List AV}{h:List ae}{v:AV}{h':List ae}(H:uB E.T E.G o s h False fun u hh=>u=v/\hh=h'):bE E o s h v h':=by
 rcases Mc hE H with h|⟨u,hh,⟨rfl,rfl⟩,h⟩
 ·exact h.elim
 ·exact h
theorem lk{E:Env}(hE:E.OK){o:Op}{s:List AV}{h:List ae}{v:AV}{h':List ae}(H:pF E o s h False fun u hh=>u=v/\hh=h'):bE E o s h v h':=by
 rcases A2 hE H with h|⟨u,hh,⟨rfl,rfl⟩,h⟩
 ·exact h.elim
 ·exact h
theorem I.Lp{o:Oper}{l:List Oper}{v:AV}{h':List ae}(hw:jm ops o s true)(ho:bE E o.op s h v h')(H:cz s o.dst v fun s'=>I E aj R lits (.bF ops l::k) s' h'):I E aj R lits (.bF ops (o::l)::k) s h:=by
 rw[eW]at H;exact .of (.op hw ho H.to)
end
end Go.az
end
