/- Lemmas of mine. Conditions: as stated. -/
import Derived.Test.YtlhehdgciafakaaGreatDoorQ19
import Derived.Test.YtlhehdgciafakaaGreatDoorQ23
set_option linter.unusedVariables false
set_option linter.unusedSimpArgs false
open Bool renaming and_eq_true->ai2
open List renaming mem_map_of_mem->ail,getElem?_map->ahy,getElem?_of_mem->aiN,getElem?_eq_getElem->aiX,mem_of_getElem?->aiQ,finRange->anH,length_map->aiO,eq_nil_of_length_eq_zero->ahM,getElem?_eq_none->aht,map_map->ajR,map_append->aih,length_filter_le->al0
open Nat renaming zero_le->ai4,lt_of_lt_of_le->ahD,mul_comm->aia,mul_le_mul_right->aiP,succ_mul->anq,le_trans->aic
open Option renaming map_some->air
section
namespace Go.Proofs.YtlhehdgciafakaaGreatDoor.P
open Go Go.az Go.Sort Go.RowKit
theorem grown_of{w w':World}(hx:Ext w w')(hd:w.drawn<=w'.drawn):∃ q xz,w'=grow (w.drewN q) xz:=by
 refine⟨w'.drawn-w.drawn,w'.heap.extract w.heap.size w'.heap.size,?_⟩;obtain⟨h1,h2,h3,h4,h5⟩:=hx;cases w with|mk a b c d e=>cases w' with|mk a' b' c' d' e' =>
 simp only at h1 h2 h3 h4 h5 hd;subst h1;subst h2;subst h3;simp only[grow,World.drewN,World.mk.injEq,true_and,and_true];refine⟨?_,by omega⟩;apply Array.ext_getElem?;intro k;rw[Array.getElem?_append];split
 ·rename_i hk;exact h5 k hk
 ·rw[Array.getElem?_extract];split
  ·congr 1;omega
  ·rw[Array.getElem?_eq_none];omega
theorem adj{E:Env}{c:Cx}{W:World}{g:FuncId}{xs:List DV}{r0:DV}{v0:Value}{vs:List Value}(zu:aO E.G c)(bP:c.w.heap.size<=W.heap.size)(nF:∀ b,b<c.w.heap.size->¬ c.bad b->W.heap[b]?=c.w.heap[b]?)
  (hp:aq E g xs (· = r0)) (hv:kM c.bad W xs vs) (hr:∀ w v,VD c.bad w r0 v->v=v0) :
  Calls E.P g vs.toArray W fun e w'=>e=.returned v0/\∃ q xz,w'=grow (W.drewN q) xz:=by
 unfold aq at hp;have wo:∀ b,c.bad b->b<W.heap.size:=fun b hb=>ahD (hb.elim (zu.bV b) fun⟨j,n,hj⟩=>(zu.bD j b n hj).1) bP;have Ir:∀ b,b<c.w.heap.size->¬ c.bad b->¬ c.bad b/\W.heap[b]?=c.w.heap[b]? := fun b hb hn=>⟨hn,nF b hb hn⟩;have AB:uz E.G c.bad W:=fun g e hg=>by
  have h:=zu.gI g e hg;generalize hq:(Value.pointer (some ⟨g,0,none⟩))=p at h ⊢;cases h with
  |bT _ _ blk o' fv k1 k2 k3 k4 =>
   have ai:blk<c.w.heap.size:=by
    obtain⟨x,r,hx⟩:=List.exists_cons_of_ne_nil k2;exact World.block_lt_of_cell? _ _ (k3 0 x (by rw[hx];rfl))
   refine .bT _ _ blk o' fv (fun hb=>k1 (wj.1 hb)) k2 (fun j x hx=>?_) (fun j x hx=>wk ((k4 j x hx).mono Ir));have:=k3 j x hx;simp only[World.cell?]at this ⊢;rw[nF blk ai k1];exact this
 refine(Calls.drawn (hp.2 c.bad W vs wo AB hv) fun e w' ⟨v,r,h,_⟩=>⟨v,h⟩).mono fun e w' ⟨⟨v,r,e1,e2,e3,e4⟩,hd⟩=>?_;subst e2;refine⟨?_,grown_of e4 hd⟩;rw[e1,hr _ _ e3]
def Sd(P:Program)(f g K:Nat)(mk:List Value->Value):Prop:=∀ (n:Nat) (enc:Fin (n+1)->List Value) (cf:Fin (n+1)->Fin (n+1)->Int),(∀ i,(enc i).length=K)->(∀ i,∀ v∈enc i,v.oneCell'=true)->SWO (ltOf cf) ->
 ∀ (blk cap:Nat) (d:Array (Fin (n+1))) (w:World),
 (∀ (m:Nat) (os:Array Obj) (dk:Array (Fin (n+1))),dk.size=d.size->∀ i j,Calls P g #[mk (enc i),mk (enc j)] (sortWorldK enc K w blk 0 m dk os) fun e w'=>e=.returned (.int .i64 (cf i j))/\∃ q xz,w'=grow ((sortWorldK enc K w blk 0 m dk os).drewN q) xz) ->
 HoldsK enc K w blk 0 d->blk<w.heap.size->d.size<4611686018427387904 ->
 Calls P f #[.slice (some ⟨blk,0,none⟩) d.size cap,.func (.func g) #[] #[]] w fun e w'=>e=.returned (.tuple #[])/\∃ d' m os,PermIn 0 d.size d d'/\SortedIn (ltOf cf) 0 d.size d'/\w'=sortWorldK enc K w blk 0 m d' os
def Se(mk:List Value->Value)(x:DV):Prop:=∀ (bad:Nat->Prop) (w:World) (vs:List Value),x.cells.length=vs.length->(∀ (j:Nat) (c:DV) (v:Value),x.cells[j]?=some c->vs[j]?=some v->VD bad w c v)->VD bad w x (mk vs)
def Sf(vs:List Value):Value := .agg vs.toArray
theorem adk(c:List DV):Se Sf (.agg c):=fun bad w vs h k => .agg c _ (by have h:c.length=vs.length:=h;simpa using h) fun j x v hx hv=>k j x v hx (zD hv)
theorem adl{E:Env}{f g:FuncId}{t K:Nat}{mk:List Value->Value}{α:Type}(en:α->DV)(cmp:DV->DV->Int)(hS:Sd E.P f g K mk)(fJ:mc E.P f)(l:List α)(hl:l≠[])(hlen:l.length<4611686018427387904)(hK:∀ x∈l,(en x).cells.length=K)(ho:acT cmp (l.map en))
  (hA:∀ x∈l,Se mk (en x)) (hc:∀ x∈l,∀ y∈l,aq E g [en x,en y] (· = .int .i64 (cmp (en x) (en y)))) :
  au E f [.arr 0 (t,K) (l.map en)] [.own 0 0,.fn (.func g) [] []] (fun a b=>a=.aG []/\∃ l':List α,l'.Perm l/\l'.Pairwise (fun x y=>¬ cmp (en y) (en x)<0)/\b=[.arr 0 (t,K) (l'.map en)]):=by
 unfold au;refine⟨fJ,kR rfl,fun c vs h1 h2 h3=>?_⟩;obtain⟨v1,v2,rfl⟩:∃ v1 v2,vs=[v1,v2]:=by
  have:=h3.1
  match vs,this with
  |[a,b],_=>exact⟨a,b,rfl⟩
 have js:=h3.2 0 _ v1 rfl rfl;have mj:=h3.2 1 _ v2 rfl rfl;have dF:c.heap[0]?=some (.arr 0 (t,K) (l.map en)):=by rw[h1];rfl
 obtain⟨u1,u2,rfl,e2,e3⟩:=mP mj;obtain rfl:u1=[]:=ahM (by have:=e2.1;simpa using this.symm);obtain rfl:u2=[]:=ahM (by have:=e3.1;simpa using this.symm);rcases lu dF js with⟨blk,cap,r1,rfl⟩|⟨lK,-,-⟩
 case inr=>exact absurd (List.map_eq_nil_iff.1 lK) hl
 obtain⟨q0,q1,q2⟩:=h2.box 0 _ dF;rcases q2 with⟨q2,-⟩|⟨jL,iV,vs',q2,q3,q4,q5,q6,q7⟩
 ·rw[r1]at q2;cases q2
 rw[r1]at q2;cases q2;simp only at q3 q4 q7;obtain⟨n,hn⟩:∃ n,l.length=n+1:=⟨l.length-1,by have:=List.length_pos_iff.2 hl;omega⟩
 let at_:Fin (n+1)->α:=fun i=>l[i.1]'(by have:=i.2;omega)
 have cZ:∀ i:Fin (n+1),l[i.1]?=some (at_ i):=fun i=>aiX _;have iq:∀ i,at_ i∈l:=fun i=>aiQ (cZ i)
 let enc:Fin (n+1)->List Value:=fun i=>(List.range K).map fun j=>vs'[i.1*K+j]!
 have KE:∀ i,(enc i).length=K:=fun i=>by simp[enc]
 have dQ:∀ (i:Fin (n+1)) (j:Nat),j<K->∃ x v,(en (at_ i)).cells[j]?=some x/\vs'[i.1*K+j]?=some v/\(enc i)[j]?=some v/\v.oneCell'=true/\VD c.bad c.w x v:=fun i j hj=>by
  obtain⟨x,hx⟩:∃ x,(en (at_ i)).cells[j]?=some x:=⟨(en (at_ i)).cells[j]'(by rw[hK _ (iq i)];exact hj),aiX _⟩;obtain⟨v,a1,a2,a3⟩:=q7 i.1 j (en (at_ i)) x (by rw[ahy,cZ i];rfl) hx;refine⟨x,v,hx,a1,?_,a2,a3⟩;simp only[enc,ahy,List.getElem?_range hj,air];rw[getElem!_def,a1]
 let cf:Fin (n+1)->Fin (n+1)->Int:=fun i j=>cmp (en (at_ i)) (en (at_ j))
 have hO:SWO (ltOf cf):={
  irrefl:=fun x=>by simpa [ltOf,cf]using ho.irrefl _ (ail (iq x))
  trans:=fun x y z h1 h2=>by
   simp only[ltOf,cf,decide_eq_true_eq]at h1 h2 ⊢;exact ho.trans _ (ail (iq x)) _ (ail (iq y)) _ (ail (iq z)) h1 h2
  ntrans:=fun x y z h1 h2=>by
   simp only[ltOf,cf,decide_eq_false_iff_not]at h1 h2 ⊢
   exact ho.ntrans _ (ail (iq x)) _ (ail (iq y)) _ (ail (iq z)) h1 h2 }
 let d:Array (Fin (n+1)):=(anH (n+1)).toArray
 have iG:d.size=l.length:=by simp[d,hn]
 have hd:∀ i:Fin (n+1),d[i.1]?=some i:=fun i=>by simp[d]
 have Sg:∀ (i:Fin (n+1)) (j:Nat) (v:Value),(enc i)[j]?=some v->(enc i)[j]! = v:=fun i j v h=>by rw[getElem!_def,h]
 have hH:HoldsK enc K c.w blk 0 d:=by
  intro j hj;simp only[size_flatK,iG]at hj;have adm:0<K:=Nat.pos_of_ne_zero fun h=>by subst h;simp at hj
  have hi:j / K<n+1:=by rw[<- hn];exact Nat.div_lt_of_lt_mul (by rw[aia];exact hj)
  have hm:j % K<K:=Nat.mod_lt _ adm;have ej:j / K*K+j % K=j:=by rw[aia];exact Nat.div_add_mod j K
  have f1:=iH (K:=K) enc d (j / K) (j % K) hm ⟨j / K,hi⟩ (hd ⟨j / K,hi⟩);obtain⟨x,v,b1,b2,b3,b4,b5⟩:=dQ ⟨j / K,hi⟩ (j % K) hm;rw[ej,Sg _ _ _ b3]at f1;simp only[ej]at b2;refine⟨?_,by simp[World.frozen?,q3]⟩;show _=some ((flatK enc K d)[j]!);rw[f1];exact mL q3 _ _ (zD b2)
 have hblk:=(h2.bD 0 blk cap r1).1
 have iZ:=hS n enc cf KE (fun i v hv=>by
  obtain⟨j,hj⟩:=aiN hv;have Fx:j<K:=by have:=aW hj;rwa [KE]at this
  obtain⟨x',v',b1,b2,b3,b4,b5⟩:=dQ i j Fx;rw[b3]at hj;cases hj;exact b4) hO blk cap d c.w (fun m os dk hs i j=>by
   obtain⟨a1,a2,a3,a4,a5,a6⟩:=R2 (enc:=enc) (K:=K) (n:=m) (d:=dk) (os:=os) q3;generalize sortWorldK enc K c.w blk 0 m dk os=W at a1 a2 a3 a4 a5 a6 ⊢;have nF:∀ b,b<c.w.heap.size->¬ c.bad b->W.heap[b]?=c.w.heap[b]? := fun b hb hn=>a5 b hb (fun e=>hn (e ▸ .inr ⟨0,cap,r1⟩))
   have fH:∀ i,VD c.bad W (en (at_ i)) (mk (enc i)):=fun i=>hA _ (iq i) c.bad W (enc i) (by rw[hK _ (iq i),KE]) (fun j x v hx hv=>by
    have hj:j<K:=by have:=aW hx;rwa [hK _ (iq i)]at this
    obtain⟨x',v',b1,b2,b3,b4,b5⟩:=dQ i j hj;rw[b1]at hx;cases hx;rw[b3]at hv;cases hv
    exact b5.mono fun b hb hn=>⟨hn,nF b hb hn⟩)
   exact adj (vs:=[mk (enc i),mk (enc j)]) h2 a4 nF (hc _ (iq i) _ (iq j)) ⟨rfl,fun k x v hx hv=>by
    match k,hx,hv with
    |0,hx,hv=>cases hx;cases hv;exact fH i
    |1,hx,hv=>cases hx;cases hv;exact fH j⟩ (fun w v hv=>by cases hv;rfl)) hH hblk (by rw[iG];exact hlen)
 rw[iG]at iZ;have kg:([Value.slice (some ⟨blk,0,none⟩) (l.map en).length cap,.func (.func g) ([]:List Value).toArray ([]:List Value).toArray]:List Value).toArray = #[.slice (some ⟨blk,0,none⟩) l.length cap,.func (.func g) #[] #[]]:=by simp
 rw[kg];refine iZ.mono fun e w' ⟨he,d',m,os,hp,hs,hw⟩=>?_;subst he;obtain⟨p1,-,p3⟩:=hp;have fo:d'.size=l.length:=by rw[p1,iG]
 have adn:d'.toList.Perm (anH (n+1)):=by
  have ex:∀ (a:Array (Fin (n+1))),a.size=l.length->(a.extract 0 l.length).toList=a.toList:=fun a ha=>by rw[<- ha,Array.extract_size]
  rw[ex d' fo,ex d iG]at p3
  simpa [d]using p3
 have Sh:(anH (n+1)).map at_=l:=by
  apply List.ext_getElem?;intro i;rw[ahy];rcases Nat.lt_or_ge i (n+1)with hi|hi
  ·have:=cZ ⟨i,hi⟩;simp only at this;rw[this,aiX (zD hi)];simp
  ·rw[aht (zD hi),aht oM];rfl
 have pV:(d'.toList.map at_).Perm l:=by
  have:=adn.map at_
  rwa [Sh]at this
 have JM:(d'.toList.map at_).Pairwise (fun x y=>¬ cmp (en y) (en x)<0):=by
  rw[List.pairwise_map];refine List.pairwise_iff_getElem.2 fun i j hi hj eC=>?_;have cu:i<d'.size:=zD hi
  have fh:j<d'.size:=zD hj
  have:=hs i j (ai4 _) eC oM;rw[getElem!_pos d' j fh,getElem!_pos d' i cu]at this
  simpa [ltOf,cf]using this
 obtain⟨a1,a2,a3,a4,a5,a6⟩:=R2 (enc:=enc) (K:=K) (n:=m) (d:=d') (os:=os) q3;rw[<- hw]at a1 a2 a3 a4 a5 a6
 let c':Cx:={ c with heap:=[.arr 0 (t,K) ((d'.toList.map at_).map en)],w:=w' }
 have bW:∀ i bx,c.heap[i]?=some bx->i=0/\bx=.arr 0 (t,K) (l.map en):=fun i bx hi=>by
  rw[h1]at hi;cases i with
  |zero=>simp at hi;exact⟨rfl,hi.symm⟩
  |succ i=>simp at hi
 have mS:((d'.toList.map at_).map en).length=(l.map en).length:=by simp[fo]
 have bc:az.Step c c':=⟨rfl,h2.bV,a1,a2,a3,a4,fun b hb hn=>a5 b hb (fun e=>by subst e;exact hn 0 cap r1),fun i b n hi _=>⟨n,hi⟩,fun i bx hi=>by
  obtain⟨rfl,rfl⟩:=bW i bx hi
  exact .inl ⟨0,_,rfl,.inr ⟨rfl,mS,rfl⟩⟩⟩
 have aV:aO E.G c':=h2.next bc (fun i b n hi=>by
   have:=h2.bD i b n hi;refine⟨ahD this.1 a4,?_⟩;have h0:c.heap.length=1:=by rw[h1];rfl
   show i<1;omega) h2.inj (fun i bx hi=>by
  right;cases i with
  |succ i=>simp[c']at hi
  |zero =>
   simp[c']at hi;subst hi;refine⟨q0,fun i e he=>?_,.inr ⟨blk,cap,_,r1,a6,?_,?_,q6,fun i j e x he hx=>?_⟩⟩
   ·rw[<- ajR]at he;have:=(pV.map en).mem_iff.1 (aiQ he);obtain⟨i2,vh⟩:=aiN this;exact q1 i2 e vh
   ·simp[putCells,q4]
   ·rw[<- ajR,mS];exact q5
   ·simp only[ahy]at he;cases hq:d'.toList[i]? with
    |none=>rw[hq]at he;cases he
    |some y =>
     rw[hq]at he;cases he;have hi:i<l.length:=by have:=aW hq;simpa [fo]using this
     have yF:d'[i]?=some y:=zD hq
     have hx:(en (at_ y)).cells[j]?=some x:=hx;have Fx:j<K:=by have:=aW hx;rwa [hK _ (iq y)]at this
     have f1:=iH (K:=K) enc d' i j Fx y yF;obtain⟨x',v,b1,b2,b3,b4,b5⟩:=dQ y j Fx;rw[b1]at hx;cases hx;rw[Sg _ _ _ b3]at f1;have fw:vs'.size=cap*K:=q4;have la:l.length<=cap:=by have:=q5;rwa [aiO]at this
     have h5:i*K+j<vs'.size:=by
      have h6:(i+1)*K<=cap*K:=aiP K oM;rw[anq]at h6;omega
     have h7:i*K+j<l.length*K:=by
      have h6:(i+1)*K<=l.length*K:=aiP K oM;rw[anq]at h6;omega
     refine⟨v,?_,b4,bc.vd b5⟩;simp only[putCells,Array.getElem?_mapIdx,Array.getElem?_eq_getElem h5,air];rw[if_pos ⟨ai4 _,by rw[size_flatK,fo];omega⟩]
     exact congrArg some f1)
 refine⟨c',.aG [],.tuple #[],rfl,rfl,⟨rfl,_,pV,JM,rfl⟩,.aG [] #[] rfl (fun j x v hx=>by simp at hx),aV,?_⟩
 exact⟨rfl,a1,a2,a3,a4,fun b hb hn=>a5 b hb (fun e=>by subst e;exact hn 0 cap r1),fun i b n hi _=>⟨n,hi⟩,fun i bx hi=>by
  obtain⟨rfl,rfl⟩:=bW i bx hi
  exact .inl ⟨0,_,rfl,.inr ⟨rfl,mS,rfl⟩⟩⟩
end Go.Proofs.YtlhehdgciafakaaGreatDoor.P
end
section
namespace Go.Proofs.YtlhehdgciafakaaGreatDoor.P
open Go Go.az Go.Sort Go.RowKit
set_option maxRecDepth 100000
set_option maxHeartbeats 4000000
theorem ado(h:Host)(addr:Int):au E 79 [.cells [.d (.int .i64 addr)]] [.d h.enc,.ptr 0 0] (fun a b=>a=.d (.bool (h.addr==addr))/\b=[.cells [.d (.int .i64 addr)]]):=by
 obtain⟨n,d,o⟩:=h;show au E _ _ [.d (DV.agg [.str n,.int .i64 d,.int .i64 o]),_] _;apply au.kA
 case hk=>rfl
 refine aE ?_;exact⟨rfl,rfl⟩
def qU(l:List Host)(addr:Int):Int:=match l.findIdx? (·.addr==addr)with
 |some i=>i
 |none => -1
theorem adp{l:List Host}{addr:Int}{k:Nat}{x:Host}(hk:l[k]?=some x)(hx:(x.addr==addr)=true)(bI:∀ (j:Nat) (y:Host),j<k->l[j]?=some y->(y.addr==addr)=false):qU l addr=k:=by
 have:l.findIdx? (·.addr==addr)=some k:=by
  rw[List.findIdx?_eq_some_iff_getElem];obtain⟨h1,rfl⟩:=List.getElem?_eq_some_iff.1 hk;exact⟨h1,hx,fun j hj=>by simpa using bI j l[j] hj sP⟩
 simp[qU,this]
theorem adq{l:List Host}{addr:Int}(bI:∀ (j:Nat) (y:Host),l[j]?=some y->(y.addr==addr)=false):qU l addr = -1:=by
 have:l.findIdx? (·.addr==addr)=none:=by
  rw[List.findIdx?_eq_none_iff];intro x hx;obtain⟨j,hj⟩:=aiN hx;exact bI j x hj
 simp[qU,this]
theorem adr(l:List Host)(addr:Int)(hl:l.length<=1000000):au E 78 [.cells [.d (.int .i64 addr)]] [.d (.sl (l.map Host.enc)),.fn (.func 79) [] [.ptr 0 0]] (fun a b=>a=.d (.int .i64 (qU l addr))/\b=[.cells [.d (.int .i64 addr)]]):=by
 refine aE ?_;refine I.lP l.length ([4,5]++rg 8 11) (fun k=>[(8,.d (.int .i64 k))]) (fun _=>[]) (fun k=>k<=l.length/\∀ j y,j<k->l[j]?=some y->(y.addr==addr)=false) ⟨ai4 _,fun j y h=>by omega⟩ ?_ ?_
 ·exact sZ
 rintro k ⟨hk,bI⟩ IH;refine zA ?_ ?_<;>intro h5
 ·have ai:k<l.length:=zD h5
  obtain⟨x,hx⟩:=aI ai;have c1:=ado x addr;refine gC ?_;refine eM hx (gC ?_)
  with_reducible refine aX (c1) ?_
  refine gC ?_;cases hp:x.addr==addr
  ·refine vF ?_;refine I.back (IH (k+1) ⟨by omega,fun j y h1 h2=>(Nat.lt_succ_iff_lt_or_eq.1 h1).elim (fun h=>bI j y h h2) fun e=>by subst e;rw[hx]at h2;cases h2;exact hp⟩ oM) ?_;exact sZ
  ·refine vT ?_;exact⟨by rw[adp hx hp bI],rfl⟩
 ·have aA:l.length<=k:=zD h5
  refine gC ?_;exact⟨by rw[adq fun j y h=>bI j y (by have:=aW h;omega) h],rfl⟩
theorem ads(k:Int)(q:bp)(p:aH)(h1:q.name.length<=maxLen)(h2:p.ar.af.length<=maxLen):au E 81 [.cells [.d (.int .i64 k)],.cells [.d (.str q.name),.d (.int .i64 q.type)]] [.d p.enc,.ptr 0 0,.ptr 1 0] (fun a b=>a=.d (.bool (p.host==k&&Nm.fZ q.name p.ar.af))/\b=[.cells [.d (.int .i64 k)],.cells [.d (.str q.name),.d (.int .i64 q.type)]]):=by
 have c1:=acS q.name p.ar.af h1 h2;obtain⟨ph,⟨za,zs⟩⟩:=p;simp only at c1 ⊢;show au E _ _ [.d (DV.agg [.int .i64 ph,.str za,.sl (zs.map Signed.enc)]),_,_] _;apply au.kA
 case hk=>rfl
 refine aE ?_;cases hp:ph==k
 ·refine vF ?_;exact⟨by rw[Bool.false_and],rfl⟩
 ·refine vT ?_;refine ao (c1) (gC ?_);exact⟨by rw[Bool.true_and],rfl⟩
def eZ(z:aK):Int:=(Nm.labels z.af).length
def Si:DV->Text
 | .agg (.str a::_)=>a
 |_=>[]
def zW(x y:DV):Int:=((Nm.labels (Si y)).length:Int)-(Nm.labels (Si x)).length
theorem adt(a b:aK)(ha:Nm.valid a.af=true)(hb:Nm.valid b.af=true):aq E 84 [a.enc,b.enc] (· = .int .i64 (zW a.enc b.enc)):=by
 have c1:=R0 a.af (by have:=dh ha;exact pC oM) ha;have c2:=R0 b.af (by have:=dh hb;exact pC oM) hb;have l1:=IQ ha;have l2:=IQ hb;obtain⟨aa,sa⟩:=a;obtain⟨ba,sb⟩:=b;simp only at *;show aq E _ [DV.agg [.str aa,.sl (sa.map Signed.enc)],DV.agg [.str ba,.sl (sb.map Signed.enc)]] _;refine eP Tryz.func84 ?_;refine dU ?_;refine ax (c2) (gD ?_);refine ax (c1) (gD ?_);refine gO Tryz.func84 ?_;refine congrArg (DV.int .i64) ?_;show IntKind.i64.wrap _=_;rw[wrap64 oM oM];rfl
theorem adu:Sd Tryz.prog 83 84 2 Sf:=fun n enc cf hk h1 hO blk cap d w hc hH hblk bP=>by
 have eg:∀ args w,(callFunc 84 args).run Tryz.prog w=.ok (.enter 84 args) w:=enters_of Tryz.func84 (by kernel_rfl) rfl;exact AnyQ.slices_SortFunc Tryz.ZB 2 Tryz.isAgg57 Tryz.sizeOf57 enc hk h1 cf hO 84 #[] blk 0 cap d w eg (fun m os dk hs x y=>hc m os dk hs x y) hH hblk bP
theorem adw(l:List aK)(hl:l≠[])(hlen:l.length<4611686018427387904)(hv:∀ z∈l,Nm.valid z.af=true) :
  au E 83 [.arr 0 (57,2) (l.map aK.enc)] [.own 0 0,.fn (.func 84) [] []] (fun a b=>a=.aG []/\∃ l':List aK,l'.Perm l/\l'.Pairwise (fun x y=>eZ y<=eZ x)/\b=[.arr 0 (57,2) (l'.map aK.enc)]):=by
 have h:=adl (E:=E) (t:=57) aK.enc zW adu ⟨_,Tryz.func83,rfl,by decide⟩ l hl hlen (fun x hx=>rfl)
  ⟨fun x _=>by unfold zW;omega,fun x _ y _ z _=>by unfold zW;omega,fun x _ y _ z _=>by unfold zW;omega⟩
  (fun x hx=>adk _) (fun x hx y hy=>adt x y (hv x hx) (hv y hy))
 refine h.mono fun a b ⟨ha,l',hp,hs,hb⟩=>⟨ha,l',hp,hs.imp fun{x y} h=>?_,hb⟩;have e:zW y.enc x.enc=eZ x-eZ y:=rfl;omega
def dn(l:List aH)(k:Int)(n:Text):List aK:=(l.filter fun p=>p.host==k&&Nm.fZ n p.ar.af).map (·.ar)
theorem adx{l:List aH}{k:Int}{n:Text}{j:Nat}{x:aH}(h:l[j]?=some x):dn (l.take (j+1)) k n=dn (l.take j) k n++(if x.host==k&&Nm.fZ n x.ar.af then[x.ar]else[]):=by
 rw[dn,cj h,List.filter_append,aih];cases e:x.host==k&&Nm.fZ n x.ar.af<;>simp[e,dn]
theorem pZ{l:List aH}{k:Int}{n:Text}{z:aK}:z∈dn l k n↔∃ p∈l,p.host=k/\Nm.fZ n p.ar.af=true/\p.ar=z:=by
 simp only[dn,List.mem_map,List.mem_filter,ai2,beq_iff_eq];exact⟨fun⟨p,⟨h1,h2,h3⟩,h4⟩=>⟨p,h1,h2,h3,h4⟩,fun⟨p,h1,h2,h3,h4⟩=>⟨p,⟨h1,h2,h3⟩,h4⟩⟩
def iy(l:List aK):List aK:=l.mergeSort fun a b=>decide (eZ b<=eZ a)
theorem ady{l:List aH}{k:Int}{n:Text}{L:List aK}(hl:(l.map aH.spot).Nodup)(hp:L.Perm (dn l k n))(hs:L.Pairwise (fun x y=>eZ y<=eZ x)):L=iy (dn l k n):=by
 have h1:(iy (dn l k n)).Perm (dn l k n):=List.mergeSort_perm _ _;have h2:(iy (dn l k n)).Pairwise (fun x y=>eZ y<=eZ x):=(List.pairwise_mergeSort (le:=fun a b:aK=>decide (eZ b<=eZ a)) (fun a b c h1 h2=>by simp at *;omega) (fun a b=>by simp;omega) _).imp fun{a b} h=>zD h
 refine(hp.trans h1.symm).eq_of_pairwise (fun a b ha hb p q=>?_) hs h2;obtain⟨x,x1,x2,x3,rfl⟩:=pZ.1 (hp.mem_iff.1 ha);obtain⟨y,y1,y2,y3,rfl⟩:=pZ.1 (h1.mem_iff.1 hb);have e:x.ar.af=y.ar.af:=by
  simp only[Nm.fZ,ai2]at x3 y3;have u1:Nm.labels x.ar.af <:+ Nm.labels n:=by simpa [Nm.under]using x3.2
  have u2:Nm.labels y.ar.af <:+ Nm.labels n:=by simpa [Nm.under]using y3.2
  unfold eZ at p q;exact IS ((List.suffix_of_suffix_length_le u1 u2 oM).eq_of_length oM)
 obtain⟨i,hi⟩:=aiN x1;obtain⟨j,hj⟩:=aiN y1;have:i=j:=(List.getElem?_inj (by simpa using aW hi) hl).1 (by rw[ahy,ahy,hi,hj];simp[aH.spot,x2,y2,e]);subst this;rw[hi]at hj;cases hj;rfl
def mD(q:bp):List aK->Option aK
 |[]=>none
 |[z]=>some z
 |z::y::_=>some (if q.type=6/\z.af=q.name then y else z)
def jE(l:List aH)(k:Int)(q:bp):dJ × Int:=match mD q (iy (dn l k q.name))with
 |none=>(⟨7,[],[]⟩,0)
 |some z=>(iT z q,jC z q)
theorem adz(w:pT)(addr:Int)(q:bp)(hf:w.Fits)(hw:tR w=true)(hq:eD q=true)(lL:q.name.length<=maxLen)(hk:0<=qU w.ay addr):aq E 30 [w.enc,.int .i64 addr,q.enc] (· = .aG [(jE w.dS (qU w.ay addr) q).1.enc,.int .i64 (jE w.dS (qU w.ay addr) q).2]):=by
 refine aq.norm ?_;have c1:=acR w hf;have c2:=aaU q lL;rw[hw]at c1;rw[hq]at c2;have c3:=adr w.ay addr (by simp[tR,gb]at hw;omega);have fF:oZ w.ay.length w.dS=true:=by simp[tR]at hw;exact hw.1.2
 obtain⟨p1,p2,p3,-⟩:=EX.1 fF;have gw:=hf.dS;obtain⟨ay,dS,a,hints⟩:=w;obtain⟨qn,qt⟩:=q;simp only at *;generalize qU ay addr=k at *;show aq E _ [DV.agg [.sl (ay.map Host.enc),.sl (dS.map aH.enc),.str a.name,.int .i64 a.type,.int .i64 a.dD,.sl (a.data.map Datum.enc),.sl (hints.map (.int .i64))],_,.agg [.str qn,.int .i64 qt]] _;refine eP F30.h ?_;refine ao (c1) (gC ?_);refine vF ?_;refine ao (c2) (gC ?_);refine vF ?_
 with_reducible refine aX (c3) ?_
 refine gC ?_;refine aP (by simp;omega) ?_;(conv=>whnf);repeat ((fail_if_success (first|(refine I.qA 5 0 (57,2) dC rfl rfl ?_)|fail));(refine I.run ag F30.h 1 ?_);(conv=>whnf))
 refine I.qA 5 0 (57,2) dC rfl rfl ?_;(conv=>whnf);(conv=>whnf);(conv=>whnf);repeat ((fail_if_success (first|(refine I.rP (fn:=Tryz.f80) rfl rfl ve (zi (bg rfl) (bg rfl)) Tryz.func80 rfl dC ?_)|fail));(refine I.run ag F30.h 1 ?_);(conv=>whnf))
 refine I.rP (fn:=Tryz.f80) rfl rfl ve (zi (bg rfl) (bg rfl)) Tryz.func80 rfl dC ?_;(conv=>whnf);(conv=>whnf);repeat ((fail_if_success (first|(refine I.nQ ag F80.h rfl rfl rfl (L:=[]) rfl ?_)|fail));(refine I.run ag F80.h 1 ?_);(conv=>whnf))
 refine I.nQ ag F80.h rfl rfl rfl (L:=[]) rfl ?_;(conv=>whnf);(conv=>whnf);repeat ((fail_if_success (first|(refine I.rangeFunc (bg rfl) Tryz.func142 rfl dC rfl (fun ll d t=>?_))|fail));(refine I.run ag F30.h 1 ?_);(conv=>whnf))
 refine I.rangeFunc (bg rfl) Tryz.func142 rfl dC rfl (fun ll d t=>?_);(conv=>whnf);refine gC ?_;refine I.lP dS.length ([4,5]++rg 9 16) (fun j=>[(9,.d (.int .i64 j))]) (fun j=>[(5,.cells [.own 6 1]),(6,.arr 1 (57,2) ((dn (dS.take j) k qn).map aK.enc))]) (fun j=>j<=dS.length) (ai4 _) ?_ ?_
 ·(conv=>whnf);repeat (first|exact trivial|(rw[dW];conv=>whnf)|(refine sI ?_;conv=>whnf))
  refine⟨rfl, ?_⟩;(conv=>whnf);repeat (first|exact trivial|(rw[dW];conv=>whnf)|(refine sI ?_;conv=>whnf))
 intro j hj IH;refine zA ?_ ?_<;>intro h8
 ·have ai:j<dS.length:=zD h8
  obtain⟨x,hx⟩:=aI ai;have jd:=gw x (aiQ hx);have c4:=ads k ⟨qn,qt⟩ x lL jd.af;have eb:=adx (k:=k) (n:=qn) hx;have hlen:(dn (dS.take j) k qn).length<=j:=by rw[dn,aiO];exact aic (al0 ..) (by simp;omega)
  generalize dn (dS.take j) k qn=Y at *;obtain⟨xh,xa,xs⟩:=x;simp only at c4 eb;refine gC ?_;refine aR (e:=aH.enc ⟨xh,xa,xs⟩) (bC hx) rfl (gC ?_)
  with_reducible refine aX (c4) ?_
  refine gC ?_;cases hp:(xh==k&&Nm.fZ qn xa)
  ·rw[hp]at eb;simp only[Bool.false_eq_true,if_false,List.append_nil]at eb;refine vF ?_;refine vF ?_;refine I.back (IH (j+1) oM oM) ?_;rw[eb];(conv=>whnf);repeat (first|exact trivial|(rw[dW];conv=>whnf)|(refine sI ?_;conv=>whnf))
  ·rw[hp]at eb;refine aZ ?_;(conv=>whnf);repeat ((fail_if_success (first|(refine I.QS 0 rfl (QT rfl rfl rfl rfl) rfl (bg rfl) (zi (bg rfl) (bg rfl)) rfl ?_)|fail));(refine I.run ag F142.h 1 ?_);(conv=>whnf))
   refine I.QS 0 rfl (QT rfl rfl rfl rfl) rfl (bg rfl) (zi (bg rfl) (bg rfl)) rfl ?_;(conv=>whnf);refine gC ?_;refine I.begin 0 rfl rfl rfl ?_;(conv=>whnf);refine gC ?_;refine nA (gC ?_);refine I.rO 0 rfl rfl rfl ?_;(conv=>whnf);refine gC ?_;refine vT ?_;refine vF ?_;refine I.back (IH (j+1) oM oM) ?_;rw[eb,if_pos rfl,aih];(conv=>whnf);repeat (first|exact trivial|(rw[dW];conv=>whnf)|(refine sI ?_;conv=>whnf))
   refine⟨rfl, ?_⟩;(conv=>whnf);repeat (first|exact trivial|(rw[dW];conv=>whnf)|(refine sI ?_;conv=>whnf))
 ·have aA:j=dS.length:=by simp at h8;omega
  subst aA;rw[List.take_length];refine gC ?_;refine I.mZ ag F142.h rfl rfl rfl rfl (fun e=>nomatch e) ?_;(conv=>whnf);have fB:∀ z∈dn dS k qn,z.Fits/\Nm.valid z.af=true:=fun z hz=>by
   obtain⟨p,h1,-,-,rfl⟩:=pZ.1 hz;have h4:=p2 p h1;simp only[oY,ai2]at h4;exact⟨gw p h1,JQ h4.2⟩
  have dR:(dn dS k qn).length<=4000:=by rw[dn,aiO];exact aic (al0 ..) (zD p1)
  have bP:∀ L:List aK,L.Perm (dn dS k qn)->L.Pairwise (fun x y=>eZ y<=eZ x)->L=iy (dn dS k qn):=fun L h1 h2=>ady p3 h1 h2;unfold jE;generalize dn dS k qn=C at *;cases C with
  |nil =>
   refine I.freeze 6 ?_;(conv=>whnf);refine fW ?_
   refine gC ?_;refine vT ?_;refine I.kq ag F30.h rfl rfl rfl rfl rfl ?_;rw[show iy []=[]from List.mergeSort_nil];rfl
  |cons z C =>
   have c5:=adw (z::C) sP (by simp at dR ⊢;omega) (fun z hz=>(fB z hz).2);refine gC ?_;refine aP (by simp;omega) ?_;refine gC ?_;refine lB c5 ?_;rintro _ _ ⟨rfl,L,Fy,hL2,rfl⟩;obtain rfl:=bP L Fy hL2;have hLn:iy (z::C)≠[]:=fun e=>by rw[e]at Fy;exact absurd Fy.length_eq sP
   have Sj:∀ y∈iy (z::C),y.Fits:=fun y hy=>(fB y (Fy.mem_iff.1 hy)).1;generalize iy (z::C)=L at *;(conv=>whnf);refine I.freeze 6 ?_;(conv=>whnf);refine fW ?_
   cases L with
   |nil=>exact absurd rfl hLn
   |cons y L =>
    have c6:=RY y ⟨qn,qt⟩ (Sj y sP) lL;refine gC ?_;refine aR (e:=y.enc) ⟨by omega,rfl⟩ rfl ?_;cases L with
    |nil =>
     have hP:mD ⟨qn,qt⟩ [y]=some y:=rfl;generalize mD ⟨qn,qt⟩ [y]=Pz at *;subst hP;refine gC ?_;cases hq6:qt==6
     ·repeat' (first|with_reducible(first|refine cC c6 ?_|refine cX ?_|apply ah<;>intro)|refine gE ?_|with_reducible rfl)
      (conv=>whnf);refine gC ?_;refine I.kq ag F30.h rfl rfl rfl rfl rfl ?_;rfl
     ·refine vT ?_;cases qj:y.af==qn
      ·repeat' (first|with_reducible(first|refine cC c6 ?_|refine cX ?_|apply ah<;>intro)|refine gE ?_|with_reducible rfl)
       (conv=>whnf);refine gC ?_;refine I.kq ag F30.h rfl rfl rfl rfl rfl ?_;rfl
      ·refine vT ?_;refine aP sP (gC ?_);refine ao (c6) (gC ?_);(conv=>whnf);refine gC ?_;refine I.kq ag F30.h rfl rfl rfl rfl rfl ?_;rfl
    |cons y2 L =>
     have c7:=RY y2 ⟨qn,qt⟩ (Sj y2 sP) lL;refine gC ?_;cases hq6:qt==6
     ·repeat' (first|with_reducible(first|refine cC c6 ?_|refine cX ?_|apply ah<;>intro)|refine gE ?_|with_reducible rfl)
      (conv=>whnf);refine gC ?_;refine I.kq ag F30.h rfl rfl rfl rfl rfl ?_;rw[show mD ⟨qn,qt⟩ (y::y2::L)=some y by simp_all[mD]];rfl
     ·refine vT ?_;cases qj:y.af==qn
      ·repeat' (first|with_reducible(first|refine cC c6 ?_|refine cX ?_|apply ah<;>intro)|refine gE ?_|with_reducible rfl)
       (conv=>whnf);refine gC ?_;refine I.kq ag F30.h rfl rfl rfl rfl rfl ?_;rw[show mD ⟨qn,qt⟩ (y::y2::L)=some y by simp_all[mD]];rfl
      ·refine vT ?_;refine aN (by simp;omega) ?_;refine gC ?_;refine aR (e:=y2.enc) ⟨by omega,rfl⟩ rfl (gC ?_);refine ao (c7) (gC ?_);(conv=>whnf);refine gC ?_;refine I.kq ag F30.h rfl rfl rfl rfl rfl ?_;rw[show mD ⟨qn,qt⟩ (y::y2::L)=some y2 by simp_all[mD]];rfl
end Go.Proofs.YtlhehdgciafakaaGreatDoor.P
end
