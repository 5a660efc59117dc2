/- Lemmas of mine. Conditions: as stated. -/
import Derived.Test.YtfmdaiojokniiaaGreatDoorS27
set_option linter.unusedVariables false
set_option linter.unusedSimpArgs false
open Bool renaming and_eq_true->aft,eq_iff_iff->ahf,and_true->ahT
open Int renaming le_refl->ajo
open List renaming mem_singleton->ah9,mem_append->aeI,map_append->aeJ,filter_append->aiM,mem_append_left->agc,filter_filter->aj8,pairwise_append->ai9,mem_map->aer,filter_cons->ajX,map->aj3,append_nil->ags,foldl_append->ah8,eq_nil_or_concat->aiC,concat_eq_append->aiD,pairwise_singleton->aj9,all_cons->ait,all_nil->aj',length_map->aff,filter_congr->aka,filter_eq_nil_iff->ajh,find?_append->akb,take_of_length_le->afS,length_append->aey
open Nat renaming le_trans->aen
section
namespace Go.Proofs.YtfmdaiojokniiaaGreatDoor.P
open Go Go.aA
set_option maxRecDepth 100000
set_option maxHeartbeats 4000000
theorem ab3(e:eH)(c1:ar E 20 [e.enc] (· = .bool (ju e)))(c2:ar E 22 [e.before.enc,.sl (e.steps.map Step.enc)] (· = .aF [(ew e.before e.steps).enc,.int .i64 (applyN e.before e.steps)])) :
  ar E 15 [e.enc] (· = if ju e then .aF [(ew e.before e.steps).enc,.int .i64 (applyN e.before e.steps)]else .aF [mV.enc,.int .i64 1]):=by
 refine ar.norm ?_;generalize ju e=v at *;obtain⟨⟨ay,aB,anchor,hints,bJ,fin⟩,sl,cl,tl⟩:=e;simp only at c2 ⊢;generalize ew _ sl=H at *;generalize applyN _ sl=M at *;show ar E _ [DV.agg [.sl (ay.map Host.enc),.sl (aB.map aQ.enc),.str anchor.name,.int .i64 anchor.type,.int .i64 anchor.bY,.sl (anchor.data.map Datum.enc),.sl (hints.map (.int .i64)),.int .i64 bJ,.int .i64 fin,.sl (sl.map Step.enc),.sl (cl.map Claim.enc),.sl (tl.map cO.enc)]] _;refine eP Tryz.func15 ?_;repeat' (first|with_reducible(first|refine aq (c1) ?_|refine ax (c1) ?_|refine aq (c2) ?_|refine ax (c2) ?_|refine cY ?_|refine cN ?_|refine ai (fun _=>?_) (fun _=>?_))|refine gA Tryz.func15 ?_|refine gB ?_|with_reducible rfl)
 all_goals (simp_all;try rfl)
def eH.jW(x:eH)(l:List Claim):eH:=⟨x.before,x.steps,l,x.jR⟩
theorem ab4{x:eH}{l:List Claim}(h:ju x=true)(hl:kJ x.before l=true):ju (x.jW l)=true:=by
 simp only[ju,eH.jW,aft]at h ⊢;exact⟨⟨h.1.1,hl⟩,h.2⟩
theorem Qg{x:eH}(h:ju x=true):gM x.before x.steps=true:=by
 simp only[ju,aft]at h;exact h.1.1.2
theorem Qh{h:bO}{l:List Step}(hv:gM h l=true):eJ h=true:=by
 simp only[gM,aft]at hv;exact hv.1
theorem Qi{h:bO}{l:List Step}(hl:h.fO)(pn:h.aB.length<=20)(hv:gM h l=true)(hp:∀ s∈l,s.cD.cZ.length<=20/\∀ p∈s.cD.cZ,p.au.fO)(hn:l.length<=400):(ew h l).fO:=by
 by_cases h0:applyN h l=0
 ·rw[D1 h0];have:=HX (fin:=h.fin) (cs:=h.aB) (l:=l) (fun s hs=>by have:=(hp s hs).1;omega) l.length (Nat.le_refl _);rw[List.take_length]at this;exact⟨hl.ay,by simp only;omega,hl.hints,hl.anchor,Dz hl.eb fun s hs p hq _=>(hp s hs).2 p hq⟩
 ·rw[ew,if_neg h0];exact⟨by simp[mV],by simp[mV],by simp[mV],by simp[mV],fun c hc=>by simp[mV]at hc⟩
theorem Qj(x:eH)(E1:x.Fits)(hv:ju x=true)(l:List Claim)(hl:l.length<=400)(hz:∀ c∈l,c.au.Fits)(hb:kJ x.before l=true)(hs:Steps.Fits (cR l)) :
  ar E 15 [(x.jW l).enc] (· = .aF [(ew x.before x.steps).enc,.int .i64 (applyN x.before x.steps)])/\ar E 13 [(x.jW l).enc] (· = .aF [(ew x.before (cR l)).enc,.int .i64 (applyN x.before (cR l))]):=by
 have c1:=Zo (x.jW l) E1.before E1.aB E1.steps (oH.Fits.b ⟨ni (show l.length<=2147483648 by omega),hz⟩) E1.Dv E1.each;have e1:=ab4 hv hb;have c2:=ab3 (x.jW l) c1 (H5 x.before x.steps E1.before E1.aB E1.steps);have c3:=abS (x.jW l) c1 hl (H5 x.before (cR l) E1.before E1.aB hs);rw[e1,if_pos rfl]at c2 c3;exact⟨c2,c3⟩
end Go.Proofs.YtfmdaiojokniiaaGreatDoor.P
end
section
namespace Go.Proofs.YtfmdaiojokniiaaGreatDoor.P
open Go Go.aA
structure D5(n:Nat)(fin:Int)(l:List Claim)(G:List (Int × List aK)):Prop where
 inc:G.Pairwise (fun a b=>a.1<b.1)
 ok:∀ g∈G,0<=g.1/\g.1<fin/\g.2.all (iz n)=true/\(g.2.map aK.spot).Nodup/\g.1<=lD 0 l
 key:∀ g∈G,∀ p∈g.2,(p.host,g.1,p.au.ao)∈l.map Claim.key
 pos:0<=lD 0 l
theorem D6{l:List Claim}{c:Claim}{t:Int}:lD t (l++[c])=c.time:=by simp[lD]
def Claim.put(c:Claim):aK:=⟨c.host,c.au⟩
theorem Qu{n:Nat}{fin:Int}{l:List Claim}{G:List (Int × List aK)}(I:D5 n fin l G)(c:Claim)(hc:lD 0 l<=c.time) :
  (jV G c=G++[(c.time,[c.put])]/\∀ g∈G,g.1<c.time)\/(∃ G0 ps,G=G0++[(c.time,ps)]/\jV G c=G0++[(c.time,ps++[c.put])]/\∀ g∈G0,g.1<c.time):=by
 rcases aiC G with rfl|⟨G0,g,rfl⟩
 ·exact .inl ⟨rfl,fun g hg=>by cases hg⟩
 ·rw[aiD]at I ⊢;have vM:=ai9.1 I.inc;have ah:∀ a∈G0,a.1<g.1:=fun a ha=>vM.2.2 a ha g (ah9.2 rfl);have hle:=(I.ok g (by simp)).2.2.2.2;obtain⟨τ,ps⟩:=g;simp only at ah hle;by_cases e : τ=c.time
  ·subst e;exact .inr ⟨G0,ps,rfl,P6 rfl,ah⟩
  ·refine .inl ⟨I7 fun y hy=>?_,fun y hy=>?_⟩
   ·simp at hy;subst hy;exact e
   ·rcases aeI.1 hy with hy|hy
    ·have:=ah y hy;omega
    ·rw[ah9.1 hy];simp only;omega
theorem acd{n:Nat}{fin:Int}{l:List Claim}{G:List (Int × List aK)}{c:Claim}(I:D5 n fin l G)(hc:nO n fin (lD 0 l) (l.map Claim.key) c=true):D5 n fin (l++[c]) (jV G c):=by
 simp only[nO,aft,decide_eq_true_eq]at hc;obtain⟨⟨⟨k1,k2⟩,k3⟩,k4⟩:=hc;have hp:=I.pos;have old:∀ g∈G,0<=g.1/\g.1<fin/\g.2.all (iz n)=true/\(g.2.map aK.spot).Nodup/\g.1<=c.time:=fun g hg=>by
  obtain⟨a1,a2,a3,a4,a5⟩:=I.ok g hg;exact⟨a1,a2,a3,a4,by omega⟩
 have Jc:∀ g∈G,∀ p∈g.2,(p.host,g.1,p.au.ao)∈(l++[c]).map Claim.key:=fun g hg p hp=>by
  rw[aeJ];exact agc _ (I.key g hg p hp)
 rcases Qu I c k2 with⟨e,ah⟩|⟨G0,ps,rfl,e,ah⟩
 ·rw[e];refine⟨ai9.2 ⟨I.inc,aj9 ..,fun a ha b hb=>by rw[ah9.1 hb];exact ah a ha⟩,fun g hg=>?_,fun g hg=>?_,by rw[D6];omega⟩
  ·rw[D6];rcases aeI.1 hg with hg|hg
   ·exact old g hg
   ·rw[ah9.1 hg];exact⟨by simp only;omega,k3,by simp only[ait,aj',ahT];exact k1,by simp,ajo _⟩
  ·rcases aeI.1 hg with hg|hg
   ·exact Jc g hg
   ·rw[ah9.1 hg];intro p hp;rw[ah9.1 hp];simp[Claim.key,Claim.put]
 ·rw[e];have vM:=ai9.1 I.inc;refine⟨ai9.2 ⟨vM.1,aj9 ..,fun a ha b hb=>by rw[ah9.1 hb];exact ah a ha⟩,fun g hg=>?_,fun g hg=>?_,by rw[D6];omega⟩
  ·rw[D6];rcases aeI.1 hg with hg|hg
   ·exact old g (agc _ hg)
   ·rw[ah9.1 hg];obtain⟨a1,a2,a3,a4,a5⟩:=old (c.time,ps) (by simp);refine⟨a1,a2,?_,?_,ajo _⟩
    ·simp only at a3 ⊢;rw[List.all_append,a3];simp only[ait,aj',ahT];exact k1
    ·simp only at a4 ⊢;rw[aeJ];refine List.nodup_append.2 ⟨a4,by simp,fun a ha b hb e2=>?_⟩;obtain⟨p,hp,rfl⟩:=aer.1 ha;obtain rfl:b=c.put.spot:=by simpa using hb
     have:=I.key (c.time,ps) (by simp) p hp;simp only[aK.spot,Claim.put,Prod.mk.injEq]at e2;rw[e2.1,e2.2]at this;exact k4 this
  ·rcases aeI.1 hg with hg|hg
   ·exact Jc g (agc _ hg)
   ·rw[ah9.1 hg];intro p hp;rcases aeI.1 hp with hp|hp
    ·exact Jc (c.time,ps) (by simp) p hp
    ·rw[ah9.1 hp];simp[Claim.key,Claim.put]
theorem D7{n:Nat}{fin:Int}:∀ (m:Nat) {l:List Claim},l.length=m->fZ n fin 0 [] l=true->D5 n fin l (sf l)
 |0,l,hl,_=>by
  obtain rfl:=List.eq_nil_of_length_eq_zero hl;exact⟨List.Pairwise.nil,fun g hg=>(by cases hg),fun g hg=>(by cases hg),ajo 0⟩
 |m+1,l,hl,h=>by
  rcases aiC l with rfl|⟨l0,c,rfl⟩
  ·simp at hl
  ·rw[aiD]at h hl ⊢;rw[yx];have h1:=I8 h;rw[D0,aft]at h;exact acd (D7 m (by simpa using hl) h.1) (by simpa using h1)
theorem Qv{h:bO}{l:List Claim}(hh:eJ h=true)(hl:l.length<=400)(hc:fZ h.ay.length h.fin 0 [] l=true):gM h (cR l)=true:=by
 have I:=D7 l.length rfl hc;have hg:=I6 l;refine Qn.2 ⟨hh,by rw[cR,aff];omega,fun s hs=>?_,?_⟩
 ·obtain⟨g,Qw,rfl⟩:=aer.1 hs;obtain⟨a1,a2,a3,a4,-⟩:=I.ok g Qw;have:=hg.2 g Qw;simp only[gK,aft,decide_eq_true_eq];exact⟨a1,a2,⟨by omega,a3⟩,a4⟩
 ·rw[cR,List.pairwise_map];exact I.inc
def stepG(g:Int × List aK):Step:=⟨g.1,⟨g.2⟩⟩
def iG(l:List aK)(h:Int)(a:Text):bc:=match l.find? fun p=>p.host==h&&p.au.ao==a with
 |none=>⟨a,[]⟩
 |some p=>p.au
def jz(q:cH)(p:aK):Bool:=decide (p.spot=q)
theorem Jd(l:List aK)(q:cH):iG l q.1 q.2=match (l.filter (jz q)).head? with
  |none=>⟨q.2,[]⟩
  |some p=>p.au:=by
 have e:(fun p:aK=>p.host==q.1&&p.au.ao==q.2)=jz q:=by
  funext p;rw[ahf];simp[jz,aK.spot,Prod.ext_iff]
 rw[iG,e,<- List.head?_filter]
theorem Qx{a b:List aK}{q:cH}(h:a.filter (jz q)=b.filter (jz q)):iG a q.1 q.2=iG b q.1 q.2:=by rw[Jd,Jd,h]
theorem ace{α:Type}{f g k:α->Bool}(h:∀ x,g x=true->f x=k x)(l:List α):(l.filter f).filter g=(l.filter k).filter g:=by
 rw[aj8,aj8];refine aka fun x _=>?_;cases hg:g x
 ·rfl
 ·rw[h x hg]
theorem Qy{v z:List aK}{ps:List aK}{p:aK}{q:cH}(hq:p.spot≠q):((pD z ⟨ps++[p]⟩).filter (jz q)=(pD z ⟨ps⟩).filter (jz q))/\(pD v ⟨[p]⟩).filter (jz q)=v.filter (jz q):=by
 have e2:([p].filter fun p => !fQ p.au).filter (jz q)=[]:=by
  cases hs:fQ p.au<;>simp[ajX,hs,jz,hq]
 constructor
 ·unfold pD;simp only[aiM,e2,ags]
  congr 1
  refine ace (fun x hx=>?_) z;have hx:x.spot=q:=by simpa [jz]using hx
  rw[hx,aeJ];rw[ahf];simp[Ne.symm hq]
 ·unfold pD;simp only[aiM,e2,ags];rw[aj8];refine aka fun x _=>?_;rw[ahf];simp only[jz,aft,decide_eq_true_eq,Bool.not_eq_true',decide_eq_false_iff_not];refine⟨fun h=>h.1,fun h=>⟨h,fun hm=>?_⟩⟩;rw[h]at hm;exact hq (ah9.1 hm).symm
theorem Qz{z ps:List aK}{p:aK}(hn:∀ x∈ps,x.spot≠p.spot):iG (pD z ⟨ps++[p]⟩) p.host p.au.ao=p.au:=by
 have e:(pD z ⟨ps++[p]⟩).filter (jz p.spot)=[p].filter fun p => !fQ p.au:=by
  unfold pD;simp only[aiM];have e1:(z.filter fun x => !decide (x.spot∈(ps++[p]).map aK.spot)).filter (jz p.spot)=[]:=by
   rw[aj8,ajh];intro x _;simp[jz];intro h;simp[h]
  have e2:(ps.filter fun p => !fQ p.au).filter (jz p.spot)=[]:=by
   rw[aj8,ajh];intro x hx;simp[jz,hn x hx]
  rw[e1,e2];cases hs:fQ p.au<;>simp[ajX,hs,jz]
 have h:=Jd (pD z ⟨ps++[p]⟩) p.spot;rw[e]at h;refine h.trans ?_;cases hs:fQ p.au
 ·simp[ajX,hs]
 ·have:p.au.ae=[]:=by
   simp only[fQ,aft,List.isEmpty_iff]at hs;exact hs.1.1
  obtain⟨ph,⟨pa,adM⟩⟩:=p;simp only at this;subst this;simp[ajX,hs,aK.spot]
theorem acf{h:bO}{l:List Claim}{c:Claim}{t:Int}(hc:fZ h.ay.length h.fin 0 [] (l++[c])=true)(ht:t<h.fin) :
  (t<c.time->dq (dN h.fin h.aB (cR (l++[c]))) t=dq (dN h.fin h.aB (cR l)) t) /\
  (c.time<=t->iG (dq (dN h.fin h.aB (cR (l++[c]))) t) c.host c.au.ao=c.au/\∀ q:cH,q≠(c.host,c.au.ao)->iG (dq (dN h.fin h.aB (cR (l++[c]))) t) q.1 q.2=iG (dq (dN h.fin h.aB (cR l)) t) q.1 q.2):=by
 have h1:=I8 hc;have I2:=D7 (l++[c]).length rfl hc;rw[D0,aft]at hc;have I:=D7 l.length rfl hc.1;simp only[nO,List.nil_append,aft,decide_eq_true_eq]at h1;obtain⟨⟨⟨k1,k2⟩,k3⟩,k4⟩:=h1;rw[yx]at I2;have hG:∀ l,cR l=(sf l).map stepG:=fun _=>rfl;rw[Ja ht,Ja ht,hG,hG,yx];generalize dq h.aB t=cs;rcases Qu I c k2 with⟨e,ah⟩|⟨G0,ps,e0,e,ah⟩
 ·rw[e,aeJ,aiM];refine⟨fun h1=>?_,fun h1=>?_⟩
  ·rw[show(aj3 stepG [(c.time,[c.put])]).filter (fun s=>decide (s.time<=t))=[] by simp[stepG];omega,ags]
  ·have e1:(aj3 stepG [(c.time,[c.put])]).filter (fun s=>decide (s.time<=t))=[⟨c.time,⟨[]++[c.put]⟩⟩]:=by simp[stepG];omega
   rw[e1,ah8];refine⟨Qz (p:=c.put) fun x hx=>(by cases hx),fun q hq=>Qx ?_⟩;exact(Qy (z:=[]) (ps:=[]) (p:=c.put) (fun e=>hq e.symm)).2
 ·have e1:(aj3 stepG [(c.time,ps++[c.put])]).filter (fun s=>decide (s.time<=t))=if c.time<=t then[⟨c.time,⟨ps++[c.put]⟩⟩]else[]:=by
   by_cases h:c.time<=t<;>simp[stepG,h]
  have e2:(aj3 stepG [(c.time,ps)]).filter (fun s=>decide (s.time<=t))=if c.time<=t then[⟨c.time,⟨ps⟩⟩]else[]:=by
   by_cases h:c.time<=t<;>simp[stepG,h]
  have hn:∀ x∈ps,x.spot≠c.put.spot:=fun x hx e5=>by
   have:=I.key (c.time,ps) (by rw[e0];simp) x hx;simp only[aK.spot,Claim.put,Prod.mk.injEq]at e5;simp only[e5.1,e5.2]at this;exact k4 this
  rw[e,e0,aeJ,aeJ,aiM,aiM,e1,e2];refine⟨fun h1=>?_,fun h1=>?_⟩
  ·rw[if_neg (by omega),if_neg (by omega)]
  ·rw[if_pos h1,if_pos h1,ah8,ah8];exact⟨Qz hn,fun q hq=>Qx (Qy (v:=[]) (p:=c.put) (fun e=>hq e.symm)).1⟩
end Go.Proofs.YtfmdaiojokniiaaGreatDoor.P
end
section
namespace Go.Proofs.YtfmdaiojokniiaaGreatDoor.P
open Go Go.aA
set_option maxRecDepth 100000
set_option maxHeartbeats 4000000
theorem Je(l:List aK)(h:Int)(a:Text)(hl:l.length<=1000000):ar E 28 [.sl (l.map aK.enc),.int .i64 h,.str a] (· = (iG l h a).enc):=by
 refine ar.norm ?_;generalize hF:(fun p:aK=>p.host==h&&p.au.ao==a)=F;have DP:iG l h a=match l.find? F with
  |none=>⟨a,[]⟩
  |some p=>p.au:=by rw[iG,hF]<;>(cases l.find? F<;>rfl)
 refine eP Tryz.func28 ?_;refine J.loop (κ:=Nat) (rg 7 29) (fun k=>[(7,.d (.int .i64 k))]) (fun _=>[]) (fun k=>k<=l.length/\(l.take k).find? F=none) (fun k=>l.length-k) 0 ⟨Nat.zero_le _,rfl⟩ ?_ ?_
 ·exact sZ
 rintro k ⟨hk,bI⟩ IH;refine J.head ag Tryz.func28 2000 ?_;(conv=>whnf);refine ai (fun h5=>?_) (fun h5=>?_)
 ·have ah:k<l.length:=by simpa using h5
  obtain⟨p,hp⟩:=aH ah;have acu:F p=true->iG l h a=p.au:=fun hf=>by
   have e:l=l.take k++p::l.drop (k+1):=by
    obtain⟨h1,h2⟩:=List.getElem?_eq_some_iff.1 hp;rw[<- h2,<- List.drop_eq_getElem_cons h1,List.take_append_drop]
   rw[DP,e,akb,bI];simp[hf]
  have acv:F p=false->(l.take (k+1)).find? F=none:=fun hf=>by
   rw[cG hp,akb,bI];simp[hf]
  subst hF;refine gO Tryz.func28 ?_;repeat' (first|with_reducible(first|refine aD (aO hp) rfl ?_|refine cY ?_|refine cN ?_|refine ai (fun _=>?_) (fun _=>?_))|refine gA Tryz.func28 ?_|refine gB ?_|with_reducible rfl)
  ·rw[acu (by simp_all)];rfl
  all_goals
   refine gO Tryz.func28 ?_;refine J.back (IH (k+1) ⟨by omega,acv (by simp_all)⟩ (by omega)) ?_;exact sZ
 ·have aC:l.length<=k:=by simpa using h5
  rw[afS aC]at bI;rw[DP,bI];refine gO Tryz.func28 ?_;rfl
theorem QC{P:aK->Prop}:∀ {l:List Claim} {gs:List (Int × List aK)},(∀ g∈gs,∀ p∈g.2,P p)->(∀ c∈l,P c.put)->∀ g∈l.foldl jV gs,∀ p∈g.2,P p
 |[],gs,h,_=>h
 |c::l,gs,h,hl=>by
  refine QC (l:=l) (gs:=jV gs c) ?_ fun d hd=>hl d (List.mem_cons_of_mem _ hd);have hc:=hl c (List.mem_cons_self ..);have dF:∀ g∈gs++[(c.time,[c.put])],∀ p∈g.2,P p:=fun g hg p hp=>by
   rcases aeI.1 hg with hg|hg
   ·exact h g hg p hp
   ·rw[ah9.1 hg]at hp;rw[ah9.1 hp];exact hc
  unfold jV;split
  ·exact dF
  ·rename_i g hg;split
   ·intro y hy p hp;rcases aeI.1 hy with hy|hy
    ·exact h y (List.dropLast_subset _ hy) p hp
    ·rw[ah9.1 hy]at hp;rcases aeI.1 hp with hp|hp
     ·exact h g (List.mem_of_getLast? hg) p hp
     ·rw[ah9.1 hp];exact hc
   ·exact dF
theorem Jf{P:bc->Prop}{l:List Claim}(h:∀ c∈l,P c.au):∀ s∈cR l,∀ p∈s.cD.cZ,P p.au:=fun s hs p hp=>by
 obtain⟨g,hg,rfl⟩:=aer.1 hs;exact QC (P:=fun p=>P p.au) (gs:=[]) (fun g hg=>(by cases hg)) h g hg p hp
theorem D9{l:List Claim}:(cR l).length<=l.length/\∀ s∈cR l,s.cD.cZ.length<=l.length:=by
 have:=I6 l;refine⟨by rw[cR,aff];exact this.1,fun s hs=>?_⟩;obtain⟨g,hg,rfl⟩:=aer.1 hs;exact this.2 g hg
theorem QD{l:List Claim}(h:∀ c∈l,c.au.Fits)(hl:l.length<=400):Steps.Fits (cR l) :=
 ⟨fun s hs=>⟨Jf h s hs,by have:=D9.2 s hs;omega⟩,by have:=D9 (l:=l);omega⟩
theorem QE{h:bO}{l:List Step}(hf:h.Fits)(hs:Steps.Fits l):(ew h l).Fits:=by
 by_cases h0:applyN h l=0
 ·rw[D1 h0];exact⟨hf.ay,hf.anchor,hf.hints,Dz hf.eb fun s iN p hp _=>(hs.each s iN).eb p hp⟩
 ·rw[ew,if_neg h0];exact⟨fun x hx=>by simp[mV]at hx,⟨ni (by simp[mV]),by simp[mV],fun d hd=>by simp[mV]at hd⟩,ni (by simp[mV]),fun c hc=>by simp[mV]at hc⟩
theorem acw{l:List aK}(h:∀ p∈l,p.au.fO)(i:Int)(a:Text):(iG l i a).fO:=by
 unfold iG;split
 ·exact⟨by simp,fun s hs=>by simp at hs⟩
 ·rename_i p hp;exact h p (List.mem_of_find?_eq_some hp)
structure QF(h:bO)(l:List Claim)(c:Claim):Prop where
 n1:applyN h (cR l)=0\/applyN h (cR l)=2
 n2:applyN h (cR (l++[c]))=0\/applyN h (cR (l++[c]))=2
 f1:(ew h (cR l)).Fits
 f2:(ew h (cR (l++[c]))).Fits
 l1:(ew h (cR l)).fO
 l2:(ew h (cR (l++[c]))).fO
 hc:fZ h.ay.length h.fin 0 [] (l++[c])=true
theorem acx{h:bO}{l:List Claim}{c:Claim}{t:Int}(T:QF h l c)(hn:applyN h (cR l)=0/\applyN h (cR (l++[c]))=0)(t1:0<=t)(t2:t<h.fin):(h.ay.length<=1000000/\h.hints.length<=1000000/\h.anchor.data.length<=2147483648)/\∃ ZV ZW:List aK,
  ar E 25 [(ew h (cR l)).enc,.int .i64 t] (· = .aF [(⟨h.ay,ZV,h.anchor,h.hints⟩:ix).enc,.int .i64 0])/\ar E 25 [(ew h (cR (l++[c]))).enc,.int .i64 t] (· = .aF [(⟨h.ay,ZW,h.anchor,h.hints⟩:ix).enc,.int .i64 0]) /\
  (∀ p∈ZV,p.au.fO)/\(∀ p∈ZW,p.au.fO)/\ZV.length<=1000000/\ZW.length<=1000000/\(t<c.time->ZW=ZV)/\(c.time<=t->iG ZW c.host c.au.ao=c.au/\∀ q:cH,q≠(c.host,c.au.ao)->iG ZW q.1 q.2=iG ZV q.1 q.2):=by
 obtain⟨-,-,f1,f2,l1,l2,hR⟩:=T;have p1:=QB _ t f1 l1.aB;have p2:=QB _ t f2 l2.aB;have h1:=Qt hn.1;have h2:=Qt hn.2;obtain⟨s1,s2⟩:=acf hR t2;rw[D1 hn.1]at p1 h1 l1 ⊢;rw[D1 hn.2]at p2 h2 l2 ⊢;have a1:oP { h with aB:=dN h.fin h.aB (cR l) } t=0:=D4.2 ⟨h1,t1,t2⟩;have a2:oP { h with aB:=dN h.fin h.aB (cR (l++[c])) } t=0:=D4.2 ⟨h2,t1,t2⟩;rw[yy,if_pos a1,a1]at p1;rw[yy,if_pos a2,a2]at p2;refine⟨⟨l1.ay,l1.hints,l1.anchor⟩,_,_,p1,p2,fun p hp=>?_,fun p hp=>?_,?_,?_,s1,s2⟩
 ·obtain⟨d,hd,-,-,rfl⟩:=Qk hp;exact l1.eb d hd
 ·obtain⟨d,hd,-,-,rfl⟩:=Qk hp;exact l2.eb d hd
 ·exact aen I' l1.aB
 ·exact aen I' l2.aB
def Bk(x:eH)(c:Claim):DV := .agg [.sl (x.before.ay.map Host.enc),.sl (x.before.aB.map aQ.enc),.str x.before.anchor.name,.int .i64 x.before.anchor.type,.int .i64 x.before.anchor.bY,.sl (x.before.anchor.data.map Datum.enc),.sl (x.before.hints.map (.int .i64)),.int .i64 x.before.bJ,.int .i64 x.before.fin,.sl (x.steps.map Step.enc),.sl ([]++x.bM.map Claim.enc++[c.enc]),.sl (x.jR.map cO.enc)]
theorem Jg(x:eH)(c:Claim):(x.jW (x.bM++[c])).enc=Bk x c:=by
 show DV.agg [_,_,_,_,_,_,_,_,_,_,DV.sl ((x.bM++[c]).map Claim.enc),_]=_;rw[show(x.bM++[c]).map Claim.enc=[]++x.bM.map Claim.enc++[c.enc] by simp];rfl
theorem acy{x:eH}{c:Claim}(hx:x.Good)(hc:c.Good)(hb:x.bM.length<=1048576):(x.jW (x.bM++[c])).Good:=by
 refine⟨hx.1,hx.2.1,⟨ni (by simp[eH.jW];omega),fun d hd=>?_⟩,hx.2.2.2⟩;rcases aeI.1 hd with hd|hd
 ·exact hx.2.2.1.2 d hd
 ·rw[ah9.1 hd];exact hc
theorem acz{x:eH}{c:Claim}(hg:(x.jW (x.bM++[c])).Good)(hf:vR (x.jW (x.bM++[c]))=true)(hv:ju (x.jW (x.bM++[c]))=true) :
  QF x.before x.bM c/\c.au.fO/\ar E 13 [x.enc] (· = .aF [(ew x.before (cR x.bM)).enc,.int .i64 (applyN x.before (cR x.bM))])/\ar E 13 [Bk x c] (· = .aF [(ew x.before (cR (x.bM++[c]))).enc,.int .i64 (applyN x.before (cR (x.bM++[c])))]):=by
 obtain⟨E1,pn⟩:=P' hg hf;have pn:(x.bM++[c]).length<=20:=pn;have Jh:kJ x.before (x.bM++[c])=true:=by simp[ju]at hv;exact hv.1.2
 have hh:=Qh (Qg hv);simp only[kJ,aft,decide_eq_true_eq]at Jh;have hR:=Jh.2;have Ji:=hR;rw[D0,aft]at Ji;have hle:x.bM.length<=20:=by rw[aey]at pn;omega
 have v8:kJ x.before x.bM=true:=by simp only[kJ,aft,decide_eq_true_eq];exact⟨by omega,Ji.1⟩
 have wa:kJ x.before (x.bM++[c])=true:=by simp only[kJ,aft,decide_eq_true_eq];exact Jh
 have z2:∀ d∈x.bM++[c],d.au.Fits:=E1.bM.2;have z1:∀ d∈x.bM,d.au.Fits:=fun d hd=>z2 d (agc _ hd);have s1:=QD z1 (by omega);have s2:=QD z2 (by omega);have c1:=(Qj (x.jW (x.bM++[c])) E1 hv x.bM (by omega) z1 v8 s1).2;have c2:=(Qj (x.jW (x.bM++[c])) E1 hv (x.bM++[c]) (by omega) z2 wa s2).2;have v1:=Qv hh (l:=x.bM) (by omega) Ji.1;have v2:=Qv hh (l:=x.bM++[c]) (by omega) hR;simp only[vR,aft,decide_eq_true_eq]at hf;obtain⟨⟨⟨⟨⟨f1,-⟩,f3⟩,-⟩,-⟩,-⟩:=hf;obtain⟨g1,g20,-,gL⟩:=P7 hg.1 f3;have f1:((x.bM++[c]).take 21).all (fun c=>lr c.au)=true:=f1;rw[afS (by omega)]at f1;have L2:∀ d∈x.bM++[c],d.au.fO:=fun d hd=>(Dp (hg.2.2.1.2 d hd).2.2 (List.all_eq_true.1 f1 d hd)).2.2;have L1:∀ d∈x.bM,d.au.fO:=fun d hd=>L2 d (agc _ hd);have p1:=D9 (l:=x.bM);have p2:=D9 (l:=x.bM++[c]);refine⟨⟨Qs v1,Qs v2,QE g1 s1,QE g1 s2,Qi gL g20 v1 (fun s hs=>⟨by have:=p1.2 s hs;omega,Jf L1 s hs⟩) (by omega),Qi gL g20 v2 (fun s hs=>⟨by have:=p2.2 s hs;omega,Jf L2 s hs⟩) (by omega),hR⟩,L2 c (by simp),c1,?_⟩;rw[<- Jg];exact c2
theorem acA{a b:List aK}{k:Nat}{p:aK}(h:(a++b)[k]?=some p):rm ([]++a.map aK.enc++b.map aK.enc) k p.enc:=by
 rw[show[]++a.map aK.enc++b.map aK.enc=(a++b).map aK.enc by simp];exact aO h
theorem acB(x:eH)(c:Claim)(t:Int)(hx:x.Good)(hc:c.Good)(hb:x.bM.length<=1048576):ar E 7 [x.enc,c.enc,.int .i64 t] (· = .bool true):=by
 have hg:=acy hx hc hb;have cf:=Ye (x.jW (x.bM++[c])) hg.2.2.1.1 hg.2.2.2.1 (abX hg);rw[Jg]at cf;cases hf:vR (x.jW (x.bM++[c]))
 ·rw[hf]at cf;unfold Bk at cf;clear hf;obtain⟨⟨ay,aB,anchor,hints,bJ,fin⟩,sl,cl,tl⟩:=x;simp only at hb cf;show ar E _ [DV.agg [.sl (ay.map Host.enc),.sl (aB.map aQ.enc),.str anchor.name,.int .i64 anchor.type,.int .i64 anchor.bY,.sl (anchor.data.map Datum.enc),.sl (hints.map (.int .i64)),.int .i64 bJ,.int .i64 fin,.sl (sl.map Step.enc),.sl (cl.map Claim.enc),.sl (tl.map cO.enc)],DV.agg [.int .i64 c.host,.int .i64 c.time,.str c.au.ao,.sl (c.au.ae.map Signed.enc)],_] _;refine eP F7 ?_;refine aq (Bi) ?_;refine gO F7 ?_;refine dU ?_;refine gD ?_;refine aW ⟨by simp;omega,by simp[DV.cells]⟩ ?_;refine gD ?_;refine aW ⟨by simp;omega,by simp[DV.cells]⟩ ?_;refine gD ?_;refine And.intro (by kernel_rfl) ?_;(conv=>whnf);refine J.freeze 3 ?_;(conv=>whnf);refine gO F7 ?_;refine aq cf ?_;refine gO F7 ?_;refine a8 ?_;refine gO F7 ?_;refine a8 ?_;refine gO F7 ?_;refine a8 ?_;refine gO F7 ?_;refine a8 ?_;refine gO F7 ?_
  with_reducible rfl
 obtain⟨E1,-⟩:=P' hg hf;have cv:=Yf _ E1;rw[Jg]at cv;rw[hf]at cf;cases hv:ju (x.jW (x.bM++[c]))
 ·rw[hv]at cv;unfold Bk at cf cv;clear hf hv E1 hg hx hc;obtain⟨⟨ay,aB,anchor,hints,bJ,fin⟩,sl,cl,tl⟩:=x;simp only at hb cf cv;show ar E _ [DV.agg [.sl (ay.map Host.enc),.sl (aB.map aQ.enc),.str anchor.name,.int .i64 anchor.type,.int .i64 anchor.bY,.sl (anchor.data.map Datum.enc),.sl (hints.map (.int .i64)),.int .i64 bJ,.int .i64 fin,.sl (sl.map Step.enc),.sl (cl.map Claim.enc),.sl (tl.map cO.enc)],DV.agg [.int .i64 c.host,.int .i64 c.time,.str c.au.ao,.sl (c.au.ae.map Signed.enc)],_] _;refine eP F7 ?_;refine aq (Bi) ?_;refine gO F7 ?_;refine dU ?_;refine gD ?_;refine aW ⟨by simp;omega,by simp[DV.cells]⟩ ?_;refine gD ?_;refine aW ⟨by simp;omega,by simp[DV.cells]⟩ ?_;refine gD ?_;refine And.intro (by kernel_rfl) ?_;(conv=>whnf);refine J.freeze 3 ?_;(conv=>whnf);refine gO F7 ?_;refine aq cf ?_;refine gO F7 ?_;refine aR ?_;refine gO F7 ?_;refine aq cv ?_;refine gO F7 ?_;refine a8 ?_;refine gO F7 ?_;refine a8 ?_;refine gO F7 ?_;refine a8 ?_;refine gO F7 ?_
  with_reducible rfl
 obtain⟨T,Jj,c1,c2⟩:=acz hg hf hv;rw[hv]at cv;have hh:=Qh (Qg hv);unfold Bk at cf cv c2;by_cases ht:0<=t/\t<x.before.fin
 case neg =>
  clear hf hv E1 hg hx hc T c1 c2 hh Jj;obtain⟨⟨ay,aB,anchor,hints,bJ,fin⟩,sl,cl,tl⟩:=x;simp only at hb cf cv ht;show ar E _ [DV.agg [.sl (ay.map Host.enc),.sl (aB.map aQ.enc),.str anchor.name,.int .i64 anchor.type,.int .i64 anchor.bY,.sl (anchor.data.map Datum.enc),.sl (hints.map (.int .i64)),.int .i64 bJ,.int .i64 fin,.sl (sl.map Step.enc),.sl (cl.map Claim.enc),.sl (tl.map cO.enc)],DV.agg [.int .i64 c.host,.int .i64 c.time,.str c.au.ao,.sl (c.au.ae.map Signed.enc)],_] _;refine eP F7 ?_;refine aq (Bi) ?_;refine gO F7 ?_;refine dU ?_;refine gD ?_;refine aW ⟨by simp;omega,by simp[DV.cells]⟩ ?_;refine gD ?_;refine aW ⟨by simp;omega,by simp[DV.cells]⟩ ?_;refine gD ?_;refine And.intro (by kernel_rfl) ?_;(conv=>whnf);refine J.freeze 3 ?_;(conv=>whnf);refine gO F7 ?_;refine aq cf ?_;refine gO F7 ?_;refine aR ?_;refine gO F7 ?_;refine aq cv ?_;refine gO F7 ?_;refine aR ?_;refine gO F7 ?_;refine ai (fun h1=>?_) (fun h1=>?_)
  ·refine gO F7 ?_;refine a8 ?_;refine gO F7 ?_
   with_reducible rfl
  ·refine gO F7 ?_;refine aY (by simp at h1 ⊢;omega) ?_;refine gO F7 ?_
   with_reducible rfl
 obtain⟨t1,t2⟩:=ht;clear hf hv E1 hg hx hc;obtain⟨n1,n2,f1,f2,l1,l2,hR⟩:=T;by_cases hn:applyN x.before (cR x.bM)=0/\applyN x.before (cR (x.bM++[c]))=0
 case neg =>
  clear f1 f2 l1 l2 hR Jj;generalize ew x.before (cR x.bM)=A at *;generalize ew x.before (cR (x.bM++[c]))=B at *;generalize applyN x.before (cR x.bM)=N1 at *;generalize applyN x.before (cR (x.bM++[c]))=N2 at *;obtain⟨acC,acD,acE,acF,acG,acH⟩:=A;obtain⟨fD,acI,acJ,acK,acL,acM⟩:=B;obtain⟨⟨ay,aB,anchor,hints,bJ,fin⟩,sl,cl,tl⟩:=x;simp only at hb cf cv t1 t2 c1 c2;show ar E _ [DV.agg [.sl (ay.map Host.enc),.sl (aB.map aQ.enc),.str anchor.name,.int .i64 anchor.type,.int .i64 anchor.bY,.sl (anchor.data.map Datum.enc),.sl (hints.map (.int .i64)),.int .i64 bJ,.int .i64 fin,.sl (sl.map Step.enc),.sl (cl.map Claim.enc),.sl (tl.map cO.enc)],DV.agg [.int .i64 c.host,.int .i64 c.time,.str c.au.ao,.sl (c.au.ae.map Signed.enc)],_] _;refine eP F7 ?_;refine aq (Bi) ?_;refine gO F7 ?_;refine dU ?_;refine gD ?_;refine aW ⟨by simp;omega,by simp[DV.cells]⟩ ?_;refine gD ?_;refine aW ⟨by simp;omega,by simp[DV.cells]⟩ ?_;refine gD ?_;refine And.intro (by kernel_rfl) ?_;(conv=>whnf);refine J.freeze 3 ?_;(conv=>whnf);refine gO F7 ?_;refine aq cf ?_;refine gO F7 ?_;refine aR ?_;refine gO F7 ?_;refine aq cv ?_;refine gO F7 ?_;refine aR ?_;refine gO F7 ?_;refine aU (by simp;omega) ?_;refine gO F7 ?_;refine aU (by simp;omega) ?_;refine gO F7 ?_;refine aq c1 ?_;refine gO F7 ?_;refine aq c2 ?_;refine gO F7 ?_;rcases n1 with rfl|rfl
  ·rcases n2 with rfl|rfl
   ·exact absurd ⟨rfl,rfl⟩ hn
   ·refine aU rfl ?_;refine gO F7 ?_;refine aY rfl ?_;refine gO F7 ?_;refine aY rfl ?_;refine gO F7 ?_;refine aU rfl ?_;refine gO F7 ?_;rfl
  ·refine aY rfl ?_;refine gO F7 ?_;refine aY rfl ?_;refine gO F7 ?_;refine aY rfl ?_;refine gO F7 ?_;refine aY rfl ?_;refine gO F7 ?_
   with_reducible rfl
 obtain⟨⟨q1,q2,q3⟩,ZV,ZW,p1,p2,LV,LW,V6,W6,e1,e2⟩:=acx ⟨n1,n2,f1,f2,l1,l2,hR⟩ hn t1 t2;rw[hn.1]at c1;rw[hn.2]at c2;clear f1 f2 l1 l2 hR n1 n2 hn hh;generalize ew x.before (cR x.bM)=A at *;generalize ew x.before (cR (x.bM++[c]))=B at *;obtain⟨acC,acD,acE,acF,acG,acH⟩:=A;obtain⟨fD,acI,acJ,acK,acL,acM⟩:=B;obtain⟨⟨ay,aB,anchor,hints,bJ,fin⟩,sl,cl,tl⟩:=x;simp only at hb cf cv t1 t2 c1 c2 q1 q2 q3 p1 p2;show ar E _ [DV.agg [.sl (ay.map Host.enc),.sl (aB.map aQ.enc),.str anchor.name,.int .i64 anchor.type,.int .i64 anchor.bY,.sl (anchor.data.map Datum.enc),.sl (hints.map (.int .i64)),.int .i64 bJ,.int .i64 fin,.sl (sl.map Step.enc),.sl (cl.map Claim.enc),.sl (tl.map cO.enc)],DV.agg [.int .i64 c.host,.int .i64 c.time,.str c.au.ao,.sl (c.au.ae.map Signed.enc)],_] _;refine eP F7 ?_;refine aq (Bi) ?_;refine gO F7 ?_;refine dU ?_;refine gD ?_;refine aW ⟨by simp;omega,by simp[DV.cells]⟩ ?_;refine gD ?_;refine aW ⟨by simp;omega,by simp[DV.cells]⟩ ?_;refine gD ?_;refine And.intro (by kernel_rfl) ?_;(conv=>whnf);refine J.freeze 3 ?_;(conv=>whnf);refine gO F7 ?_;refine aq cf ?_;refine gO F7 ?_;refine aR ?_;refine gO F7 ?_;refine aq cv ?_;refine gO F7 ?_;refine aR ?_;refine gO F7 ?_;refine aU (by simp;omega) ?_;refine gO F7 ?_;refine aU (by simp;omega) ?_;refine gO F7 ?_;refine aq c1 ?_;refine gO F7 ?_;refine aq c2 ?_;refine gO F7 ?_;refine aU rfl ?_;refine gO F7 ?_;refine aU rfl ?_;refine gO F7 ?_;refine aq p1 ?_;refine gO F7 ?_;refine aq p2 ?_;refine gO F7 ?_;refine aU rfl ?_;refine gO F7 ?_;refine aU rfl ?_;refine gO F7 ?_;refine ai (fun h1=>?_) (fun h1=>?_)
 ·obtain rfl:=e1 (by simpa using h1);have sw:=ack ⟨ay,ZW,anchor,hints⟩ ⟨ay,ZW,anchor,hints⟩ ⟨q1,W6,q2,q3,LW⟩ W6;rw[ach]at sw;refine gO F7 ?_;refine aY rfl ?_;refine gO F7 ?_;refine aq sw ?_;refine gO F7 ?_
  with_reducible rfl
 ·obtain⟨e3,e4⟩:=e2 (by simpa using h1);have cz:=Je ZW c.host c.au.ao W6;have sz:=C5 c.au c.au Jj;rw[e3]at cz;rw[decide_eq_true rfl]at sz;clear e1 e2 e3 h1;refine gO F7 ?_;refine dU ?_;refine ax (cz) ?_;refine gD ?_;refine ax (sz) ?_;refine gD ?_;refine gO F7 ?_;refine aR ?_;refine gO F7 ?_;refine dU ?_;refine gD ?_;refine aW ⟨by simp;omega,by simp[DV.cells]⟩ ?_;refine gD ?_;refine aW ⟨by simp;omega,by simp[DV.cells]⟩ ?_;refine gD ?_;refine And.intro (by kernel_rfl) ?_;(conv=>whnf);refine J.freeze 8 ?_;(conv=>whnf);refine gO F7 ?_;refine J.loop (κ:=Nat) ([21,24,119,122]++[6,18,127,128,129,130,131,132,133,134,135,136,137,138,139,140,141,142,143,144,145,146,147,148,149,150,151,152,153,154,155,156,157,158,159,160,161,162,163]) (fun k=>[(127,.d (.int .i64 k))]) (fun _=>[]) (fun k=>k<=(ZV++ZW).length) (fun k=>(ZV++ZW).length-k) 0 (Nat.zero_le _) ?_ ?_
  ·exact sZ
  intro k hk IH;refine J.head ag F7 2000 ?_;(conv=>whnf);refine ai (fun h5=>?_) (fun h5=>?_)
  ·have ah:k<(ZV++ZW).length:=by simp at h5 ⊢;omega
   have fL:k<2000000:=by rw[aey]at ah;omega
   obtain⟨p,hp⟩:=aH ah;have d1:=Je ZV p.host p.au.ao V6;have d2:=Je ZW p.host p.au.ao W6;have d3:=C5 (iG ZV p.host p.au.ao) (iG ZW p.host p.au.ao) (acw LV _ _);refine gO F7 ?_;refine aD (e:=p.enc) (acA hp) rfl ?_;refine gO F7 ?_;by_cases hq:p.spot=(c.host,c.au.ao)
   ·obtain⟨u1,u2⟩:=Prod.mk.inj hq;refine aY (by simpa using u1) ?_;refine gO F7 ?_;refine aY (by simpa using u2) ?_;refine gO F7 ?_;refine J.back (IH (k+1) (by omega) (by omega)) ?_;exact sZ
   ·have hz:iG ZV p.host p.au.ao=iG ZW p.host p.au.ao:=(e4 p.spot hq).symm;rw[decide_eq_true hz]at d3;refine ai (fun h6=>?_) (fun h6=>?_)
    ·have u1:p.host=c.host:=by simpa using h6
     refine gO F7 ?_;refine aU (by simp;intro u2;exact hq (Prod.ext u1 u2)) ?_;refine gO F7 ?_;refine dU ?_;refine ax (d1) ?_;refine gD ?_;refine ax (d2) ?_;refine gD ?_;refine ax (d3) ?_;refine gD ?_;refine gO F7 ?_;refine aR ?_;refine gO F7 ?_;refine J.back (IH (k+1) (by omega) (by omega)) ?_;exact sZ
    ·refine gO F7 ?_;refine aR ?_;refine gO F7 ?_;refine dU ?_;refine ax (d1) ?_;refine gD ?_;refine ax (d2) ?_;refine gD ?_;refine ax (d3) ?_;refine gD ?_;refine gO F7 ?_;refine aR ?_;refine gO F7 ?_;refine J.back (IH (k+1) (by omega) (by omega)) ?_;exact sZ
  ·refine gO F7 ?_
   with_reducible rfl
theorem acN(x:eH)(c:Claim)(t:Int)(g0:x.Good)(g1:c.Good)(g2:eN t)(hb:x.bM.length<=1048576):ar E 7 [x.enc,c.enc,.int .i64 t] (· = .bool true):=acB x c t g0 g1 hb
end Go.Proofs.YtfmdaiojokniiaaGreatDoor.P
end
