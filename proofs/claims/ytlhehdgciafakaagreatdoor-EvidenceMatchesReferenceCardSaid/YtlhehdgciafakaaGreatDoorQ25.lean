/- Lemmas of mine. Conditions: as stated. -/
import Derived.Test.YtlhehdgciafakaaGreatDoorQ21
import Derived.Test.YtlhehdgciafakaaGreatDoorQ22
import Derived.Test.YtlhehdgciafakaaGreatDoorQ24
set_option linter.unusedVariables false
set_option linter.unusedSimpArgs false
open Bool renaming and_eq_true->ai2
open Int renaming le_refl->am7,lt_or_le->akG
open List renaming mem_cons->ai3,mem_of_getElem?->aiQ,mem_cons_self->aio,mem_filter->aki,mem_map->ahY,mem_singleton->alI,length_filter_le->al0,mem_append->aif,getElem?_take->ahS,length_map->aiO,map_map->ajR,length_take->ah1,pairwise_cons->amH,foldl_cons->aiD,mem_cons_of_mem->aip,filter_congr->anL,take_of_length_le->ajq,all_eq_true->ahH,pairwise_map->amA,pairwise_iff_forall_sublist->anM,mergeSort_perm->ala,getElem?_append_left->ahT,getElem?_of_mem->aiN,getElem?_map->ahy
open Nat renaming le_trans->aic,zero_le->ai4
section
namespace Go.Proofs.YtlhehdgciafakaaGreatDoor.P
open Go Go.az Go.Sort
def iL(h:bB)(x:bZ)(i:Nat)(t:Int):dJ × Int:=jE (gy (hI h x i) t) 0 x.q
theorem Sk{f u t s:Int}{K:List Int}:s∈od f u K t↔s∈K\/(s=t/\f<=t/\t<u):=by
 unfold od;split
 ·rename_i h;simp[h]
 ·rename_i h;exact⟨.inl,fun h2=>h2.elim id fun h3=>absurd h3.2 h⟩
theorem Sl{f u s:Int}:∀ {l:List aT} {K:List Int},s∈l.foldl (xK f u) K↔s∈K\/∃ c∈l,(s=c.bQ\/s=c.upto)/\f<=s/\s<u
 |[],K=>by simp
 |c::l,K=>by
  rw[aiD,Sl];simp only[xK,Sk,ai3];constructor
  ·rintro((⟨h|⟨rfl,h⟩⟩|⟨rfl,h⟩)|⟨d,hd,h⟩)
   ·exact .inl h
   ·exact .inr ⟨c,.inl rfl,.inl rfl,h⟩
   ·exact .inr ⟨c,.inl rfl,.inr rfl,h⟩
   ·exact .inr ⟨d,.inr hd,h⟩
  ·rintro(h|⟨d,rfl|hd,h|h,h2⟩)
   ·exact .inl (.inl (.inl h))
   ·exact .inl (.inl (.inr ⟨h,h ▸ h2⟩))
   ·exact .inl (.inr ⟨h,h ▸ h2⟩)
   ·exact .inr ⟨d,hd,.inl h,h2⟩
   ·exact .inr ⟨d,hd,.inr h,h2⟩
theorem CA{h:bB}{x:bZ}{i:Nat}{s:Int}:s∈lh h x i↔(ix h x<=s/\s<lg h x)/\(s=ix h x\/∃ c∈hI h x i,s=c.bQ\/s=c.upto):=by
 unfold lh;rw[(xJ _).mem_iff,tQ,oe,Sl,Sk];simp only[List.not_mem_nil,false_or];constructor
 ·rintro(⟨rfl,h1,h2⟩|⟨c,hc,h1,h2⟩)
  ·exact⟨⟨h1,h2⟩,.inl rfl⟩
  ·exact⟨h2,.inr ⟨c,hc,h1⟩⟩
 ·rintro⟨h1,rfl|⟨c,hc,h2⟩⟩
  ·exact .inl ⟨rfl,h1⟩
  ·exact .inr ⟨c,hc,h2,h1⟩
theorem Sm{P:Int->Prop}[DecidablePred P]:∀ {l:List Int},(∃ a∈l,P a)->∃ m∈l,P m/\∀ a∈l,P a->a<=m
 |[],⟨a,h,_⟩=>by simp at h
 |b::l,h=>by
  by_cases hl:∃ a∈l,P a
  ·obtain⟨m,h1,h2,h3⟩:=Sm hl;by_cases hb:P b/\m<=b
   ·exact⟨b,aio ..,hb.1,fun a ha hp=>(ai3.1 ha).elim (fun e=>by omega) fun h=>Int.le_trans (h3 a h hp) hb.2⟩
   ·exact⟨m,aip _ h1,h2,fun a ha hp=>(ai3.1 ha).elim (fun e=>by subst e;have:¬ m<=a:=fun h=>hb ⟨hp,h⟩;omega) fun h=>h3 a h hp⟩
  ·obtain⟨a,ha,hp⟩:=h;rcases ai3.1 ha with rfl|ha
   ·exact⟨a,aio ..,hp,fun c hc hq=>(ai3.1 hc).elim (fun e=>by omega) fun h=>absurd ⟨c,h,hq⟩ hl⟩
   ·exact absurd ⟨a,ha,hp⟩ hl
theorem adD{h:bB}{x:bZ}{i:Nat}{t:Int}(h1:ix h x<=t)(h2:t<lg h x):∃ s∈lh h x i,gy (hI h x i) s=gy (hI h x i) t:=by
 obtain⟨m,m1,m2,m3⟩:=Sm (P:=fun s=>s<=t) (l:=lh h x i) ⟨ix h x,CA.2 ⟨⟨am7 _,by omega⟩,.inl rfl⟩,h1⟩;refine⟨m,m1,?_⟩;unfold gy
 congr 1
 refine anL fun c hc=>?_;have hm:=(CA.1 m1).1;have k1:ix h x<=c.bQ->c.bQ<=t->c.bQ<=m:=fun a b=>m3 _ (CA.2 ⟨⟨a,by omega⟩,.inr ⟨c,hc,.inl rfl⟩⟩) b;have k2:ix h x<=c.upto->c.upto<=t->c.upto<=m:=fun a b=>m3 _ (CA.2 ⟨⟨a,by omega⟩,.inr ⟨c,hc,.inr rfl⟩⟩) b;simp only[og];rw[Bool.eq_iff_iff];simp only[ai2,decide_eq_true_eq];constructor
 ·rintro⟨a,b⟩;refine⟨by omega,?_⟩;rcases akG t c.upto with u|u
  ·exact u
  ·rcases akG c.upto (ix h x)with h'|h'
   ·omega
   ·have:=k2 h' u;omega
 ·rintro⟨a,b⟩;refine⟨?_,by omega⟩;rcases akG c.bQ (ix h x)with h'|h'
  ·omega
  ·exact k1 h' a
end Go.Proofs.YtlhehdgciafakaaGreatDoor.P
end
section
namespace Go.Proofs.YtlhehdgciafakaaGreatDoor.P
open Go Go.az
set_option maxRecDepth 100000
set_option maxHeartbeats 4000000
def Fz(S:Int->Bool)(f u:Int)(b:Bool)(t:Int):Bool:=b||(decide (t>=f)&&decide (t<u)&&S t)
def ub(S:Int->Bool)(f u:Int)(b:Bool)(c:aT):Bool:=Fz S f u (Fz S f u b c.bQ) c.upto
def vK(S:Int->Bool)(h:bB)(x:bZ):Bool:=if ix h x>=lg h x then false else h.aw.foldl (ub S (ix h x) (lg h x)) (S (ix h x))
theorem adE(h:bB)(i:Int)(x:bZ)(S:Int->Bool)(hS:∀ t,ix h x<=t->t<lg h x->aq E 98 [h.enc,.int .i64 i,x.enc,.int .i64 t] (· = .bool (S t)))(hl:h.aw.length<=1000000)(ht:0<=x.time/\x.time<=10000000)(hd:0<=h.bq/\h.bq<=1000):aq E 34 [h.enc,.int .i64 i,x.enc] (· = .bool (vK S h x)):=by
 have ef:max 0 (IntKind.i64.wrap (x.time-h.bq))=ix h x:=by rw[wrap64 oM oM,ix];omega
 have eu:min h.fin (IntKind.i64.wrap (IntKind.i64.wrap (x.time+h.bq)+1))=lg h x:=by rw[wrap64 (n:=x.time+h.bq) oM oM,wrap64 oM oM,lg];omega
 unfold vK;generalize ix h x=f at *;generalize lg h x=u at *;obtain⟨ay,aw,anchor,hints,bq,fin⟩:=h;obtain⟨tm,ad,⟨qn,qt⟩,⟨ak,CB,ac⟩⟩:=x;simp only at ef eu hl ht hd ⊢;show aq E _ [HD ay aw anchor hints bq fin,_,DV.agg [.int .i64 tm,.int .i64 ad,.str qn,.int .i64 qt,.int .i64 ak,.sl (CB.map Signed.enc),.str ac]] _;refine eP F34.h ?_;refine I.Nl (QQ N3 (bg rfl)) rfl ?_;rw[ef];refine gC ?_;refine I.Nl (QR (bg rfl) (bg rfl)) rfl ?_;rw[eu];refine gC ?_;apply ah<;>intro h1
 ·refine gC ?_;rw[if_pos (zD h1)]
 have hfu:¬ f>=u:=zD h1
 rw[if_neg hfu];have c0:=hS f (am7 _) oM;refine gC ?_;refine ao (c0) (gC ?_);refine I.lP aw.length ([9,10,11]++rg 35 54) (fun k=>[(10,.d (.int .i64 k)),(9,.d (.bool ((aw.take k).foldl (ub S f u) (S f))))]) (fun _=>[]) (fun k=>k<=aw.length) (ai4 _) ?_ ?_
 ·refine sY ?_
  refine⟨rfl, ?_⟩;exact sZ
 intro k hk IH;refine zA ?_ ?_<;>intro h5
 ·have ai:k<aw.length:=zD h5
  obtain⟨c,hc⟩:=aI ai;have aJ:(aw.take (k+1)).foldl (ub S f u) (S f)=ub S f u ((aw.take k).foldl (ub S f u) (S f)) c:=by rw[cj hc,List.foldl_append];rfl
  have BL:=IH (k+1) oM oM;rw[aJ]at BL;clear IH aJ;refine gC ?_;refine eM hc (gC ?_);generalize (aw.take k).foldl (ub S f u) (S f)=b at *;cases b
  ·repeat' (first|with_reducible(first|refine ao (hS _ (by simp_all) (by simp_all)) ?_|refine ax (hS _ (by simp_all) (by simp_all)) ?_|refine cX ?_|apply ah<;>intro)|refine gE ?_|with_reducible rfl)
   all_goals
    refine gC ?_;refine I.back BL ?_;refine sY ?_
    refine And.intro (congrArg DV.bool (by simp_all[ub,Fz]<;>(intros;omega))) ?_;exact sZ
  ·repeat' (first|with_reducible(first|refine cX ?_|apply ah<;>intro)|refine gE ?_|with_reducible rfl)
   refine gC ?_;refine I.back BL ?_;refine sY ?_
   refine⟨rfl, ?_⟩;exact sZ
 ·have aA:aw.length<=k:=zD h5
  rw[ajq aA];refine gC ?_
  with_reducible rfl
def sk(C:Nat->Bool)(n:Nat):List Int:=((List.range n).filter C).map fun(i:Nat)=>(i:Int)
theorem adG{C:Nat->Bool}{n:Nat}:sk C (n+1)=sk C n++(if C n then[(n:Int)]else[]):=by
 rw[sk,List.range_succ,List.filter_append,List.map_append];cases h:C n<;>simp[sk,h]
theorem adH{C:Nat->Bool}{n:Nat}:(sk C n).length<=n:=by
 rw[sk,aiO];exact aic (al0 ..) sP
theorem adI(h:bB)(x:bZ)(C:Nat->Bool)(c1:aq E 32 [h.enc] (· = .bool (ec h)))(c2:aq E 33 [x.enc] (· = .bool (jf x)))(hC:ec h=true->jf x=true->∀ i:Nat,i<h.ay.length->aq E 34 [h.enc,.int .i64 i,x.enc] (· = .bool (C i)))(hl:h.ay.length<=1000000) :
  aq E 13 [h.enc,x.enc] (· = if ec h&&jf x then .aG [.sl ((sk C h.ay.length).map (.int .i64)),.int .i64 0]else .aG [.sl [],.int .i64 1]):=by
 refine aq.norm ?_;generalize ec h=v at *;generalize jf x=r at *;obtain⟨ay,aw,anchor,hints,bq,fin⟩:=h;obtain⟨tm,ad,⟨qn,qt⟩,⟨ak,CB,ac⟩⟩:=x;simp only at hl ⊢;show aq E _ [HD ay aw anchor hints bq fin,DV.agg [.int .i64 tm,.int .i64 ad,.str qn,.int .i64 qt,.int .i64 ak,.sl (CB.map Signed.enc),.str ac]] _;by_cases iX:v=true/\r=true
 case neg =>
  refine eP F13.h ?_;repeat' (first|with_reducible(first|refine cC c1 ?_|refine cC c2 ?_|refine cX ?_|apply ah<;>intro)|refine gE ?_|with_reducible rfl)
  all_goals (simp_all;try rfl)
 obtain⟨rfl,rfl⟩:=iX;have hC:=hC rfl rfl;refine eP F13.h ?_;repeat' (first|with_reducible(first|refine cC c1 ?_|refine cC c2 ?_|refine cX ?_|apply ah<;>intro)|refine gE ?_|with_reducible rfl)
 refine gC ?_;refine I.nH 7 (3,1) dC rfl ?_;refine I.lP ay.length ([7,8]++rg 18 15) (fun k=>[(8,.d (.int .i64 k)),(7,.own 2 1)]) (fun k=>[(2,.arr 1 (3,1) ((sk C k).map (.int .i64)))]) (fun k=>k<=ay.length) (ai4 _) ?_ ?_
 ·refine sY ?_
  refine⟨rfl, ?_⟩;exact sZ
 intro k hk IH;refine zA ?_ ?_<;>intro h5
 ·have ai:k<ay.length:=zD h5
  have c3:=hC k ai;have hlen:=adH (C:=C) (n:=k);have aJ:=adG (C:=C) (n:=k);refine gC ?_;refine ao (c3) (gC ?_);cases fq:C k
  ·rw[fq]at aJ;refine vF ?_;refine I.back (IH (k+1) oM oM) ?_;rw[aJ];refine sY ?_
   refine⟨by simp, ?_⟩;exact sZ
  ·rw[fq]at aJ;refine vT ?_;refine nA (gC ?_);refine I.back (IH (k+1) oM oM) ?_;rw[aJ];refine sY ?_
   refine⟨by simp, ?_⟩;exact sZ
 ·have aA:k=ay.length:=by simp at h5;omega
  subst aA;refine gC ?_;rfl
theorem adJ(h:bB)(i t:Int)(x:bZ)(A:dJ)(cS:aq E 166 [.sl ((fN h.aw t).map aH.enc),.int .i64 i,x.q.enc] (· = A.enc))(hl:h.aw.length<=1000000)(hA:A.J.length<=2147483648)(Jf:∀ s∈A.J,s.ga):aq E 98 [h.enc,.int .i64 i,x.enc,.int .i64 t] (· = .bool (decide (A=x.answer))):=by
 have c1:=aaF h t hl;have c2:=aaG A x.answer hA Jf;obtain⟨ay,aw,anchor,hints,bq,fin⟩:=h;obtain⟨tm,ad,⟨qn,qt⟩,⟨ak,CB,ac⟩⟩:=x;simp only at cS hl c1 c2 ⊢;generalize decide (A=_)=b at *;obtain⟨Ak,As,Ac⟩:=A;show aq E _ [HD ay aw anchor hints bq fin,_,DV.agg [.int .i64 tm,.int .i64 ad,.str qn,.int .i64 qt,.int .i64 ak,.sl (CB.map Signed.enc),.str ac],_] _;refine eP F98.h ?_;refine dU ?_;refine ax (c1) (gD ?_);refine ax (cS) (gD ?_);refine And.intro (by kernel_rfl) ?_;(conv=>whnf);refine gC ?_;refine ao (c2) (gC ?_)
 with_reducible rfl
end Go.Proofs.YtlhehdgciafakaaGreatDoor.P
end
section
namespace Go.Proofs.YtlhehdgciafakaaGreatDoor.P
open Go Go.az Go.Sort
set_option maxRecDepth 100000
set_option maxHeartbeats 4000000
theorem Sp:∀ {ps acc:List Int},(ps.foldl dx acc).length<=acc.length+ps.length
 |[],acc=>by simp
 |p::ps,acc=>by
  have h:=Sp (ps:=ps) (acc:=dx acc p);have:(dx acc p).length<=acc.length+1:=by unfold dx;split<;>simp
  rw[aiD,List.length_cons];omega
theorem adO{l:List Signed}{ps:List Int}{n:Nat}(h:ps.length<=n):(bR l ps).length<=n:=aic (List.length_filterMap_le ..) h
theorem adP{ps:List Int}{n:Nat}(h:ps.length<=n):(cd ps).length<=n:=aic (by have:=Sp (ps:=ps) (acc:=[]);simpa [cd]using this) h
theorem adQ{l:List Signed}{ps:List Int}:∀ s∈bR l ps,s∈l:=fun s h=>by
 obtain⟨p,_,hp⟩:=List.mem_filterMap.1 h;exact aiQ hp
theorem adR{z:aK}(h:dN z=true):∀ s∈z.J,s.set.data.length<=8:=fun s hs=>by
 simp only[dN,oW,ai2]at h;have h:=zw h.1.2 s hs;simp only[gj,eX,ai2,decide_eq_true_eq]at h;omega
def Holds(z:aK)(a:dJ):Prop:=a.J.length<=10/\∀ s∈a.J,s∈z.J
theorem KI{z:aK}{k:Int}{ps:List Int}{c:Text}(h:ps.length<=10):Holds z ⟨k,bR z.J ps,c⟩:=⟨adO h,adQ⟩
theorem xT{z:aK}{k:Int}{ps:List Int}{c:Text}(h:ps.length<=10):Holds z ⟨k,bR z.J (cd ps),c⟩:=KI (adP h)
theorem holds_nil{z:aK}{k:Int}{c:Text}:Holds z ⟨k,[],c⟩:=⟨ai4 _,fun s h=>by cases h⟩
theorem uc{z:aK}{p:Prop}[Decidable p]{a b:dJ}(h:Holds z a)(k:Holds z b):Holds z (if p then a else b):=by split;exact h;exact k
theorem Sq(z:aK)(q:bp):Holds z (kE z q):=by
 unfold kE;refine uc (KI sP) (uc (KI sP) (uc (xT sP) ?_));split
 ·exact xT sP
 ·exact uc (xT sP) (uc (xT sP) (uc (xT sP) (xT sP)))
theorem CC(z:aK)(q:bp):Holds z (iT z q):=by
 cases hz:dN z
 ·rw[iT,if_neg (by simp[jC,hz])];exact holds_nil
 have hd:∀ c,(aC z.J ⟨c,2⟩::gG z.J c::qS z.J c).length<=10:=fun c=>by
  have h1:(xO z.J c).length<=8:=by
   unfold xO;split
   ·rename_i s hs;exact adR hz s (aiQ hs)
   ·simp
  have h2:(qS z.J c).length<=8:=by
   unfold qS;rw[aiO];exact aic (al0 ..) h1
  simpa using h2
 unfold iT;refine uc ?_ holds_nil;unfold mB;refine uc ?_ holds_nil;split
 ·exact uc (Sq z q) (xT (hd _))
 ·exact Sq z q
theorem adS{h:bB}{x:bZ}{i:Nat}{t:Int}(hb:ec h=true):oZ 1 (gy (hI h x i) t)=true:=by
 simp only[ec,ai2,decide_eq_true_eq]at hb;obtain⟨⟨⟨⟨⟨⟨⟨⟨-,-⟩,-⟩,-⟩,b1⟩,b2⟩,b3⟩,b4⟩,b5⟩:=hb;have hm:∀ c∈(hI h x i).filter (og t),c∈h.aw/\c.host=i/\c.bQ<=t/\t<c.upto:=fun c hc=>by
  obtain⟨c1,c2⟩:=aki.1 hc;obtain⟨c3,c4⟩:=aki.1 c1;simp only[og,iJ,ai2,decide_eq_true_eq,beq_iff_eq]at c2 c4;exact⟨c3,c4.2,c2.1,c2.2⟩
 rw[EX];refine⟨?_,fun p hp=>?_,?_,?_⟩
 ·rw[gy,aiO];exact aic (al0 ..) (aic (al0 ..) b1)
 ·obtain⟨c,hc,rfl⟩:=ahY.1 hp;have:=ahH.1 b3 c (hm c hc).1;simp only[jy,ai2]at this;simp[oY,this.2]
 ·rw[gy,ajR,List.Nodup,amA];have hp:((hI h x i).filter (og t)).Pairwise n4:=(b4.filter _).filter _;refine(anM.2 fun{a b} hs=>?_);have ha:=hm a (hs.subset sP);have hbm:=hm b (hs.subset sP);have oF:=anM.1 hp hs;intro e;have e:a.ar.af=b.ar.af:=by simpa [aH.spot]using e
  exact oF (by simp[aT.spot,ha.2.1,hbm.2.1,e]) oM
 ·refine aic ?_ b5;unfold EW o0;refine Iv (B7 List.nodup_nil) fun a ha=>?_;rw[tQ]at ha ⊢;rcases ha with ha|ha
  ·simp at ha
  ·obtain⟨p,hp,rfl⟩:=ahY.1 ha;obtain⟨c,hc,rfl⟩:=ahY.1 hp;exact .inr (ahY.2 ⟨c,(hm c hc).1,rfl⟩)
theorem Sr{q:bp}{l:List aK}{z:aK}(hz:mD q (iy l)=some z):z∈l:=by
 have hm:z∈iy l:=by
  revert hz
  unfold mD;split
  ·intro e;cases e
  ·rename_i e;intro h;cases h;rw[e];simp
  ·rename_i e;intro h;rw[e];split at h<;>cases h<;>simp
 exact(ala ..).mem_iff.1 hm
theorem Ss(y:Host):qU [y] y.addr=0:=by simp[qU]
theorem adU(h:bB)(x:bZ)(hf:h.Fits)(hl:h.ga)(jd:x.cR)(i:Nat)(y:Host)(t:Int)(hy:h.ay[i]?=some y)(hb:ec h=true)(hr:jf x=true):aq E 30 [.agg [.sl [y.enc],.sl ((gy (hI h x i) t).map aH.enc),.str h.anchor.name,.int .i64 h.anchor.type,.int .i64 h.anchor.dD,.sl (h.anchor.data.map Datum.enc),.sl (h.hints.map (.int .i64))],.int .i64 y.addr,.agg [.str x.q.name,.int .i64 x.q.type]] (· = .aG [.agg [.int .i64 (iL h x i t).1.kind,.sl ((iL h x i t).1.J.map Signed.enc),.str (iL h x i t).1.cut],.int .i64 (iL h x i t).2])/\(iL h x i t).1.J.length<=2147483648/\∀ s∈(iL h x i t).1.J,s.set.data.length<=2147483648/\s.sigs.length<=2147483648:=by
 have hq:eD x.q=true:=by simp[jf]at hr;exact hr.1.1.1.1.1
 have hZ:∀ p∈gy (hI h x i) t,∃ c∈h.aw,p.ar=c.ar:=fun p hp=>by
  obtain⟨c,hc,rfl⟩:=ahY.1 hp;exact⟨c,(aki.1 (aki.1 hc).1).1,rfl⟩
 have hp:=adS (x:=x) (i:=i) (t:=t) hb;have hw:tR ⟨[y],gy (hI h x i) t,h.anchor,h.hints⟩=true:=by
  rw[JK];simp only[ec,gb,ai2]at hb;exact⟨by simp[gb,ahH.1 hb.1.1.1.2.1.1.2 y (aiQ hy)],hp,hb.1.1.1.2.2⟩
 have FA:=hf.ay y (aiQ hy);have c:=adz ⟨[y],gy (hI h x i) t,h.anchor,h.hints⟩ y.addr x.q ⟨fun z hz=>by simp at hz;subst hz;exact FA,hf.anchor,hf.hints,fun p hp=>by obtain⟨c,hc,e⟩:=hZ p hp;rw[e];exact hf.dS c hc⟩ hw hq jd.1 (by simp only[Ss];omega);simp only[Ss]at c;refine⟨c,?_⟩;unfold iL jE;split
 ·exact⟨by simp,fun s hs=>by simp at hs⟩
 ·rename_i z hz;have KJ:z∈dn (gy (hI h x i) t) 0 x.q.name:=Sr hz;obtain⟨p,p1,-,-,rfl⟩:=pZ.1 KJ;obtain⟨c,hc,e⟩:=hZ p p1;have kc:=hl.dS c hc;rw[e];exact⟨aic (CC _ _).1 oM,fun s hs=>⟨(kc.each s ((CC _ _).2 s hs)).data,(kc.each s ((CC _ _).2 s hs)).sigs⟩⟩
theorem KK(h:bB)(x:bZ)(hf:h.Fits)(hl:h.ga)(jd:x.cR):aq E 12 [h.enc,x.enc] (· = .aG [.sl ((kB (iL h x) h x).map (.int .i64)),.int .i64 (qR h x)]) :=
 abD h x (iL h x) hf hl.aw jd fun i y t hy hb hr _=>adU h x hf hl jd i y t hy hb hr
end Go.Proofs.YtlhehdgciafakaaGreatDoor.P
end
section
namespace Go.Proofs.YtlhehdgciafakaaGreatDoor.P
open Go Go.az
set_option maxRecDepth 100000
set_option maxHeartbeats 4000000
def pa(k:Int)(n no:Text)(p:aH):Bool:=(p.host==k) && !(p.ar.af==no)&&Nm.under n p.ar.af
def sq(p:aH):Nat:=(Nm.labels p.ar.af).length
def lr(l:List aH)(C:aH->Bool)(b:Int):Prop:=(b = -1/\∀ p∈l,C p=false)\/∃ (j:Nat) (p:aH),b=j/\l[j]?=some p/\C p=true/\∀ y∈l,C y=true->sq y<=sq p
theorem adV{l:List aH}{C:aH->Bool}{b:Int}{k:Nat}{x:aH}(hx:l[k]?=some x)(h:lr (l.take k) C b)(hc:C x=false):lr (l.take (k+1)) C b:=by
 rw[cj hx];rcases h with⟨h1,h2⟩|⟨j,p,h1,h2,h3,h4⟩
 ·refine .inl ⟨h1,fun p hp=>?_⟩;rcases aif.1 hp with hp|hp
  ·exact h2 p hp
  ·rw[alI.1 hp];exact hc
 ·refine .inr ⟨j,p,h1,by rw[ahT (aW h2)];exact h2,h3,fun y hy ud=>?_⟩;rcases aif.1 hy with hy|hy
  ·exact h4 y hy ud
  ·rw[alI.1 hy,hc]at ud;cases ud
theorem adW{l:List aH}{C:aH->Bool}{j k:Nat}{x p:aH}(hx:l[k]?=some x)(h:lr (l.take k) C j)(hp:l[j]?=some p)(hd:¬ sq p<sq x):lr (l.take (k+1)) C j:=by
 rcases h with⟨h1,h2⟩|⟨i,q,h1,h2,h3,h4⟩
 ·omega
 obtain rfl:i=j:=by omega
 have qM:=aW h2;rw[ahS]at h2;split at h2
 case isFalse=>cases h2
 obtain rfl:p=q:=Option.some.inj (hp.symm.trans h2);rw[cj hx];refine .inr ⟨i,p,rfl,by rw[ahT qM,ahS,if_pos (by assumption)];exact hp,h3,fun y hy ud=>?_⟩;rcases aif.1 hy with hy|hy
 ·exact h4 y hy ud
 ·rw[alI.1 hy];omega
theorem St{l:List aH}{C:aH->Bool}{b:Int}{k:Nat}{x:aH}(hx:l[k]?=some x)(h:lr (l.take k) C b)(hc:C x=true)(hd:b = -1\/∃ (j:Nat) (p:aH),b=j/\l[j]?=some p/\sq p<sq x):lr (l.take (k+1)) C k:=by
 rw[cj hx];have hk:=aW hx;refine .inr ⟨k,x,rfl,by rw[List.getElem?_append_right (by rw[ah1];omega),ah1,Nat.min_eq_left oM,Nat.sub_self];rfl,hc,fun y hy ud=>?_⟩;rcases aif.1 hy with hy|hy
 ·rcases h with⟨h1,h2⟩|⟨i,q,h1,h2,h3,h4⟩
  ·rw[h2 y hy]at ud;cases ud
  ·rcases hd with hd|⟨j,p,e1,e2,e3⟩
   ·omega
   ·obtain rfl:i=j:=by omega
    rw[ahS]at h2;split at h2
    ·obtain rfl:p=q:=Option.some.inj (e2.symm.trans h2);have:=h4 y hy ud;omega
    ·cases h2
 ·rw[alI.1 hy];omega
theorem Su(l:List aH)(k:Int)(n no:Text)(hk:0<=k)(hn:n.length<=1000)(hl:l.length<=1000000)(hv:∀ p∈l,p.ar.af.length<=1000):aq E 249 [.sl (l.map aH.enc),.int .i64 k,.str n,.str no] (fun r=>∃ b,r=.int .i64 b/\lr l (pa k n no) b):=by
 refine eP F249.h ?_;refine I.loop (κ:=Nat × Int) [9,10,11,12,13,14,15,16,17,18,19,20,21,22,23,24,25,26,27,28,29,30,31,32,33,34,35,36,37,38,39,40,41,42,43,44,45,46,47,48,49,50,51,52,53,54,55,56,57,58,59,60,61,62] (fun x=>[(10,.d (.int .i64 x.1)),(9,.d (.int .i64 x.2))]) (fun _=>[]) (fun x=>x.1<=l.length/\lr (l.take x.1) (pa k n no) x.2) (fun x=>l.length-x.1) (0,-1) ⟨ai4 _,.inl ⟨rfl,fun p hp=>by simp at hp⟩⟩ ?_ ?_
 ·exact sZ
 rintro⟨i,b⟩ ⟨hi,hD⟩ IH;simp only at hi hD;refine zA ?_ ?_<;>intro h5
 ·have ai:i<l.length:=zD h5
  obtain⟨p,hp⟩:=aI ai;have c1:=rN n p.ar.af hn (hv p (aiQ hp));have c2:=tu p.ar.af (hv p (aiQ hp));have back:=fun h=>IH (i+1,b) ⟨by simp only;omega,adV hp hD h⟩ (by simp only;omega);refine gC ?_;refine eM hp (gC ?_);refine aN (zD hk) (gC ?_);refine eM hp (gC ?_);repeat' (first|with_reducible(first|refine cC c1 ?_|refine cX ?_|apply ah<;>intro)|refine gE ?_|with_reducible rfl)
  ·refine gC ?_;exact I.back (back (by simp_all[pa])) sZ
  ·refine gC ?_;exact I.back (back (by simp_all[pa])) sZ
  ·refine gC ?_;exact I.back (back (by simp_all[pa])) sZ
  ·have hc:pa k n no p=true:=by simp_all[pa]
   have hD2:=hD;refine gC ?_;refine dU ?_;rcases hD2 with⟨rfl,-⟩|⟨j,q,rfl,hq,-,-⟩
   ·refine aN rfl (gD ?_);refine gC ?_;refine vT ?_;refine I.back (IH (i+1,(i:Int)) ⟨by simp only;omega,St hp hD hc (.inl rfl)⟩ (by simp only;omega)) ?_;exact sZ
   ·have lz:j<i:=by have:=aW hq;rw[ah1]at this;omega
    have FB:l[j]?=some q:=by rw[ahS,if_pos lz]at hq;exact hq
    have c3:=tu q.ar.af (hv q (aiQ FB));refine aP sP (gD ?_);refine ax (c2) (gD ?_);refine eM FB (gD ?_);refine ax (c3) (gD ?_);refine gC ?_;apply ah<;>intro h7
    ·refine gC ?_;refine I.back (IH (i+1,(i:Int)) ⟨by simp only;omega,St hp hD hc (.inr ⟨j,q,rfl,FB,by simp at h7;unfold sq;omega⟩)⟩ (by simp only;omega)) ?_;exact sZ
    ·refine gC ?_;refine I.back (IH (i+1,(j:Int)) ⟨by simp only;omega,adW hp hD FB (by simp at h7;unfold sq;omega)⟩ (by simp only;omega)) ?_;exact sZ
 ·have aA:l.length<=i:=zD h5
  rw[ajq aA]at hD;refine gC ?_;exact⟨_,rfl,hD⟩
end Go.Proofs.YtlhehdgciafakaaGreatDoor.P
end
section
namespace Go.Proofs.YtlhehdgciafakaaGreatDoor.P
open Go Go.az
theorem KL{l:List aH}{k:Int}{n:Text}(hl:(l.map aH.spot).Nodup){x y:aK}(hx:x∈dn l k n)(hy:y∈dn l k n)(h:eZ x=eZ y):x=y:=by
 obtain⟨x,x1,x2,x3,rfl⟩:=pZ.1 hx;obtain⟨y,y1,y2,y3,rfl⟩:=pZ.1 hy;have e:x.ar.af=y.ar.af:=by
  simp only[Nm.fZ,ai2]at x3 y3;have u1:Nm.labels x.ar.af <:+ Nm.labels n:=by simpa [Nm.under]using x3.2
  have u2:Nm.labels y.ar.af <:+ Nm.labels n:=by simpa [Nm.under]using y3.2
  unfold eZ at h;exact IS ((List.suffix_of_suffix_length_le u1 u2 oM).eq_of_length oM)
 obtain⟨i,hi⟩:=aiN x1;obtain⟨j,hj⟩:=aiN y1;have:i=j:=(List.getElem?_inj (by simpa using aW hi) hl).1 (by rw[ahy,ahy,hi,hj];simp[aH.spot,x2,y2,e]);subst this;rw[hi]at hj;cases hj;rfl
theorem Sv{l:List aH}{k:Int}{n:Text}(hl:(l.map aH.spot).Nodup):((dn l k n).map (·.af)).Nodup:=by
 have h1:((l.filter fun p=>p.host==k&&Nm.fZ n p.ar.af).map aH.spot).Nodup:=hl.sublist (List.filter_sublist.map _);rw[dn,ajR];rw[List.nodup_iff_pairwise_ne,amA]at h1 ⊢;refine List.Pairwise.imp_of_mem (fun{a b} ha hb h e=>h ?_) h1;have h2:=(aki.1 ha).2;have h3:=(aki.1 hb).2;simp only[ai2,beq_iff_eq]at h2 h3;have e:a.ar.af=b.ar.af:=e;simp[aH.spot,h2.1,h3.1,e]
theorem KM{l:List aK}:(iy l).Perm l/\(iy l).Pairwise (fun x y=>eZ y<=eZ x) :=
 ⟨ala _ _,(List.pairwise_mergeSort (le:=fun a b:aK=>decide (eZ b<=eZ a)) (fun a b c h1 h2=>by simp at *;omega) (fun a b=>by simp;omega) _).imp fun{a b} h=>zD h⟩
theorem Sw{l:List aH}{k:Int}{n no:Text}{p:aH}(hn:Nm.valid n=true)(hv:Nm.valid p.ar.af=true):pa k n no p=true↔p.host=k/\p.ar.af≠no/\Nm.fZ n p.ar.af=true:=by
 simp[pa,Nm.fZ,hn,hv,and_assoc]
theorem Sx{l:List aH}{k:Int}{n:Text}{p:aH}(hp:p∈l)(h:p.host=k/\Nm.fZ n p.ar.af=true):p.ar∈dn l k n:=pZ.2 ⟨p,hp,h.1,h.2,rfl⟩
theorem adY{t:Text}(h:Nm.valid t=true):t≠[]:=fun e=>by rw[e]at h;exact absurd h dC
theorem Sy{l:List aH}{k:Int}{n:Text}(hl:(l.map aH.spot).Nodup)(hv:∀ p∈l,Nm.valid p.ar.af=true)(hn:Nm.valid n=true){b:Int}(hD:lr l (pa k n []) b) :
  (b = -1/\iy (dn l k n)=[])\/∃ (j:Nat) (p:aH) (rest:List aK),b=j/\l[j]?=some p/\iy (dn l k n)=p.ar::rest:=by
 have hC:∀ p∈l,pa k n [] p=true↔p.host=k/\Nm.fZ n p.ar.af=true:=fun p hp=>by
  rw[Sw (l:=l) hn (hv p hp)];exact⟨fun h=>⟨h.1,h.2.2⟩,fun h=>⟨h.1,adY (hv p hp),h.2⟩⟩
 obtain⟨hp,hs⟩:=KM (l:=dn l k n);rcases hD with⟨h1,h2⟩|⟨j,p,h1,h2,h3,h4⟩
 ·refine .inl ⟨h1,?_⟩;have lK:dn l k n=[]:=List.eq_nil_iff_forall_not_mem.2 fun z hz=>by
   obtain⟨y,y1,y2,y3,-⟩:=pZ.1 hz;have:=(hC y y1).2 ⟨y2,y3⟩;rw[h2 y y1]at this;cases this
  rw[lK]at hp ⊢;exact List.perm_nil.1 hp
 ·have fF:=aiQ h2;have zX:=Sx fF ((hC p fF).1 h3);have qV:=hp.mem_iff.2 zX;refine .inr ⟨j,p,?_⟩;cases hS:iy (dn l k n)with
  |nil=>rw[hS]at qV;cases qV
  |cons z rest =>
   rw[hS]at hs qV hp;have hz:=hp.mem_iff.1 (aio ..);obtain⟨y,y1,y2,y3,e⟩:=pZ.1 hz;have h5:=h4 y y1 ((hC y y1).2 ⟨y2,y3⟩);have h6:eZ p.ar<=eZ z:=by
    rcases ai3.1 qV with h|h
    ·rw[h];exact am7 _
    ·exact(amH.1 hs).1 _ h
   have h7:eZ z<=eZ p.ar:=by rw[<- e];unfold eZ;unfold sq at h5;omega
   exact⟨rest,h1,h2,by rw[KL hl zX hz oM]⟩
theorem adZ{l:List aH}{k:Int}{q:bp}(hl:(l.map aH.spot).Nodup)(hv:∀ p∈l,Nm.valid p.ar.af=true)(hn:Nm.valid q.name=true)(h6:q.type=6){b:Int}(hD:lr l (pa k q.name q.name) b) :
  (b = -1/\∀ z∈dn l k q.name,z.af=q.name)\/∃ (j:Nat) (p:aH),b=j/\l[j]?=some p/\mD q (iy (dn l k q.name))=some p.ar:=by
 have hC:∀ p∈l,pa k q.name q.name p=true↔p.host=k/\p.ar.af≠q.name/\Nm.fZ q.name p.ar.af=true:=fun p hp=>Sw (l:=l) hn (hv p hp);obtain⟨hp,hs⟩:=KM (l:=dn l k q.name);have cW:=Sv (k:=k) (n:=q.name) hl;rcases hD with⟨h1,h2⟩|⟨j,p,h1,h2,h3,h4⟩
 ·refine .inl ⟨h1,fun z hz=>?_⟩;obtain⟨y,y1,y2,y3,rfl⟩:=pZ.1 hz;refine Classical.byContradiction fun aL=>?_;have:=(hC y y1).2 ⟨y2,aL,y3⟩;rw[h2 y y1]at this;cases this
 ·have fF:=aiQ h2;have dM:=(hC p fF).1 h3;have zX:=Sx fF ⟨dM.1,dM.2.2⟩;have qV:=hp.mem_iff.2 zX;have wa:∀ z∈dn l k q.name,z.af≠q.name->eZ z<=eZ p.ar:=fun z hz aL=>by
   obtain⟨y,y1,y2,y3,rfl⟩:=pZ.1 hz;have:=h4 y y1 ((hC y y1).2 ⟨y2,aL,y3⟩);unfold eZ;unfold sq at this;omega
  have KN:((iy (dn l k q.name)).map (·.af)).Nodup:=(hp.map _).nodup_iff.2 cW;refine .inr ⟨j,p,h1,h2,?_⟩;cases hS:iy (dn l k q.name)with
  |nil=>rw[hS]at qV;cases qV
  |cons z rest =>
   rw[hS]at hs qV hp KN;have hz:=hp.mem_iff.1 (aio ..);cases rest with
   |nil =>
    obtain rfl:=alI.1 qV;rfl
   |cons y rest =>
    have hy:=hp.mem_iff.1 (aip _ (aio ..));have iC:=amH.1 hs;show some (if q.type=6/\z.af=q.name then y else z)=_;by_cases e:z.af=q.name
    ·rw[if_pos ⟨h6,e⟩];have hyn:y.af≠q.name:=fun e2=>by
      simp only[List.map_cons,List.nodup_cons]at KN;exact KN.1 (by rw[e,<- e2];exact aio ..)
     have hpy:p.ar∈y::rest:=by
      rcases ai3.1 qV with h|h
      ·exact absurd (h ▸ e) dM.2.1
      ·exact h
     have h8:eZ p.ar<=eZ y:=by
      rcases ai3.1 hpy with h|h
      ·rw[h];exact am7 _
      ·exact(amH.1 iC.2).1 _ h
     rw[KL hl zX hy (by have:=wa y hy hyn;omega)]
    ·rw[if_neg fun h=>e h.2];have h8:eZ p.ar<=eZ z:=by
      rcases ai3.1 qV with h|h
      ·rw[h];exact am7 _
      ·exact iC.1 _ h
     rw[KL hl zX hz (by have:=wa z hz e;omega)]
end Go.Proofs.YtlhehdgciafakaaGreatDoor.P
end
section
namespace Go.Proofs.YtlhehdgciafakaaGreatDoor.P
open Go Go.az Go.Sort
set_option maxRecDepth 100000
set_option maxHeartbeats 4000000
theorem ad4(x:bZ)(hf:x.cR):aq E 33 [x.enc] (· = .bool (jf x)):=by
 have c1:=Cn x.q hf.1;have c2:=J4 x.answer hf.2;have c3:=QZ x.answer;obtain⟨t,ad,⟨qn,qt⟩,⟨ak,al,ac⟩⟩:=x;unfold jf;simp only at c1 c2 c3 ⊢;show aq E _ [DV.agg [.int .i64 t,.int .i64 ad,.str qn,.int .i64 qt,.int .i64 ak,.sl (al.map Signed.enc),.str ac]] _;refine eP Tryz.func33 ?_;repeat' (first|with_reducible(first|refine cC c1 ?_|refine cC c2 ?_|refine cC c3 ?_|refine cX ?_|apply ah<;>intro)|refine gA Tryz.func33 ?_|refine gB ?_|with_reducible rfl)
 all_goals (refine congrArg DV.bool ?_;simp_all;try omega)
theorem ad5{h:bB}{x:bZ}{i:Nat}{t:Int}:(dn (gy (hI h x i) t) 0 x.q.name)=dn (fN h.aw t) i x.q.name:=by
 unfold dn gy hI fN lb;simp only[List.filter_map,ajR,List.filter_filter]
 congr 1
 refine anL fun c _=>?_;simp only[Function.comp,og,iJ];cases Nm.fZ x.q.name c.ar.af<;>cases c.host==(i:Int)<;>cases decide (c.bQ<=t)<;>cases decide (t<c.upto)<;>rfl
theorem ad6{h:bB}{x:bZ}{i:Nat}{t:Int}:iL h x i t=jE (fN h.aw t) i x.q:=by
 unfold iL jE;rw[ad5]
theorem KP{l:List aH}{k:Int}{q:bp}(hz:∀ p∈l,dN p.ar=true)(hq:eD q=true):(jE l k q).2=0/\((jE l k q).1=⟨7,[],[]⟩\/∃ p∈l,(jE l k q).1=iT p.ar q/\jC p.ar q=0):=by
 unfold jE;split
 ·exact⟨rfl,.inl rfl⟩
 ·rename_i z iW;have KJ:z∈dn l k q.name:=Sr iW;obtain⟨p,p1,-,-,rfl⟩:=pZ.1 KJ;have h0:jC p.ar q=0:=by simp[jC,hz p p1,hq]
  exact⟨h0,.inr ⟨p,p1,rfl,h0⟩⟩
theorem ad7{z:aK}{q:bp}(h:jC z q=0):lV (iT z q)=false:=by
 have hk:=(RV z q).1;have:(iT z q).kind≠0:=by
  rw[iT,if_pos h];unfold mB;split
  ·split
   ·split
    ·exact hk
    ·simp
   ·exact hk
  ·simp
 simp[lV,this]
end Go.Proofs.YtlhehdgciafakaaGreatDoor.P
end
