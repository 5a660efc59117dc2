/- Lemmas of mine. Conditions: as stated. -/
import Derived.Test.YtlhehdgciafakaaGreatDoorQ25
import Derived.Test.YtlhehdgciafakaaGreatDoorQ27
set_option linter.unusedVariables false
set_option linter.unusedSimpArgs false
open Bool renaming and_eq_true->ai2,eq_iff_iff->akN
open List renaming mem_cons_self->aio,mem_of_getElem?->aiQ,mem_singleton->alI,any_eq_true->alN,mem_append->aif,all_eq_true->ahH,mem_cons_of_mem->aip,filter_congr->anL,mem_map->ahY,length_map->aiO
open Nat renaming le_trans->aic
section
namespace Go.Proofs.YtlhehdgciafakaaGreatDoor.P
open Go Go.az
set_option maxRecDepth 100000
set_option maxHeartbeats 4000000
theorem KO{l:List aH}{k:Int}{q:bp}{z:aK}(h:mD q (iy (dn l k q.name))=some z):(jE l k q).1=iT z q:=by rw[jE,h]
theorem Sz{l:List aH}{k:Int}{q:bp}(h:iy (dn l k q.name)=[]):(jE l k q).1=⟨7,[],[]⟩:=by rw[jE,h];rfl
theorem SA{l:List aH}{k:Int}{q:bp}{z:aK}{rest:List aK}(hl:(l.map aH.spot).Nodup)(hS:iy (dn l k q.name)=z::rest)(ha:q.type≠6\/∀ y∈dn l k q.name,y.af=q.name):mD q (iy (dn l k q.name))=some z:=by
 have hp:=(KM (l:=dn l k q.name)).1;have cW:=(hp.map (·.af)).nodup_iff.2 (Sv (k:=k) (n:=q.name) hl);rw[hS]at hp cW ⊢;cases rest with
 |nil=>rfl
 |cons y rest =>
  show some (if q.type=6/\z.af=q.name then y else z)=_;rcases ha with ha|ha
  ·rw[if_neg fun h=>ha h.1]
  ·have h1:=ha z (hp.mem_iff.1 (aio ..));have h2:=ha y (hp.mem_iff.1 (aip _ (aio ..)));simp only[List.map_cons,List.nodup_cons]at cW;exact absurd (by rw[h1,<- h2];exact aio ..) cW.1
theorem ad2(l:List aH)(k:Int)(q:bp)(hk:0<=k)(hl:(l.map aH.spot).Nodup)(hv:∀ p∈l,Nm.valid p.ar.af=true)(hn:Nm.valid q.name=true)(hlen:l.length<=1000000)(cA:∀ p∈l,aq E 250 [p.ar.enc,q.enc] (· = .aG [(iT p.ar q).enc,.int .i64 (jC p.ar q)])):aq E 166 [.sl (l.map aH.enc),.int .i64 k,q.enc] (· = (jE l k q).1.enc):=by
 have E0:=dh hn;have js:∀ p∈l,p.ar.af.length<=1000:=fun p hp=>by have:=dh (hv p hp);omega
 have d1:=Su l k q.name q.name hk oM hlen js;have d2:=Su l k q.name [] hk oM hlen js;refine aq.norm ?_;by_cases h6:q.type=6
 ·refine eP F166.h ?_;refine aN (zD h6) (gC ?_)
  with_reducible refine ta (d1) ?_
  rintro r ⟨b,rfl,hb⟩;refine gC ?_;rcases adZ hl hv hn h6 hb with⟨rfl,aM⟩|⟨j,p,rfl,hj,ad3⟩
  ·refine aN rfl (gC ?_)
   with_reducible refine ta (d2) ?_
   rintro r ⟨b,rfl,hb⟩;refine gC ?_;rcases Sy hl hv hn hb with⟨rfl,hS⟩|⟨j,p,rest,rfl,hj,hS⟩
   ·rw[Sz hS];refine aN rfl (gC ?_);rfl
   ·rw[KO (SA hl hS (.inr aM))];have c3:=cA p (aiQ hj);refine aP sP (gC ?_);refine dU ?_;refine eM hj (gD ?_);refine ax (c3) (gD ?_);refine And.intro (by kernel_rfl) ?_;(conv=>whnf);refine gC ?_;rfl
  ·rw[KO ad3];have c3:=cA p (aiQ hj);refine aP sP (gC ?_);refine aP sP (gC ?_);refine dU ?_;refine eM hj (gD ?_);refine ax (c3) (gD ?_);refine And.intro (by kernel_rfl) ?_;(conv=>whnf);refine gC ?_;rfl
 ·refine eP F166.h ?_;refine aP (zD h6) (gC ?_);refine aN rfl (gC ?_)
  with_reducible refine ta (d2) ?_
  rintro r ⟨b,rfl,hb⟩;refine gC ?_;rcases Sy hl hv hn hb with⟨rfl,hS⟩|⟨j,p,rest,rfl,hj,hS⟩
  ·rw[Sz hS];refine aN rfl (gC ?_);rfl
  ·rw[KO (SA hl hS (.inl h6))];have c3:=cA p (aiQ hj);refine aP sP (gC ?_);refine dU ?_;refine eM hj (gD ?_);refine ax (c3) (gD ?_);refine And.intro (by kernel_rfl) ?_;(conv=>whnf);refine gC ?_;rfl
end Go.Proofs.YtlhehdgciafakaaGreatDoor.P
end
section
namespace Go.Proofs.YtlhehdgciafakaaGreatDoor.P
open Go Go.az Go.Sort
set_option maxRecDepth 100000
set_option maxHeartbeats 4000000
theorem KX{S:Int->Bool}{f u:Int}:∀ {l:List aT} {b:Bool},l.foldl (ub S f u) b=true↔b=true\/∃ c∈l,∃ t,(t=c.bQ\/t=c.upto)/\f<=t/\t<u/\S t=true
 |[],b=>by simp
 |c::l,b=>by
  rw[List.foldl_cons,KX];simp only[ub,Fz,Bool.or_eq_true,ai2,decide_eq_true_eq,List.mem_cons];constructor
  ·rintro(((h|⟨⟨h1,h2⟩,h3⟩)|⟨⟨h1,h2⟩,h3⟩)|⟨d,hd,h⟩)
   ·exact .inl h
   ·exact .inr ⟨c,.inl rfl,c.bQ,.inl rfl,h1,h2,h3⟩
   ·exact .inr ⟨c,.inl rfl,c.upto,.inr rfl,h1,h2,h3⟩
   ·exact .inr ⟨d,.inr hd,h⟩
  ·rintro(h|⟨d,hd,t,ht,h1,h2,h3⟩)
   ·exact .inl (.inl (.inl h))
   ·rcases hd with rfl|hd
    ·rcases ht with rfl|rfl
     ·exact .inl (.inl (.inr ⟨⟨h1,h2⟩,h3⟩))
     ·exact .inl (.inr ⟨⟨h1,h2⟩,h3⟩)
    ·exact .inr ⟨d,hd,t,ht,h1,h2,h3⟩
theorem SI{S:Int->Bool}{h:bB}{x:bZ}(hc:vK S h x=true):∃ t,ix h x<=t/\t<lg h x/\S t=true:=by
 unfold vK at hc;split at hc
 ·cases hc
 ·rcases KX.1 hc with h1|⟨c,-,t,-,h1,h2,h3⟩
  ·exact⟨_,Int.le_refl _,by omega,h1⟩
  ·exact⟨t,h1,h2,h3⟩
def zZ(h:bB)(x:bZ)(i:Nat)(t:Int):Bool:=decide ((jE (fN h.aw t) i x.q).1=x.answer)
theorem KY{h:bB}{x:bZ}{t:Int}(t1:ix h x<=t)(t2:t<lg h x):0<=t/\t<h.fin:=by
 unfold ix lg at *;omega
theorem KZ{h:bB}{t:Int}(hb:ec h=true)(w:0<=t/\t<h.fin):((fN h.aw t).map aH.spot).Nodup/\∀ p∈fN h.aw t,dN p.ar=true:=by
 have h0:Cj h t=0:=QN.2 ⟨hb,w.1,w.2⟩;have cZ:E9 h t=⟨h.ay,fN h.aw t,h.anchor,h.hints⟩:=by rw[E9,if_pos h0]
 have qT:=aay h0;rw[cZ]at qT;have hp:=EX.1 (JK.1 qT).2.1;refine⟨hp.2.2.1,fun p JV=>?_⟩;have:=hp.2.1 p JV;simp only[oY,ai2]at this;exact this.2
theorem SJ{x:bZ}(hr:jf x=true):eD x.q=true/\0<=x.time/\x.time<=10000000:=by
 simp[jf]at hr;exact⟨hr.1.1.1.1.1,by omega⟩
theorem aeo{h:bB}{x:bZ}{i:Nat}(hb:ec h=true)(hq:eD x.q=true):vK (zZ h x i) h x=jg (iL h x) h x i:=by
 have he:∀ t,ix h x<=t->t<lg h x->((iL h x i t).2==0&&decide ((iL h x i t).1=x.answer))=zZ h x i t:=fun t t1 t2=>by
  rw[ad6,(KP (KZ hb (KY t1 t2)).2 hq).1];simp[zZ]
 rw[akN,jg,alN];constructor
 ·intro hc;obtain⟨t,t1,t2,t3⟩:=SI hc;obtain⟨s,s1,s2⟩:=adD (i:=i) t1 t2;have e:iL h x i s=iL h x i t:=by unfold iL;rw[s2]
  exact⟨s,s1,by rw[e,he t t1 t2,t3]⟩
 ·rintro⟨t,ht,hv⟩;obtain⟨⟨t1,t2⟩,ht⟩:=CA.1 ht;rw[he t t1 t2]at hv;rw[vK,if_neg oM,KX];rcases ht with rfl|⟨c,hc,Kd⟩
  ·exact .inl hv
  ·exact .inr ⟨c,(List.mem_filter.1 hc).1,t,Kd,t1,t2,hv⟩
theorem aep{h:bB}{x:bZ}(hb:ec h=true)(hr:jf x=true):sk (fun i=>vK (zZ h x i) h x) h.ay.length=kB (iL h x) h x:=by
 have hq:=(SJ hr).1;unfold sk kB;cases hz:lV x.answer
 ·rw[if_pos (by simp[hb,hr])]
  congr 1
  exact anL fun i _=>aeo hb hq
 ·rw[if_neg sP,List.filter_eq_nil_iff.2 fun i _ hc=>?_]
  ·rfl
  obtain⟨t,t1,t2,t3⟩:=SI hc;have hn:lV (jE (fN h.aw t) i x.q).1=false:=by
   rcases(KP (k:=i) (KZ hb (KY t1 t2)).2 hq).2 with e|⟨p,-,e,h0⟩
   ·rw[e];rfl
   ·rw[e];exact ad7 h0
  rw[of_decide_eq_true t3,hz]at hn;cases hn
theorem aeq(h:bB)(x:bZ)(hf:h.Fits)(hl:h.ga)(jd:x.cR):aq E 13 [h.enc,x.enc] (· = .aG [.sl ((kB (iL h x) h x).map (.int .i64)),.int .i64 (qR h x)]):=by
 have c:=adI h x (fun i=>vK (zZ h x i) h x) (Qo h hf hl.aw hl.hints) (ad4 x jd) (fun hb hr i hi=>by
  obtain⟨hq,ht⟩:=SJ hr;have hd:0<=h.bq/\h.bq<=1000:=by have:=hb;simp[ec]at this;omega
  refine adE h i x (zZ h x i) (fun t t1 t2=>?_) hl.aw ht hd;obtain⟨s1,s2⟩:=KZ hb (KY t1 t2);have hz:∀ p∈fN h.aw t,∃ c∈h.aw,p.ar=c.ar:=fun p hp=>by
   obtain⟨c,hc,-,-,e⟩:=J3 hp;exact⟨c,hc,by rw[e]⟩
  have hlen:(fN h.aw t).length<=1000000:=aic J2 hl.aw;have hA:(jE (fN h.aw t) i x.q).1.J.length<=2147483648/\∀ s∈(jE (fN h.aw t) i x.q).1.J,s.ga:=by
   rcases(KP (k:=i) s2 hq).2 with e|⟨p,hp,e,-⟩
   ·rw[e];exact⟨by simp,fun s hs=>by simp at hs⟩
   ·obtain⟨c,hc,ez⟩:=hz p hp;rw[e,ez];exact⟨aic (CC _ _).1 oM,fun s hs=>(hl.dS c hc).each s ((CC _ _).2 s hs)⟩
  exact adJ h i t x _ (ad2 (fN h.aw t) i x.q oM s1 (fun p hp=>JQ (s2 p hp)) (by simp[eD]at hq;exact hq.1) hlen fun p hp=>by
   obtain⟨c,hc,ez⟩:=hz p hp;rw[ez]
   exact aen c.ar x.q (hf.dS c hc) jd.1) hl.aw hA.1 hA.2) hl.ay
 refine c.mono fun r hr=>hr.trans ?_;cases hv:ec h&&jf x
 ·rw[if_neg dC];simp[kB,qR,hv]
 ·rw[ai2]at hv;rw[if_pos rfl,aep hv.1 hv.2];simp[qR,hv.1,hv.2]
end Go.Proofs.YtlhehdgciafakaaGreatDoor.P
end
section
namespace Go.Proofs.YtlhehdgciafakaaGreatDoor.P
open Go Go.az
set_option maxRecDepth 100000
set_option maxHeartbeats 4000000
def CT(h:bB)(x:bZ)(i:Nat)(t:Int):dJ × Int:=match gy (hI h x i) t with
 |[]=>(⟨7,[],[]⟩,0)
 |p::_=>(iT p.ar x.q,jC p.ar x.q)
def fC(a:Int):bZ:=⟨12,a,⟨[120],4⟩,Af⟩
def iz(d:Int):bB:={ mJ with bq:=d }
theorem TF(d:Int):(iz d).Fits:=Lr fun c hc=>by
 simp[mJ,fc]at hc;rcases hc with rfl|rfl
 ·exact⟨1,rfl⟩
 ·exact⟨2,rfl⟩
theorem TG(a:Int):(fC a).cR:=⟨by simp[fC,maxLen],by simp[fC,Af,maxLen],fun s hs=>by
 simp[fC,Af]at hs;subst hs
 exact⟨Lq _ _ (by simp[maxLen]),by simp[qc,maxLen],by simp[qc]⟩,by simp[fC,Af,maxLen]⟩
theorem af6{l:List Int}(h:l.Pairwise (· <= ·)):iw l=l:=(xJ l).eq_of_pairwise (fun _ _ _ _ p q=>Int.le_antisymm p q) (J9 l) h
theorem F2(d:Int)(i:Nat){l:List Int}(h:er [] (oe (ix (iz d) (fC 2)) (lg (iz d) (fC 2)) (hI (iz d) (fC 2) i))=l)(hl:l.Pairwise (· <= ·)):lh (iz d) (fC 2) i=l:=by
 unfold lh;rw[h,af6 hl]
theorem t1:lh (iz 2) (fC 2) 0=[10]:=F2 _ _ (by decide +kernel) dC
theorem t2:lh (iz 2) (fC 2) 1=[10]:=F2 _ _ (by decide +kernel) dC
theorem t3:lh (iz 3) (fC 2) 0=[9]:=F2 _ _ (by decide +kernel) dC
theorem t4:lh (iz 3) (fC 2) 1=[9,10]:=F2 _ _ (by decide +kernel) dC
theorem TH{ask:Nat->Int->dJ × Int}{h:bB}{x:bZ}{a b:Bool}(hl:h.ay.length=2)(hv:(ec h&&jf x && !lV x.answer)=true)(h0:jg ask h x 0=a)(h1:jg ask h x 1=b):kB ask h x=(if a then[0]else[])++if b then[1]else[]:=by
 unfold kB;rw[hv,if_pos rfl,hl,show List.range 2=[0,1]from rfl];subst h0;subst h1;simp only[List.filter];cases jg ask h x 0<;>cases jg ask h x 1<;>rfl
theorem t5:kB (CT (iz 2) (fC 2)) (iz 2) (fC 2)=[]:=TH (a:=false) (b:=false) rfl (by decide +kernel) (by unfold jg;rw[t1];decide +kernel) (by unfold jg;rw[t2];decide +kernel)
theorem t6:kB (CT (iz 3) (fC 2)) (iz 3) (fC 2)=[1]:=TH (a:=false) (b:=true) rfl (by decide +kernel) (by unfold jg;rw[t3];decide +kernel) (by unfold jg;rw[t4];decide +kernel)
theorem t7:qR (iz 2) (fC 2)=0/\qR (iz 3) (fC 2)=0/\jf (fC 0)=false:=by decide +kernel
theorem af7{h:bB}{x:bZ}{i:Nat}{t:Int}(hz:gy (hI h x i) t=[]\/∃ z,Nm.fZ x.q.name z.af=true/\gy (hI h x i) t=[⟨0,z⟩]):iL h x i t=CT h x i t:=by
 unfold iL CT jE;rcases hz with e|⟨z,hu,e⟩<;>rw[e]
 ·simp[dn,iy,mD]
 ·simp[dn,iy,mD,hu]
theorem af8{a b:Nat->Int->dJ × Int}{h:bB}{x:bZ}(e:∀ (i:Nat) (t:Int),i<h.ay.length->t∈lh h x i->a i t=b i t):kB a h x=kB b h x:=by
 unfold kB;split
 ·congr 1
  refine anL fun i hi=>?_;have hi:=List.mem_range.1 hi;unfold jg;rw[akN,alN,alN];exact⟨fun⟨t,ht,hv⟩=>⟨t,ht,by rw[<- e i t hi ht];exact hv⟩,fun⟨t,ht,hv⟩=>⟨t,ht,by rw[e i t hi ht];exact hv⟩⟩
 ·rfl
theorem af9(d:Int)(hd:d=2\/d=3)(i:Nat)(t:Int)(hi:i<2)(ht:t∈lh (iz d) (fC 2) i):gy (hI (iz d) (fC 2) i) t=[]\/∃ z,Nm.fZ [120] z.af=true/\gy (hI (iz d) (fC 2) i) t=[⟨0,z⟩]:=by
 have hu:∀ n,Nm.fZ [120] (ji n).af=true:=fun n=>by show Nm.fZ [120] [120]=true;decide +kernel
 rcases i with _|_|i
 ·left;rcases hd with rfl|rfl
  ·rw[t1]at ht;simp at ht;subst ht;decide +kernel
  ·rw[t3]at ht;simp at ht;subst ht;decide +kernel
 ·right;rcases hd with rfl|rfl
  ·rw[t2]at ht;simp at ht;subst ht;exact⟨ji 2,hu 2,by decide +kernel⟩
  ·rw[t4]at ht;simp at ht;rcases ht with rfl|rfl
   ·exact⟨ji 1,hu 1,by decide +kernel⟩
   ·exact⟨ji 2,hu 2,by decide +kernel⟩
 ·omega
theorem TI(n:Int):(ji n).ga:=⟨by simp[ji],fun s hs=>by
 simp[ji]at hs
 rcases hs with rfl|rfl<;>exact⟨by simp[qc],by simp[qc]⟩⟩
theorem yb:mJ.ga:=⟨by simp[mJ,fc],by simp[mJ],by simp[mJ,fc],by simp[mJ,fc],fun c hc=>by
 simp[mJ]at hc;rcases hc with rfl|rfl
 ·exact TI 1
 ·exact TI 2⟩
theorem TJ(d:Int)(hd:d=2\/d=3):aq E 12 [(iz d).enc,(fC 2).enc] (· = .aG [.sl ((kB (CT (iz d) (fC 2)) (iz d) (fC 2)).map (.int .i64)),.int .i64 (qR (iz d) (fC 2))]):=by
 rw[<- af8 (a:=iL (iz d) (fC 2)) (h:=iz d) (x:=fC 2) fun i t hi ht=>af7 (af9 d hd i t hi ht)];exact KK (iz d) (fC 2) (TF d) ⟨yb.ay,yb.aw,yb.hints,yb.anchor,yb.dS⟩ (TG 2)
theorem af':aq E 12 [mJ.enc,(fC 0).enc] (· = .aG [.sl [],.int .i64 1]):=by
 have c:=KK mJ (fC 0) (TF 2) yb (TG 0);unfold kB qR at c
 simpa [t7.2.2]using c
theorem aga:aq E 4 [] (· = .bool true):=by
 have c1:=afQ;have c2:=TJ 2 (.inl rfl);have c3:=TJ 3 (.inr rfl);have c4:=af';have c5:=J1 mJ mJ yb;rw[decide_eq_true rfl]at c5;have c6:=abj [1] 1 (by simp[maxLen]);rw[t5,t7.1]at c2;rw[t6,t7.2.1]at c3;refine eP F4.h ?_;refine lC (c1) rfl (gC ?_);refine aX afU (gC ?_);refine aX afW (gC ?_);refine ao c2 (gC ?_);refine ao c3 (gC ?_);refine ao c4 (gC ?_);refine aN dC (gC ?_);refine aN dC (gC ?_);refine aN dC (gC ?_);refine aN dC (gC ?_);refine aN dC (gC ?_);refine ao c5 (gC ?_);refine aN rfl (gC ?_);refine aN rfl (gC ?_);refine aN rfl (gC ?_);refine aN rfl (gC ?_);refine ao c6 (gC ?_);refine aN rfl (gC ?_);refine aX (F0 gH.dA true Lt Ls) (gC ?_);refine bj (of_decide_eq_true rfl) (gC ?_);refine aR (e:=Claim.enc ⟨1,10,ji 2⟩) ⟨of_decide_eq_true rfl,rfl⟩ rfl (gC ?_);refine vT ?_;refine aX (F0 [⟨2,10,ji 2⟩] false ⟨by simp[maxLen],fun c hc=>by simp at hc;subst hc;exact FZ 2⟩ (by decide +kernel)) ?_;refine gC ?_;rfl
theorem agb(e:iR)(c1:aq E 15 [e.enc] (· = .bool (je e)))(c2:aq E 23 [e.before.enc,.sl (e.steps.map Step.enc)] (· = .aG [(gp e.before e.steps).enc,.int .i64 (applyN e.before e.steps)])) :
  aq E 10 [e.enc] (· = if je e then .aG [(gp e.before e.steps).enc,.int .i64 (applyN e.before e.steps)]else .aG [o3.enc,.int .i64 1]):=by
 refine aq.norm ?_;generalize je e=v at *;obtain⟨⟨ay,aw,anchor,hints,bq,fin⟩,sl,cl,tl⟩:=e;simp only at c2 ⊢;generalize gp _ sl=H at *;generalize applyN _ sl=M at *;show aq E _ [HE ay aw anchor hints bq fin sl cl tl] _;refine eP F10.h ?_;repeat' (first|with_reducible(first|refine cC c1 ?_|refine cC c2 ?_|refine cX ?_|apply ah<;>intro)|refine gE ?_|with_reducible rfl)
 all_goals (simp_all;try rfl)
end Go.Proofs.YtlhehdgciafakaaGreatDoor.P
end
section
namespace Go.Proofs.YtlhehdgciafakaaGreatDoor.P
open Go Go.az
def Claim.put(c:Claim):aH:=⟨c.host,c.ar⟩
def stepG(g:Int × List aH):Step:=⟨g.1,⟨g.2⟩⟩
end Go.Proofs.YtlhehdgciafakaaGreatDoor.P
end
section
namespace Go.Proofs.YtlhehdgciafakaaGreatDoor.P
open Go Go.az
set_option maxRecDepth 100000
set_option maxHeartbeats 4000000
theorem TL{P:aH->Prop}:∀ {l:List Claim} {gs:List (Int × List aH)},(∀ g∈gs,∀ p∈g.2,P p)->(∀ c∈l,P c.put)->∀ g∈l.foldl l5 gs,∀ p∈g.2,P p
 |[],gs,h,_=>h
 |c::l,gs,h,hl=>by
  refine TL (l:=l) (gs:=l5 gs c) ?_ fun d hd=>hl d (aip _ hd);have hc:=hl c (aio ..);have eK:∀ g∈gs++[(c.time,[c.put])],∀ p∈g.2,P p:=fun g hg p hp=>by
   rcases aif.1 hg with hg|hg
   ·exact h g hg p hp
   ·rw[alI.1 hg]at hp;rw[alI.1 hp];exact hc
  unfold l5;split
  ·exact eK
  ·rename_i g hg;split
   ·intro y hy p hp;rcases aif.1 hy with hy|hy
    ·exact h y (List.dropLast_subset _ hy) p hp
    ·rw[alI.1 hy]at hp;rcases aif.1 hp with hp|hp
     ·exact h g (List.mem_of_getLast? hg) p hp
     ·rw[alI.1 hp];exact hc
   ·exact eK
theorem TM{P:aK->Prop}{l:List Claim}(h:∀ c∈l,P c.ar):∀ s∈eR l,∀ p∈s.cE.cQ,P p.ar:=fun s hs p hp=>by
 obtain⟨g,hg,rfl⟩:=ahY.1 hs;exact TL (P:=fun p=>P p.ar) (gs:=[]) (fun g hg=>(by cases hg)) h g hg p hp
theorem F'{l:List Claim}:(eR l).length<=l.length/\∀ s∈eR l,s.cE.cQ.length<=l.length:=by
 have:=Lu l;refine⟨by rw[eR,aiO];exact this.1,fun s hs=>?_⟩;obtain⟨g,hg,rfl⟩:=ahY.1 hs;exact this.2 g hg
theorem agd{l:List Claim}(h:∀ c∈l,c.ar.Fits)(hl:l.length<=400):Steps.Fits (eR l) :=
 ⟨fun s hs=>⟨TM h s hs,by have:=F'.2 s hs;omega⟩,by have:=F' (l:=l);omega⟩
theorem age(e:iR)(c1:aq E 16 [e.enc] (· = .bool (je e)))(c2:aq E 25 [e.before.enc,.sl (e.steps.map Step.enc)] (· = .aG [(gp e.before e.steps).enc,.int .i64 (applyN e.before e.steps)])) :
  aq E 11 [e.enc] (· = if je e then .aG [(gp e.before e.steps).enc,.int .i64 (applyN e.before e.steps)]else .aG [o3.enc,.int .i64 1]):=by
 refine aq.norm ?_;generalize je e=v at *;obtain⟨⟨ay,aw,anchor,hints,bq,fin⟩,sl,cl,tl⟩:=e;simp only at c2 ⊢;generalize gp _ sl=H at *;generalize applyN _ sl=M at *;show aq E _ [HE ay aw anchor hints bq fin sl cl tl] _;refine eP Tryz.func11 ?_;repeat' (first|with_reducible(first|refine cC c1 ?_|refine cC c2 ?_|refine cX ?_|apply ah<;>intro)|refine gA Tryz.func11 ?_|refine gB ?_|with_reducible rfl)
 all_goals (simp_all;try rfl)
theorem agf(e:iR)(hn:e.dA.length<=400)(c1:aq E 16 [e.enc] (· = .bool (je e)))(c2:aq E 25 [e.before.enc,.sl ((eR e.dA).map Step.enc)] (· = .aG [(gp e.before (eR e.dA)).enc,.int .i64 (applyN e.before (eR e.dA))])) :
  aq E 9 [e.enc] (· = if je e then .aG [(gp e.before (eR e.dA)).enc,.int .i64 (applyN e.before (eR e.dA))]else .aG [o3.enc,.int .i64 1]):=by
 refine aq.norm ?_;have c3:=af3 e.dA hn;have hl:=F' (l:=e.dA);generalize je e=v at *;obtain⟨⟨ay,aw,anchor,hints,bq,fin⟩,sl,cl,tl⟩:=e;simp only at c2 c3 hn hl ⊢;generalize gp _ (eR cl)=H at *;generalize applyN _ (eR cl)=M at *;show aq E _ [HE ay aw anchor hints bq fin sl cl tl] _;cases v
 ·refine eP F9.h ?_;repeat' (first|with_reducible(first|refine cC c1 ?_|refine cX ?_|apply ah<;>intro)|refine gE ?_|with_reducible rfl)
  rfl
 refine eP F9.h ?_;repeat' (first|with_reducible(first|refine cC c1 ?_|refine cC c3 ?_|refine cX ?_|apply ah<;>intro)|refine gE ?_|with_reducible rfl)
 refine gC ?_;refine I.lP ((eR cl).length) ([3,6]++rg 15 15) (fun k=>[(6,.d (.int .i64 k))]) (fun _=>[]) (fun k=>k<=(eR cl).length) (Nat.zero_le _) ?_ ?_
 ·exact sZ
 intro k hk IH;refine zA ?_ ?_<;>intro h5
 ·have ai:k<(eR cl).length:=zD h5
  obtain⟨s,hs⟩:=aI ai;have iC:=hl.2 s (aiQ hs);refine gC ?_;refine eM hs (gC ?_);refine aP (by simp;omega) ?_;refine gC ?_;exact I.back (IH (k+1) oM oM) sZ
 ·have qd:=hl.1;refine gC ?_;refine aP (by simp;omega) ?_;refine gC ?_;repeat' (first|with_reducible(first|refine cC c2 ?_|refine cX ?_|apply ah<;>intro)|refine gE ?_|with_reducible rfl)
  rfl
theorem Lw:o3.ga:=⟨by simp[o3],by simp[o3],by simp[o3],by simp[o3],fun c hc=>by simp[o3]at hc⟩
theorem TN{h:bB}{l:List Step}(hl:h.ga)(vw:h.aw.length<=20)(hp:∀ s∈l,s.cE.cQ.length<=20/\∀ p∈s.cE.cQ,p.ar.ga)(hn:l.length<=400):(gp h l).ga:=by
 by_cases h0:applyN h l=0
 ·rw[af5 h0];have:=JT (fin:=h.fin) (cs:=h.aw) (l:=l) (fun s hs=>by have:=(hp s hs).1;omega) l.length (Nat.le_refl _);rw[List.take_length]at this;exact⟨hl.ay,by simp only;omega,hl.hints,hl.anchor,JU hl.dS fun s hs p hq _=>(hp s hs).2 p hq⟩
 ·rw[gp,if_neg h0];exact Lw
theorem agh(x:iR)(hx:x.Good)(hf:xI x=true):∃ (A B:bB) (n m:Int),(A.ga/\B.ga) /\
  (aq E 8 [x.enc] (· = .aG [A.enc,.int .i64 n])/\aq E 9 [x.enc] (· = .aG [A.enc,.int .i64 n])) /\
  (aq E 10 [x.enc] (· = .aG [B.enc,.int .i64 m])/\aq E 11 [x.enc] (· = .aG [B.enc,.int .i64 m])) /\
  (aq E 15 [x.enc] (· = .bool (je x))/\aq E 16 [x.enc] (· = .bool (je x))):=by
 obtain⟨E1,vw⟩:=adM hx hf;have v1:=Tj x E1.before E1.aw E1.steps (qQ.Fits.b E1.dA) E1.E2 E1.each;have v2:=abd x E1;simp only[xI,ai2,decide_eq_true_eq]at hf;obtain⟨⟨⟨⟨⟨f1,-⟩,f3⟩,f4⟩,-⟩,-⟩:=hf;obtain⟨g1,g20,-,gL⟩:=KF hx.1 f3;rw[List.take_of_length_le oM]at f1;simp only[zQ,ai2,decide_eq_true_eq]at f4;have L1:∀ d∈x.dA,d.ar.ga:=fun d hd=>(B6 (hx.2.2.1.2 d hd).2.2 (ahH.1 f1 d hd)).2.2;have hp:∀ s∈x.steps,s.cE.cQ.length<=20/\∀ p∈s.cE.cQ,p.ar.ga:=fun s hs=>by
  have:=ahH.1 f4.2 s hs;simp only[sf,ai2,decide_eq_true_eq]at this;exact⟨this.1,fun p hp=>(B6 (((hx.2.1.2 s hs).2).2 p hp).2 (ahH.1 this.2 p hp)).2.2⟩
 have s1:=agd E1.dA.2 oM;have k1:=F' (l:=x.dA);have c1:=afY x v1 oM (JY x.before (eR x.dA) E1.before E1.aw s1);have c2:=agf x oM v2 (QK x.before (eR x.dA) E1.before E1.aw E1.hints s1);have p1:=agb x v1 (JY x.before x.steps E1.before E1.aw E1.steps);have p2:=age x v2 (QK x.before x.steps E1.before E1.aw E1.hints E1.steps);by_cases hv:je x=true
 ·rw[if_pos hv]at c1 c2 p1 p2;exact⟨_,_,_,_,⟨TN gL g20 (fun s hs=>⟨by have:=k1.2 s hs;omega,TM L1 s hs⟩) oM,TN gL g20 hp oM⟩,⟨c1,c2⟩,⟨p1,p2⟩,v1,v2⟩
 ·rw[if_neg hv]at c1 c2 p1 p2;exact⟨o3,o3,1,1,⟨Lw,Lw⟩,⟨c1,c2⟩,⟨p1,p2⟩,v1,v2⟩
theorem agi(x:iR)(h:bB)(y:bZ)(hx:x.Good)(hg:h.Good)(hy:y.Good):aq E 3 [x.enc,h.enc,y.enc] (· = .bool true):=by
 have c1:=abc x hx.2.2.1.1 hx.2.2.2.1 (adN hx);have c2:=Q1 h;have c3:=J6 y.answer.J hy.2.2.2.2.1.1;show aq E _ [DV.agg [.sl (x.before.ay.map Host.enc),.sl (x.before.aw.map aT.enc),.str x.before.anchor.name,.int .i64 x.before.anchor.type,.int .i64 x.before.anchor.dD,.sl (x.before.anchor.data.map Datum.enc),.sl (x.before.hints.map (.int .i64)),.int .i64 x.before.bq,.int .i64 x.before.fin,.sl (x.steps.map Step.enc),.sl (x.dA.map Claim.enc),.sl (x.mw.map dO.enc)],h.enc,DV.agg [.int .i64 y.time,.int .i64 y.addr,.str y.q.name,.int .i64 y.q.type,.int .i64 y.answer.kind,.sl (y.answer.J.map Signed.enc),.str y.answer.cut]] _;refine eP F3.h ?_;refine ao (aga) (gC ?_);refine ao c1 (gC ?_);apply ah<;>intro e1
 ·repeat' (first|with_reducible(first|refine cX ?_|apply ah<;>intro)|refine gE ?_|with_reducible rfl)
 have gU:xI x=true:=zD e1
 refine gC ?_;refine ao c2 (gC ?_);apply ah<;>intro e2
 ·repeat' (first|with_reducible(first|refine cX ?_|apply ah<;>intro)|refine gE ?_|with_reducible rfl)
 have jx:zR h=true:=zD e2
 refine gC ?_;refine ao c3 (gC ?_);apply ah<;>intro e3
 ·repeat' (first|with_reducible(first|refine cX ?_|apply ah<;>intro)|refine gE ?_|with_reducible rfl)
 have xA:vG y.answer.J=true:=zD e3
 refine gC ?_;apply ah<;>intro e4
 ·repeat' (first|with_reducible(first|refine cX ?_|apply ah<;>intro)|refine gE ?_|with_reducible rfl)
 refine gC ?_;apply ah<;>intro e5
 ·repeat' (first|with_reducible(first|refine cX ?_|apply ah<;>intro)|refine gE ?_|with_reducible rfl)
 obtain⟨f1,f2,f3,f4⟩:=KF hg jx;have FA:y.cR:=⟨hy.2.2.1.1,hy.2.2.2.2.1.1,KG hy.2.2.2.2.1.2 xA,hy.2.2.2.2.2⟩;have h1:=KK h y f1 f4 FA;have h2:=aeq h y f1 f4 FA;obtain⟨A,B,n,m,⟨LA,LB⟩,⟨c4,c5⟩,⟨p4,p5⟩,v1,v2⟩:=agh x hx gU;have sA:=J1 A A LA;have sB:=J1 B B LB;rw[decide_eq_true rfl]at sA sB;have hlen:(kB (iL h y) h y).length<=1000000:=by
  unfold kB;split
  ·rw[aiO];exact aic (List.length_filter_le ..) (by rw[List.length_range];exact f4.ay)
  ·simp
 generalize kB (iL h y) h y=L at *;generalize qR h y=k0 at *;generalize je x=v at *;obtain⟨ahc,ahd,ahe,ahf,ahg,ahh⟩:=A;obtain⟨gb,ahi,ahj,ahk,ahl,ahm⟩:=B;refine gC ?_;refine ao c4 (gC ?_);refine ao c5 (gC ?_);refine ao p4 (gC ?_);refine ao p5 (gC ?_);refine ao h1 (gC ?_);refine ao h2 (gC ?_);refine aP sP (gC ?_);refine I.lP L.length ([7,20]++rg 91 16) (fun k=>[(91,.d (.int .i64 k)),(7,.d (.bool true))]) (fun _=>[]) (fun k=>k<=L.length) (Nat.zero_le _) ?_ ?_
 ·exact sZ
 intro k hk IH;refine zA ?_ ?_<;>intro h5
 ·have ai:k<L.length:=zD h5
  obtain⟨j,hj⟩:=aI ai;refine gC ?_;refine dU ?_;refine aZ (gD ?_);refine aR (e := .int .i64 j) (bC hj) rfl (gD ?_);refine aR (e := .int .i64 j) (bC hj) rfl (gD ?_);refine gC ?_;refine I.back (IH (k+1) oM oM) ?_;refine sY ?_
  refine⟨by simp, ?_⟩;exact sZ
 ·refine gC ?_;refine dU ?_;refine aZ (gD ?_);refine ax (sA) (gD ?_);refine aZ (gD ?_);refine aN sP (gD ?_);refine ax (sB) (gD ?_);refine aZ (gD ?_);refine aN sP (gD ?_);refine aN sP (gD ?_);refine ax (v1) (gD ?_);refine ax (v2) (gD ?_);refine gC ?_;simp
theorem agj(x:iR)(h:bB)(y:bZ)(g0:x.Good)(g1:h.Good)(g2:y.Good):aq E 3 [x.enc,h.enc,y.enc] (· = .bool true):=agi x h y g0 g1 g2
end Go.Proofs.YtlhehdgciafakaaGreatDoor.P
end
