/- Lemmas of mine. Conditions: as stated. -/
import Derived.Test.YtlhehdgciafakaaGreatDoorQ21
import Derived.Test.YtlhehdgciafakaaGreatDoorQ22
import Derived.Test.YtlhehdgciafakaaGreatDoorQ26
set_option linter.unusedVariables false
set_option linter.unusedSimpArgs false
open List renaming length_cons->ahN,length_replicate->aiR,length_take->ah1,length_map->aiO,mem_map->ahY,map_map->ajR,getElem?_set_self->ahQ,mem_append->aif,mem_singleton->alI,eq_nil_or_concat->alP,concat_eq_append->alQ,reverse->anT,take_of_length_le->ajq,getElem?_map->ahy,mem_reverse->anU,mem_of_getElem?->aiQ
open Nat renaming zero_le->ai4,le_trans->aic
section
namespace Go.Proofs.YtlhehdgciafakaaGreatDoor.P
open Go Go.az
set_option maxRecDepth 100000
set_option maxHeartbeats 4000000
theorem aen(z:aK)(q:bp)(hf:z.Fits)(hn:q.name.length<=maxLen):aq E 250 [z.enc,q.enc] (· = .aG [(iT z q).enc,.int .i64 (jC z q)]):=by
 refine aq.norm ?_;refine(aem z q hf hn).mono fun r h=>?_;subst h;have:=RX (RW (z:=z) (q:=q));simp only[norm,vb,this]
def qc(kind:Int)(d:Datum):Signed:=⟨⟨[120],kind,9,[d]⟩,[]⟩
def ji(n:Int):aK:=⟨[120],[qc 2 ⟨[98],0,0⟩,qc 4 ⟨[],n,0⟩]⟩
def fc:bB:=⟨[⟨[97],1,0⟩,⟨[98],2,0⟩],[⟨1,0,100,ji 1⟩],⟨[46],6,0,[⟨[],1,1⟩]⟩,[1],2,100⟩
def gH:iR:=⟨fc,[⟨10,⟨[⟨1,ji 2⟩]⟩⟩],[⟨1,10,ji 2⟩],[]⟩
def Af:dJ:=⟨1,[qc 4 ⟨[],1,0⟩],[]⟩
theorem Tz(kind:Int)(d:Datum):aq E 46 [.int .i64 kind,d.enc] (· = (qc kind d).enc):=by
 obtain⟨x,y,z⟩:=d;refine aq.norm ?_;show aq E _ [.int .i64 kind,DV.agg [.str x,.int .i64 y,.int .i64 z]] _;refine eP Tryz.func46 ?_;rfl
theorem afP(n:Int):aq E 45 [.int .i64 n] (· = (ji n).enc):=by
 have c1:=Tz 2 ⟨[98],0,0⟩;have c2:=Tz 4 ⟨[],n,0⟩;refine eP F45.h ?_;refine ao (c1) (gC ?_);refine ao (c2) (gC ?_);rfl
def Ag(h:bB):List AV:=[.d (.sl (h.ay.map Host.enc)),.d (.sl (h.aw.map aT.enc)),.d (.str h.anchor.name),.d (.int .i64 h.anchor.type),.d (.int .i64 h.anchor.dD),.d (.sl (h.anchor.data.map Datum.enc)),.d (.sl (h.hints.map (.int .i64))),.d (.int .i64 h.bq),.d (.int .i64 h.fin)]
theorem afQ:au E 17 [] [] (fun a b=>a=.aG [.agg (Ag fc++[.d (.sl (gH.steps.map Step.enc)),.own 3 0,.d (.sl [])]),.d Af.enc]/\b=[.cells (Ag fc++[.d (.sl (gH.steps.map Step.enc)),.own 3 0,.d .aF]),.cells [.d (.int .i64 1),.d (.sl (Af.J.map Signed.enc)),.d (.str [])],.cells (Ag fc),.arr 0 (59,4) (gH.dA.map Claim.enc)]):=by
 have c1:∀ n,aq E 45 [.int .i64 n] (· = .agg [.str [120],.sl ((ji n).J.map Signed.enc)]):=afP;refine au.norm ?_;refine aE ?_;refine ao (c1 1) (gC ?_);refine dU ?_;refine ax (c1 2) (gD ?_);refine ax (c1 2) ?_;(conv=>whnf);refine bU.run ag 1 ?_;(conv=>whnf);refine bU.at rfl ?_;(conv=>whnf);refine ml.own ag (gD ?_);refine ax (c1 1) (gD ?_);refine bj ⟨by decide,by decide,by decide,by decide⟩ (gD ?_);refine And.intro (by kernel_rfl) ?_;(conv=>whnf);refine gC ?_;exact⟨rfl,rfl⟩
def mJ:bB:={ fc with aw:=[⟨1,0,10,ji 1⟩,⟨1,10,100,ji 2⟩] }
theorem Lq(k:Int)(d:Datum)(hd:d.text.length<=maxLen):(qc k d).set.Fits:=⟨by simp[qc,maxLen],by simp[qc],fun x hx=>by simp[qc]at hx;subst hx;exact hd⟩
theorem FZ(n:Int):(ji n).Fits:=⟨by simp[ji,maxLen],fun s hs=>by
 simp[ji]at hs;rcases hs with rfl|rfl
 ·exact Lq _ _ (by simp[maxLen])
 ·exact Lq _ _ (by simp[maxLen])⟩
theorem afT:fc.anchor.Fits:=⟨by simp[fc,maxLen],by simp[fc],fun x hx=>by simp[fc]at hx;subst hx;simp[maxLen]⟩
theorem Lr{cs:List aT}{d:Int}(h:∀ c∈cs,∃ n,c.ar=ji n):({ fc with aw:=cs,bq:=d }:bB).Fits:=⟨fun x hx=>by
 simp[fc]at hx;rcases hx with rfl|rfl<;>simp[maxLen],afT,by simp[fc,maxLen],fun c hc=>by
 obtain⟨n,e⟩:=h c hc;rw[e]
 exact FZ n⟩
theorem TB:Steps.Fits gH.steps:=⟨fun s hs=>by
 simp[gH]at hs;subst hs
 exact⟨fun p hp=>by simp at hp;subst hp;exact FZ 2,by simp⟩,by simp[gH]⟩
theorem F0(l:List Claim)(b:Bool)(hl:qQ.Fits l)(hb:(mz fc gH.steps&&xH fc l)=b):au E 15 [.arr 0 (59,4) (l.map Claim.enc)] [.agg (Ag fc++[.d (.sl (gH.steps.map Step.enc)),.own 0 0,.d (.sl [])])] (fun x h=>x=.d (.bool b)/\h=[.arr 0 (59,4) (l.map Claim.enc)]):=by
 have c1:=Tj ⟨fc,gH.steps,l,[]⟩ (Lr (cs:=fc.aw) fun c hc=>⟨1,by simp[fc]at hc;subst hc;rfl⟩) (by simp[fc]) TB hl.b sP sP;have e1:je ⟨fc,gH.steps,l,[]⟩=b:=by rw[<- hb];simp[je]
 rw[e1]at c1;exact aq.afR c1 rfl rfl rfl rfl
theorem Ls:(mz fc gH.steps&&xH fc gH.dA)=true:=by decide +kernel
theorem Lt:qQ.Fits gH.dA:=⟨by simp[gH,maxLen],fun c hc=>by simp[gH]at hc;subst hc;exact FZ 2⟩
theorem TC:aq E 23 [fc.enc,.sl (gH.steps.map Step.enc)] (· = .aG [mJ.enc,.int .i64 0]):=by
 have c1:=JY fc gH.steps (Lr (cs:=fc.aw) fun c hc=>⟨1,by simp[fc]at hc;subst hc;rfl⟩) dC TB
 rwa [show gp fc gH.steps=mJ by decide +kernel,show applyN fc gH.steps=0 by decide +kernel]at c1
theorem afU:au E 10 [.arr 0 (59,4) (gH.dA.map Claim.enc)] [.agg (Ag fc++[.d (.sl (gH.steps.map Step.enc)),.own 0 0,.d (.sl [])])] (fun x h=>x=.aG [.d mJ.enc,.d (.int .i64 0)]/\h=[.arr 0 (59,4) (gH.dA.map Claim.enc)]):=by
 have c1:=F0 gH.dA true Lt Ls;have c2:=TC;apply au.kA
 case hk=>rfl
 refine aE ?_;refine aX c1 (gC ?_);refine vF ?_;refine ao c2 (gC ?_);exact⟨rfl,rfl⟩
theorem afV(c:Claim):au E 22 [.cells [.d .aF],.cells [.d (.bool false)]] [.d c.enc,.ptr 0 0,.ptr 1 0] (fun x h=>x=.aG []/\h=[.cells [.d (.sl [Step.enc ⟨c.time,⟨[⟨c.host,c.ar⟩]⟩⟩])],.cells [.d (.bool false)]]):=by
 obtain⟨ch,ct,⟨za,zs⟩⟩:=c;show au E _ _ [.d (DV.agg [.int .i64 ch,.int .i64 ct,.str za,.sl (zs.map Signed.enc)]),_,_] _;apply au.kA
 case hk=>rfl
 refine aE ?_;refine I.qA 0 0 (82,2) dC rfl rfl (gC ?_);refine dU ?_;refine aN dC (gD ?_);refine gC ?_;refine vT ?_;refine bj ⟨by simp,by simp[DV.cells]⟩ (gC ?_);refine bj (of_decide_eq_true rfl) (gC ?_);refine dU ?_;refine aR (e := .agg [.int .i64 ct,.aF]) ⟨of_decide_eq_true rfl,rfl⟩ rfl ?_;(conv=>whnf);refine bU.run ag 1 ?_;(conv=>whnf);refine bU.run ag 1 ?_;(conv=>whnf);refine bU.run ag 1 ?_;(conv=>whnf);refine bU.run ag 1 ?_;(conv=>whnf);refine bU.run ag 1 ?_;(conv=>whnf);refine bU.run ag 1 ?_;(conv=>whnf);refine bU.at rfl ?_;(conv=>whnf);refine ml.op (afS ag rfl rfl rfl rfl rfl rfl rfl rfl rfl rfl (bg rfl) (bg rfl) (by simp[DV.cells]) sP) (gD ?_);refine aR (e := .agg [.int .i64 ct,.aF]) ⟨of_decide_eq_true rfl,rfl⟩ rfl (gD ?_);refine And.intro (by kernel_rfl) ?_;(conv=>whnf);refine gC ?_;refine aP rfl (gC ?_);refine aP rfl (gC ?_);refine aR (e := .agg [.int .i64 ct,.sl [.agg [.int .i64 ch,.str za,.sl (zs.map Signed.enc)]]]) ⟨of_decide_eq_true rfl,rfl⟩ rfl ?_;(conv=>whnf);refine I.run ag F22.h 4 ?_;(conv=>whnf);refine I.freeze 3 ?_;(conv=>whnf);refine gC ?_;exact⟨rfl,rfl⟩
theorem afW:au E 8 [.arr 0 (59,4) (gH.dA.map Claim.enc)] [.agg (Ag fc++[.d (.sl (gH.steps.map Step.enc)),.own 0 0,.d (.sl [])])] (fun x h=>x=.aG [.d mJ.enc,.d (.int .i64 0)]/\h=[.arr 0 (59,4) (gH.dA.map Claim.enc)]):=by
 have c1:=F0 gH.dA true Lt Ls;have c2:=TC;apply au.kA
 case hk=>rfl
 refine aE ?_;refine aX c1 (gC ?_);refine vF ?_;refine I.te ?_;refine I.run ag F8.h 2000 ?_;(conv=>whnf);refine aN rfl (gC ?_);refine bj (of_decide_eq_true rfl) (gC ?_);refine aR (e:=Claim.enc ⟨1,10,ji 2⟩) ⟨of_decide_eq_true rfl,rfl⟩ rfl (gC ?_);refine aX (afV ⟨1,10,ji 2⟩) (gC ?_);refine I.again ?_;refine I.run ag F8.h 2000 ?_;(conv=>whnf);refine aP rfl (gC ?_);refine vF ?_;refine ao c2 (gC ?_);exact⟨rfl,rfl⟩
theorem fO{P Q:Prop}(q:Q)(e:Q->P:=by(intro q;(conv=>whnf);exact cw.o ag q)):P:=e q
def l5(gs:List (Int × List aH))(c:Claim):List (Int × List aH):=match gs.getLast? with
 |none=>gs++[(c.time,[⟨c.host,c.ar⟩])]
 |some g=>if g.1=c.time then gs.dropLast++[(g.1,g.2++[⟨c.host,c.ar⟩])]else gs++[(c.time,[⟨c.host,c.ar⟩])]
def uk(l:List Claim):List (Int × List aH):=l.foldl l5 []
def eR(l:List Claim):List Step:=(uk l).map fun g=>⟨g.1,⟨g.2⟩⟩
theorem ya(l:List Claim)(c:Claim):uk (l++[c])=l5 (uk l) c:=by simp[uk]
theorem afX{gs:List (Int × List aH)}{c:Claim}{n:Nat}(h:gs.length<=n/\∀ g∈gs,g.2.length<=n):(l5 gs c).length<=n+1/\∀ g∈l5 gs c,g.2.length<=n+1:=by
 have eK:(gs++[(c.time,[(⟨c.host,c.ar⟩:aH)])]).length<=n+1/\∀ g∈gs++[(c.time,[(⟨c.host,c.ar⟩:aH)])],g.2.length<=n+1:=by
  refine⟨by simp;exact h.1,fun g hg=>?_⟩;rcases aif.1 hg with hg|hg
  ·have:=h.2 g hg;omega
  ·rw[alI.1 hg];simp
 unfold l5;split
 ·exact eK
 ·rename_i g hg;split
  ·have hm:=List.mem_of_getLast? hg;refine⟨by simp;have:=h.1;omega,fun y hy=>?_⟩;rcases aif.1 hy with hy|hy
   ·have:=h.2 y (List.dropLast_subset _ hy);omega
   ·rw[alI.1 hy];have:=h.2 g hm;simp;exact this
  ·exact eK
theorem Lu(l:List Claim):(uk l).length<=l.length/\∀ g∈uk l,g.2.length<=l.length:=by
 suffices h:∀ (l:List Claim) (gs:List (Int × List aH)) (n:Nat),(gs.length<=n/\∀ g∈gs,g.2.length<=n)->(l.foldl l5 gs).length<=n+l.length/\∀ g∈l.foldl l5 gs,g.2.length<=n+l.length by
  have:=h l [] 0 ⟨Nat.le_refl _,fun g hg=>by cases hg⟩
  rwa [Nat.zero_add]at this
 intro l
 induction l with
 |nil=>intro gs n h;exact h
 |cons c l ih =>
  intro gs n h;have:=ih (l5 gs c) (n+1) (afX h);rw[List.foldl_cons,ahN,show n+(l.length+1)=n+1+l.length by omega];exact this
theorem F1{gs:List (Int × List aH)}{c:Claim}(h:∀ g,gs.getLast?=some g->g.1≠c.time):l5 gs c=gs++[(c.time,[⟨c.host,c.ar⟩])]:=by
 unfold l5;split
 ·rfl
 ·rename_i g hg;rw[if_neg (h g hg)]
theorem TD{gs:List (Int × List aH)}{g:Int × List aH}{c:Claim}(h:g.1=c.time):l5 (gs++[g]) c=gs++[(g.1,g.2++[⟨c.host,c.ar⟩])]:=by
 unfold l5;simp[h]
structure GD where
 t:Int
 ps:List aH
 blk:Nat
 cap:Nat
def GD.slice(d:GD):Value := .slice (some ⟨d.blk,0,none⟩) d.ps.length d.cap
def GD.bM(d:GD):DV := .agg [.int .i64 d.t,.raw d.slice]
def GD.row(d:GD):Row:=⟨d.blk,d.cap,(85,3),d.ps.map aH.enc⟩
def GD.kG(d:GD):Int × List aH:=(d.t,d.ps)
theorem afY(e:iR)(c1:aq E 15 [e.enc] (· = .bool (je e)))(hn:e.dA.length<=400)(c2:aq E 23 [e.before.enc,.sl ((eR e.dA).map Step.enc)] (· = .aG [(gp e.before (eR e.dA)).enc,.int .i64 (applyN e.before (eR e.dA))])) :
  aq E 8 [e.enc] (· = if je e then .aG [(gp e.before (eR e.dA)).enc,.int .i64 (applyN e.before (eR e.dA))]else .aG [o3.enc,.int .i64 1]):=by
 cases hv:je e
 ·rw[hv]at c1;rw[if_neg dC];clear c2 hv hn;obtain⟨⟨ay,aw,anchor,hints,bq,fin⟩,sl,cl,tl⟩:=e;show aq E _ [HE ay aw anchor hints bq fin sl cl tl] _;refine aq.norm ?_;refine eP F8.h ?_;repeat' (first|with_reducible(first|refine cC c1 ?_|refine cX ?_|apply ah<;>intro)|refine gE ?_|with_reducible rfl)
  rfl
 rw[if_pos rfl];rw[hv]at c1;obtain⟨⟨ay,aw,anchor,hints,bq,fin⟩,sl,cl,tl⟩:=e;simp only at c2 hn ⊢;show aq E _ [HE ay aw anchor hints bq fin sl cl tl] _;refine eP F8.h ?_;repeat' (first|with_reducible(first|refine cC c1 ?_|refine cX ?_|apply ah<;>intro)|refine gE ?_|with_reducible rfl)
 refine gC ?_;refine I.qA 2 0 (82,2) dC rfl rfl ?_;refine I.BM (κ:=Nat × List GD) [8,17,18,19,20,21,22,23,24] (fun x=>[(17,.d (.int .i64 x.1))]) (fun x=>[(2,.cells [.own 4 1]),(3,.cells [.d (.bool false)]),(4,.arr 1 (82,2) (x.2.map GD.bM))]) (fun x=>x.2.reverse.map fun d => .row d.row) (fun x=>x.1<=cl.length/\x.2.map GD.kG=uk (cl.take x.1)) (fun x=>cl.length-x.1) (0,[]) ⟨ai4 _,rfl⟩ rfl ?_ ?_
 ·(conv=>whnf);repeat (first|exact trivial|(rw[dW];conv=>whnf)|(refine sI ?_;conv=>whnf))
  refine⟨rfl, ?_⟩;(conv=>whnf);repeat (first|exact trivial|(rw[dW];conv=>whnf)|(refine sI ?_;conv=>whnf))
 generalize hQ:(uA fun x:DV=>_)=Q;rintro⟨k,ds⟩ ⟨hk,eO⟩ IH;simp only at hk eO;refine zA ?_ ?_<;>intro h5
 ·have ai:k<cl.length:=zD h5
  obtain⟨c,hc⟩:=aI ai;refine gC ?_;refine eM hc ?_;(conv=>whnf);repeat ((fail_if_success (first|(refine I.rP (fn:=Tryz.f22) rfl rfl (bg rfl) (nO (bg rfl)) Tryz.func22 rfl dC ?_)|fail));(refine I.run ag F8.h 1 ?_);(conv=>whnf))
  refine I.rP (fn:=Tryz.f22) rfl rfl (bg rfl) (nO (bg rfl)) Tryz.func22 rfl dC ?_;(conv=>whnf);refine fW ?_
  refine gC ?_;have rS:=Lu (cl.take k);rw[<- eO]at rS;have hk4:(cl.take k).length<=400:=by rw[ah1];omega
  have Lv:(cl.take k).length<=k:=by rw[ah1];omega
  have ik:ds.length<=k:=by have:=rS.1;rw[aiO]at this;omega
  have fF:∀ d∈ds,d.ps.length<=k:=fun d hd=>by have:=rS.2 d.kG (ahY.2 ⟨d,hd,rfl⟩);exact aic this Lv
  rcases alP ds with rfl|⟨bX,d,rfl⟩
  ·simp only[List.map_nil,List.length_nil];refine dU ?_;refine aZ (gD ?_);refine gC ?_;refine vT ?_;refine bj ⟨by simp,by simp[DV.cells]⟩ (gC ?_);have hN:((([]++[DV.agg [.int .i64 c.time,.aF]]).length:Nat):Int)=((0:Nat):Int)+1:=by simp<;>omega
   have dL:IntKind.i64.wrap (((([]++[DV.agg [.int .i64 c.time,.aF]]).length:Nat):Int)-1)=((0:Nat):Int):=by rw[hN,wrap64 oM oM];omega
   have cZ:([]++[DV.agg [.int .i64 c.time,.aF]])[0]?=some (DV.agg [.int .i64 c.time,.aF]):=by simp
   refine bj ⟨by rw[dL];omega,by rw[dL,hN];omega⟩ ?_;refine gC ?_;refine I.Ad wV 11 2 rfl (by kernel_rfl) (by kernel_rfl) rfl rfl rfl (by kernel_rfl) (by simp only[ahN,aiR];omega) (85,3) ([(⟨c.host,c.ar⟩:aH).enc]) ((([]:List GD)).reverse.map fun d => .row d.row) ?_;refine cw.o ag ?_;(iterate 3 refine fO ?_);(conv=>whnf);refine cw.op rfl (.d .aF) (lk ag (by(conv=>whnf);refine aR (e:=DV.agg [.int .i64 c.time,.aF]) ⟨by omega,by first|exact cZ|(rw[dL];exact cZ)⟩ rfl ⟨rfl,rfl⟩)) (lk ag (by(conv=>whnf);refine aR (e:=DV.agg [.int .i64 c.time,.aF]) ⟨by omega,by first|exact cZ|(rw[dL];exact cZ)⟩ rfl ⟨rfl,rfl⟩)) ?_;(iterate 6 refine fO ?_);(conv=>whnf);refine cw.nil (And.intro ?_ ?_)
   ·intro c0 cx a q0 q1 q2 q3 q4 q5;refine FR q1 q3 q4 q5 q2 (Ae ag ?_) sP (by rw[q0];exact ai4 _);(conv=>whnf);refine bj ⟨by simp,by simp[DV.cells]⟩ ?_;(conv=>whnf);exact⟨rfl,rfl⟩
   refine cw.from ?_;(iterate 2 refine fO ?_);(conv=>whnf);refine cw.nil fun blk cap=>?_;refine I.last ?_;(conv=>whnf);refine ov.of ag rfl ?_;(conv=>whnf);refine aR (e:=DV.agg [.int .i64 c.time,.aF]) ⟨by omega,by rw[dL];exact cZ⟩ rfl ?_;(conv=>whnf);refine⟨rfl, ?_⟩;(conv=>whnf);refine gC ?_;refine vF ?_;refine aP (by simp<;>omega) ?_;refine gC ?_;have eH:∀ y:DV,(([]++[DV.agg [.int .i64 c.time,.aF]]).set (0) y)[0]?=some y:=fun y=>ahQ (aW cZ);refine aR (e:=DV.agg [.int .i64 c.time,.raw (.slice (some ⟨blk,0,none⟩) ([(⟨c.host,c.ar⟩:aH).enc]).length cap)]) ⟨by omega,by rw[dL];exact eH _⟩ rfl ?_;refine gC ?_;refine I.Lp (show jm _ _ _ true from yy (j:=6) (b:=false) (g:=false) rfl rfl rfl rfl) (Lo ag rfl rfl rfl rfl (bg rfl)) ?_;(conv=>whnf);refine gC ?_;(conv=>whnf);repeat ((fail_if_success (first|(refine I.nQ ag F22.h rfl rfl rfl (L:=[]) rfl ?_)|fail));(refine I.run ag F22.h 1 ?_);(conv=>whnf))
   refine I.nQ ag F22.h rfl rfl rfl (L:=[]) rfl ?_;(conv=>whnf);refine fW ?_
   refine gC ?_;refine I.qD (rows:=((([]:List GD))++[(⟨c.time,[(⟨c.host,c.ar⟩:aH)],blk,cap⟩:GD)]).reverse.map fun d:GD=>br.row d.row) (List.Perm.of_eq (by simp[GD.row])) ?_;refine I.back (IH (k+1,(([]:List GD))++[(⟨c.time,[(⟨c.host,c.ar⟩:aH)],blk,cap⟩:GD)]) ⟨ai,by simp only;rw[cj hc,ya,<- eO];rw[F1 (fun g hg=>by simp at hg)];simp[GD.kG]⟩ (by simp only;omega)) ?_;(conv=>whnf);repeat (first|exact trivial|(rw[dW];conv=>whnf)|(refine sI ?_;conv=>whnf))
   refine And.intro (congrArg DV.bool (decide_eq_false (by simp<;>omega))) ?_;(conv=>whnf);repeat (first|exact trivial|(rw[dW];conv=>whnf)|(refine sI ?_;conv=>whnf))
   refine And.intro (by rw[dL];simp[GD.bM,GD.slice]) ?_;(conv=>whnf);repeat (first|exact trivial|(rw[dW];conv=>whnf)|(refine sI ?_;conv=>whnf))
  ·simp only[alQ]at eO IH ik fF ⊢;have jU:=fF d sP;have af0:bX.length+1<=k:=zD ik
   have af1:((bX++[d]).map GD.bM)[bX.length]?=some d.bM:=by simp
   have hlen:(((bX++[d]).map GD.bM).length:Int)=bX.length+1:=by simp
   have hw:IntKind.i64.wrap (((((bX++[d]).map GD.bM).length:Nat):Int)-1)=(bX.length:Int):=by rw[hlen,wrap64 oM oM];omega
   refine dU ?_;refine aP (by rw[hlen];simp;omega) ?_;refine gD ?_;refine bj ⟨by rw[hw];omega,by rw[hw,hlen];omega⟩ ?_;refine gD ?_;refine aR (e:=d.bM) ⟨by omega,by rw[hw];exact af1⟩ rfl ?_;refine gD ?_;refine gC ?_;by_cases ht:d.t=c.time
   ·refine aP (zD ht) (gC ?_);have hN:((((bX++[d]).map GD.bM).length:Nat):Int)=((bX.length:Nat):Int)+1:=by simp<;>omega
    have dL:IntKind.i64.wrap (((((bX++[d]).map GD.bM).length:Nat):Int)-1)=((bX.length:Nat):Int):=by rw[hN,wrap64 oM oM];omega
    have cZ:((bX++[d]).map GD.bM)[bX.length]?=some (d.bM):=by simp
    refine bj ⟨by rw[dL];omega,by rw[dL,hN];omega⟩ ?_;refine gC ?_;refine I.qD (rows := .row d.row::bX.reverse.map fun d => .row d.row) (List.Perm.of_eq (by show List.map _ (anT (bX++[d]))=_;simp)) ?_;refine I.Ad wV 11 2 rfl (by kernel_rfl) (by kernel_rfl) rfl rfl rfl (by kernel_rfl) (by simp only[ahN,aiR];omega) (85,3) (d.ps.map aH.enc++[(⟨c.host,c.ar⟩:aH).enc]) (bX.reverse.map fun d => .row d.row) ?_;refine cw.o ag ?_;(iterate 3 refine fO ?_);(conv=>whnf);refine cw.op rfl (.d (.raw d.slice)) (lk ag (by(conv=>whnf);refine aR (e:=d.bM) ⟨by omega,by first|exact cZ|(rw[dL];exact cZ)⟩ rfl ⟨rfl,rfl⟩)) (lk ag (by(conv=>whnf);refine aR (e:=d.bM) ⟨by omega,by first|exact cZ|(rw[dL];exact cZ)⟩ rfl ⟨rfl,rfl⟩)) ?_;(iterate 6 refine fO ?_);(conv=>whnf);refine cw.nil (And.intro ?_ ?_)
    ·intro c0 cx a q0 q1 q2 q3 q4 q5;refine Tk (bG:=d.row) q1 q3 q4 q5 q2 (d:=37) (by simp only[GD.row,aiO];rfl) (Ae ag ?_) sP (by rw[q0];exact ai4 _);(conv=>whnf);refine bj ⟨by simp[GD.row];omega,by simp[DV.cells]⟩ ?_;(conv=>whnf);exact⟨rfl,rfl⟩
    refine cw.from ?_;(iterate 2 refine fO ?_);(conv=>whnf);refine cw.nil fun blk cap=>?_;refine I.last ?_;(conv=>whnf);refine ov.of ag rfl ?_;(conv=>whnf);refine aR (e:=d.bM) ⟨by omega,by rw[dL];exact cZ⟩ rfl ?_;(conv=>whnf);refine⟨rfl, ?_⟩;(conv=>whnf);refine gC ?_;refine vF ?_;refine aP (by simp<;>omega) ?_;refine gC ?_;have eH:∀ y:DV,(((bX++[d]).map GD.bM).set (bX.length) y)[bX.length]?=some y:=fun y=>ahQ (aW cZ);refine aR (e:=DV.agg [.int .i64 d.t,.raw (.slice (some ⟨blk,0,none⟩) (d.ps.map aH.enc++[(⟨c.host,c.ar⟩:aH).enc]).length cap)]) ⟨by omega,by rw[dL];exact eH _⟩ rfl ?_;refine gC ?_;refine I.Lp (show jm _ _ _ true from yy (j:=6) (b:=false) (g:=false) rfl rfl rfl rfl) (Lo ag rfl rfl rfl rfl (bg rfl)) ?_;(conv=>whnf);refine gC ?_;(conv=>whnf);repeat ((fail_if_success (first|(refine I.nQ ag F22.h rfl rfl rfl (L:=[]) rfl ?_)|fail));(refine I.run ag F22.h 1 ?_);(conv=>whnf))
    refine I.nQ ag F22.h rfl rfl rfl (L:=[]) rfl ?_;(conv=>whnf);refine fW ?_
    refine gC ?_;refine I.qD (rows:=(bX++[(⟨d.t,d.ps++[(⟨c.host,c.ar⟩:aH)],blk,cap⟩:GD)]).reverse.map fun d:GD=>br.row d.row) (List.Perm.of_eq (by simp[GD.row])) ?_;refine I.back (IH (k+1,bX++[(⟨d.t,d.ps++[(⟨c.host,c.ar⟩:aH)],blk,cap⟩:GD)]) ⟨ai,by simp only;rw[cj hc,ya,<- eO];rw[show(bX++[d]).map GD.kG=bX.map GD.kG++[d.kG] by simp,TD (show d.kG.1=c.time from ht)];simp[GD.kG]⟩ (by simp only;omega)) ?_;(conv=>whnf);repeat (first|exact trivial|(rw[dW];conv=>whnf)|(refine sI ?_;conv=>whnf))
    refine And.intro (congrArg DV.bool (decide_eq_false (by simp<;>omega))) ?_;(conv=>whnf);repeat (first|exact trivial|(rw[dW];conv=>whnf)|(refine sI ?_;conv=>whnf))
    refine And.intro (by rw[dL];simp[GD.bM,GD.slice]) ?_;(conv=>whnf);repeat (first|exact trivial|(rw[dW];conv=>whnf)|(refine sI ?_;conv=>whnf))
   refine aN (zD ht) (gC ?_);refine nA (gC ?_);have hN:((((bX++[d]).map GD.bM++[DV.agg [.int .i64 c.time,.aF]]).length:Nat):Int)=((bX.length+1:Nat):Int)+1:=by simp<;>omega
   have dL:IntKind.i64.wrap (((((bX++[d]).map GD.bM++[DV.agg [.int .i64 c.time,.aF]]).length:Nat):Int)-1)=((bX.length+1:Nat):Int):=by rw[hN,wrap64 oM oM];omega
   have cZ:((bX++[d]).map GD.bM++[DV.agg [.int .i64 c.time,.aF]])[bX.length+1]?=some (DV.agg [.int .i64 c.time,.aF]):=by simp
   refine bj ⟨by rw[dL];omega,by rw[dL,hN];omega⟩ ?_;refine gC ?_;refine I.Ad wV 11 2 rfl (by kernel_rfl) (by kernel_rfl) rfl rfl rfl (by kernel_rfl) (by simp only[ahN,aiR];omega) (85,3) ([(⟨c.host,c.ar⟩:aH).enc]) ((bX++[d]).reverse.map fun d => .row d.row) ?_;refine cw.o ag ?_;(iterate 3 refine fO ?_);(conv=>whnf);refine cw.op rfl (.d .aF) (lk ag (by(conv=>whnf);refine aR (e:=DV.agg [.int .i64 c.time,.aF]) ⟨by omega,by first|exact cZ|(rw[dL];exact cZ)⟩ rfl ⟨rfl,rfl⟩)) (lk ag (by(conv=>whnf);refine aR (e:=DV.agg [.int .i64 c.time,.aF]) ⟨by omega,by first|exact cZ|(rw[dL];exact cZ)⟩ rfl ⟨rfl,rfl⟩)) ?_;(iterate 6 refine fO ?_);(conv=>whnf);refine cw.nil (And.intro ?_ ?_)
   ·intro c0 cx a q0 q1 q2 q3 q4 q5;refine FR q1 q3 q4 q5 q2 (Ae ag ?_) sP (by rw[q0];exact ai4 _);(conv=>whnf);refine bj ⟨by simp,by simp[DV.cells]⟩ ?_;(conv=>whnf);exact⟨rfl,rfl⟩
   refine cw.from ?_;(iterate 2 refine fO ?_);(conv=>whnf);refine cw.nil fun blk cap=>?_;refine I.last ?_;(conv=>whnf);refine ov.of ag rfl ?_;(conv=>whnf);refine aR (e:=DV.agg [.int .i64 c.time,.aF]) ⟨by omega,by rw[dL];exact cZ⟩ rfl ?_;(conv=>whnf);refine⟨rfl, ?_⟩;(conv=>whnf);refine gC ?_;refine vF ?_;refine aP (by simp<;>omega) ?_;refine gC ?_;have eH:∀ y:DV,(((bX++[d]).map GD.bM++[DV.agg [.int .i64 c.time,.aF]]).set (bX.length+1) y)[bX.length+1]?=some y:=fun y=>ahQ (aW cZ);refine aR (e:=DV.agg [.int .i64 c.time,.raw (.slice (some ⟨blk,0,none⟩) ([(⟨c.host,c.ar⟩:aH).enc]).length cap)]) ⟨by omega,by rw[dL];exact eH _⟩ rfl ?_;refine gC ?_;refine I.Lp (show jm _ _ _ true from yy (j:=6) (b:=false) (g:=false) rfl rfl rfl rfl) (Lo ag rfl rfl rfl rfl (bg rfl)) ?_;(conv=>whnf);refine gC ?_;(conv=>whnf);repeat ((fail_if_success (first|(refine I.nQ ag F22.h rfl rfl rfl (L:=[]) rfl ?_)|fail));(refine I.run ag F22.h 1 ?_);(conv=>whnf))
   refine I.nQ ag F22.h rfl rfl rfl (L:=[]) rfl ?_;(conv=>whnf);refine fW ?_
   refine gC ?_;refine I.qD (rows:=((bX++[d])++[(⟨c.time,[(⟨c.host,c.ar⟩:aH)],blk,cap⟩:GD)]).reverse.map fun d:GD=>br.row d.row) (List.Perm.of_eq (by simp[GD.row])) ?_;refine I.back (IH (k+1,(bX++[d])++[(⟨c.time,[(⟨c.host,c.ar⟩:aH)],blk,cap⟩:GD)]) ⟨ai,by simp only;rw[cj hc,ya,<- eO];rw[F1 (fun g hg=>by rw[List.map_append,List.map_singleton,List.getLast?_concat]at hg;cases hg;exact ht)];simp[GD.kG]⟩ (by simp only;omega)) ?_;(conv=>whnf);repeat (first|exact trivial|(rw[dW];conv=>whnf)|(refine sI ?_;conv=>whnf))
   refine And.intro (congrArg DV.bool (decide_eq_false (by simp<;>omega))) ?_;(conv=>whnf);repeat (first|exact trivial|(rw[dW];conv=>whnf)|(refine sI ?_;conv=>whnf))
   refine And.intro (by rw[dL];simp[GD.bM,GD.slice]) ?_;(conv=>whnf);repeat (first|exact trivial|(rw[dW];conv=>whnf)|(refine sI ?_;conv=>whnf))
 ·have aA:cl.length<=k:=zD h5
  rw[ajq aA]at eO;have bc:(ds.map fun d=>Step.enc ⟨d.t,⟨d.ps⟩⟩)=(eR cl).map Step.enc:=by rw[eR,<- eO,ajR,ajR];rfl
  refine I.Ts (b:=4) (g:=1) (ts:=(82,2)) (l:=ds.map GD.bM) (l':=ds.map fun d=>Step.enc ⟨d.t,⟨d.ps⟩⟩) (ds.reverse.map GD.row) (by simp[Function.comp_def]) rfl (ai4 _) sP (fun i e e' he jR=>?_) ?_
  ·rw[ahy]at he jR;cases hq:ds[i]? with
   |none=>rw[hq]at he;cases he
   |some d =>
    rw[hq]at he jR;cases he;cases jR;refine⟨rfl,fun j x x' hx dY=>?_⟩
    match j,hx,dY with
    |0,hx,dY=>cases hx;cases dY;exact .inl rfl
    |1,hx,dY =>
     cases hx;cases dY;exact .inr ⟨d.row,ahY.2 ⟨d,anU.2 (aiQ hq),rfl⟩,by simp[GD.slice,GD.row],rfl⟩
  (conv=>whnf);rw[bc];refine I.freeze 4 ?_;(conv=>whnf);rw[<- hQ];refine gC ?_;refine vF ?_
  with_reducible refine ao (c2) ?_
  refine gC ?_
  with_reducible rfl
theorem ov.op{ops:Array Oper}{s:List AV}{h:List ae}(hE:E.OK){o:Oper}{K:List ae->Prop}(hg:o.guard=none)(H:kJ E.T E.G o.op (dz (ey ops o) 0 s) h False fun u hh=>u=.d .undef/\K hh):ov E ops o s h K:=by
 unfold ov;rcases Ax hE H with h|⟨u,hh,⟨rfl,hK⟩,h⟩
 ·exact h.elim
 ·exact⟨hh,eL.to hg h,hK⟩
theorem af2(gs:List (Int × List aH))(c:Claim):∃ ps,(l5 gs c).getLast?=some (c.time,ps):=by
 unfold l5;split
 ·exact⟨_,by simp;rfl⟩
 ·rename_i g hg;split
  ·rename_i e;exact⟨_,by simp[e];rfl⟩
  ·exact⟨_,by simp;rfl⟩
theorem af3(cl:List Claim)(hn:cl.length<=400):aq E 24 [.sl (cl.map Claim.enc)] (· = .sl ((eR cl).map Step.enc)):=by
 refine eP F24.h ?_;refine I.nH 3 (82,2) dC rfl ?_;refine I.BM (κ:=Nat × List GD) [3,4,5,6,7,8,9,10,11,12,13,14,15,16,17,18,19,20,21,22,23,24,25,26,27,28,29,30,31,32,33,34,35,36,37,38,39,40,41,42,43,44,45,46,47,48,49,50,51,52,53,54,55,56,57,58,59,60,61,62,63,64,65,66] (fun x=>[(4,.d (.int .i64 x.1)),(3,.own 0 1)]) (fun x=>[(0,.arr 1 (82,2) (x.2.map GD.bM))]) (fun x=>x.2.reverse.map fun d => .row d.row) (fun x=>x.1<=cl.length/\x.2.map GD.kG=uk (cl.take x.1)) (fun x=>cl.length-x.1) (0,[]) ⟨ai4 _,rfl⟩ rfl ?_ ?_
 ·(conv=>whnf);repeat (first|exact trivial|(rw[dW];conv=>whnf)|(refine sI ?_;conv=>whnf))
  refine⟨rfl, ?_⟩;(conv=>whnf);repeat (first|exact trivial|(rw[dW];conv=>whnf)|(refine sI ?_;conv=>whnf))
 generalize hQ:(uA fun x:DV=>_)=Q;rintro⟨k,ds⟩ ⟨hk,eO⟩ IH;simp only at hk eO;refine zA ?_ ?_<;>intro h5
 ·have ai:k<cl.length:=zD h5
  obtain⟨c,hc⟩:=aI ai;have rS:=Lu (cl.take k);rw[<- eO]at rS;have hk4:(cl.take k).length<=400:=by rw[ah1];omega
  have Lv:(cl.take k).length<=k:=by rw[ah1];omega
  have ik:ds.length<=k:=by have:=rS.1;rw[aiO]at this;omega
  have fF:∀ d∈ds,d.ps.length<=k:=fun d hd=>by have:=rS.2 d.kG (ahY.2 ⟨d,hd,rfl⟩);exact aic this Lv
  refine gC ?_;by_cases cb:k=0
  ·subst cb;obtain rfl:ds=[]:=List.eq_nil_of_length_eq_zero oM;refine dU ?_;refine aZ (gD ?_);refine gC ?_;refine vT ?_;refine eM hc (gC ?_);refine bj ⟨by simp,by simp[DV.cells]⟩ (gC ?_);have hN:(((([]:List GD).map GD.bM++[DV.agg [.int .i64 c.time,.aF]]).length:Nat):Int)=((0:Nat):Int)+1:=by simp<;>omega
   have dL:IntKind.i64.wrap ((((([]:List GD).map GD.bM++[DV.agg [.int .i64 c.time,.aF]]).length:Nat):Int)-1)=((0:Nat):Int):=by rw[hN,wrap64 oM oM];omega
   have cZ:(([]:List GD).map GD.bM++[DV.agg [.int .i64 c.time,.aF]])[0]?=some (DV.agg [.int .i64 c.time,.aF]):=by simp
   have n1:0<=IntKind.i64.wrap ((((([]:List GD).map GD.bM++[DV.agg [.int .i64 c.time,.aF]]).length:Nat):Int)-1):=by rw[dL];omega
   have n2:IntKind.i64.wrap ((((([]:List GD).map GD.bM++[DV.agg [.int .i64 c.time,.aF]]).length:Nat):Int)-1)<(((([]:List GD).map GD.bM++[DV.agg [.int .i64 c.time,.aF]]).length:Nat):Int):=by rw[dL,hN];omega
   have n3:(([]:List GD).map GD.bM++[DV.agg [.int .i64 c.time,.aF]])[(((IntKind.i64.wrap ((((([]:List GD).map GD.bM++[DV.agg [.int .i64 c.time,.aF]]).length:Nat):Int)-1)).toNat:Nat):Int).toNat]?=some (DV.agg [.int .i64 c.time,.aF]):=by rw[dL];exact cZ
   refine bj ⟨n1,n2⟩ (gC ?_);refine aR (e:=DV.agg [.int .i64 c.time,.aF]) ⟨by omega,n3⟩ rfl (gC ?_);refine I.Ad wV 14 1 rfl (by kernel_rfl) (by kernel_rfl) rfl rfl rfl (by kernel_rfl) (by simp only[ahN,aiR];omega) (85,3) ([(⟨c.host,c.ar⟩:aH).enc]) (([]:List GD).reverse.map fun d => .row d.row) ?_;refine cw.o ag ?_;(iterate 3 refine fO ?_);(conv=>whnf);refine cw.op rfl _ (lk ag (by(conv=>whnf);refine aR (e:=c.enc) (bC hc) rfl ⟨rfl,rfl⟩)) (lk ag (by(conv=>whnf);refine aR (e:=c.enc) (bC hc) rfl ⟨rfl,rfl⟩)) ?_;(iterate 4 refine fO ?_);(conv=>whnf);refine cw.op rfl _ (lk ag (by(conv=>whnf);refine aR (e:=c.enc) (bC hc) rfl ⟨rfl,rfl⟩)) (lk ag (by(conv=>whnf);refine aR (e:=c.enc) (bC hc) rfl ⟨rfl,rfl⟩)) ?_;(iterate 4 refine fO ?_);(conv=>whnf);refine cw.nil (And.intro ?_ ?_)
   ·intro c0 cx a q0 q1 q2 q3 q4 q5;refine FR q1 q3 q4 q5 q2 (Ae ag ?_) sP (by rw[q0];exact ai4 _);(conv=>whnf);refine bj ⟨by simp,by simp[DV.cells]⟩ ?_;(conv=>whnf);exact⟨rfl,rfl⟩
   refine cw.from ?_;(conv=>whnf);refine cw.o ag ?_;(conv=>whnf);refine cw.nil fun blk cap=>?_;refine I.last ?_;(conv=>whnf);refine ov.op ag rfl ?_;(conv=>whnf);refine⟨rfl, ?_⟩;(conv=>whnf);refine gC ?_;refine bj ⟨n1,n2⟩ (gC ?_);refine aR (e:=DV.agg [.int .i64 c.time,.aF]) ⟨by omega,n3⟩ rfl (gC ?_);refine I.qD (rows:=(([]:List GD)++[(⟨c.time,[(⟨c.host,c.ar⟩:aH)],blk,cap⟩:GD)]).reverse.map fun d:GD=>br.row d.row) (List.Perm.of_eq (by simp[GD.row])) ?_;refine I.back (IH (0+1,([]:List GD)++[(⟨c.time,[(⟨c.host,c.ar⟩:aH)],blk,cap⟩:GD)]) ⟨ai,by simp only;rw[cj hc,ya,<- eO];rw[F1 (fun g hg=>by simp at hg)];simp[GD.kG]⟩ (by simp only;omega)) ?_;(conv=>whnf);repeat (first|exact trivial|(rw[dW];conv=>whnf)|(refine sI ?_;conv=>whnf))
   refine And.intro (by rw[dL];simp[GD.bM,GD.slice]) ?_;(conv=>whnf);repeat (first|exact trivial|(rw[dW];conv=>whnf)|(refine sI ?_;conv=>whnf))
  ·have hkm:k-1+1=k:=by omega
   obtain⟨q,hq⟩:=aI (l:=cl) (k:=k-1) oM;obtain⟨ps0,gu⟩:=af2 (uk (cl.take (k-1))) q;rw[<- ya,<- cj hq,hkm,<- eO]at gu;rcases alP ds with rfl|⟨bX,d,rfl⟩
   ·simp at gu
   simp only[alQ]at eO IH ik fF gu ⊢;have TE:d.t=q.time:=by simp[GD.kG]at gu;exact gu.1
   have jU:=fF d sP;have af0:bX.length+1<=k:=zD ik
   refine dU ?_;refine aP (by simp;omega) ?_;refine gD ?_;refine eM hc (gD ?_);refine aR (e:=q.enc) (nP hq oM oM) rfl (gD ?_);refine gC ?_;by_cases ht:c.time=q.time
   ·refine aP (zD ht) (gC ?_);have hN:((((bX++[d]).map GD.bM).length:Nat):Int)=((bX.length:Nat):Int)+1:=by simp<;>omega
    have dL:IntKind.i64.wrap (((((bX++[d]).map GD.bM).length:Nat):Int)-1)=((bX.length:Nat):Int):=by rw[hN,wrap64 oM oM];omega
    have cZ:((bX++[d]).map GD.bM)[bX.length]?=some (d.bM):=by simp
    have n1:0<=IntKind.i64.wrap (((((bX++[d]).map GD.bM).length:Nat):Int)-1):=by rw[dL];omega
    have n2:IntKind.i64.wrap (((((bX++[d]).map GD.bM).length:Nat):Int)-1)<((((bX++[d]).map GD.bM).length:Nat):Int):=by rw[dL,hN];omega
    have n3:((bX++[d]).map GD.bM)[(((IntKind.i64.wrap (((((bX++[d]).map GD.bM).length:Nat):Int)-1)).toNat:Nat):Int).toNat]?=some (d.bM):=by rw[dL];exact cZ
    refine bj ⟨n1,n2⟩ (gC ?_);refine aR (e:=d.bM) ⟨by omega,n3⟩ rfl (gC ?_);refine I.qD (rows := .row d.row::bX.reverse.map fun d => .row d.row) (List.Perm.of_eq (by show List.map _ (anT (bX++[d]))=_;simp)) ?_;refine I.Ad wV 14 1 rfl (by kernel_rfl) (by kernel_rfl) rfl rfl rfl (by kernel_rfl) (by simp only[ahN,aiR];omega) (85,3) (d.ps.map aH.enc++[(⟨c.host,c.ar⟩:aH).enc]) (bX.reverse.map fun d => .row d.row) ?_;refine cw.o ag ?_;(iterate 3 refine fO ?_);(conv=>whnf);refine cw.op rfl _ (lk ag (by(conv=>whnf);refine aR (e:=c.enc) (bC hc) rfl ⟨rfl,rfl⟩)) (lk ag (by(conv=>whnf);refine aR (e:=c.enc) (bC hc) rfl ⟨rfl,rfl⟩)) ?_;(iterate 4 refine fO ?_);(conv=>whnf);refine cw.op rfl _ (lk ag (by(conv=>whnf);refine aR (e:=c.enc) (bC hc) rfl ⟨rfl,rfl⟩)) (lk ag (by(conv=>whnf);refine aR (e:=c.enc) (bC hc) rfl ⟨rfl,rfl⟩)) ?_;(iterate 4 refine fO ?_);(conv=>whnf);refine cw.nil (And.intro ?_ ?_)
    ·intro c0 cx a q0 q1 q2 q3 q4 q5;refine Tk (bG:=d.row) q1 q3 q4 q5 q2 (d:=45) (by simp only[GD.row,aiO];rfl) (Ae ag ?_) sP (by rw[q0];exact ai4 _);(conv=>whnf);refine bj ⟨by simp[GD.row];omega,by simp[DV.cells]⟩ ?_;(conv=>whnf);exact⟨rfl,rfl⟩
    refine cw.from ?_;(conv=>whnf);refine cw.o ag ?_;(conv=>whnf);refine cw.nil fun blk cap=>?_;refine I.last ?_;(conv=>whnf);refine ov.op ag rfl ?_;(conv=>whnf);refine⟨rfl, ?_⟩;(conv=>whnf);refine gC ?_;refine bj ⟨n1,n2⟩ (gC ?_);refine aR (e:=d.bM) ⟨by omega,n3⟩ rfl (gC ?_);refine I.qD (rows:=(bX++[(⟨d.t,d.ps++[(⟨c.host,c.ar⟩:aH)],blk,cap⟩:GD)]).reverse.map fun d:GD=>br.row d.row) (List.Perm.of_eq (by simp[GD.row])) ?_;refine I.back (IH (k+1,bX++[(⟨d.t,d.ps++[(⟨c.host,c.ar⟩:aH)],blk,cap⟩:GD)]) ⟨ai,by simp only;rw[cj hc,ya,<- eO];rw[show(bX++[d]).map GD.kG=bX.map GD.kG++[d.kG] by simp,TD (show d.kG.1=c.time from TE.trans ht.symm)];simp[GD.kG]⟩ (by simp only;omega)) ?_;(conv=>whnf);repeat (first|exact trivial|(rw[dW];conv=>whnf)|(refine sI ?_;conv=>whnf))
    refine And.intro (by rw[dL];simp[GD.bM,GD.slice]) ?_;(conv=>whnf);repeat (first|exact trivial|(rw[dW];conv=>whnf)|(refine sI ?_;conv=>whnf))
   refine aN (zD ht) (gC ?_);refine eM hc (gC ?_);refine nA (gC ?_);have hN:((((bX++[d]).map GD.bM++[DV.agg [.int .i64 c.time,.aF]]).length:Nat):Int)=((bX.length+1:Nat):Int)+1:=by simp<;>omega
   have dL:IntKind.i64.wrap (((((bX++[d]).map GD.bM++[DV.agg [.int .i64 c.time,.aF]]).length:Nat):Int)-1)=((bX.length+1:Nat):Int):=by rw[hN,wrap64 oM oM];omega
   have cZ:((bX++[d]).map GD.bM++[DV.agg [.int .i64 c.time,.aF]])[bX.length+1]?=some (DV.agg [.int .i64 c.time,.aF]):=by simp
   have n1:0<=IntKind.i64.wrap (((((bX++[d]).map GD.bM++[DV.agg [.int .i64 c.time,.aF]]).length:Nat):Int)-1):=by rw[dL];omega
   have n2:IntKind.i64.wrap (((((bX++[d]).map GD.bM++[DV.agg [.int .i64 c.time,.aF]]).length:Nat):Int)-1)<((((bX++[d]).map GD.bM++[DV.agg [.int .i64 c.time,.aF]]).length:Nat):Int):=by rw[dL,hN];omega
   have n3:((bX++[d]).map GD.bM++[DV.agg [.int .i64 c.time,.aF]])[(((IntKind.i64.wrap (((((bX++[d]).map GD.bM++[DV.agg [.int .i64 c.time,.aF]]).length:Nat):Int)-1)).toNat:Nat):Int).toNat]?=some (DV.agg [.int .i64 c.time,.aF]):=by rw[dL];exact cZ
   refine bj ⟨n1,n2⟩ (gC ?_);refine aR (e:=DV.agg [.int .i64 c.time,.aF]) ⟨by omega,n3⟩ rfl (gC ?_);refine I.Ad wV 14 1 rfl (by kernel_rfl) (by kernel_rfl) rfl rfl rfl (by kernel_rfl) (by simp only[ahN,aiR];omega) (85,3) ([(⟨c.host,c.ar⟩:aH).enc]) ((bX++[d]).reverse.map fun d => .row d.row) ?_;refine cw.o ag ?_;(iterate 3 refine fO ?_);(conv=>whnf);refine cw.op rfl _ (lk ag (by(conv=>whnf);refine aR (e:=c.enc) (bC hc) rfl ⟨rfl,rfl⟩)) (lk ag (by(conv=>whnf);refine aR (e:=c.enc) (bC hc) rfl ⟨rfl,rfl⟩)) ?_;(iterate 4 refine fO ?_);(conv=>whnf);refine cw.op rfl _ (lk ag (by(conv=>whnf);refine aR (e:=c.enc) (bC hc) rfl ⟨rfl,rfl⟩)) (lk ag (by(conv=>whnf);refine aR (e:=c.enc) (bC hc) rfl ⟨rfl,rfl⟩)) ?_;(iterate 4 refine fO ?_);(conv=>whnf);refine cw.nil (And.intro ?_ ?_)
   ·intro c0 cx a q0 q1 q2 q3 q4 q5;refine FR q1 q3 q4 q5 q2 (Ae ag ?_) sP (by rw[q0];exact ai4 _);(conv=>whnf);refine bj ⟨by simp,by simp[DV.cells]⟩ ?_;(conv=>whnf);exact⟨rfl,rfl⟩
   refine cw.from ?_;(conv=>whnf);refine cw.o ag ?_;(conv=>whnf);refine cw.nil fun blk cap=>?_;refine I.last ?_;(conv=>whnf);refine ov.op ag rfl ?_;(conv=>whnf);refine⟨rfl, ?_⟩;(conv=>whnf);refine gC ?_;refine bj ⟨n1,n2⟩ (gC ?_);refine aR (e:=DV.agg [.int .i64 c.time,.aF]) ⟨by omega,n3⟩ rfl (gC ?_);refine I.qD (rows:=((bX++[d])++[(⟨c.time,[(⟨c.host,c.ar⟩:aH)],blk,cap⟩:GD)]).reverse.map fun d:GD=>br.row d.row) (List.Perm.of_eq (by simp[GD.row])) ?_;refine I.back (IH (k+1,(bX++[d])++[(⟨c.time,[(⟨c.host,c.ar⟩:aH)],blk,cap⟩:GD)]) ⟨ai,by simp only;rw[cj hc,ya,<- eO];rw[F1 (fun g hg=>by simp at hg;subst hg;exact fun e=>ht (e.symm.trans TE))];simp[GD.kG]⟩ (by simp only;omega)) ?_;(conv=>whnf);repeat (first|exact trivial|(rw[dW];conv=>whnf)|(refine sI ?_;conv=>whnf))
   refine And.intro (by rw[dL];simp[GD.bM,GD.slice]) ?_;(conv=>whnf);repeat (first|exact trivial|(rw[dW];conv=>whnf)|(refine sI ?_;conv=>whnf))
 ·have aA:cl.length<=k:=zD h5
  rw[ajq aA]at eO;have bc:(ds.map fun d=>Step.enc ⟨d.t,⟨d.ps⟩⟩)=(eR cl).map Step.enc:=by rw[eR,<- eO,ajR,ajR];rfl
  refine I.Ts (b:=0) (g:=1) (ts:=(82,2)) (l:=ds.map GD.bM) (l':=ds.map fun d=>Step.enc ⟨d.t,⟨d.ps⟩⟩) (ds.reverse.map GD.row) (by simp[Function.comp_def]) rfl (ai4 _) sP (fun i e e' he jR=>?_) ?_
  ·rw[ahy]at he jR;cases hq:ds[i]? with
   |none=>rw[hq]at he;cases he
   |some d =>
    rw[hq]at he jR;cases he;cases jR;refine⟨rfl,fun j x x' hx dY=>?_⟩
    match j,hx,dY with
    |0,hx,dY=>cases hx;cases dY;exact .inl rfl
    |1,hx,dY =>
     cases hx;cases dY;exact .inr ⟨d.row,ahY.2 ⟨d,anU.2 (aiQ hq),rfl⟩,by simp[GD.slice,GD.row],rfl⟩
  (conv=>whnf);rw[bc];rw[<- hQ];refine gC ?_
  with_reducible rfl
end Go.Proofs.YtlhehdgciafakaaGreatDoor.P
end
section
namespace Go.Proofs.YtlhehdgciafakaaGreatDoor.P
open Go Go.az
theorem af5{h:bB}{l:List Step}(h0:applyN h l=0):gp h l={ h with aw:=dV h.fin h.aw l }:=by rw[gp,if_pos h0]
end Go.Proofs.YtlhehdgciafakaaGreatDoor.P
end
