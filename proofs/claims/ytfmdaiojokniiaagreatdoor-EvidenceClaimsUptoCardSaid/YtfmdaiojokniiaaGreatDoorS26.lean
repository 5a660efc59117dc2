/- Lemmas of mine. Conditions: as stated. -/
import Derived.Test.YtfmdaiojokniiaaGreatDoorS24
import Derived.Test.YtfmdaiojokniiaaGreatDoorS25
set_option linter.unusedVariables false
set_option linter.unusedSimpArgs false
open Bool renaming and_eq_true->aft
open List renaming mem_map->aer,filter_cons->ajX,mem_flatMap->afd,pairwise_map->ahD
section
namespace Go.Proofs.YtfmdaiojokniiaaGreatDoor.P
open Go Go.aA
set_option maxRecDepth 100000
set_option maxHeartbeats 4000000
def oN(kind:Int)(d:Datum):Signed:=⟨⟨[120],kind,9,[d]⟩,[]⟩
def gY(n:Int):bc:=⟨[120],[oN 2 ⟨[98],0,0⟩,oN 4 ⟨[],n,0⟩]⟩
def dj:bO:=⟨[⟨[97],1,0⟩,⟨[98],2,0⟩],[⟨1,0,100,gY 1⟩],⟨[46],6,0,[⟨[],1,1⟩]⟩,[1],2,100⟩
def fR:eH:=⟨dj,[⟨10,⟨[⟨1,gY 2⟩]⟩⟩],[⟨1,10,gY 2⟩],[]⟩
def yv:dZ:=⟨1,[oN 4 ⟨[],1,0⟩],[]⟩
theorem P1(kind:Int)(d:Datum):ar E 92 [.int .i64 kind,d.enc] (· = (oN kind d).enc):=by
 obtain⟨x,y,z⟩:=d;refine ar.norm ?_;show ar E _ [.int .i64 kind,DV.agg [.str x,.int .i64 y,.int .i64 z]] _;refine eP Tryz.func92 ?_;rfl
theorem abK(n:Int):ar E 91 [.int .i64 n] (· = (gY n).enc):=by
 have c1:=P1 2 ⟨[98],0,0⟩;have c2:=P1 4 ⟨[],n,0⟩;refine eP Tryz.func91 ?_;refine aq (c1) ?_;refine gO Tryz.func91 ?_;refine aq (c2) ?_;refine gO Tryz.func91 ?_;rfl
def yw(h:bO):List AV:=[.d (.sl (h.ay.map Host.enc)),.d (.sl (h.aB.map aQ.enc)),.d (.str h.anchor.name),.d (.int .i64 h.anchor.type),.d (.int .i64 h.anchor.bY),.d (.sl (h.anchor.data.map Datum.enc)),.d (.sl (h.hints.map (.int .i64))),.d (.int .i64 h.bJ),.d (.int .i64 h.fin)]
theorem abL:aw E 33 [] [] (fun a b=>a=.aF [.agg (yw dj++[.d (.sl (fR.steps.map Step.enc)),.own 3 0,.d (.sl [])]),.d yv.enc]/\b=[.cells (yw dj++[.d (.sl (fR.steps.map Step.enc)),.own 3 0,.d .aI]),.cells [.d (.int .i64 1),.d (.sl (yv.ae.map Signed.enc)),.d (.str [])],.cells (yw dj),.arr 0 (63,4) (fR.bM.map Claim.enc)]):=by
 have c1:∀ n,ar E 91 [.int .i64 n] (· = .agg [.str [120],.sl ((gY n).ae.map Signed.enc)]):=abK;refine aw.norm ?_;refine aw.run ag (fn:=Tryz.f33) Tryz.func33 (body:=Tryz.f33.body.getD .skip) rfl (by decide) 2000 rfl ?_;(conv=>whnf);refine aq (c1 1) ?_;refine gO Tryz.func33 ?_;refine dU ?_;refine ax (c1 2) ?_;refine gD ?_;refine ax (c1 2) ?_;(conv=>whnf);refine bP.run ag 1 ?_;(conv=>whnf);refine bP.at rfl ?_;(conv=>whnf);refine lh.own ag ?_;refine gD ?_;refine ax (c1 1) ?_;refine gD ?_;refine aW ⟨by decide,by decide,by decide,by decide⟩ ?_;refine gD ?_;refine And.intro (by kernel_rfl) ?_;(conv=>whnf);refine gO Tryz.func33 ?_;exact⟨rfl,rfl⟩
def jy:bO:={ dj with aB:=[⟨1,0,10,gY 1⟩,⟨1,10,100,gY 2⟩] }
theorem I1(k:Int)(d:Datum)(hd:d.text.length<=maxLen):(oN k d).set.Fits:=⟨by simp[oN,maxLen],by simp[oN],fun x hx=>by simp[oN]at hx;subst hx;exact hd⟩
theorem Bh(n:Int):(gY n).Fits:=⟨by simp[gY,maxLen],fun s hs=>by
 simp[gY]at hs;rcases hs with rfl|rfl
 ·exact I1 _ _ (by simp[maxLen])
 ·exact I1 _ _ (by simp[maxLen])⟩
theorem P3:dj.anchor.Fits:=⟨by simp[dj,maxLen],by simp[dj],fun x hx=>by simp[dj]at hx;subst hx;simp[maxLen]⟩
theorem I3{cs:List aQ}{d:Int}(h:∀ c∈cs,∃ n,c.au=gY n):({ dj with aB:=cs,bJ:=d }:bO).Fits:=⟨fun x hx=>by
 simp[dj]at hx;rcases hx with rfl|rfl<;>simp[maxLen],P3,by simp[dj,maxLen],fun c hc=>by
 obtain⟨n,e⟩:=h c hc;rw[e]
 exact Bh n⟩
theorem P4:Steps.Fits fR.steps:=⟨fun s hs=>by
 simp[fR]at hs;subst hs
 exact⟨fun p hp=>by simp at hp;subst hp;exact Bh 2,by simp⟩,by simp[fR]⟩
theorem DZ(l:List Claim)(b:Bool)(hl:oH.Fits l)(hb:(gM dj fR.steps&&kJ dj l)=b):aw E 20 [.arr 0 (63,4) (l.map Claim.enc)] [.agg (yw dj++[.d (.sl (fR.steps.map Step.enc)),.own 0 0,.d (.sl [])])] (fun x h=>x=.d (.bool b)/\h=[.arr 0 (63,4) (l.map Claim.enc)]):=by
 have c1:=Yi ⟨dj,fR.steps,l,[]⟩ (I3 (cs:=dj.aB) fun c hc=>⟨1,by simp[dj]at hc;subst hc;rfl⟩) (by simp[dj]) P4 hl.b (.inl rfl);simp only[hb]at c1;exact ar.abM c1 rfl rfl rfl rfl
theorem I4:(gM dj fR.steps&&kJ dj fR.bM)=true:=by decide +kernel
theorem I5:oH.Fits fR.bM:=⟨by simp[fR,maxLen],fun c hc=>by simp[fR]at hc;subst hc;exact Bh 2⟩
theorem P5:ar E 22 [dj.enc,.sl (fR.steps.map Step.enc)] (· = .aF [jy.enc,.int .i64 0]):=by
 have c1:=H5 dj fR.steps (I3 (cs:=dj.aB) fun c hc=>⟨1,by simp[dj]at hc;subst hc;rfl⟩) (by decide) P4
 rwa [show ew dj fR.steps=jy by decide +kernel,show applyN dj fR.steps=0 by decide +kernel]at c1
theorem abO:aw E 15 [.arr 0 (63,4) (fR.bM.map Claim.enc)] [.agg (yw dj++[.d (.sl (fR.steps.map Step.enc)),.own 0 0,.d (.sl [])])] (fun x h=>x=.aF [.d jy.enc,.d (.int .i64 0)]/\h=[.arr 0 (63,4) (fR.bM.map Claim.enc)]):=by
 have c1:=DZ fR.bM true I5 I4;have c2:=P5;apply aw.kK
 case hk=>rfl
 refine aw.run ag (fn:=Tryz.f15) Tryz.func15 (body:=Tryz.f15.body.getD .skip) rfl (by decide) 2000 rfl ?_;(conv=>whnf);refine aS c1 ?_;refine gO Tryz.func15 ?_;refine aR ?_;refine gO Tryz.func15 ?_;refine aq c2 ?_;refine gO Tryz.func15 ?_;exact⟨rfl,rfl⟩
theorem abP(c:Claim):aw E 37 [.cells [.d .aI],.cells [.d (.bool false)]] [.d c.enc,.ptr 0 0,.ptr 1 0] (fun x h=>x=.aF []/\h=[.cells [.d (.sl [Step.enc ⟨c.time,⟨[⟨c.host,c.au⟩]⟩⟩])],.cells [.d (.bool false)]]):=by
 obtain⟨ch,ct,⟨za,zs⟩⟩:=c;show aw E _ _ [.d (DV.agg [.int .i64 ch,.int .i64 ct,.str za,.sl (zs.map Signed.enc)]),_,_] _;apply aw.kK
 case hk=>rfl
 refine aw.run ag (fn:=Tryz.f37) Tryz.func37 (body:=Tryz.f37.body.getD .skip) rfl (by decide) 2000 rfl ?_;(conv=>whnf);refine J.o9 0 0 (57,2) (by decide) rfl rfl ?_;refine gO F37 ?_;refine dU ?_;refine aY (by decide) ?_;refine gD ?_;refine gO F37 ?_;refine a8 ?_;refine gO F37 ?_;refine aW ⟨by simp,by simp[DV.cells]⟩ ?_;refine gO F37 ?_;refine aW (of_decide_eq_true rfl) ?_;refine gO F37 ?_;refine dU ?_;refine aD (e := .agg [.int .i64 ct,.aI]) ⟨of_decide_eq_true rfl,rfl⟩ rfl ?_;(conv=>whnf);refine bP.run ag 1 ?_;(conv=>whnf);refine bP.run ag 1 ?_;(conv=>whnf);refine bP.run ag 1 ?_;(conv=>whnf);refine bP.run ag 1 ?_;(conv=>whnf);refine bP.run ag 1 ?_;(conv=>whnf);refine bP.run ag 1 ?_;(conv=>whnf);refine bP.at rfl ?_;(conv=>whnf);refine lh.op (abN ag rfl rfl rfl rfl rfl rfl rfl rfl rfl rfl (aV rfl) (aV rfl) (by simp[DV.cells]) (by simp)) ?_;refine gD ?_;refine aD (e := .agg [.int .i64 ct,.aI]) ⟨of_decide_eq_true rfl,rfl⟩ rfl ?_;refine gD ?_;refine And.intro (by kernel_rfl) ?_;(conv=>whnf);refine gO F37 ?_;refine aU rfl ?_;refine gO F37 ?_;refine aU rfl ?_;refine gO F37 ?_;refine aD (e := .agg [.int .i64 ct,.sl [.agg [.int .i64 ch,.str za,.sl (zs.map Signed.enc)]]]) ⟨of_decide_eq_true rfl,rfl⟩ rfl ?_;(conv=>whnf);refine J.run ag F37 4 ?_;(conv=>whnf);refine J.freeze 3 ?_;(conv=>whnf);refine gO F37 ?_;exact⟨rfl,rfl⟩
theorem abQ:aw E 13 [.arr 0 (63,4) (fR.bM.map Claim.enc)] [.agg (yw dj++[.d (.sl (fR.steps.map Step.enc)),.own 0 0,.d (.sl [])])] (fun x h=>x=.aF [.d jy.enc,.d (.int .i64 0)]/\h=[.arr 0 (63,4) (fR.bM.map Claim.enc)]):=by
 have c1:=DZ fR.bM true I5 I4;have c2:=P5;apply aw.kK
 case hk=>rfl
 refine aw.run ag (fn:=Tryz.f13) Tryz.func13 (body:=Tryz.f13.body.getD .skip) rfl (by decide) 2000 rfl ?_;(conv=>whnf);refine aS c1 ?_;refine gO F13 ?_;refine aR ?_;refine gO F13 ?_;refine J.mB ?_;refine J.run ag F13 2000 ?_;(conv=>whnf);refine aY rfl ?_;refine gO F13 ?_;refine aW (of_decide_eq_true rfl) ?_;refine gO F13 ?_;refine aD (e:=Claim.enc ⟨1,10,gY 2⟩) ⟨of_decide_eq_true rfl,rfl⟩ rfl ?_;refine gO F13 ?_;refine aS (abP ⟨1,10,gY 2⟩) ?_;refine gO F13 ?_;refine J.again ?_;refine J.run ag F13 2000 ?_;(conv=>whnf);refine aU rfl ?_;refine gO F13 ?_;refine aR ?_;refine gO F13 ?_;refine aq c2 ?_;refine gO F13 ?_;exact⟨rfl,rfl⟩
def oO(h:bO)(x:c7)(i:Nat)(t:Int):dZ × Int:=match ma (nU h x i) t with
 |[]=>(⟨7,[],[]⟩,0)
 |p::_=>(pz p.au x.q,sc p.au x.q)
def dw(a:Int):c7:=⟨12,a,⟨[120],4⟩,yv⟩
def eA(d:Int):bO:={ jy with bJ:=d }
theorem Qa(d:Int):(eA d).Fits:=I3 fun c hc=>by
 simp[jy,dj]at hc;rcases hc with rfl|rfl
 ·exact⟨1,rfl⟩
 ·exact⟨2,rfl⟩
theorem Qb(y:Host)(l:List aK)(hy:y.name.length<=maxLen)(hl:∀ p∈l,∃ n,p.au=gY n):(⟨[y],l,dj.anchor,[1]⟩:ix).Fits:=⟨fun x hx=>by simp at hx;subst hx;exact hy,P3,by simp[maxLen],fun p hp=>by
 obtain⟨n,e⟩:=hl p hp;rw[e]
 exact Bh n⟩
theorem Qc(a:Int):(dw a).cV:=⟨by simp[dw,maxLen],by simp[dw,yv,maxLen],fun s hs=>by
 simp[dw,yv]at hs;subst hs
 exact⟨I1 _ _ (by simp[maxLen]),by simp[oN,maxLen],by simp[oN]⟩,by simp[dw,yv,maxLen]⟩
theorem abY{l:List Int}(h:l.Pairwise (· <= ·)):gC l=l:=(yl l).eq_of_pairwise (fun _ _ _ _ p q=>Int.le_antisymm p q) (IE l) h
theorem D2(d:Int)(i:Nat){l:List Int}(h:eI [] (nT (ym (eA d) (dw 2)) (yn (eA d) (dw 2)) (nU (eA d) (dw 2) i))=l)(hl:l.Pairwise (· <= ·)):nV (eA d) (dw 2) i=l:=by
 unfold nV;rw[h,abY hl]
theorem t1:nV (eA 2) (dw 2) 0=[10]:=D2 _ _ (by decide +kernel) (by decide)
theorem t2:nV (eA 2) (dw 2) 1=[10]:=D2 _ _ (by decide +kernel) (by decide)
theorem t3:nV (eA 3) (dw 2) 0=[9]:=D2 _ _ (by decide +kernel) (by decide)
theorem t4:nV (eA 3) (dw 2) 1=[9,10]:=D2 _ _ (by decide +kernel) (by decide)
theorem Qd{ask:Nat->Int->dZ × Int}{h:bO}{x:c7}{a b:Bool}(hl:h.ay.length=2)(hv:(eJ h&&qv x && !nK x.answer)=true)(h0:jw ask h x 0=a)(h1:jw ask h x 1=b):tT ask h x=(if a then[0]else[])++if b then[1]else[]:=by
 unfold tT;rw[hv,if_pos rfl,hl,show List.range 2=[0,1]from rfl];subst h0;subst h1;simp only[List.filter];cases jw ask h x 0<;>cases jw ask h x 1<;>rfl
theorem t5:tT (oO (eA 2) (dw 2)) (eA 2) (dw 2)=[]:=Qd (a:=false) (b:=false) rfl (by decide +kernel) (by unfold jw;rw[t1];decide +kernel) (by unfold jw;rw[t2];decide +kernel)
theorem t6:tT (oO (eA 3) (dw 2)) (eA 3) (dw 2)=[1]:=Qd (a:=false) (b:=true) rfl (by decide +kernel) (by unfold jw;rw[t3];decide +kernel) (by unfold jw;rw[t4];decide +kernel)
theorem t7:yo (eA 2) (dw 2)=0/\yo (eA 3) (dw 2)=0/\qv (dw 0)=false:=by decide +kernel
theorem abZ(d:Int)(i:Nat)(y:Host)(t:Int)(hy:y=⟨[97],1,0⟩\/y=⟨[98],2,0⟩)(hz:ma (nU (eA d) (dw 2) i) t=[]\/∃ n,(n=1\/n=2)/\ma (nU (eA d) (dw 2) i) t=[⟨0,gY n⟩]):ar E 31 [.agg [.sl [y.enc],.sl ((ma (nU (eA d) (dw 2) i) t).map aK.enc),.str dj.anchor.name,.int .i64 dj.anchor.type,.int .i64 dj.anchor.bY,.sl (dj.anchor.data.map Datum.enc),.sl ([1].map (.int .i64))],.int .i64 y.addr,.agg [.str [120],.int .i64 4]] (· = .aF [.agg [.int .i64 (oO (eA d) (dw 2) i t).1.kind,.sl ((oO (eA d) (dw 2) i t).1.ae.map Signed.enc),.str (oO (eA d) (dw 2) i t).1.cut],.int .i64 (oO (eA d) (dw 2) i t).2])/\(oO (eA d) (dw 2) i t).1.ae.length<=2147483648/\∀ s∈(oO (eA d) (dw 2) i t).1.ae,s.set.data.length<=2147483648/\s.sigs.length<=2147483648:=by
 have hn:y.name.length<=maxLen:=by rcases hy with rfl|rfl<;>simp[maxLen]
 unfold oO;rcases hz with e|⟨n,jn,e⟩
 ·rw[e];refine⟨abH y dj.anchor [1] ⟨[120],4⟩ (Qb y [] hn (by simp)) ?_ (by decide +kernel) (by simp[maxLen]),by simp,by simp⟩;rcases hy with rfl|rfl<;>decide +kernel
 ·rw[e];refine⟨abI y (gY n) dj.anchor [1] ⟨[120],4⟩ (Qb y [⟨0,gY n⟩] hn (fun p hp=>⟨n,by simp at hp;subst hp;rfl⟩)) ?_ (by decide +kernel) (by simp[maxLen]) (by rcases jn with rfl|rfl<;>decide +kernel),?_⟩
  ·rcases hy with rfl|rfl<;>rcases jn with rfl|rfl<;>decide +kernel
  ·rcases jn with rfl|rfl<;>decide +kernel
theorem ab0(d:Int)(hd:d=2\/d=3)(i:Nat)(y:Host)(t:Int)(hy:dj.ay[i]?=some y)(ht:t∈nV (eA d) (dw 2) i):(y=⟨[97],1,0⟩\/y=⟨[98],2,0⟩)/\(ma (nU (eA d) (dw 2) i) t=[]\/∃ n,(n=1\/n=2)/\ma (nU (eA d) (dw 2) i) t=[⟨0,gY n⟩]):=by
 rcases i with _|_|i
 ·refine⟨.inl (by simpa [dj]using hy.symm),.inl ?_⟩;rcases hd with rfl|rfl
  ·rw[t1]at ht;simp at ht;subst ht;decide +kernel
  ·rw[t3]at ht;simp at ht;subst ht;decide +kernel
 ·refine⟨.inr (by simpa [dj]using hy.symm),.inr ?_⟩;rcases hd with rfl|rfl
  ·rw[t2]at ht;simp at ht;subst ht;exact⟨2,by decide +kernel⟩
  ·rw[t4]at ht;simp at ht;rcases ht with rfl|rfl
   ·exact⟨1,by decide +kernel⟩
   ·exact⟨2,by decide +kernel⟩
 ·simp[dj]at hy
theorem Qe(d:Int)(hd:d=2\/d=3):ar E 17 [(eA d).enc,(dw 2).enc] (· = .aF [.sl ((tT (oO (eA d) (dw 2)) (eA d) (dw 2)).map (.int .i64)),.int .i64 (yo (eA d) (dw 2))]) :=
 Pm (eA d) (dw 2) (oO (eA d) (dw 2)) (Qa d) (by simp[eA,jy]) (Qc 2) fun i y t hy _ _ ht=>by
  obtain⟨h1,h2⟩:=ab0 d hd i y t hy ht;exact abZ d i y t h1 h2
theorem ab1:ar E 17 [jy.enc,(dw 0).enc] (· = .aF [.sl [],.int .i64 1]):=by
 have c:=Pm jy (dw 0) (oO jy (dw 0)) (Qa 2) (by simp[jy]) (Qc 0) fun i y t _ _ hr _=>by rw[t7.2.2]at hr;cases hr
 unfold tT yo at c
 simpa [t7.2.2]using c
theorem Qf(n:Int):(gY n).fO:=⟨by simp[gY],fun s hs=>by
 simp[gY]at hs
 rcases hs with rfl|rfl<;>exact⟨by simp[oN],by simp[oN]⟩⟩
theorem ab2:jy.fO:=⟨by simp[jy,dj],by simp[jy],by simp[jy,dj],by simp[jy,dj],fun c hc=>by
 simp[jy]at hc;rcases hc with rfl|rfl
 ·exact Qf 1
 ·exact Qf 2⟩
theorem Bi:ar E 9 [] (· = .bool true):=by
 have c1:=abL;have c2:=Qe 2 (.inl rfl);have c3:=Qe 3 (.inr rfl);have c4:=ab1;have c5:=X1 jy jy ab2;rw[decide_eq_true rfl]at c5;have c6:=ZP [1] 1 (by simp[maxLen]);rw[t5,t7.1]at c2;rw[t6,t7.2.1]at c3;refine eP F9 ?_;refine xn (c1) rfl ?_;refine gO F9 ?_;refine aS abO ?_;refine gO F9 ?_;refine aS abQ ?_;refine gO F9 ?_;refine aq c2 ?_;refine gO F9 ?_;refine aq c3 ?_;refine gO F9 ?_;refine aq c4 ?_;refine gO F9 ?_;refine aY (by decide) ?_;refine gO F9 ?_;refine aY (by decide) ?_;refine gO F9 ?_;refine aY (by decide) ?_;refine gO F9 ?_;refine aY (by decide) ?_;refine gO F9 ?_;refine aY (by decide) ?_;refine gO F9 ?_;refine aq c5 ?_;refine gO F9 ?_;refine aY rfl ?_;refine gO F9 ?_;refine aY rfl ?_;refine gO F9 ?_;refine aY rfl ?_;refine gO F9 ?_;refine aY rfl ?_;refine gO F9 ?_;refine aq c6 ?_;refine gO F9 ?_;refine aY rfl ?_;refine gO F9 ?_;refine aS (DZ fR.bM true I5 I4) ?_;refine gO F9 ?_;refine aW (of_decide_eq_true rfl) ?_;refine gO F9 ?_;refine aD (e:=Claim.enc ⟨1,10,gY 2⟩) ⟨of_decide_eq_true rfl,rfl⟩ rfl ?_;refine gO F9 ?_;refine a8 ?_;refine gO F9 ?_;refine aS (DZ [⟨2,10,gY 2⟩] false ⟨by simp[maxLen],fun c hc=>by simp at hc;subst hc;exact Bh 2⟩ (by decide +kernel)) ?_;refine gO F9 ?_;rfl
end Go.Proofs.YtfmdaiojokniiaaGreatDoor.P
end
section
namespace Go.Proofs.YtfmdaiojokniiaaGreatDoor.P
open Go Go.aA
def pD(l:List aK)(s:kA):List aK:=l.filter (fun p => !decide (p.spot∈s.cZ.map aK.spot))++s.cZ.filter (fun p => !fQ p.au)
theorem Qo{ended:List cH}{at_:Int}(c:aQ)(cs:List aQ):jt ended at_ (c::cs)=jT ended at_ c++jt ended at_ cs:=List.flatMap_cons
theorem Qp{ended:List cH}{at_ t:Int}(h:at_<=t):∀ (cs:List aQ),dq (jt ended at_ cs) t=(dq cs t).filter (fun p => !decide (p.spot∈ended))
 |[]=>rfl
 |c::cs=>by
  have ih:=Qp (ended:=ended) h cs;have e2:dq (c::cs) t=dq [c] t++dq cs t:=wq [c] cs t;rw[Qo,wq,ih,e2,List.filter_append]
  congr 1
  unfold jT;rw[wu];by_cases hm:c.spot∈ended
  ·have zm:(⟨c.host,c.au⟩:aK).spot∈ended:=hm;have hr:(if c.bL<=t/\t<c.upto then[(⟨c.host,c.au⟩:aK)]else[]).filter (fun p => !decide (p.spot∈ended))=[]:=by
    split<;>simp[zm]
   rw[hr,if_pos hm];by_cases h2:c.bL>=at_
   ·rw[if_pos h2];rfl
   ·rw[if_neg h2,wu,if_neg];simp only;omega
  ·have zm:¬ (⟨c.host,c.au⟩:aK).spot∈ended:=hm;rw[if_neg hm,wu];split<;>simp[zm]
theorem ab6{fin at_ t:Int}(h:at_<=t)(h2:t<fin)(l:List aK):dq (iA fin at_ l) t=l.filter (fun p => !fQ p.au):=by
 have e:(iA fin at_ l).filter (fun c=>decide (c.bL<=t)&&decide (t<c.upto))=iA fin at_ l:=List.filter_eq_self.2 fun c hc=>by
  obtain⟨p,_,rfl⟩:=aer.1 hc;simp[h,h2]
 rw[dq,e,AN,iA,List.map_map];exact List.map_id _
theorem Qq{ended:List cH}{at_ t:Int}(h:t<at_):∀ (cs:List aQ),dq (jt ended at_ cs) t=dq cs t
 |[]=>rfl
 |c::cs=>by
  have ih:=Qq (ended:=ended) h cs;have e2:dq (c::cs) t=dq [c] t++dq cs t:=wq [c] cs t;rw[Qo,wq,ih,e2]
  congr 1
  unfold jT;rw[wu];by_cases hm:c.spot∈ended
  ·rw[if_pos hm];by_cases h2:c.bL>=at_
   ·rw[if_pos h2,if_neg (by omega)];rfl
   ·rw[if_neg h2,wu];simp only;by_cases h3:c.bL<=t/\t<c.upto
    ·rw[if_pos h3,if_pos (by omega)]
    ·rw[if_neg h3,if_neg (by omega)]
  ·rw[if_neg hm,wu]
theorem ab7{fin at_ t:Int}(h:t<at_)(l:List aK):dq (iA fin at_ l) t=[]:=by
 have e:(iA fin at_ l).filter (fun c=>decide (c.bL<=t)&&decide (t<c.upto))=[]:=List.filter_eq_nil_iff.2 fun c hc=>by
  obtain⟨p,_,rfl⟩:=aer.1 hc;simp;omega
 rw[dq,e];rfl
theorem Ja{fin t:Int}(hf:t<fin):∀ (l:List Step) (cs:List aQ),dq (dN fin cs l) t=(l.filter (fun s=>decide (s.time<=t))).foldl (fun z s=>pD z s.cD) (dq cs t)
 |[],cs=>rfl
 |s::l,cs=>by
  have ih:=Ja hf l (mU fin cs s);show dq (dN fin (mU fin cs s) l) t=_;rw[ih];by_cases h:s.time<=t
  ·have e:dq (mU fin cs s) t=pD (dq cs t) s.cD:=by
    rw[mU,wq,Qp h,ab6 h hf];rfl
   rw[e,ajX,if_pos (by simpa using h)];rfl
  ·have e:dq (mU fin cs s) t=dq cs t:=by
    rw[mU,wq,Qq (by omega),ab7 (by omega),List.append_nil]
   rw[e,ajX,if_neg (by simpa using h)]
theorem Bj{ended:List cH}{at_:Int}{c x:aQ}(h:x∈jT ended at_ c):x.host=c.host/\x.au=c.au/\x.bL=c.bL/\x.upto<=c.upto/\(c.spot∈ended->x.upto<=at_)/\(c.bL<c.upto->x.bL<x.upto):=by
 unfold jT at h;split at h
 ·split at h
  ·simp at h
  ·rename_i h1 h2;simp at h;subst h;simp;omega
 ·rename_i h1;simp at h;subst h;exact⟨rfl,rfl,rfl,Int.le_refl _,fun e=>absurd e h1,id⟩
theorem Jb{ended:List cH}{at_:Int}{c x:aQ}(h:x∈jT ended at_ c):x.spot=c.spot:=by
 obtain⟨h1,h2,_⟩:=Bj h;simp[aQ.spot,h1,h2]
theorem ab8{n:Nat}{fin at_:Int}{ended:List cH}{cs:List aQ}(h:tX n fin cs):tX n fin (jt ended at_ cs):=by
 refine⟨fun x hx=>?_,?_⟩
 ·obtain⟨c,hc,e⟩:=afd.1 hx;obtain⟨e1,e2,e3,e4,_,e5⟩:=Bj e;obtain⟨q1,q2,q3,q4,q5,q6⟩:=D3.1 (h.1 c hc);refine D3.2 ⟨by omega,by omega,by omega,e5 q4,by omega,by rw[e2];exact q6⟩
 ·rw[jt,List.pairwise_flatMap];refine⟨fun c _=>?_,h.2.imp fun{a b} my x hx y hy e=>?_⟩
  ·unfold jT;split<;>(try split)<;>simp
  ·obtain⟨_,_,a3,a4,_⟩:=Bj hx;obtain⟨_,_,b3,b4,_⟩:=Bj hy;have:=my (by rw[<- Jb hx,<- Jb hy];exact e);omega
theorem ab9{n:Nat}{fin:Int}{s:Step}{cs:List aQ}(hs:0<=s.time/\s.time<fin/\gK n s.cD=true)(h:tX n fin cs):tX n fin (mU fin cs s):=by
 obtain⟨s1,s2,s3⟩:=hs;simp only[gK,aft,decide_eq_true_eq]at s3;obtain⟨⟨_,s4⟩,s5⟩:=s3;have bg:=ab8 (ended:=s.cD.cZ.map aK.spot) (at_:=s.time) h;have dF:∀ x∈iA fin s.time s.cD.cZ,∃ p∈s.cD.cZ,fQ p.au=false/\x=⟨p.host,s.time,fin,p.au⟩:=fun x hx=>by
  obtain⟨p,hp,e⟩:=aer.1 hx;obtain⟨h1,h2⟩:=List.mem_filter.1 hp;exact⟨p,h1,by simpa using h2,e.symm⟩
 refine⟨fun x hx=>?_,?_⟩
 ·rcases List.mem_append.1 hx with hx|hx
  ·exact bg.1 x hx
  ·obtain⟨p,hp,h2,rfl⟩:=dF x hx;have:=List.all_eq_true.1 s4 p hp;simp only[iz,aft,decide_eq_true_eq,h2,Bool.false_or]at this;exact D3.2 ⟨this.1.1,this.1.2,s1,s2,Int.le_refl _,this.2⟩
 ·rw[mU,List.pairwise_append];refine⟨bg.2,?_,fun x hx y hy e=>?_⟩
  ·rw[iA,ahD];have h1:(s.cD.cZ.filter fun p => !fQ p.au).Pairwise fun a b=>a.spot≠b.spot:=by
    have:s.cD.cZ.Pairwise fun a b=>a.spot≠b.spot:=by
     have:=List.nodup_iff_pairwise_ne.1 s5
     rwa [ahD]at this
    exact this.sublist List.filter_sublist
   exact h1.imp fun{a b} my e=>absurd (show a.spot=b.spot from e) my
  ·obtain⟨p,hp,h2,rfl⟩:=dF y hy;obtain⟨c,hc,e1⟩:=afd.1 hx;have e2:c.spot=p.spot:=by rw[<- Jb e1];exact e
   have:=(Bj e1).2.2.2.2.1 (by rw[e2];exact aer.2 ⟨p,hp,rfl⟩);simp only;omega
theorem Qr{n:Nat}{fin:Int}:∀ {l:List Step} {cs:List aQ},(∀ s∈l,0<=s.time/\s.time<fin/\gK n s.cD=true)->tX n fin cs->tX n fin (dN fin cs l)
 |[],_,_,h=>h
 |s::l,cs,hl,h=>Qr (l:=l) (cs:=mU fin cs s) (fun t ht=>hl t (List.mem_cons_of_mem _ ht)) (ab9 (hl s (List.mem_cons_self ..)) h)
theorem ab'{l:List aQ}:qo l=false↔l.length<=4000/\rQ l<=500:=by
 simp[qo]
theorem aca{h:bO}{l:List Step}:applyN h l=0↔gM h l=true/\qo (dN h.fin h.aB l)=false:=by
 unfold applyN;cases gM h l<;>cases qo (dN h.fin h.aB l)<;>simp
theorem acb{h:bO}{l:List Step}(h0:applyN h l=0):ew h l={ h with aB:=dN h.fin h.aB l }:=by rw[ew,if_pos h0]
theorem Qs{h:bO}{l:List Step}(hv:gM h l=true):applyN h l=0\/applyN h l=2:=by
 unfold applyN;rw[hv];cases qo (dN h.fin h.aB l)<;>simp
theorem Qt{h:bO}{l:List Step}(h0:applyN h l=0):eJ (ew h l)=true:=by
 obtain⟨hv,hm⟩:=aca.1 h0;obtain⟨m1,m2⟩:=ab'.1 hm;obtain⟨v1,v2,v3,v4⟩:=Qn.1 hv;obtain⟨q1,q2,q3,q4,q5,q6,q7,q8⟩:=I9.1 v1;rw[acb h0];exact I9.2 ⟨q1,q2,q3,q4,m1,q6,Qr v3 q7,m2⟩
end Go.Proofs.YtfmdaiojokniiaaGreatDoor.P
end
