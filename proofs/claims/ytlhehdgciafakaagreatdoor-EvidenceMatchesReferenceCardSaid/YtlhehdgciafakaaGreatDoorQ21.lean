/- Lemmas of mine. Conditions: as stated. -/
import Derived.Test.YtlhehdgciafakaaGreatDoorQ19
import Derived.Test.YtlhehdgciafakaaGreatDoorQ20
set_option linter.unusedVariables false
set_option linter.unusedSimpArgs false
open Bool renaming and_eq_true->ai2
open List renaming all_eq_true->ahH,take_of_length_le->ajq,mem_of_getElem?->aiQ,length_take->ah1,cons_append->aie,mem_cons->ai3
open Option renaming getD_some->ah8,getD_none->aiZ
section
namespace Go.Proofs.YtlhehdgciafakaaGreatDoor.P
open Go Go.az
set_option maxRecDepth 100000
set_option maxHeartbeats 4000000
theorem aaF(h:bB)(t:Int)(hl:h.aw.length<=1000000):aq E 167 [h.enc,.int .i64 t] (· = .sl ((fN h.aw t).map aH.enc)):=by
 refine aq.norm ?_;obtain⟨ay,aw,anchor,hints,bq,fin⟩:=h;simp only at hl ⊢;show aq E _ [HD ay aw anchor hints bq fin,_] _;refine eP F167.h ?_;refine I.nH 5 (85,3) dC rfl ?_;refine I.lP aw.length (rg 5 43) (fun k=>[(6,.d (.int .i64 k)),(5,.own 1 1)]) (fun k=>[(1,.arr 1 (85,3) ((fN (aw.take k) t).map aH.enc))]) (fun k=>k<=aw.length) (Nat.zero_le _) ?_ ?_
 ·refine sY ?_
  refine⟨rfl, ?_⟩;exact sZ
 intro k hk IH;refine zA ?_ ?_<;>intro h5
 ·have ai:k<aw.length:=zD h5
  obtain⟨c,hc⟩:=aI ai;have hsl:=J2 (cs:=aw.take k) (t:=t);have agS:(aw.take k).length<=k:=by rw[ah1];omega
  have aJ:=aaE (t:=t) hc;refine gC ?_;repeat' (first|with_reducible(first|refine aR (bC hc) rfl ?_|refine cX ?_|apply ah<;>intro)|refine gE ?_|with_reducible rfl)
  ·refine gC ?_;refine dU ?_;refine eM hc (gD ?_);refine eM hc (gD ?_);refine nA (gD ?_);refine And.intro (by kernel_rfl) ?_;(conv=>whnf);refine gC ?_;have fX:c.bQ<=t/\t<c.upto:=by simp_all
   refine I.back (IH (k+1) oM oM) ?_;rw[aJ,if_pos fX];refine sY ?_
   exact And.intro (by simp[aH.enc]) sZ
  all_goals
   refine gC ?_;have fX:¬ (c.bQ<=t/\t<c.upto):=by simp_all<;>omega
   refine I.back (IH (k+1) oM oM) ?_;rw[aJ,if_neg fX];refine sY ?_
   refine⟨by simp, ?_⟩;exact sZ
 ·have aA:aw.length<=k:=zD h5
  rw[ajq aA];refine gC ?_;rfl
theorem aaG(a b:dJ)(hl:a.J.length<=2147483648)(ha:∀ s∈a.J,s.ga):aq E 168 [a.enc,b.enc] (· = .bool (decide (a=b))):=by
 have c1:=OJ a.J b.J hl ha;obtain⟨k1,l1,x1⟩:=a;obtain⟨k2,l2,x2⟩:=b;have hd:decide ((⟨k1,l1,x1⟩:dJ)=⟨k2,l2,x2⟩)=((k1==k2)&&(x1==x2)&&decide (l1=l2)):=by
  rw[Bool.eq_iff_iff];simp;constructor
  ·rintro⟨h1,h2,h3⟩;exact⟨⟨h1,h3⟩,h2⟩
  ·rintro⟨⟨h1,h3⟩,h2⟩;exact⟨h1,h2,h3⟩
 rw[hd];simp only at c1;show aq E _ [DV.agg [.int .i64 k1,.sl (l1.map Signed.enc),.str x1],DV.agg [.int .i64 k2,.sl (l2.map Signed.enc),.str x2]] _;refine eP Tryz.func168 ?_;repeat' (first|with_reducible(first|refine cC c1 ?_|refine cX ?_|apply ah<;>intro)|refine gA Tryz.func168 ?_|refine gB ?_|with_reducible rfl)
 all_goals (refine congrArg DV.bool ?_;simp_all)
end Go.Proofs.YtlhehdgciafakaaGreatDoor.P
end
section
namespace Go.Proofs.YtlhehdgciafakaaGreatDoor.P
open Go Go.az
theorem KF{h:bB}(hg:h.Good)(hf:zR h=true):h.Fits/\h.aw.length<=20/\h.hints.length<=1000000/\h.ga:=by
 simp only[zR,zJ,ai2,decide_eq_true_eq]at hf;obtain⟨⟨h1,h2⟩,⟨⟨h3,h4⟩,h5⟩,h6⟩:=hf;rw[ajq oM]at h1 h2;obtain⟨g1,g2,g3,g4,g5⟩:=hg;have hz:∀ c∈h.aw,c.ar.Fits/\c.ar.gY/\c.ar.ga:=fun c hc=>by
  have:=ahH.1 h1 c hc;simp only[qO,ai2]at this;exact B6 (g2.2 c hc).2.2.2 this.1
 refine⟨⟨fun x hx=>(g1.2 x hx).1,⟨g3.1,by omega,fun d hd=>(g3.2.2.2.2 d hd).1⟩,g4.1,fun c hc=>(hz c hc).1⟩,h3,by omega,⟨by omega,by omega,by omega,by omega,fun c hc=>(hz c hc).2.2⟩⟩
theorem adK{l:List Step}(hg:∀ s∈l,s.Good)(hf:zQ l=true):Steps.Fits l/\l.length<=20:=by
 simp only[zQ,ai2,decide_eq_true_eq]at hf;obtain⟨h1,h2⟩:=hf
 exact⟨⟨fun s hs=>by
  have:=ahH.1 h2 s hs;simp only[sf,ai2,decide_eq_true_eq]at this
  exact⟨fun x hx=>(B6 (((hg s hs).2).2 x hx).2 (ahH.1 this.2 x hx)).1,by omega⟩,by omega⟩,h1⟩
theorem Sn{s:Signed}(hg:s.Good)(h:s.set.data.length<=2147483648):s.cR:=⟨⟨hg.1.1,h,fun d hd=>(hg.1.2.2.2.2 d hd).1⟩,hg.2.1,fun g hx=>(hg.2.2 g hx).1⟩
theorem KG{l:List Signed}(hg:∀ s∈l,s.Good)(h:vG l=true):∀ s∈l,s.cR:=fun s hs=>by
 simp only[vG,ai2,decide_eq_true_eq]at h;rw[ajq oM]at h;have:=ahH.1 h.1 s hs;simp[zM]at this;exact Sn (hg s hs) oM
theorem adL{t:dO}(hg:t.Good)(h:tU t=true):t.cR:=by
 obtain⟨g1,-,g3,g4,-,g6,g7⟩:=hg;simp only[tU,Fc,ai2,decide_eq_true_eq]at h;obtain⟨⟨⟨⟨⟨⟨h1,h2⟩,h3,h3'⟩,h4⟩,h5⟩,h6⟩,h7⟩:=h;rw[ajq oM]at h1 h3;refine⟨g1.1,⟨g3.1,fun e he=>?_⟩,⟨g4.1,fun x hx=>?_⟩,g6.1,g7.1,KG g7.2 h2⟩
 ·have:=ahH.1 h3 e he;simp[Cp]at this;exact⟨Sn (g3.2 e he).1 oM,(g3.2 e he).2.1⟩
 ·have:=ahH.1 h1 x hx;simp only[Cr,ai2]at this;obtain⟨-,-,q3,-,q5,q6⟩:=g4.2 x hx;exact⟨q3.1,q5.1,KG q5.2 this.1.1.1,q6⟩
theorem adM{e:iR}(hg:e.Good)(h:xI e=true):e.Fits/\e.dA.length<=20:=by
 obtain⟨g1,g2,g3,g4⟩:=hg;simp only[xI,ai2,decide_eq_true_eq]at h;obtain⟨⟨⟨⟨⟨h1,h2⟩,h3⟩,h4⟩,h5⟩,h6⟩:=h;rw[ajq oM]at h1 h2;obtain⟨f1,f2,f3,-⟩:=KF g1 h3;exact⟨⟨f1,by omega,f3,(adK g2.2 h4).1,⟨g3.1,fun c hc=>(B6 (g3.2 c hc).2.2 (ahH.1 h1 c hc)).1⟩,g4.1,fun t ht=>adL (g4.2 t ht) (ahH.1 h2 t ht)⟩,by omega⟩
theorem adN{e:iR}(hg:e.Good):∀ t∈e.mw,t.Q6:=fun t ht=>by
 obtain⟨-,-,g3,g4,-,-,g7⟩:=hg.2.2.2.2 t ht;exact⟨g3.1,g4.1,fun x hx=>(g4.2 x hx).2.2.2.2.1.1,g7.1⟩
end Go.Proofs.YtlhehdgciafakaaGreatDoor.P
end
section
namespace Go.Proofs.YtlhehdgciafakaaGreatDoor.P
open Go Go.az
set_option maxRecDepth 100000
set_option maxHeartbeats 4000000
theorem KT(z:aK)(q:bp)(ps:List Int)(V:gq z)(hf:z.gY)(hp:oh z.J ps)(hl:ps.length<=1000)(h0:0<=aC z.J q)(hn:aC z.J q ∉ ps):au E 305 [.arr 0 (77,5) ((bR z.J ps).map Signed.enc)] [.own 0 0,.d z.enc,.d (.str q.name),.d (.int .i64 q.type)] (fun a b=>a=.own 0 1/\b=[.arr 1 (77,5) ((bR z.J (ps++[aC z.J q])).map Signed.enc)]):=by
 have c:=KQ z q (bR z.J ps) hf (by have:=Fh (l:=z.J) (ps:=ps);omega);have e1:oq z q (bR z.J ps)=1:=by
  rw[oq,KR V.sorted hp h0,if_pos ⟨h0,by simp[hn]⟩]
 have e2:nu z q (bR z.J ps)=bR z.J (ps++[aC z.J q]):=by
  rw[KS V.sorted hp,dx,if_neg (by rintro(e|e);omega;exact hn e)]
 rw[e1,e2]at c;exact c
theorem KU(z:aK)(q:bp)(ps:List Int)(V:gq z)(hf:z.gY)(hp:oh z.J ps)(hl:ps.length<=1000)(h0:¬ 0<=aC z.J q\/aC z.J q∈ps):au E 305 [.arr 0 (77,5) ((bR z.J ps).map Signed.enc)] [.own 0 0,.d z.enc,.d (.str q.name),.d (.int .i64 q.type)] (fun a b=>a=.own 0 0/\b=[.arr 0 (77,5) ((bR z.J ps).map Signed.enc)]):=by
 have c:=KQ z q (bR z.J ps) hf (by have:=Fh (l:=z.J) (ps:=ps);omega);have e1:oq z q (bR z.J ps)=0:=by
  rw[oq];refine if_neg fun e=>?_;rcases h0 with h|h
  ·exact h e.1
  ·rw[KR V.sorted hp e.1,decide_eq_false_iff_not]at e;exact e.2 h
 have e2:nu z q (bR z.J ps)=bR z.J ps:=by
  rw[KS V.sorted hp,dx,if_pos (h0.imp oM id)]
 rw[e1,e2]at c;exact c
theorem KV{ps:List Int}{p:Int}(h0:0<=p)(hn:p ∉ ps):dx ps p=ps++[p]:=by
 rw[dx,if_neg (by rintro(e|e);omega;exact hn e)]
theorem SC{ps:List Int}{p:Int}(h:¬ 0<=p\/p∈ps):dx ps p=ps:=by
 rw[dx,if_pos (h.imp oM id)]
theorem aee(z:aK)(q:bp)(ps:List Int)(V:gq z)(hf:z.gY)(hp:oh z.J ps)(hl:ps.length<=1000):∃ g,(g=0\/g=1)/\au E 305 [.arr 0 (77,5) ((bR z.J ps).map Signed.enc)] [.own 0 0,.d z.enc,.d (.str q.name),.d (.int .i64 q.type)] (fun a b=>a=.own 0 g/\b=[.arr g (77,5) ((bR z.J (dx ps (aC z.J q))).map Signed.enc)]):=by
 by_cases hq:0<=aC z.J q/\aC z.J q ∉ ps
 ·refine⟨1,.inr rfl,?_⟩;rw[KV hq.1 hq.2];exact KT z q ps V hf hp hl hq.1 hq.2
 ·have lL:¬ 0<=aC z.J q\/aC z.J q∈ps:=by
   by_cases h:0<=aC z.J q
   ·exact .inr (Classical.not_not.1 fun e=>hq ⟨h,e⟩)
   ·exact .inl h
  have:=KU z q ps V hf hp hl lL;refine⟨0,.inl rfl,?_⟩;rw[SC lL];exact this
theorem SD{l:List Signed}{n:Text}{s t:Int}(bc:s≠t)(h:0<=aC l ⟨n,s⟩):aC l ⟨n,s⟩≠aC l ⟨n,t⟩:=fun e=>by
 obtain⟨x,h1,h2⟩:=pW h;obtain⟨y,h3,h4⟩:=pW (l:=l) (q:=⟨n,t⟩) oM;rw[<- e,h1]at h3;cases h3;exact bc ((congrArg bp.type (xM h2)).trans (congrArg bp.type (xM h4)).symm)
theorem aef{l:List Signed}{c:Text}{a b:Int}{D:List Datum}{k:Nat}{d:Datum}(h:D[k]?=some d):cd (a::b::eQ l c (D.take (k+1)))=if Nm.under d.text c then dx (cd (a::b::eQ l c (D.take k))) (aC l ⟨d.text,1⟩)else cd (a::b::eQ l c (D.take k)):=by
 rw[xR h];cases Nm.under d.text c
 ·simp
 ·rw[if_pos rfl,if_pos rfl,<- aie,<- aie,Cu]
theorem aeg(z:aK)(cut:Text)(V:gq z)(hf:z.gY)(hc:Nm.valid cut=true)(h2:0<=aC z.J ⟨cut,2⟩):aq E 304 [z.enc,.str cut] (· = pX 4 (bR z.J (kD z.J cut)) cut):=by
 obtain⟨s,hs,iC⟩:=pW h2;have a0:=SB z ⟨cut,2⟩ hf h2 hs;simp only at a0;have iY:=RO (V.J s (aiQ hs)) (congrArg bp.type (xM iC)).symm;have nV:=(xj (V.J s (aiQ hs))).2.1;have jU:xO z.J cut=s.set.data:=by rw[xO,hs]
 have fF:∀ r:List Int,(∀ p∈r,p<z.J.length)->oh z.J (cd r):=fun r h=>abM h;have KW:bR z.J [aC z.J ⟨cut,2⟩]=[s]:=by simp[bR,hs]
 have pQ:oh z.J [aC z.J ⟨cut,2⟩]:=fun p hp=>by simp at hp;subst hp;exact⟨h2,hU.2⟩
 have hsr:∀ D:List Datum,∀ p∈(aC z.J ⟨cut,2⟩::gG z.J cut::eQ z.J cut D),p<z.J.length:=fun D p hp=>by
  rcases ai3.1 hp with rfl|hp
  ·exact hU.2
  rcases ai3.1 hp with rfl|hp
  ·unfold gG;split<;>exact hU.2
  exact xS hp
 have hlen:∀ D:List Datum,D.length<=8->(cd (aC z.J ⟨cut,2⟩::gG z.J cut::eQ z.J cut D)).length<=10:=fun D hD=>by
  have h1:=Rn (ps:=aC z.J ⟨cut,2⟩::gG z.J cut::eQ z.J cut D);have h3:=vJ z.J cut D;simp at h1;omega
 have o7:kD z.J cut=cd (aC z.J ⟨cut,2⟩::gG z.J cut::eQ z.J cut s.set.data):=by rw[kD,qS,jU];rfl
 have ki:cd (aC z.J ⟨cut,2⟩::gG z.J cut::eQ z.J cut (s.set.data.take 0))=dx [aC z.J ⟨cut,2⟩] (gG z.J cut):=by
  rw[List.take_zero];show cd ([aC z.J ⟨cut,2⟩]++[gG z.J cut])=_;rw[Cu,Fp h2]
 rw[show[s.enc]=[s].map Signed.enc from rfl,<- KW]at a0;rw[o7];have GR:((bR z.J [aC z.J ⟨cut,2⟩]).map Signed.enc)[0]?=some s.enc:=by rw[KW];rfl
 have SE:((bR z.J [aC z.J ⟨cut,2⟩]).map Signed.enc).length=1:=by rw[KW];rfl
 refine eP F304.h ?_;refine lC (a0) rfl (gC ?_);refine bj ⟨by omega,by rw[SE];decide⟩ ?_;refine gC ?_;refine aR (e:=s.enc) ⟨by omega,GR⟩ rfl (gC ?_);have w6:0<=aC z.J ⟨cut,6⟩->aC z.J ⟨cut,6⟩ ∉ [aC z.J ⟨cut,2⟩]/\dx [aC z.J ⟨cut,2⟩] (gG z.J cut)=[aC z.J ⟨cut,2⟩]++[aC z.J ⟨cut,6⟩]:=fun h6=>by
  have FD:aC z.J ⟨cut,6⟩ ∉ [aC z.J ⟨cut,2⟩]:=fun e=>SD (s:=6) (t:=2) dC h6 (zD e);exact⟨FD,by rw[gG,if_neg oM,KV h6 FD]⟩
 have w8:¬ 0<=aC z.J ⟨cut,6⟩->0<=aC z.J ⟨cut,8⟩->aC z.J ⟨cut,8⟩ ∉ [aC z.J ⟨cut,2⟩]/\dx [aC z.J ⟨cut,2⟩] (gG z.J cut)=[aC z.J ⟨cut,2⟩]++[aC z.J ⟨cut,8⟩]:=fun h6 h8=>by
  have FE:aC z.J ⟨cut,8⟩ ∉ [aC z.J ⟨cut,2⟩]:=fun e=>SD (s:=8) (t:=2) dC h8 (zD e);exact⟨FE,by rw[gG,if_pos oM,KV h8 FE]⟩
 have w0:¬ 0<=aC z.J ⟨cut,6⟩->¬ 0<=aC z.J ⟨cut,8⟩->dx [aC z.J ⟨cut,2⟩] (gG z.J cut)=[aC z.J ⟨cut,2⟩]:=fun h6 h8=>by rw[gG,if_pos oM,SC (.inl h8)]
 apply Cl
 case h =>
  intro tail;by_cases h6:0<=aC z.J ⟨cut,6⟩
  ·obtain⟨FD,e6⟩:=w6 h6;have a6:=KT z ⟨cut,6⟩ _ V hf pQ sP h6 FD;have Hn:((bR z.J ([aC z.J ⟨cut,2⟩]++[aC z.J ⟨cut,6⟩])).map Signed.enc).length=2:=by
    obtain⟨y,hy,-⟩:=pW h6;simp[bR,hs,hy]
   with_reducible refine aX (a6) ?_
   refine gC ?_;refine aP (by rw[SE,Hn];decide) ?_;refine gC ?_;refine I.forget (rg 0 55) [] [(1,.d (.str cut)),(2,.ptr 0 0),(4,.ptr 1 0),(5,.own 2 7),(6,.d (.sl (s.set.data.map Datum.enc))),(8,.d (.int .i64 0))] [(2,.arr 7 (77,5) ((bR z.J (dx [aC z.J ⟨cut,2⟩] (gG z.J cut))).map Signed.enc))] ?_ ?_
   ·rw[e6];exact sZ
   (conv=>whnf);exact tail
  have a6:=KU z ⟨cut,6⟩ _ V hf pQ sP (.inl h6)
  with_reducible refine aX (a6) ?_
  refine gC ?_;refine aN sP (gC ?_);by_cases h8:0<=aC z.J ⟨cut,8⟩
  ·obtain⟨FE,e6⟩:=w8 h6 h8;have a8:=KT z ⟨cut,8⟩ _ V hf pQ sP h8 FE
   with_reducible refine aX (a8) ?_
   refine gC ?_;refine I.forget (rg 0 55) [] [(1,.d (.str cut)),(2,.ptr 0 0),(4,.ptr 1 0),(5,.own 2 7),(6,.d (.sl (s.set.data.map Datum.enc))),(8,.d (.int .i64 0))] [(2,.arr 7 (77,5) ((bR z.J (dx [aC z.J ⟨cut,2⟩] (gG z.J cut))).map Signed.enc))] ?_ ?_
   ·rw[e6];exact sZ
   (conv=>whnf);exact tail
  ·have e6:=w0 h6 h8;have a8:=KU z ⟨cut,8⟩ _ V hf pQ sP (.inl h8)
   with_reducible refine aX (a8) ?_
   refine gC ?_;refine I.forget (rg 0 55) [] [(1,.d (.str cut)),(2,.ptr 0 0),(4,.ptr 1 0),(5,.own 2 7),(6,.d (.sl (s.set.data.map Datum.enc))),(8,.d (.int .i64 0))] [(2,.arr 7 (77,5) ((bR z.J (dx [aC z.J ⟨cut,2⟩] (gG z.J cut))).map Signed.enc))] ?_ ?_
   ·rw[e6];exact sZ
   (conv=>whnf);exact tail
 refine I.lP s.set.data.length ([5,8]++rg 31 21) (fun k=>[(8,.d (.int .i64 k)),(5,.own 2 7)]) (fun k=>[(2,.arr 7 (77,5) ((bR z.J (cd (aC z.J ⟨cut,2⟩::gG z.J cut::eQ z.J cut (s.set.data.take k)))).map Signed.enc))]) (fun k=>k<=s.set.data.length) (Nat.zero_le _) ?_ ?_
 ·rw[ki];exact sZ
 intro k hk IH;have hL:=hlen (s.set.data.take k) (by rw[ah1];omega);have hP:=fF _ (hsr (s.set.data.take k));refine zA ?_ ?_<;>intro h5
 ·have o8:k<s.set.data.length:=zD h5
  obtain⟨d,hd⟩:=aI o8;have eb:=aef (l:=z.J) (c:=cut) (a:=aC z.J ⟨cut,2⟩) (b:=gG z.J cut) hd;have hv:=iY d (aiQ hd);have c2:=rN d.text cut (by have:=dh hv;omega) (by have:=dh hc;omega);generalize cd (aC z.J ⟨cut,2⟩::gG z.J cut::eQ z.J cut (s.set.data.take k))=ps at hL hP eb ⊢;refine gC ?_;refine eM hd (gC ?_);refine ao (c2) (gC ?_);cases hu:Nm.under d.text cut
  ·rw[hu,if_neg dC]at eb;refine vF ?_;refine I.back (IH (k+1) oM oM) ?_;rw[eb];exact sZ
  ·rw[hu,if_pos rfl]at eb;refine vT ?_;obtain⟨g,hg,a1⟩:=aee z ⟨d.text,1⟩ ps V hf hP oM;rcases hg with rfl|rfl;all_goals
    refine dU ?_;refine eM hd (gD ?_);refine wS (a1) (gD ?_);refine And.intro (by kernel_rfl) ?_;(conv=>whnf);refine gC ?_;refine I.back (IH (k+1) oM oM) ?_;rw[eb];exact sZ
 ·have aA:s.set.data.length<=k:=zD h5
  rw[ajq aA];refine gC ?_;rfl
theorem aei(z:aK)(n:Text)(L:List Signed):su z n L=0\/su z n L=1:=by
 unfold su oq;split
 ·split
  ·split
   ·exact .inr rfl
   ·exact .inl rfl
  ·exact .inl rfl
 ·exact .inl rfl
theorem FF(z:aK)(n:Text)(ps:List Int)(V:gq z)(hf:z.gY)(hn:Nm.valid n=true)(hp:oh z.J ps)(hl:ps.length<=1000):∃ g,(g=0\/g=1)/\au E 306 [.arr 0 (77,5) ((bR z.J ps).map Signed.enc)] [.own 0 0,.d z.enc,.d (.str n)] (fun a b=>a=.own 0 g/\b=[.arr g (77,5) ((bR z.J (dx ps (cM z.J n))).map Signed.enc)]):=by
 refine⟨_,aei z n (bR z.J ps),?_⟩;have c:=ad9 z n (bR z.J ps) V hf hn (by have:=Fh (l:=z.J) (ps:=ps);omega);rw[aed V.sorted hp]at c;exact c
theorem SF{l:List Signed}{q:bp}{s:Signed}(hs:l[(aC l q).toNat]?=some s):[s.enc]=(bR l [aC l q]).map Signed.enc:=by simp[bR,hs]
theorem FG{l:List Signed}{q:bp}(h:0<=aC l q):oh l [aC l q]:=fun p hp=>by simp at hp;subst hp;exact⟨h,hU.2⟩
theorem CD{a b:Int}(h:0<=a):cd [a,b]=dx [a] b:=by
 show cd ([a]++[b])=_;rw[Cu,Fp h]
theorem aej{a b c:Int}(h:0<=a):cd [a,b,c]=dx (dx [a] b) c:=by
 show cd ([a,b]++[c])=_;rw[Cu,CD h]
theorem aek{ps:List Int}{p:Int}:(dx ps p).length<=ps.length+1:=by
 unfold dx;split<;>simp
theorem xU(z:aK)(q:bp)(hf:z.gY)(h:0<=aC z.J q):au E 305 [] [.d .aF,.d z.enc,.d (.str q.name),.d (.int .i64 q.type)] (fun a b=>a=.own 0 1/\b=[.arr 1 (77,5) ((bR z.J [aC z.J q]).map Signed.enc),.cells [.d (.str z.af),.d (tj z.J)]]):=by
 obtain⟨s,hs,-⟩:=pW h;have:=SB z q hf h hs;rw[SF hs]at this;exact this
theorem zY{l:List Signed}{q:bp}(h:0<=aC l q):((bR l [aC l q]).map Signed.enc).length=1:=by
 obtain⟨s,hs,-⟩:=pW h;rw[<- SF hs];rfl
theorem ael(l:List Signed):∀ (k:Nat) (n:Text),(Nm.labels n).length<=k->Nm.valid n=true->Nm.valid (si l n)=true/\Nm.labels (si l n)=lX l (Nm.labels n):=by
 intro k
 induction k with
 |zero =>
  intro n hk hv;have e:=List.eq_nil_of_length_eq_zero (Nat.le_zero.1 hk);rw[si,e];exact⟨(by decide:Nm.valid [46]=true),(by decide:Nm.labels [46]=[])⟩
 |succ k ih =>
  intro n hk hv;by_cases hr:n=[46]
  ·subst hr;have e:si l [46]=[46]:=rfl;rw[e];exact⟨by decide,rfl⟩
  cases h:iK l n
  ·obtain⟨t1,t2⟩:=tZ hv hr;have db:=List.length_pos_iff.2 (Ko hr);have:=ih (gS (Nm.labels n).tail) (by rw[t2,List.length_tail];omega) t1;rw[si,t2]at this;rw[si,Ku h];exact this
  ·rw[si,Kt h,xN];exact⟨hv,rfl⟩
theorem aem(z:aK)(q:bp)(hf:z.Fits)(hn:q.name.length<=maxLen):aq E 250 [z.enc,q.enc] (· = .aG [Fm (iT z q),.int .i64 (jC z q)]):=by
 have c0:=EA z hf;have cq:=Cn q hn;by_cases hq:dN z=true/\eD q=true
 case neg =>
  have h1:jC z q=1:=by
   rw[jC];cases h1:dN z<;>cases h2:eD q<;>simp_all
  rw[iT,h1,if_neg dC];refine eP F250.h ?_;refine ao (c0) (gC ?_);refine ao (cq) (gC ?_);cases h2:dN z
  ·repeat' (first|with_reducible(first|refine cX ?_|apply ah<;>intro)|refine gE ?_|with_reducible rfl)
   all_goals rfl
  ·have h3:eD q=false:=by simpa [h2]using hq
   rw[h3];repeat' (first|with_reducible(first|refine cX ?_|apply ah<;>intro)|refine gE ?_|with_reducible rfl)
   all_goals rfl
 obtain⟨h2,h3⟩:=hq;have hN:jC z q=0:=by simp[jC,h2,h3]
 have V:=Ki h2;have hS:=Jw h2;simp only[eD,ai2,decide_eq_true_eq]at h3;obtain⟨h4,h5,h6⟩:=h3;have h3:eD q=true:=by simp[eD,h4,h5,h6]
 rw[iT,hN,if_pos rfl];rw[h2]at c0;rw[h3]at cq;have jl:=dh h4;have rT:=dh V.af;have ci:=rN q.name z.af oM oM;refine eP F250.h ?_;refine ao (c0) (gC ?_);refine ao (cq) (gC ?_);refine vF ?_;refine vF ?_;refine ao (ci) (gC ?_);cases hu:Nm.under q.name z.af
 ·have e:mB z q=⟨7,[],[]⟩:=by rw[mB,hu];rfl
  rw[e];refine vT ?_;rfl
 refine vF ?_;have cc:=acJ z q.name V h4;by_cases pH:∃ c,jh z q.name=some c/\¬ (q.name=c/\(q.type=6\/q.type=8))
 ·obtain⟨c,hc,iY⟩:=pH;obtain⟨v1,v2⟩:=RP V hc;have SG:c≠[]:=fun e=>by rw[e]at v1;exact absurd v1 dC
  have e:mB z q=⟨4,bR z.J (kD z.J c),c⟩:=by rw[mB,if_pos hu,hc];simp only[if_neg iY]
  have cr:=aeg z c V hS v1 v2;rw[e];rw[hc]at cc;simp only[ah8]at cc;refine ao (cc) (gC ?_);by_cases t6:q.type=6
  ·refine aN (zD t6) (gC ?_);refine aN (zD SG) (gC ?_);refine aN (by simp;exact fun e=>iY ⟨e.symm,.inl t6⟩) ?_;refine gC ?_;refine vT ?_;refine ao (cr) (gC ?_);rfl
  ·refine aP (zD t6) (gC ?_);refine aN (zD SG) (gC ?_);by_cases dG:c=q.name
   ·refine aP (zD dG) (gC ?_);refine aN (by simp;exact fun t8=>iY ⟨dG.symm,.inr t8⟩) ?_;refine gC ?_;refine ao (cr) (gC ?_);rfl
   ·refine aN (zD dG) (gC ?_);refine vT ?_;refine ao (cr) (gC ?_);rfl
 have e:mB z q=kE z q:=by
  rw[mB,if_pos hu];cases hc:jh z q.name with
  |none=>rfl
  |some c =>
   simp only;rw[if_pos];exact Classical.not_not.1 fun h=>pH ⟨c,hc,h⟩
 rw[e];have bc:(jh z q.name=none/\q.type=6)\/(jh z q.name=none/\q.type≠6)\/(jh z q.name=some q.name/\q.type=6)\/(jh z q.name=some q.name/\q.type=8):=by
  cases hc:jh z q.name with
  |none=>by_cases t:q.type=6<;>simp[t]
  |some c =>
   have:=Classical.not_not.1 fun h=>pH ⟨c,hc,h⟩;obtain⟨rfl,t|t⟩:=this
   ·simp[t]
   ·simp[t]
 clear pH e;have SH:q.name≠[]:=fun e=>by rw[e]at h4;exact absurd h4 dC
 apply Cl
 case h =>
  intro tail;rcases bc with⟨hc,t6⟩|⟨hc,t6⟩|⟨hc,t6⟩|⟨hc,t8⟩
  ·rw[hc]at cc;simp only[aiZ]at cc;refine ao (cc) (gC ?_);refine aN (zD t6) (gC ?_);refine aP dC (gC ?_);refine aU ?_;(conv=>whnf);refine I.forget (rg 0 152) [] [(2,.ptr 0 0),(3,.ptr 1 0),(4,.ptr 2 0)] [] ?_ ?_
   ·exact sZ
   (conv=>whnf);exact tail
  ·skip;rw[hc]at cc;simp only[aiZ]at cc;refine ao (cc) (gC ?_);refine aP (zD t6) (gC ?_);refine aP dC (gC ?_);refine aU ?_;(conv=>whnf);refine I.forget (rg 0 152) [] [(2,.ptr 0 0),(3,.ptr 1 0),(4,.ptr 2 0)] [] ?_ ?_
   ·exact sZ
   (conv=>whnf);exact tail
  ·skip;rw[hc]at cc;simp only[ah8]at cc;refine ao (cc) (gC ?_);refine aN (zD t6) (gC ?_);refine aN (zD SH) (gC ?_);refine aP sP (gC ?_);refine aU ?_;(conv=>whnf);refine I.forget (rg 0 152) [] [(2,.ptr 0 0),(3,.ptr 1 0),(4,.ptr 2 0)] [] ?_ ?_
   ·exact sZ
   (conv=>whnf);exact tail
  ·skip;rw[hc]at cc;simp only[ah8]at cc;refine ao (cc) (gC ?_);refine aP (by simp[t8]) (gC ?_);refine aN (zD SH) (gC ?_);refine aP sP (gC ?_);refine aP (by simp[t8]) ?_;(conv=>whnf);refine I.forget (rg 0 152) [] [(2,.ptr 0 0),(3,.ptr 1 0),(4,.ptr 2 0)] [] ?_ ?_
   ·exact sZ
   (conv=>whnf);exact tail
 refine gC ?_;by_cases d1:0<=aC z.J q
 ·have a:=xU z q hS d1;have hl:=zY d1;refine lC (a) rfl (gC ?_);refine aN (by rw[hl];decide) ?_;refine gC ?_;rw[kE,if_pos d1];rfl
 have a1:=FC z q hS d1;refine lC (a1) rfl (gC ?_);refine aP dC (gC ?_);by_cases d2:0<=aC z.J ⟨q.name,3⟩/\q.type≠8
 ·have a:=xU z ⟨q.name,3⟩ hS d2.1;have hl:=zY d2.1;simp only at a;refine lC (a) rfl (gC ?_);refine aN (by rw[hl];decide) ?_;refine gC ?_;refine aN (zD d2.2) (gC ?_);rw[kE,if_neg d1,if_pos d2];rfl
 apply Cl
 case h =>
  intro tail;by_cases d3:0<=aC z.J ⟨q.name,3⟩
  ·have t8:q.type=8:=Classical.not_not.1 fun h=>d2 ⟨d3,h⟩;have a:=xU z ⟨q.name,3⟩ hS d3;have hl:=zY d3;simp only at a;refine lC (a) rfl (gC ?_);refine aN (by rw[hl];decide) ?_;refine gC ?_;refine aP (by simp[t8]) ?_;(conv=>whnf);refine I.forget (rg 0 152) [] [(2,.ptr 0 0),(3,.ptr 1 0),(4,.ptr 2 0)] [(3,.gone),(4,.gone),(5,.gone),(6,.gone)] ?_ ?_
   ·exact sZ
   (conv=>whnf);exact tail
  ·have a:=FC z ⟨q.name,3⟩ hS d3;simp only at a;refine lC (a) rfl (gC ?_);refine aP dC (gC ?_);refine aU ?_;(conv=>whnf);refine I.forget (rg 0 152) [] [(2,.ptr 0 0),(3,.ptr 1 0),(4,.ptr 2 0)] [(3,.gone),(4,.gone),(5,.gone),(6,.gone)] ?_ ?_
   ·exact sZ
   (conv=>whnf);exact tail
 have a4:=xU z ⟨z.af,4⟩ hS V.start;obtain⟨g,hg,c4⟩:=FF z q.name [aC z.J ⟨z.af,4⟩] V hS h4 (FG V.start) sP;simp only at a4;refine gC ?_;apply Cl
 case h =>
  intro tail;rcases hg with rfl|rfl;all_goals
   refine dU ?_;refine Ny (a4) rfl (gD ?_);refine wS (c4) (gD ?_);refine And.intro (by kernel_rfl) ?_;(conv=>whnf);(conv=>whnf);refine I.forget (rg 0 152) [] [(2,.ptr 0 0),(3,.ptr 1 0),(4,.ptr 2 0),(11,.own 7 7)] [(7,.arr 7 (77,5) ((bR z.J (dx [aC z.J ⟨z.af,4⟩] (cM z.J q.name))).map Signed.enc)),(8,.gone)] ?_ ?_
   ·exact sZ
   (conv=>whnf);exact tail
 refine gC ?_;have c5:=Kx z q.name V h4;refine ao (c5) (gC ?_);cases he:iK z.J q.name
 case true =>
  refine vT ?_;rw[kE,if_neg d1,if_neg d2,if_pos he,CD V.start];rfl
 refine vF ?_;have c6:=acL z q.name V h4 hu;obtain⟨rf,dR⟩:=ael z.J _ q.name (Nat.le_refl _) h4;have c7:=acN (si z.J q.name) rf;rw[dR]at c7;change aq E _ _ (· = match sj z.J q.name with|some t => .aG [.str t,.bool true]|none => .aG [.str [],.bool false])at c7;refine ao (c6) (gC ?_);cases hw:sj z.J q.name with
 |none =>
  rw[hw]at c7;refine ao (c7) (gC ?_);refine vT ?_;rw[kE,if_neg d1,if_neg d2,if_neg (by simp[he]),hw,CD V.start];rfl
 |some w =>
  rw[hw]at c7;have qT:=RR hw;have hA:kE z q=if 0<=aC z.J ⟨w,q.type⟩then⟨2,bR z.J (cd [aC z.J ⟨w,q.type⟩,cM z.J q.name]),[]⟩
    else if 0<=aC z.J ⟨w,3⟩/\q.type≠8 then⟨3,bR z.J (cd [aC z.J ⟨w,3⟩,cM z.J q.name]),[]⟩
    else if iK z.J w then⟨5,bR z.J (cd [aC z.J ⟨z.af,4⟩,cM z.J q.name,cM z.J w]),[]⟩
    else⟨6,bR z.J (cd [aC z.J ⟨z.af,4⟩,cM z.J q.name,cM z.J w]),[]⟩:=by
   rw[kE,if_neg d1,if_neg d2,if_neg (by simp[he]),hw]
  rw[hA];refine ao (c7) (gC ?_);refine vF ?_;by_cases d4:0<=aC z.J ⟨w,q.type⟩
  ·have a:=xU z ⟨w,q.type⟩ hS d4;have hl:=zY d4;simp only at a;rw[if_pos d4,CD d4];obtain⟨g,hg,c8⟩:=FF z q.name [aC z.J ⟨w,q.type⟩] V hS h4 (FG d4) sP;refine lC (a) rfl (gC ?_);refine aN (by rw[hl];decide) ?_;refine gC ?_;rcases hg with rfl|rfl;all_goals
    with_reducible refine aX (c8) ?_
    refine gC ?_;rfl
  rw[if_neg d4];have a:=FC z ⟨w,q.type⟩ hS d4;simp only at a;refine lC (a) rfl (gC ?_);refine aP dC (gC ?_);by_cases d5:0<=aC z.J ⟨w,3⟩/\q.type≠8
  ·have a:=xU z ⟨w,3⟩ hS d5.1;have hl:=zY d5.1;simp only at a;rw[if_pos d5,CD d5.1];obtain⟨g,hg,c8⟩:=FF z q.name [aC z.J ⟨w,3⟩] V hS h4 (FG d5.1) sP;refine lC (a) rfl (gC ?_);refine aN (by rw[hl];decide) ?_;refine gC ?_;refine aN (zD d5.2) (gC ?_);rcases hg with rfl|rfl;all_goals
    with_reducible refine aX (c8) ?_
    refine gC ?_;rfl
  rw[if_neg d5];apply Cl
  case h =>
   intro tail;by_cases d3:0<=aC z.J ⟨w,3⟩
   ·have t8:q.type=8:=Classical.not_not.1 fun h=>d5 ⟨d3,h⟩;have a:=xU z ⟨w,3⟩ hS d3;have hl:=zY d3;simp only at a;refine lC (a) rfl (gC ?_);refine aN (by rw[hl];decide) ?_;refine gC ?_;refine aP (by simp[t8]) ?_;(conv=>whnf);refine I.forget (rg 0 152) [] [(2,.ptr 0 0),(3,.ptr 1 0),(4,.ptr 2 0),(11,.own 7 7),(12,.d (.str w))] [(9,.gone),(10,.gone),(11,.gone),(12,.gone)] ?_ ?_
    ·exact sZ
    (conv=>whnf);exact tail
   ·have a:=FC z ⟨w,3⟩ hS d3;simp only at a;refine lC (a) rfl (gC ?_);refine aP dC (gC ?_);refine aU ?_;(conv=>whnf);refine I.forget (rg 0 152) [] [(2,.ptr 0 0),(3,.ptr 1 0),(4,.ptr 2 0),(11,.own 7 7),(12,.d (.str w))] [(9,.gone),(10,.gone),(11,.gone),(12,.gone)] ?_ ?_
    ·exact sZ
    (conv=>whnf);exact tail
  refine gC ?_;obtain⟨g,hg,c8⟩:=FF z w (dx [aC z.J ⟨z.af,4⟩] (cM z.J q.name)) V hS qT ((FG V.start).add vI.2) (by have:=aek (ps:=[aC z.J ⟨z.af,4⟩]) (p:=cM z.J q.name);simp at this;omega);have c9:=Kx z w V qT;rw[aej V.start];rcases hg with rfl|rfl;all_goals
   with_reducible refine aX (c8) ?_
   refine gC ?_;refine ao (c9) (gC ?_);cases QL:iK z.J w
   ·refine vF ?_;rfl
   ·refine vT ?_;rfl
end Go.Proofs.YtlhehdgciafakaaGreatDoor.P
end
section
namespace Go.az
open Go Go.RowKit
theorem aq.afR{E:Env}{f:FuncId}{ds:List DV}{h:List ae}{cs:List AV}{r:DV}(H:aq E f [.agg ds] (· = r))(hd:rD h cs=some ds)(hr:DL r=true)(hg:wP cs=true)(nE:qv h=true):au E f h [.agg cs] (fun a b=>a=.d r/\b=h):=by
 unfold aq at H;unfold au;refine⟨H.1,kR nE,fun c vs h1 h2 h3=>?_⟩;subst h1;have ik:uz E.G c.aD c.w:=fun g e aA=>by
  have hp:∀ p,VR c (.bT e 0) p->VR ⟨fun _=>none,[],c.aD,c.w⟩ (.bT e 0) p:=fun p hp=>by
   cases hp with
   |bT _ _ blk o' fv k1 k2 k3 k4=>exact .bT _ _ blk o' fv (fun hb=>k1 (.inl (wj.1 hb))) k2 k3 (fun j x hx=>wk ((k4 j x hx).mono fun b _ hn=>⟨fun hb=>hn (.inl hb),rfl⟩))
  exact hp _ (h2.gI g e aA)
 have hv:kM c.aD c.w [.agg ds] vs:=by
  obtain⟨v,rfl⟩:∃ v,vs=[v]:=by
   have:=h3.1
   match vs,this with
   |[v],_=>exact⟨v,rfl⟩
  obtain⟨us,rfl,hu⟩:=qZ (h3.2 0 _ v rfl rfl);have:=DM h2 (kR nE) hd hg hu;refine⟨rfl,fun j x u hx hu=>?_⟩;cases j with
  |zero=>simp at hx hu;subst hx;subst hu;exact .agg _ _ (zD this.1) fun j x v hx hv=>this.2 j x v hx (zD hv)
  |succ j=>simp at hx
 refine(H.2 c.aD c.w vs h2.bV ik hv).mono fun e w' ⟨v,r',k1,k2,k3,k4⟩=>?_;subst k2;obtain⟨q1,q2⟩:=h2.grow k4;exact⟨c.fe w',.d r',v,k1,rfl,⟨rfl,rfl⟩,.d _ _ (No hr k3),q1,(Rel.refl c (kR nE)).step q2⟩
theorem afS{E:Env}{s:List AV}{h:List ae}(hE:E.OK){args:Array Operand}{wx:Array TypeId}{x y:Operand}{t0 t1 e e1:Nat}{i0 i1 ei:bA}{m:List DV}(hx:args.toList=[x,y])(De:wx.toList=[t0,t1])(mO:E.T[t0]?=some i0)(yC:E.T[t1]?=some i1)(cb:i0.k=.slice e)(dB:i1.k=.slice e1)(b9:E.T[e]?=some ei)
  (hz:ei.zero.length=ei.size) (db:Nat.blt 0 ei.size=true) (sM:Nat.ble ei.bytes 65536=true) (ha:bk E.G s x (.d .aF)) (hy:bk E.G s y (.d (.sl m))) (hm:∀ e∈m,e.cells.length=ei.size) (uC:m.length<=2147483648) :
  bE E (.call { callee := .builtin .append,args:=args,argTypes:=wx }) s h (.d (.sl m)) (h++[.gone]):=fun o c ac h1 h2 h3 h4=>by
 have TA:=jO db;have ho:=L8 (h:=h) hE hx De mO yC cb (fun k e=>by rw[dB]at e;cases e) b9 hz TA (Nat.le_of_ble_eq_true sM) hy hm (fun c v hv=>by cases hv with|d _ _ hv=>exact L3 TA hm hv) ha (r := .own h.length 1) (h':=h++[.arr 1 (e,ei.size) m]) (.inr ⟨rfl,uC,rfl,rfl⟩);obtain⟨c1,v,k1,k2,k3,k4,k5⟩:=ho o c ac h1 h2 h3 h4;obtain⟨c2,j1,j2,j3,j4,j5⟩:=k3.rest (b:=h.length) (g:=1) (ts:=(e,ei.size)) (l:=m) (by rw[k2];simp);exact⟨c2,v,by rw[j2];exact k1,by rw[j1,k2];simp,j3,j5 v k4,k5.trans j4⟩
end Go.az
end
