/- Lemmas of mine. Conditions: as stated. -/
import Derived.Test.YtlhehdgciafakaaGreatDoorQ19
import Derived.Test.YtlhehdgciafakaaGreatDoorQ20
set_option linter.unusedVariables false
set_option linter.unusedSimpArgs false
open Bool renaming false_eq_true->ah0,eq_iff_iff->akN,and_false->ale,false_and->ald
open List renaming range->ais,mem_of_getElem?->aiQ,length_filter_le->al0,append_nil->aj0,map_append->aih,mem_append->aif,take_of_length_le->ajq,filter_append->alZ,length_singleton->aj4,length_cons->ahN,nodup_nil->ajd,length_map->aiO,take_length->akR
open Nat renaming zero_le->ai4,le_trans->aic
section
namespace Go.Proofs.YtlhehdgciafakaaGreatDoor.P
open Go Go.az
set_option maxRecDepth 100000
set_option maxHeartbeats 4000000
theorem abf(x y:Signed)(h1:x.set.data.length<=2147483648)(h2:x.sigs.length<=2147483648):aq E 88 [x.enc,y.enc] (· = .bool (decide (x=y))):=by
 obtain⟨⟨a1,a2,a3,a4⟩,a5⟩:=x;obtain⟨⟨b1,b2,b3,b4⟩,b5⟩:=y;simp only at h1 h2;have c1:=aaH a4 b4 h1;have c2:=aaI a5 b5 h2;show aq E _ [DV.agg [.str a1,.int .i64 a2,.int .i64 a3,.sl (a4.map Datum.enc),.sl (a5.map dE.enc)],DV.agg [.str b1,.int .i64 b2,.int .i64 b3,.sl (b4.map Datum.enc),.sl (b5.map dE.enc)]] _;refine eP Tryz.func88 ?_;repeat' (first|with_reducible(first|refine cC c1 ?_|refine cC c2 ?_|refine cX ?_|apply ah<;>intro)|refine gA Tryz.func88 ?_|refine gB ?_|with_reducible rfl)
 all_goals
  refine congrArg DV.bool ?_;rw[akN];simp_all
theorem abg(a b:List Signed)(hl:a.length<=2147483648)(he:∀ s∈a,s.set.data.length<=2147483648/\s.sigs.length<=2147483648):au E 87 [] [.d (.sl (a.map Signed.enc)),.d (.sl (b.map Signed.enc)),.fn (.func 88) [] []] (fun x y=>x=.d (.bool (decide (a=b)))/\y=[]):=by
 apply au.kA
 case hk=>rfl
 refine aE ?_;apply ah<;>intro h3
 ·have aL:a≠b:=by rintro rfl;simp at h3
  rw[decide_eq_false aL];refine gC ?_;exact⟨rfl,rfl⟩
 have po:a.length=b.length:=by simp at h3;omega
 refine gC ?_;refine I.lP a.length (rg 6 4++rg 17 15) (fun k=>[(17,.d (.int .i64 k))]) (fun _=>[]) (fun k=>k<=a.length/\a.take k=b.take k) ⟨ai4 _,rfl⟩ ?_ ?_
 ·exact sZ
 intro k hk IH;refine zA ?_ ?_<;>intro h7
 ·have ai:k<a.length:=zD h7
  obtain⟨u,hu⟩:=aI ai;obtain⟨w,hw⟩:=aI (l:=b) (k:=k) oM;have Ct:=he u (aiQ hu);have c1:=abf u w Ct.1 Ct.2;refine gC ?_;refine eM hu (gC ?_);refine eM hw (gC ?_);refine ao (c1) (gC ?_);by_cases h8:u=w
  ·rw[decide_eq_true h8];refine vF ?_;exact I.back (IH (k+1) ⟨by omega,tD hk.2 hu hw h8⟩ oM) sZ
  ·rw[decide_eq_false h8];refine vT ?_;rw[decide_eq_false (pP hu hw h8)];exact⟨rfl,rfl⟩
 ·have aA:k=a.length:=by simp at h7;omega
  have xG:a=b:=tE hk.2 oM oM;refine gC ?_;exact⟨by simp[xG],rfl⟩
theorem abh(a b:dJ)(hl:a.J.length<=2147483648)(he:∀ s∈a.J,s.set.data.length<=2147483648/\s.sigs.length<=2147483648):aq E 31 [a.enc,b.enc] (· = .bool (decide (a=b))):=by
 have c1:=abg a.J b.J hl he;obtain⟨a1,a2,a3⟩:=a;obtain⟨b1,b2,b3⟩:=b;simp only at c1;show aq E _ [DV.agg [.int .i64 a1,.sl (a2.map Signed.enc),.str a3],DV.agg [.int .i64 b1,.sl (b2.map Signed.enc),.str b3]] _;refine eP F31.h ?_;repeat' (first|with_reducible(first|refine cX ?_|apply ah<;>intro)|refine gE ?_|with_reducible rfl)
 all_goals try (refine congrArg DV.bool ?_;simp_all;done)
 refine lB c1 ?_;rintro r b ⟨rfl,rfl⟩;refine gC ?_;refine congrArg DV.bool ?_;rw[akN];simp_all
theorem Q7(a:dJ):aq E 28 [a.enc] (· = .bool (lV a)):=by
 obtain⟨a1,a2,a3⟩:=a;show aq E _ [DV.agg [.int .i64 a1,.sl (a2.map Signed.enc),.str a3]] _;unfold lV;refine eP Tryz.func28 ?_;repeat' (first|with_reducible(first|refine cX ?_|apply ah<;>intro)|refine gA Tryz.func28 ?_|refine gB ?_|with_reducible rfl)
 all_goals (refine congrArg DV.bool ?_;simp_all)
def jf(x:bZ):Bool:=eD x.q&&(o6 x.answer||lV x.answer)&&decide (0<=x.time)&&decide (x.time<=10000000)&&decide (1<=x.addr)&&decide (x.addr<=1000000)
theorem abi(x:bZ)(hf:x.cR):aq E 27 [x.enc] (· = .bool (jf x)):=by
 have c1:=iP x.q.name hf.1;have c2:=Q7 x.answer;have c3:=QW x.q x.answer hf.1 hf.2;obtain⟨t,ad,⟨qn,qt⟩,⟨ak,al,ac⟩⟩:=x;unfold J5 eD at c3;unfold jf eD;simp only at c1 c2 c3 ⊢;show aq E _ [DV.agg [.int .i64 t,.int .i64 ad,.str qn,.int .i64 qt,.int .i64 ak,.sl (al.map Signed.enc),.str ac]] _;refine eP Tryz.func27 ?_;repeat' (first|with_reducible(first|refine cC c1 ?_|refine cC c2 ?_|refine cC c3 ?_|refine cX ?_|apply ah<;>intro)|refine gA Tryz.func27 ?_|refine gB ?_|with_reducible rfl)
 all_goals (refine congrArg DV.bool ?_;simp_all;try omega)
theorem abj(l:List Int)(n:Int)(hl:l.length<=maxLen):aq E 18 [.sl (l.map (.int .i64)),.int .i64 n] (· = .bool (decide (n∈l))):=by
 unfold maxLen at hl;refine eP F18.h ?_;refine I.lP l.length (rg 4 14) (fun k=>[(5,.d (.int .i64 k))]) (fun _=>[]) (fun k=>k<=l.length/\n ∉ l.take k) ⟨ai4 _,by simp⟩ ?_ ?_
 ·exact sZ
 rintro k ⟨hk,bI⟩ IH;refine zA ?_ ?_<;>intro h5
 ·have ai:k<l.length:=zD h5
  obtain⟨x,hx⟩:=aI ai;refine gC ?_;refine aR (e := .int .i64 x) (bC hx) rfl (gC ?_);apply ah<;>intro h8
  ·have:n∈l:=by
    have e:x=n:=zD h8
    exact e ▸ aiQ hx
   refine gC ?_;simp[this]
  ·refine gC ?_;refine I.back (IH (k+1) ⟨by omega,by rw[cj hx];exact fun hm=>(aif.1 hm).elim bI fun h=>by simp at h;simp[h]at h8⟩ oM) ?_;exact sZ
 ·have aA:l.length<=k:=zD h5
  rw[ajq aA]at bI;refine gC ?_;simp[bI]
def od(f u:Int)(K:List Int)(t:Int):List Int:=if f<=t/\t<u then K++[t]else K
theorem J'(f u:Int)(K:List Int)(t:Int):au E 72 [.cells [.d (.int .i64 f)],.cells [.d (.int .i64 u)],.cells [.map 3],.map (eY (DV.int .i64) K)] [.d (.int .i64 t),.ptr 0 0,.ptr 1 0,.ptr 2 0] (fun a b=>a=.aG []/\b=[.cells [.d (.int .i64 f)],.cells [.d (.int .i64 u)],.cells [.map 3],.map (eY (DV.int .i64) (od f u K t))]):=by
 have jM:=abv (pU P6 K).1;unfold od;refine aE ?_;repeat' (first|with_reducible(first|refine cX ?_|apply ah<;>intro)|refine gE ?_|with_reducible rfl)
 all_goals try (refine⟨rfl,?_⟩;rw[if_neg (by simp_all;try omega)];done)
 refine bj ⟨⟨_,rfl⟩,jM⟩ (gC ?_);refine⟨rfl,?_⟩;rw[if_pos (by simp_all),vC]
theorem abx{α:Type}{f:α->DV}{l:List α}{i:Nat}{y:α}(h:l[i]?=some y)(z:DV):(((l.map f).take l.length).drop i).take 1++[z].drop (l.length-i)=[f y]:=by
 obtain⟨hi,rfl⟩:=List.getElem?_eq_some_iff.1 h;rw[ajq (l:=l.map f) (i:=l.length) sP,List.drop_eq_getElem_cons (zD hi),List.drop_of_length_le (l:=[z]) (by rw[aj4];omega)];simp
def iJ(i:Nat)(n:Text)(c:aT):Bool:=Nm.fZ n c.ar.af&&(c.host==i)
def xK(f u:Int)(K:List Int)(c:aT):List Int:=od f u (od f u K c.bQ) c.upto
def oe(f u:Int)(l:List aT):List Int:=l.foldl (xK f u) (od f u [] f)
theorem aby(h:bB)(i:Nat)(x:bZ)(y:Host)(hy:h.ay[i]?=some y)(hl:h.aw.length<=1000000)(hz:∀ c∈h.aw,c.ar.af.length<=maxLen)(hn:x.q.name.length<=maxLen)(ht:0<=x.time/\x.time<=10000000)(hd:0<=h.bq/\h.bq<=1000)(f u:Int)(uv:max (x.time-h.bq) 0=f)(Ct:min (x.time+h.bq+1) h.fin=u) :
  au E 29 [] [.d h.enc,.d (.int .i64 i),.d x.enc] (fun a b=>a=.fn (.func 74) [] [.ptr 8 0,.ptr 5 0,.ptr 0 0,.ptr 6 0]/\b=[.cells [.d (.sl (h.ay.map Host.enc)),.d (.sl (h.aw.map aT.enc)),.d (.str h.anchor.name),.d (.int .i64 h.anchor.type),.d (.int .i64 h.anchor.dD),.d (.sl (h.anchor.data.map Datum.enc)),.d (.sl (h.hints.map (.int .i64))),.d (.int .i64 h.bq),.d (.int .i64 h.fin)],.cells [.d (.int .i64 x.time),.d (.int .i64 x.addr),.d (.str x.q.name),.d (.int .i64 x.q.type),.d (.int .i64 x.answer.kind),.d (.sl (x.answer.J.map Signed.enc)),.d (.str x.answer.cut)],.cells [.d (.int .i64 f)],.cells [.d (.int .i64 u)],.gone,.cells [.d (.sl [y.enc])],.cells [.d (.sl ((h.aw.filter (iJ i x.q.name)).map aT.enc))],.map (eY (DV.int .i64) (oe f u (h.aw.filter (iJ i x.q.name)))),.cells [.map 7],.gone]):=by
 obtain⟨ay,aw,anchor,hints,bq,fin⟩:=h;obtain⟨t,ad,⟨qn,qt⟩,⟨ak,al,ac⟩⟩:=x;simp only at hy hl hz hn ht hd uv Ct;show au E _ [] [.d (HD ay aw anchor hints bq fin),_,.d (DV.agg [.int .i64 t,.int .i64 ad,.str qn,.int .i64 qt,.int .i64 ak,.sl (al.map Signed.enc),.str ac])] _;refine aE ?_;refine dU ?_;rw[wrap64 (n:=t-bq) oM oM];refine bU.pure rfl (fun _=>QQ (bg rfl) N3) ?_;rw[uv];refine gD ?_;rw[wrap64 (n:=t+bq) oM oM,wrap64 (n:=t+bq+1) oM oM];refine bU.pure rfl (fun _=>QR (bg rfl) (bg rfl)) ?_;rw[Ct];refine gD ?_;refine And.intro (by kernel_rfl) ?_;(conv=>whnf);refine gC ?_;refine bj ⟨by omega,by omega,by omega⟩ (gC ?_);refine dU ?_;refine bj ⟨by simp,by simp;exact Nat.le_of_lt (aW hy),by simp,by simp[DV.cells]⟩ ?_;refine gD ?_;refine gD ?_;refine bU.at rfl ?_;conv=>whnf
 refine ml.aaC ag [y.enc] rfl (bg rfl) (bg rfl) rfl rfl rfl rfl rfl sP (fun z hz=>by
  obtain⟨u,_,rfl⟩:=List.mem_map.1 (List.mem_of_mem_take (List.mem_of_mem_drop hz))
  rfl) ?_ ?_
 ·simpa using abx (f:=Host.enc) hy (.agg [.str [],.int .i64 0,.int .i64 0])
 refine gD ?_;refine And.intro (by kernel_rfl) ?_;(conv=>whnf);refine gC ?_;refine gC ?_;have c1:=J' f u [] f;rw[show eY (DV.int .i64) ([]:List Int)=[]from rfl]at c1
 with_reducible refine aX (c1) ?_
 refine gC ?_;refine I.freeze 4 ?_;(conv=>whnf);refine I.qA 6 0 (72,5) dC rfl rfl (gC ?_);refine I.lP aw.length ([14,15,16]++rg 47 34) (fun k=>[(47,.d (.int .i64 k))]) (fun k=>[(6,.cells [.own 9 1]),(7,.map (eY (DV.int .i64) (oe f u ((aw.take k).filter (iJ i qn))))),(9,.arr 1 (72,5) (((aw.take k).filter (iJ i qn)).map aT.enc))]) (fun k=>k<=aw.length) (ai4 _) ?_ ?_
 ·refine sY ?_
  refine⟨rfl, ?_⟩;refine sY ?_
  refine⟨rfl, ?_⟩;exact sZ
 intro k hk IH;refine zA ?_ ?_<;>intro h5
 ·have ai:k<aw.length:=zD h5
  obtain⟨c,hc⟩:=aI ai;have c2:=xi qn c.ar.af hn (hz c (aiQ hc));have eb:(aw.take (k+1)).filter (iJ i qn)=(aw.take k).filter (iJ i qn)++(if iJ i qn c then[c]else[]):=by
   rw[cj hc,alZ];cases h:iJ i qn c<;>simp[h]
  have Qe:((aw.take k).filter (iJ i qn)).length<=k:=aic (al0 ..) (by simp;omega);generalize (aw.take k).filter (iJ i qn)=L at *;have c3:=J' f u (oe f u L) c.bQ;have c4:=J' f u (od f u (oe f u L) c.bQ) c.upto;refine gC ?_;refine eM hc (gC ?_);refine ao (c2) (gC ?_);cases hv:Nm.fZ qn c.ar.af
  ·refine vF ?_;refine vF ?_;refine I.back (IH (k+1) oM oM) ?_;rw[eb,show iJ i qn c=false by simp[iJ,hv]];simp only[ah0,if_false,aj0];exact sZ
  refine vT ?_;apply ah<;>intro h6
  ·refine gC ?_;refine nA (gC ?_)
   with_reducible refine aX (c3) ?_
   refine gC ?_
   with_reducible refine aX (c4) ?_
   refine gC ?_;refine I.back (IH (k+1) oM oM) ?_;rw[eb,show iJ i qn c=true by simp[iJ,hv,h6],if_pos rfl,show oe f u (L++[c])=od f u (od f u (oe f u L) c.bQ) c.upto by simp[oe,xK],aih];refine sY ?_
   refine⟨rfl, ?_⟩;exact sZ
  ·refine gC ?_;refine I.back (IH (k+1) oM oM) ?_;rw[eb,show iJ i qn c=false by simp[iJ,h6]];simp only[ah0,if_false,aj0];exact sZ
 ·have aA:aw.length<=k:=zD h5
  rw[ajq aA];refine I.freeze 9 ?_;(conv=>whnf);refine gC ?_;exact⟨rfl,rfl⟩
end Go.Proofs.YtlhehdgciafakaaGreatDoor.P
end
section
namespace Go.Proofs.YtlhehdgciafakaaGreatDoor.P
open Go Go.az Go.Sort
set_option maxRecDepth 100000
set_option maxHeartbeats 400000
def og(t:Int)(c:aT):Bool:=decide (c.bQ<=t)&&decide (t<c.upto)
def gy(l:List aT)(t:Int):List aH:=(l.filter (og t)).map fun c=>⟨0,c.ar⟩
def ix(h:bB)(x:bZ):Int:=max (x.time-h.bq) 0
def lg(h:bB)(x:bZ):Int:=min (x.time+h.bq+1) h.fin
def hI(h:bB)(x:bZ)(i:Nat):List aT:=h.aw.filter (iJ i x.q.name)
def lh(h:bB)(x:bZ)(i:Nat):List Int:=iw (er [] (oe (ix h x) (lg h x) (hI h x i)))
def jg(ask:Nat->Int->dJ × Int)(h:bB)(x:bZ)(i:Nat):Bool:=(lh h x i).any fun t=>(ask i t).2==0&&decide ((ask i t).1=x.answer)
def qR(h:bB)(x:bZ):Int:=if ec h&&jf x then 0 else 1
def kB(ask:Nat->Int->dJ × Int)(h:bB)(x:bZ):List Int:=if ec h&&jf x && !lV x.answer then((ais h.ay.length).filter (jg ask h x)).map fun(i:Nat)=>(i:Int)else[]
theorem abz{h:bB}{x:bZ}{i:Nat}:(hI h x i).length<=h.aw.length:=al0 ..
theorem Ka{f u t:Int}{K:List Int}:(od f u K t).length<=K.length+1:=by
 unfold od;split<;>simp
theorem Rf{f u:Int}:∀ {l:List aT} {K:List Int},(l.foldl (xK f u) K).length<=K.length+2*l.length
 |[],_=>by simp
 |c::l,K=>by
  rw[List.foldl_cons,ahN];have h1:=Rf (f:=f) (u:=u) (l:=l) (K:=xK f u K c);have h2:=Ka (f:=f) (u:=u) (t:=c.upto) (K:=od f u K c.bQ);have h3:=Ka (f:=f) (u:=u) (t:=c.bQ) (K:=K);unfold xK at h1 ⊢;omega
theorem abA{f u:Int}{l:List aT}:(oe f u l).length<=1+2*l.length:=by
 have h1:=Rf (f:=f) (u:=u) (l:=l) (K:=od f u [] f);have h2:=Ka (f:=f) (u:=u) (t:=f) (K:=[]);unfold oe;simp at h2;omega
theorem abB{a b:List Int}(h:a.Perm b):iw a=iw b:=by
 have h1:=J9 a;have h2:=J9 b;have h3:(iw a).Perm (iw b):=(xJ a).trans (h.trans (xJ b).symm);exact h3.eq_of_pairwise (fun x y _ _ p q=>Int.le_antisymm p q) h1 h2
theorem abC{t:Int}{L:List aT}{m:Nat}{c:aT}(h:L[m]?=some c):gy (L.take (m+1)) t=gy (L.take m) t++(if og t c then[⟨0,c.ar⟩]else[]):=by
 rw[gy,cj h,alZ,aih];cases e:og t c<;>simp[e,gy]
theorem abD(h:bB)(x:bZ)(ask:Nat->Int->dJ × Int)(hf:h.Fits)(dB:h.aw.length<=1000000)(jd:x.cR)
  (abE:∀ (i:Nat) (y:Host) (t:Int),h.ay[i]?=some y->ec h=true->jf x=true->t∈lh h x i->aq E 30 [.agg [.sl [y.enc],.sl ((gy (hI h x i) t).map aH.enc),.str h.anchor.name,.int .i64 h.anchor.type,.int .i64 h.anchor.dD,.sl (h.anchor.data.map Datum.enc),.sl (h.hints.map (.int .i64))],.int .i64 y.addr,.agg [.str x.q.name,.int .i64 x.q.type]] (· = .aG [.agg [.int .i64 (ask i t).1.kind,.sl ((ask i t).1.J.map Signed.enc),.str (ask i t).1.cut],.int .i64 (ask i t).2])/\(ask i t).1.J.length<=2147483648/\∀ s∈(ask i t).1.J,s.set.data.length<=2147483648/\s.sigs.length<=2147483648) :
  aq E 12 [h.enc,x.enc] (· = .aG [.sl ((kB ask h x).map (.int .i64)),.int .i64 (qR h x)]):=by
 refine aq.norm ?_;have c1:=Qk h hf dB;have c2:=abi x jd;have c3:=Q7 x.answer;unfold kB qR;cases oI:ec h
 ·rw[oI]at c1;refine eP F12.h ?_;refine ao (c1) (gC ?_);refine vT ?_;refine vT ?_;rfl
 cases la:jf x
 ·rw[oI]at c1;rw[la]at c2;refine eP F12.h ?_;refine ao (c1) (gC ?_);refine vF ?_;refine ao (c2) (gC ?_);refine vT ?_;rfl
 rw[oI]at c1;rw[la]at c2;cases Rg:lV x.answer
 case true =>
  rw[Rg]at c3;refine eP F12.h ?_;refine ao (c1) (gC ?_);refine vF ?_;refine ao (c2) (gC ?_);refine vF ?_;refine ao (c3) (gC ?_);refine vT ?_;rfl
 rw[Rg]at c3;have ht:0<=x.time/\x.time<=10000000:=by simp[jf]at la;omega
 have hd:0<=h.bq/\h.bq<=1000:=by simp[ec]at oI;omega
 have Ev:h.ay.length<=1000000:=by simp[ec,gb]at oI;omega
 have hq:eD x.q=true:=by simp[jf]at la;exact la.1.1.1.1.1
 have hcz:∀ c∈h.aw,c.ar.af.length<=maxLen:=fun c hc=>(hf.dS c hc).af;rw[if_pos (by rfl),if_pos (by rfl)];refine eP F12.h ?_;refine ao (c1) (gC ?_);refine vF ?_;refine ao (c2) (gC ?_);refine vF ?_;refine ao (c3) (gC ?_);refine vF ?_;refine I.qA 2 0 (3,1) dC rfl rfl ?_;generalize hQ:(uA fun r=>norm r=DV.aG [DV.sl ((((ais h.ay.length).filter (jg ask h x)).map fun(i:Nat)=>(i:Int)).map (DV.int .i64)),DV.int .i64 0])=Q;refine gC ?_;refine I.aaD (R:=⟨0,Q,[],⟨12,none,[],[],[],[]⟩⟩) (κ:=Nat) [7,8,9,10,25,26,27,28,29,30,31,33,34,35,36,37,38,39,40,41,42,43,44,45,46,47,48,49,50,51,52,53,54,55,56,57,58] (fun k=>[(25,.d (.int .i64 k))]) (fun k=>[(2,.cells [.own 3 1]),(3,.arr 1 (3,1) ((((ais k).filter (jg ask h x)).map fun(i:Nat)=>(i:Int)).map (.int .i64)))]) (fun k=>k<=h.ay.length) (fun k=>h.ay.length-k) 0 [] [] (ai4 _) ?_ ?_
 ·refine sY ?_
  refine⟨rfl, ?_⟩;exact sZ
 intro k ds hk IH;refine zA ?_ ?_<;>intro h5
 ·have ai:k<h.ay.length:=zD h5
  obtain⟨y,hy⟩:=aI ai;have c4:=aby h k x y hy dB hcz jd.1 ht hd (ix h x) (lg h x) rfl rfl;obtain⟨Z,hZ⟩:∃ Z,er [] (oe (ix h x) (lg h x) (h.aw.filter (iJ k x.q.name)))=Z:=⟨_,rfl⟩;have hT:lh h x k=iw Z:=by rw[lh,hI,hZ]
  have hzn:Z.Nodup:=by rw[<- hZ];exact B7 ajd
  have kc:Z.length<=2000000000:=by
   have h1:=B8 (acc:=[]) (l:=oe (ix h x) (lg h x) (h.aw.filter (iJ k x.q.name)));have h2:=abA (f:=ix h x) (u:=lg h x) (l:=h.aw.filter (iJ k x.q.name));have h3:(h.aw.filter (iJ k x.q.name)).length<=h.aw.length:=al0 ..;rw[hZ]at h1;simp at h1;omega
  have hL:hI h x k=h.aw.filter (iJ k x.q.name):=rfl;obtain⟨es,Kb⟩:∃ es,(Z.map fun a=>(DV.int .i64 a,DV.bool true))=es:=⟨_,rfl⟩;rw[abk P6,hZ,Kb,<- hL]at c4;have hLl:=abz (h:=h) (x:=x) (i:=k);have hak:=fun t=>abE k y t hy oI la;generalize hI h x k=L at *;refine gC ?_;refine MW (ds:=[h.enc,.int .i64 k,x.enc]) c4 ?_;rintro r b ⟨rfl,rfl⟩;refine gC ?_;refine I.rangeFunc (bg rfl) Tryz.func74 rfl dC rfl (fun ll d t=>?_);refine gC ?_
  with_reducible refine aX (abw es) ?_
  (conv=>whnf);repeat ((fail_if_success (first|(refine I.rP (fn:=Tryz.f75) rfl rfl ve (nO (bg rfl)) Tryz.func75 rfl dC ?_)|fail));(refine I.run ag F74.h 1 ?_);(conv=>whnf))
  refine I.rP (fn:=Tryz.f75) rfl rfl ve (nO (bg rfl)) Tryz.func75 rfl dC ?_;(conv=>whnf);refine fW ?_
  (conv=>whnf);repeat ((fail_if_success (first|(refine I.rP (fn:=Tryz.f139) rfl rfl ve (nO (bg rfl)) Tryz.func139 rfl dC ?_)|fail));(refine I.run ag F75.h 1 ?_);(conv=>whnf))
  refine I.rP (fn:=Tryz.f139) rfl rfl ve (nO (bg rfl)) Tryz.func139 rfl dC ?_;(conv=>whnf);refine fW ?_
  (conv=>whnf);repeat ((fail_if_success (first|(refine I.rP (fn:=Tryz.f216) rfl rfl ve (zi Re (bg rfl)) Tryz.func216 rfl dC ?_)|fail));(refine I.run ag F139.h 1 ?_);(conv=>whnf))
  refine I.rP (fn:=Tryz.f216) rfl rfl ve (zi Re (bg rfl)) Tryz.func216 rfl dC ?_;(conv=>whnf);refine fW ?_
  (conv=>whnf);(conv=>whnf);repeat ((fail_if_success (first|(refine I.qA 16 0 (3,1) dC rfl rfl ?_)|fail));(refine I.run ag F216.h 1 ?_);(conv=>whnf))
  refine I.qA 16 0 (3,1) dC rfl rfl ?_;(conv=>whnf);(conv=>whnf);repeat ((fail_if_success (first|(refine I.rangeFunc (bg rfl) Tryz.func141 rfl dC rfl (fun ll d t=>?_))|fail));(refine I.run ag F216.h 1 ?_);(conv=>whnf))
  refine I.rangeFunc (bg rfl) Tryz.func141 rfl dC rfl (fun ll d t=>?_);(conv=>whnf);refine fW ?_
  (conv=>whnf);repeat ((fail_if_success (first|(refine I.range ag rfl rfl rfl rfl (bg rfl) rfl (ai4 _) (fun it uV nx vc=>?_))|fail));(refine I.run ag F141.h 1 ?_);(conv=>whnf))
  refine I.range ag rfl rfl rfl rfl (bg rfl) rfl (ai4 _) (fun it uV nx vc=>?_);(conv=>whnf);obtain⟨bm,r,en,ck,since,seen,ev⟩:=it;simp only at uV nx vc;subst uV;subst nx;refine fW ?_
  refine gC ?_;refine I.BM (κ:=List Nat) ([1,4]++[3,6,7,8,9,10,11,12,13]) (fun _=>[]) (fun x=>[(13,.gone),(15,.gone),(16,.cells [.own 17 1]),(17,.arr 1 (3,1) ((nr Z x).map (.int .i64)))]) (fun x=>[.iter ⟨bm,r,en,ck,since,x,ev⟩]) (fun x=>x.Nodup/\∀ j∈x,j<Z.length) (fun x=>Z.length-x.length) [] ⟨ajd,fun j hj=>by cases hj⟩ rfl ?_ ?_
  ·(conv=>whnf);repeat (first|exact trivial|(rw[dW];conv=>whnf)|(refine sI ?_;conv=>whnf))
   refine⟨rfl, ?_⟩;(conv=>whnf);repeat (first|exact trivial|(rw[dW];conv=>whnf)|(refine sI ?_;conv=>whnf))
  rintro seen ⟨xr,Kc⟩ JH;have xL:=abl (xs:=Z) (seen:=seen);have agV:=Rb xr Kc;refine zT ?_;refine I.next (it:=⟨bm,r,en,ck,since,seen,ev⟩) (g1:=[]) (g2:=[]) rfl rfl vc rfl (bg rfl) (fun aM=>?_) (fun j kk y hj iY=>?_)
  ·refine gC ?_;refine vF ?_;refine I.mZ ag F141.h rfl rfl rfl rfl (fun e=>nomatch e) ?_;(conv=>whnf);refine fW ?_
   have pV:(nr Z seen).Perm Z:=abn xr Kc fun j hj=>aM j (by rw[<- Kb];simpa using hj);have JO:iw (nr Z seen)=iw Z:=abB pV;have agW:(nr Z seen).length<=2000000000:=by rw[pV.length_eq];exact kc
   have c5:=abu (nr Z seen) oM;rw[JO,<- hT]at c5;have ET:(lh h x k).length<=2000000000:=by rw[hT,(xJ Z).length_eq];exact kc
   (conv=>whnf);repeat ((fail_if_success (first|(refine I.nQ ag F216.h rfl rfl rfl rfl ?_)|fail));(refine I.run ag F216.h 1 ?_);(conv=>whnf))
   refine I.nQ ag F216.h rfl rfl rfl rfl ?_;(conv=>whnf);(conv=>whnf);refine fW ?_
   (conv=>whnf);repeat ((fail_if_success (first|(refine I.nQ ag F139.h rfl rfl rfl rfl ?_)|fail));(refine I.run ag F139.h 1 ?_);(conv=>whnf))
   refine I.nQ ag F139.h rfl rfl rfl rfl ?_;(conv=>whnf);(conv=>whnf);refine fW ?_
   refine gC ?_
   with_reducible refine aX c5 ?_
   (conv=>whnf);(conv=>whnf);repeat ((fail_if_success (first|(refine I.nQ ag F75.h rfl rfl rfl rfl ?_)|fail));(refine I.run ag F75.h 1 ?_);(conv=>whnf))
   refine I.nQ ag F75.h rfl rfl rfl rfl ?_;(conv=>whnf);(conv=>whnf);refine fW ?_
   refine I.freeze 17 ?_;(conv=>whnf);refine fW ?_
   refine gC ?_;obtain⟨T,Fe⟩:∃ T,lh h x k=T:=⟨_,rfl⟩;rw[Fe]at ET;rw[Fe];have eb:(ais (k+1)).filter (jg ask h x)=(ais k).filter (jg ask h x)++(if jg ask h x k then[k]else[]):=by
    rw[List.range_succ,alZ];cases h:jg ask h x k<;>simp[h]
   have J0:jg ask h x k=T.any fun t=>(ask k t).2==0&&decide ((ask k t).1=x.answer):=by rw[<- Fe];rfl
   refine I.lP T.length ([1,11,12]++[7,8,10,15,16,17,18,19,20,21,22,23,24,25,26,27,28,29,30,31,32,33,34,35,36,37,38,39,40,41,42,43,44,45,46,47,48,49,50,51,52,53,54]) (fun j=>[(15,.d (.int .i64 j))]) (fun _=>[]) (fun j=>j<=T.length/\∀ t∈T.take j,((ask k t).2==0&&decide ((ask k t).1=x.answer))=false) ⟨ai4 _,fun t h=>by simp at h⟩ ?_ ?_
   ·(conv=>whnf);repeat (first|exact trivial|(rw[dW];conv=>whnf)|(refine sI ?_;conv=>whnf))
   rintro j ⟨hj,bI⟩ KH;refine zA ?_ ?_<;>intro h8
   ·have tW:j<T.length:=zD h8
    obtain⟨t,Ff⟩:=aI tW;obtain⟨zh,dL,BP⟩:=hak t (by rw[Fe];exact aiQ Ff);refine gC ?_;refine aR (e := .int .i64 t) (bC Ff) rfl (gC ?_);refine I.qA 18 1 (85,3) dC rfl rfl (gC ?_);refine I.lP L.length ([10]++rg 27 23) (fun m=>[(27,.d (.int .i64 m))]) (fun m=>[(18,.cells [.d (.sl [y.enc]),.own 19 1,.d (.str h.anchor.name),.d (.int .i64 h.anchor.type),.d (.int .i64 h.anchor.dD),.d (.sl (h.anchor.data.map Datum.enc)),.d (.sl (h.hints.map (.int .i64)))]),(19,.arr 1 (85,3) ((gy (L.take m) t).map aH.enc))]) (fun m=>m<=L.length) (ai4 _) ?_ ?_
    ·(conv=>whnf);repeat (first|exact trivial|(rw[dW];conv=>whnf)|(refine sI ?_;conv=>whnf))
     refine⟨rfl, ?_⟩;(conv=>whnf);repeat (first|exact trivial|(rw[dW];conv=>whnf)|(refine sI ?_;conv=>whnf))
    intro m hm MH;refine zA ?_ ?_<;>intro h9
    ·have ID:m<L.length:=zD h9
     obtain⟨c,hc⟩:=aI ID;have vH:=abC (t:=t) hc;have agX:(gy (L.take m) t).length<=m:=by rw[gy,aiO];exact aic (al0 ..) (by simp;omega)
     generalize gy (L.take m) t=Y at *;refine gC ?_;refine eM hc (gC ?_);apply ah<;>intro g1
     ·refine gC ?_;apply ah<;>intro g2
      ·refine gC ?_;refine bj ⟨by simp only[aiO,ahN,List.length_nil];omega,by simp[DV.cells]⟩ ?_;have ha:og t c=true:=by simp_all[og]
       rw[ha,if_pos rfl]at vH;refine gC ?_;refine I.back (MH (m+1) oM oM) ?_;rw[vH,aih];(conv=>whnf);repeat (first|exact trivial|(rw[dW];conv=>whnf)|(refine sI ?_;conv=>whnf))
       refine⟨rfl, ?_⟩;(conv=>whnf);repeat (first|exact trivial|(rw[dW];conv=>whnf)|(refine sI ?_;conv=>whnf))
      ·have ha:og t c=false:=by rw[og,g2,ale]
       rw[ha]at vH;simp only[ah0,if_false,aj0]at vH;refine gC ?_;refine I.back (MH (m+1) oM oM) ?_;rw[vH];(conv=>whnf);repeat (first|exact trivial|(rw[dW];conv=>whnf)|(refine sI ?_;conv=>whnf))
     ·have ha:og t c=false:=by rw[og,g1,ald]
      rw[ha]at vH;simp only[ah0,if_false,aj0]at vH;refine gC ?_;refine vF ?_;refine I.back (MH (m+1) oM oM) ?_;rw[vH];(conv=>whnf);repeat (first|exact trivial|(rw[dW];conv=>whnf)|(refine sI ?_;conv=>whnf))
    ·have aA:m=L.length:=by simp at h9;omega
     subst aA;refine I.freeze 19 ?_;(conv=>whnf);refine fW ?_
     rw[akR];refine gC ?_;refine I.yield 0 rfl rfl rfl (bg rfl) (nO (bg rfl)) rfl ?_;(conv=>whnf);refine fW ?_
     refine gC ?_;refine I.begin 0 rfl rfl rfl ?_;(conv=>whnf);refine fW ?_
     refine gC ?_;have c6:=abh (ask k t).1 x.answer dL BP;refine dU ?_;refine eM hy (gD ?_);refine ax (zh) (gD ?_);refine And.intro (by kernel_rfl) ?_;(conv=>whnf);refine gC ?_;have aJ:((ask k t).2==0&&decide ((ask k t).1=x.answer))=false->∀ t'∈T.take (j+1),((ask k t').2==0&&decide ((ask k t').1=x.answer))=false:=fun e t' pv=>by
      rw[cj Ff]at pv;rcases aif.1 pv with h|h
      ·exact bI t' h
      ·rw[List.mem_singleton.1 h];exact e
     apply ah<;>intro g3
     ·refine gC ?_;refine ao (c6) (gC ?_);cases Fg:decide ((ask k t).1=x.answer)
      ·refine vF ?_;refine I.rO 0 rfl rfl rfl ?_;(conv=>whnf);refine fW ?_
       refine gC ?_;refine vF ?_;refine I.back (KH (j+1) ⟨by omega,aJ (by rw[Fg,ale])⟩ oM) ?_;(conv=>whnf);repeat (first|exact trivial|(rw[dW];conv=>whnf)|(refine sI ?_;conv=>whnf))
      ·refine aZ ?_;have Kd:jg ask h x k=true:=by rw[J0,List.any_eq_true];exact⟨t,aiQ Ff,by rw[g3,Fg];rfl⟩
       refine gC ?_;refine bj ⟨by have:=al0 (jg ask h x) (ais k);simp at this;simp;omega,by simp[DV.cells]⟩ ?_;refine gC ?_;refine I.WG 0 rfl rfl rfl rfl ?_;(conv=>whnf);refine fW ?_
       refine gC ?_;refine vT ?_;refine I.mZ ag F74.h rfl rfl rfl rfl (fun e=>nomatch e) ?_;(conv=>whnf);refine I.QU (rows:=[]) rfl ?_;refine fW ?_
       refine gC ?_;refine I.back (IH (k+1) _ oM oM) ?_;rw[eb,Kd,if_pos rfl,aih,aih];(conv=>whnf);repeat (first|exact trivial|(rw[dW];conv=>whnf)|(refine sI ?_;conv=>whnf))
       refine⟨rfl, ?_⟩;(conv=>whnf);repeat (first|exact trivial|(rw[dW];conv=>whnf)|(refine sI ?_;conv=>whnf))
     ·refine gC ?_;refine vF ?_;refine I.rO 0 rfl rfl rfl ?_;(conv=>whnf);refine fW ?_
      refine gC ?_;refine vF ?_;refine I.back (KH (j+1) ⟨by omega,aJ (by rw[g3,ald])⟩ oM) ?_;(conv=>whnf);repeat (first|exact trivial|(rw[dW];conv=>whnf)|(refine sI ?_;conv=>whnf))
   ·have aA:j=T.length:=by simp at h8;omega
    subst aA;rw[akR]at bI;have oO:jg ask h x k=false:=by rw[J0,List.any_eq_false];exact fun t ht=>by rw[bI t ht];simp
    refine gC ?_;refine I.mZ ag F74.h rfl rfl rfl rfl (fun e=>nomatch e) ?_;(conv=>whnf);refine I.QU (rows:=[]) rfl ?_;refine fW ?_
    refine gC ?_;refine I.back (IH (k+1) _ oM oM) ?_;rw[eb,oO];simp only[ah0,if_false,aj0];(conv=>whnf);repeat (first|exact trivial|(rw[dW];conv=>whnf)|(refine sI ?_;conv=>whnf))
  ·obtain⟨z,hz,e⟩:∃ z,Z[j]?=some z/\(DV.int .i64 z,DV.bool true)=(kk,y):=by rw[<- Kb]at hj;simpa using hj
   cases e;have ra:=aW hz;have hkn:=Ra (seen:=seen) hz;have cW:(seen++[j]).Nodup:=by
    rw[List.nodup_append];exact⟨xr,by simp,fun a ha b hb e=>by simp at hb;subst hb;subst e;exact iY ha⟩
   have Rh:∀ i∈seen++[j],i<Z.length:=fun i hi=>by rcases aif.1 hi with h|h;exact Kc i h;simp at h;omega
   have abI:=Rb cW Rh;rw[List.length_append,aj4]at abI;refine fW ?_
   refine gC ?_;refine vT ?_;refine I.entry (it:=⟨bm,r,en,ck,since,seen++[j],ev⟩) (g1:=[]) (g2:=[]) (pre:=seen) (j:=j) rfl rfl rfl rfl hj (bg rfl) ?_;refine fW ?_
   (conv=>whnf);repeat ((fail_if_success (first|(refine I.yield 0 rfl rfl rfl (bg rfl) (nO (bg rfl)) rfl ?_)|fail));(refine I.run ag F141.h 1 ?_);(conv=>whnf))
   refine I.yield 0 rfl rfl rfl (bg rfl) (nO (bg rfl)) rfl ?_;(conv=>whnf);refine fW ?_
   (conv=>whnf);repeat ((fail_if_success (first|(refine I.begin 0 rfl rfl rfl ?_)|fail));(refine I.run ag F216.h 1 ?_);(conv=>whnf))
   refine I.begin 0 rfl rfl rfl ?_;(conv=>whnf);refine fW ?_
   refine gC ?_;refine nA (gC ?_);refine I.rO 0 rfl rfl rfl ?_;(conv=>whnf);refine fW ?_
   refine gC ?_;refine aP dC (gC ?_);refine I.back (JH (seen++[j]) ⟨cW,Rh⟩ (by simp;omega)) ?_;(conv=>whnf);repeat (first|exact trivial|(rw[dW];conv=>whnf)|(refine sI ?_;conv=>whnf))
   refine And.intro (by rw[hkn];simp) ?_;(conv=>whnf);repeat (first|exact trivial|(rw[dW];conv=>whnf)|(refine sI ?_;conv=>whnf))
 ·have aA:k=h.ay.length:=by simp at h5;omega
  subst aA;refine I.freeze 3 ?_;(conv=>whnf);refine fW ?_
  cases ds with
  |nil =>
   refine gC ?_;rw[<- hQ];rfl
  |cons d ds =>
   refine gC ?_;refine I.kq ag F12.h rfl rfl rfl rfl (L:=[]) ?hm ?hr
   case hm=>exact QV (ds:=d::ds)
   case hr =>
    (conv=>whnf);rw[<- hQ];rfl
end Go.Proofs.YtlhehdgciafakaaGreatDoor.P
end
