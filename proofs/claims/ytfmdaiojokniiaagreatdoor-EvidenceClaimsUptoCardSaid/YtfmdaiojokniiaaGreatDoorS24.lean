/- Lemmas of mine. Conditions: as stated. -/
import Derived.Test.YtfmdaiojokniiaaGreatDoorS21
import Derived.Test.YtfmdaiojokniiaaGreatDoorS23
set_option linter.unusedVariables false
set_option linter.unusedSimpArgs false
open Bool renaming false_eq_true->aet,and_false->ahI,false_and->ahH
open List renaming range->aeU,length_filter_le->aiN,append_nil->ags,map_append->aeJ,mem_of_getElem?->afh,filter_append->aiM,take_of_length_le->afS,length_singleton->agw,length_cons->aef,nodup_nil->afF,length_map->aff,take_length->ahj,mem_append->aeI
open Nat renaming zero_le->afv,le_trans->aen
section
namespace Go.Proofs.YtfmdaiojokniiaaGreatDoor.P
open Go Go.aA
set_option maxRecDepth 100000
set_option maxHeartbeats 4000000
def oL(f u:Int)(K:List Int)(t:Int):List Int:=if f<=t/\t<u then K++[t]else K
theorem IF(f u:Int)(K:List Int)(t:Int):aw E 106 [.cells [.d (.int .i64 f)],.cells [.d (.int .i64 u)],.cells [.map 3],.map (ev (DV.int .i64) K)] [.d (.int .i64 t),.ptr 0 0,.ptr 1 0,.ptr 2 0] (fun a b=>a=.aF []/\b=[.cells [.d (.int .i64 f)],.cells [.d (.int .i64 u)],.cells [.map 3],.map (ev (DV.int .i64) (oL f u K t))]):=by
 have iJ:=Z8 (oG NN K).1;unfold oL;refine aw.run ag (fn:=Tryz.f106) Tryz.func106 (body:=Tryz.f106.body.getD .skip) rfl (by decide) 2000 rfl ?_;(conv=>whnf);repeat' (first|with_reducible(first|refine cY ?_|refine cN ?_|refine ai (fun _=>?_) (fun _=>?_))|refine gA Tryz.func106 ?_|refine gB ?_|with_reducible rfl)
 all_goals try (refine⟨rfl,?_⟩;rw[if_neg (by simp_all;try omega)];done)
 refine aW ⟨⟨_,rfl⟩,iJ⟩ ?_;refine gO Tryz.func106 ?_;refine⟨rfl,?_⟩;rw[if_pos (by simp_all),tH]
theorem Z'{α:Type}{f:α->DV}{l:List α}{i:Nat}{y:α}(h:l[i]?=some y)(z:DV):(((l.map f).take l.length).drop i).take 1++[z].drop (l.length-i)=[f y]:=by
 obtain⟨hi,rfl⟩:=List.getElem?_eq_some_iff.1 h;rw[afS (l:=l.map f) (i:=l.length) (by simp),List.drop_eq_getElem_cons (by simpa using hi),List.drop_of_length_le (l:=[z]) (by rw[agw];omega)];simp
def ic(i:Nat)(n:Text)(c:aQ):Bool:=Nm.mF n c.au.ao&&(c.host==i)
def Ba(f u:Int)(K:List Int)(c:aQ):List Int:=oL f u (oL f u K c.bL) c.upto
def nT(f u:Int)(l:List aQ):List Int:=l.foldl (Ba f u) (oL f u [] f)
theorem aaa(h:bO)(i:Nat)(x:c7)(y:Host)(hy:h.ay[i]?=some y)(hl:h.aB.length<=1000000)(hz:∀ c∈h.aB,c.au.ao.length<=maxLen)(hn:x.q.name.length<=maxLen)(ht:0<=x.time/\x.time<=10000000)(hd:0<=h.bJ/\h.bJ<=1000)(f u:Int)(su:max (x.time-h.bJ) 0=f)(A8:min (x.time+h.bJ+1) h.fin=u) :
  aw E 43 [] [.d h.enc,.d (.int .i64 i),.d x.enc] (fun a b=>a=.fn (.func 108) [] [.ptr 8 0,.ptr 5 0,.ptr 0 0,.ptr 6 0]/\b=[.cells [.d (.sl (h.ay.map Host.enc)),.d (.sl (h.aB.map aQ.enc)),.d (.str h.anchor.name),.d (.int .i64 h.anchor.type),.d (.int .i64 h.anchor.bY),.d (.sl (h.anchor.data.map Datum.enc)),.d (.sl (h.hints.map (.int .i64))),.d (.int .i64 h.bJ),.d (.int .i64 h.fin)],.cells [.d (.int .i64 x.time),.d (.int .i64 x.addr),.d (.str x.q.name),.d (.int .i64 x.q.type),.d (.int .i64 x.answer.kind),.d (.sl (x.answer.ae.map Signed.enc)),.d (.str x.answer.cut)],.cells [.d (.int .i64 f)],.cells [.d (.int .i64 u)],.gone,.cells [.d (.sl [y.enc])],.cells [.d (.sl ((h.aB.filter (ic i x.q.name)).map aQ.enc))],.map (ev (DV.int .i64) (nT f u (h.aB.filter (ic i x.q.name)))),.cells [.map 7],.gone]):=by
 obtain⟨ay,aB,anchor,hints,bJ,fin⟩:=h;obtain⟨t,ad,⟨qn,qt⟩,⟨ak,al,ac⟩⟩:=x;simp only at hy hl hz hn ht hd su A8;show aw E _ [] [.d (DV.agg [.sl (ay.map Host.enc),.sl (aB.map aQ.enc),.str anchor.name,.int .i64 anchor.type,.int .i64 anchor.bY,.sl (anchor.data.map Datum.enc),.sl (hints.map (.int .i64)),.int .i64 bJ,.int .i64 fin]),_,.d (DV.agg [.int .i64 t,.int .i64 ad,.str qn,.int .i64 qt,.int .i64 ak,.sl (al.map Signed.enc),.str ac])] _;refine aw.run ag (fn:=Tryz.f43) Tryz.func43 (body:=Tryz.f43.body.getD .skip) rfl (by decide) 2000 rfl ?_;(conv=>whnf);refine dU ?_;rw[wrap64 (n:=t-bJ) (by omega) (by omega)];refine bP.pure rfl (fun _=>ZT (aV rfl) Ts) ?_;rw[su];refine gD ?_;rw[wrap64 (n:=t+bJ) (by omega) (by omega),wrap64 (n:=t+bJ+1) (by omega) (by omega)];refine bP.pure rfl (fun _=>ZU (aV rfl) (aV rfl)) ?_;rw[A8];refine gD ?_;refine And.intro (by kernel_rfl) ?_;(conv=>whnf);refine gO F43 ?_;refine aW ⟨by omega,by omega,by omega⟩ ?_;refine gO F43 ?_;refine dU ?_;refine aW ⟨by simp,by simp;exact Nat.le_of_lt (aX hy),by simp,by simp[DV.cells]⟩ ?_;refine gD ?_;refine gD ?_;refine bP.at rfl ?_;conv=>whnf
 refine lh.LO ag [y.enc] rfl (aV rfl) (aV rfl) rfl rfl rfl rfl rfl (by simp) (fun z hz=>by
  obtain⟨u,_,rfl⟩:=List.mem_map.1 (List.mem_of_mem_take (List.mem_of_mem_drop hz))
  rfl) ?_ ?_
 ·simpa using Z' (f:=Host.enc) hy (.agg [.str [],.int .i64 0,.int .i64 0])
 refine gD ?_;refine And.intro (by kernel_rfl) ?_;(conv=>whnf);refine gO F43 ?_;refine gO F43 ?_;have c1:=IF f u [] f;rw[show ev (DV.int .i64) ([]:List Int)=[]from rfl]at c1
 with_reducible refine aS (c1) ?_
 refine gO F43 ?_;refine J.freeze 4 ?_;(conv=>whnf);refine J.o9 6 0 (68,5) (by decide) rfl rfl ?_;refine gO F43 ?_;refine J.loop (κ:=Nat) ([14,15,16]++rg 47 34) (fun k=>[(47,.d (.int .i64 k))]) (fun k=>[(6,.cells [.own 9 1]),(7,.map (ev (DV.int .i64) (nT f u ((aB.take k).filter (ic i qn))))),(9,.arr 1 (68,5) (((aB.take k).filter (ic i qn)).map aQ.enc))]) (fun k=>k<=aB.length) (fun k=>aB.length-k) 0 (afv _) ?_ ?_
 ·(conv=>whnf);repeat (first|exact trivial|(refine sI ?_;conv=>whnf))
  refine And.intro rfl ?_;(conv=>whnf);repeat (first|exact trivial|(refine sI ?_;conv=>whnf))
  refine And.intro rfl ?_;exact sZ
 intro k hk IH;refine J.head ag F43 2000 ?_;(conv=>whnf);refine ai (fun h5=>?_) (fun h5=>?_)
 ·have ah:k<aB.length:=by simpa using h5
  obtain⟨c,hc⟩:=aH ah;have c2:=vq qn c.au.ao hn (hz c (afh hc));have ib:(aB.take (k+1)).filter (ic i qn)=(aB.take k).filter (ic i qn)++(if ic i qn c then[c]else[]):=by
   rw[cG hc,aiM];cases h:ic i qn c<;>simp[h]
  have hln:((aB.take k).filter (ic i qn)).length<=k:=aen (aiN ..) (by simp;omega);generalize (aB.take k).filter (ic i qn)=L at *;have c3:=IF f u (nT f u L) c.bL;have c4:=IF f u (oL f u (nT f u L) c.bL) c.upto;refine gO F43 ?_;refine aD (e:=c.enc) (aO hc) rfl ?_;refine gO F43 ?_;refine aq (c2) ?_;refine gO F43 ?_;cases hv:Nm.mF qn c.au.ao
  ·refine aR ?_;refine gO F43 ?_;refine aR ?_;refine gO F43 ?_;refine J.back (IH (k+1) (by omega) (by omega)) ?_;rw[ib,show ic i qn c=false by simp[ic,hv]];simp only[aet,if_false,ags];exact sZ
  refine a8 ?_;refine gO F43 ?_;refine ai (fun h6=>?_) (fun h6=>?_)
  ·refine gO F43 ?_;refine aW ⟨by simp;omega,by simp[DV.cells]⟩ ?_;refine gO F43 ?_
   with_reducible refine aS (c3) ?_
   refine gO F43 ?_
   with_reducible refine aS (c4) ?_
   refine gO F43 ?_;refine J.back (IH (k+1) (by omega) (by omega)) ?_;rw[ib,show ic i qn c=true by simp[ic,hv,h6],if_pos rfl,show nT f u (L++[c])=oL f u (oL f u (nT f u L) c.bL) c.upto by simp[nT,Ba],aeJ];(conv=>whnf);repeat (first|exact trivial|(refine sI ?_;conv=>whnf))
   refine And.intro rfl ?_;exact sZ
  ·refine gO F43 ?_;refine J.back (IH (k+1) (by omega) (by omega)) ?_;rw[ib,show ic i qn c=false by simp[ic,h6]];simp only[aet,if_false,ags];exact sZ
 ·have aC:aB.length<=k:=by simpa using h5
  rw[afS aC];refine J.freeze 9 ?_;(conv=>whnf);refine gO F43 ?_;exact⟨rfl,rfl⟩
end Go.Proofs.YtfmdaiojokniiaaGreatDoor.P
end
section
namespace Go.aA
open Go Go.RowKit
section
variable {E:Env} {aj:FuncId} {R:cF} {k:List aT} {s:List AV} {h:List af}
end
section
variable {E:Env} {s:List AV} {h:List af}
end
end Go.aA
end
section
namespace Go.Proofs.YtfmdaiojokniiaaGreatDoor.P
open Go Go.aA Go.Sort
set_option maxRecDepth 100000
set_option maxHeartbeats 400000
def r9(t:Int)(c:aQ):Bool:=decide (c.bL<=t)&&decide (t<c.upto)
def ma(l:List aQ)(t:Int):List aK:=(l.filter (r9 t)).map fun c=>⟨0,c.au⟩
def ym(h:bO)(x:c7):Int:=max (x.time-h.bJ) 0
def yn(h:bO)(x:c7):Int:=min (x.time+h.bJ+1) h.fin
def nU(h:bO)(x:c7)(i:Nat):List aQ:=h.aB.filter (ic i x.q.name)
def nV(h:bO)(x:c7)(i:Nat):List Int:=gC (eI [] (nT (ym h x) (yn h x) (nU h x i)))
def jw(ask:Nat->Int->dZ × Int)(h:bO)(x:c7)(i:Nat):Bool:=(nV h x i).any fun t=>(ask i t).2==0&&decide ((ask i t).1=x.answer)
def yo(h:bO)(x:c7):Int:=if eJ h&&qv x then 0 else 1
def tT(ask:Nat->Int->dZ × Int)(h:bO)(x:c7):List Int:=if eJ h&&qv x && !nK x.answer then((aeU h.ay.length).filter (jw ask h x)).map fun(i:Nat)=>(i:Int)else[]
theorem aab{h:bO}{x:c7}{i:Nat}:(nU h x i).length<=h.aB.length:=aiN ..
theorem IG{f u t:Int}{K:List Int}:(oL f u K t).length<=K.length+1:=by
 unfold oL;split<;>simp
theorem Pl{f u:Int}:∀ {l:List aQ} {K:List Int},(l.foldl (Ba f u) K).length<=K.length+2*l.length
 |[],_=>by simp
 |c::l,K=>by
  rw[List.foldl_cons,aef];have h1:=Pl (f:=f) (u:=u) (l:=l) (K:=Ba f u K c);have h2:=IG (f:=f) (u:=u) (t:=c.upto) (K:=oL f u K c.bL);have h3:=IG (f:=f) (u:=u) (t:=c.bL) (K:=K);unfold Ba at h1 ⊢;omega
theorem aac{f u:Int}{l:List aQ}:(nT f u l).length<=1+2*l.length:=by
 have h1:=Pl (f:=f) (u:=u) (l:=l) (K:=oL f u [] f);have h2:=IG (f:=f) (u:=u) (t:=f) (K:=[]);unfold nT;simp at h2;omega
theorem aad{a b:List Int}(h:a.Perm b):gC a=gC b:=by
 have h1:=IE a;have h2:=IE b;have h3:(gC a).Perm (gC b):=(yl a).trans (h.trans (yl b).symm);exact h3.eq_of_pairwise (fun x y _ _ p q=>Int.le_antisymm p q) h1 h2
theorem aae{t:Int}{L:List aQ}{m:Nat}{c:aQ}(h:L[m]?=some c):ma (L.take (m+1)) t=ma (L.take m) t++(if r9 t c then[⟨0,c.au⟩]else[]):=by
 rw[ma,cG h,aiM,aeJ];cases e:r9 t c<;>simp[e,ma]
theorem Pm(h:bO)(x:c7)(ask:Nat->Int->dZ × Int)(hf:h.Fits)(dm:h.aB.length<=1000000)(oD:x.cV)
  (aaf:∀ (i:Nat) (y:Host) (t:Int),h.ay[i]?=some y->eJ h=true->qv x=true->t∈nV h x i->ar E 31 [.agg [.sl [y.enc],.sl ((ma (nU h x i) t).map aK.enc),.str h.anchor.name,.int .i64 h.anchor.type,.int .i64 h.anchor.bY,.sl (h.anchor.data.map Datum.enc),.sl (h.hints.map (.int .i64))],.int .i64 y.addr,.agg [.str x.q.name,.int .i64 x.q.type]] (· = .aF [.agg [.int .i64 (ask i t).1.kind,.sl ((ask i t).1.ae.map Signed.enc),.str (ask i t).1.cut],.int .i64 (ask i t).2])/\(ask i t).1.ae.length<=2147483648/\∀ s∈(ask i t).1.ae,s.set.data.length<=2147483648/\s.sigs.length<=2147483648) :
  ar E 17 [h.enc,x.enc] (· = .aF [.sl ((tT ask h x).map (.int .i64)),.int .i64 (yo h x)]):=by
 refine ar.norm ?_;have c1:=HQ h hf dm;have c2:=ZO x oD;have c3:=O9 x.answer;unfold tT yo;cases np:eJ h
 ·rw[np]at c1;refine eP F17 ?_;refine aq (c1) ?_;refine gO F17 ?_;refine a8 ?_;refine gO F17 ?_;refine a8 ?_;refine gO F17 ?_;rfl
 cases kH:qv x
 ·rw[np]at c1;rw[kH]at c2;refine eP F17 ?_;refine aq (c1) ?_;refine gO F17 ?_;refine aR ?_;refine gO F17 ?_;refine aq (c2) ?_;refine gO F17 ?_;refine a8 ?_;refine gO F17 ?_;rfl
 rw[np]at c1;rw[kH]at c2;cases Pn:nK x.answer
 case true =>
  rw[Pn]at c3;refine eP F17 ?_;refine aq (c1) ?_;refine gO F17 ?_;refine aR ?_;refine gO F17 ?_;refine aq (c2) ?_;refine gO F17 ?_;refine aR ?_;refine gO F17 ?_;refine aq (c3) ?_;refine gO F17 ?_;refine a8 ?_;refine gO F17 ?_;rfl
 rw[Pn]at c3;have ht:0<=x.time/\x.time<=10000000:=by simp[qv]at kH;omega
 have hd:0<=h.bJ/\h.bJ<=1000:=by simp[eJ]at np;omega
 have C6:h.ay.length<=1000000:=by simp[eJ,fD]at np;omega
 have hq:fM x.q=true:=by simp[qv]at kH;exact kH.1.1.1.1.1
 have DP:∀ c∈h.aB,c.au.ao.length<=maxLen:=fun c hc=>(hf.eb c hc).ao;rw[if_pos (by rfl),if_pos (by rfl)];refine eP F17 ?_;refine aq (c1) ?_;refine gO F17 ?_;refine aR ?_;refine gO F17 ?_;refine aq (c2) ?_;refine gO F17 ?_;refine aR ?_;refine gO F17 ?_;refine aq (c3) ?_;refine gO F17 ?_;refine aR ?_;refine gO F17 ?_;refine J.o9 2 0 (3,1) (by decide) rfl rfl ?_;generalize hQ:(ux fun r=>norm r=DV.aF [DV.sl ((((aeU h.ay.length).filter (jw ask h x)).map fun(i:Nat)=>(i:Int)).map (DV.int .i64)),DV.int .i64 0])=Q;refine gO F17 ?_;refine J.ZX (R:=⟨0,Q,[],⟨17,none,[],[],[],[]⟩⟩) (κ:=Nat) [7,8,9,10,25,26,27,28,29,30,31,33,34,35,36,37,38,39,40,41,42,43,44,45,46,47,48,49,50,51,52,53,54,55,56,57,58] (fun k=>[(25,.d (.int .i64 k))]) (fun k=>[(2,.cells [.own 3 1]),(3,.arr 1 (3,1) ((((aeU k).filter (jw ask h x)).map fun(i:Nat)=>(i:Int)).map (.int .i64)))]) (fun k=>k<=h.ay.length) (fun k=>h.ay.length-k) 0 [] [] (afv _) ?_ ?_
 ·(conv=>whnf);repeat (first|exact trivial|(refine sI ?_;conv=>whnf))
  refine And.intro rfl ?_;exact sZ
 intro k ds hk IH;refine J.head ag F17 2000 ?_;(conv=>whnf);refine ai (fun h5=>?_) (fun h5=>?_)
 ·have ah:k<h.ay.length:=by simpa using h5
  obtain⟨y,hy⟩:=aH ah;have c4:=aaa h k x y hy dm DP oD.1 ht hd (ym h x) (yn h x) rfl rfl;obtain⟨Z,hZ⟩:∃ Z,eI [] (nT (ym h x) (yn h x) (h.aB.filter (ic k x.q.name)))=Z:=⟨_,rfl⟩;have hT:nV h x k=gC Z:=by rw[nV,nU,hZ]
  have hzn:Z.Nodup:=by rw[<- hZ];exact HD afF
  have kS:Z.length<=2000000000:=by
   have h1:=Dm (acc:=[]) (l:=nT (ym h x) (yn h x) (h.aB.filter (ic k x.q.name)));have h2:=aac (f:=ym h x) (u:=yn h x) (l:=h.aB.filter (ic k x.q.name));have h3:(h.aB.filter (ic k x.q.name)).length<=h.aB.length:=aiN ..;rw[hZ]at h1;simp at h1;omega
  have hL:nU h x k=h.aB.filter (ic k x.q.name):=rfl;obtain⟨es,II⟩:∃ es,(Z.map fun a=>(DV.int .i64 a,DV.bool true))=es:=⟨_,rfl⟩;rw[ZY NN,hZ,II,<- hL]at c4;have hLl:=aab (h:=h) (x:=x) (i:=k);have hak:=fun t=>aaf k y t hy np kH;generalize nU h x k=L at *;refine gO F17 ?_;refine KC (ds:=[h.enc,.int .i64 k,x.enc]) c4 ?_;rintro r b ⟨rfl,rfl⟩;refine gO F17 ?_;refine J.rangeFunc (aV rfl) Tryz.func108 rfl (by decide) rfl (fun ll d t=>?_);refine gO F108 ?_
  with_reducible refine aS (Z9 es) ?_
  (conv=>whnf);repeat ((fail_if_success (first|(refine J.mG (fn:=Tryz.f109) rfl rfl oz (lT (aV rfl)) Tryz.func109 rfl (by decide) ?_)|fail));(refine J.run ag F108 1 ?_);(conv=>whnf))
  refine J.mG (fn:=Tryz.f109) rfl rfl oz (lT (aV rfl)) Tryz.func109 rfl (by decide) ?_;(conv=>whnf);refine fW ?_
  (conv=>whnf);repeat ((fail_if_success (first|(refine J.mG (fn:=Tryz.f181) rfl rfl oz (lT (aV rfl)) Tryz.func181 rfl (by decide) ?_)|fail));(refine J.run ag Tryz.func109 1 ?_);(conv=>whnf))
  refine J.mG (fn:=Tryz.f181) rfl rfl oz (lT (aV rfl)) Tryz.func181 rfl (by decide) ?_;(conv=>whnf);refine fW ?_
  (conv=>whnf);repeat ((fail_if_success (first|(refine J.mG (fn:=Tryz.f260) rfl rfl oz (qb Pj (aV rfl)) Tryz.func260 rfl (by decide) ?_)|fail));(refine J.run ag Tryz.func181 1 ?_);(conv=>whnf))
  refine J.mG (fn:=Tryz.f260) rfl rfl oz (qb Pj (aV rfl)) Tryz.func260 rfl (by decide) ?_;(conv=>whnf);refine fW ?_
  (conv=>whnf);(conv=>whnf);repeat ((fail_if_success (first|(refine J.o9 16 0 (3,1) (by decide) rfl rfl ?_)|fail));(refine J.run ag F260 1 ?_);(conv=>whnf))
  refine J.o9 16 0 (3,1) (by decide) rfl rfl ?_;(conv=>whnf);(conv=>whnf);repeat ((fail_if_success (first|(refine J.rangeFunc (aV rfl) Tryz.func183 rfl (by decide) rfl (fun ll d t=>?_))|fail));(refine J.run ag F260 1 ?_);(conv=>whnf))
  refine J.rangeFunc (aV rfl) Tryz.func183 rfl (by decide) rfl (fun ll d t=>?_);(conv=>whnf);refine fW ?_
  (conv=>whnf);repeat ((fail_if_success (first|(refine J.range ag rfl rfl rfl rfl (aV rfl) rfl (afv _) (fun it s7 mg tf=>?_))|fail));(refine J.run ag F183 1 ?_);(conv=>whnf))
  refine J.range ag rfl rfl rfl rfl (aV rfl) rfl (afv _) (fun it s7 mg tf=>?_);(conv=>whnf);obtain⟨bm,r,en,ck,since,seen,ee⟩:=it;simp only at s7 mg tf;subst s7;subst mg;refine fW ?_
  refine gO F183 ?_;refine J.CK (κ:=List Nat) ([1,4]++[3,6,7,8,9,10,11,12,13]) (fun _=>[]) (fun x=>[(13,.gone),(15,.gone),(16,.cells [.own 17 1]),(17,.arr 1 (3,1) ((l9 Z x).map (.int .i64)))]) (fun x=>[.iter ⟨bm,r,en,ck,since,x,ee⟩]) (fun x=>x.Nodup/\∀ j∈x,j<Z.length) (fun x=>Z.length-x.length) [] ⟨afF,fun j hj=>by cases hj⟩ rfl ?_ ?_
  ·(conv=>whnf);repeat (first|exact trivial|(rw[fF];conv=>whnf)|(refine sI ?_;conv=>whnf))
   refine And.intro rfl ?_;(conv=>whnf);repeat (first|exact trivial|(rw[fF];conv=>whnf)|(refine sI ?_;conv=>whnf))
  rintro seen ⟨vG,IJ⟩ JH;have wg:=ZZ (xs:=Z) (seen:=seen);have adE:=Pg vG IJ;refine J.head ag F183 2000 ?_;(conv=>whnf);refine J.next (it:=⟨bm,r,en,ck,since,seen,ee⟩) (g1:=[]) (g2:=[]) rfl rfl tf rfl (aV rfl) (fun aL=>?_) (fun j kk y hj lb=>?_)
  ·refine gO F183 ?_;refine aR ?_;refine gO F183 ?_;refine J.ky ag F183 rfl rfl rfl rfl (fun e=>nomatch e) ?_;(conv=>whnf);refine fW ?_
   have rP:(l9 Z seen).Perm Z:=Z1 vG IJ fun j hj=>aL j (by rw[<- II];simpa using hj);have HS:gC (l9 Z seen)=gC Z:=aad rP;have adF:(l9 Z seen).length<=2000000000:=by rw[rP.length_eq];exact kS
   have c5:=Z7 (l9 Z seen) (by omega);rw[HS,<- hT]at c5;have Dn:(nV h x k).length<=2000000000:=by rw[hT,(yl Z).length_eq];exact kS
   (conv=>whnf);repeat ((fail_if_success (first|(refine J.kx ag F260 rfl rfl rfl rfl ?_)|fail));(refine J.run ag F260 1 ?_);(conv=>whnf))
   refine J.kx ag F260 rfl rfl rfl rfl ?_;(conv=>whnf);(conv=>whnf);refine fW ?_
   (conv=>whnf);repeat ((fail_if_success (first|(refine J.kx ag Tryz.func181 rfl rfl rfl rfl ?_)|fail));(refine J.run ag Tryz.func181 1 ?_);(conv=>whnf))
   refine J.kx ag Tryz.func181 rfl rfl rfl rfl ?_;(conv=>whnf);(conv=>whnf);refine fW ?_
   refine gO Tryz.func109 ?_
   with_reducible refine aS c5 ?_
   (conv=>whnf);(conv=>whnf);repeat ((fail_if_success (first|(refine J.kx ag Tryz.func109 rfl rfl rfl rfl ?_)|fail));(refine J.run ag Tryz.func109 1 ?_);(conv=>whnf))
   refine J.kx ag Tryz.func109 rfl rfl rfl rfl ?_;(conv=>whnf);(conv=>whnf);refine fW ?_
   refine J.freeze 17 ?_;(conv=>whnf);refine fW ?_
   refine gO F108 ?_;obtain⟨T,DQ⟩:∃ T,nV h x k=T:=⟨_,rfl⟩;rw[DQ]at Dn;rw[DQ];have ib:(aeU (k+1)).filter (jw ask h x)=(aeU k).filter (jw ask h x)++(if jw ask h x k then[k]else[]):=by
    rw[List.range_succ,aiM];cases h:jw ask h x k<;>simp[h]
   have DA:jw ask h x k=T.any fun t=>(ask k t).2==0&&decide ((ask k t).1=x.answer):=by rw[<- DQ];rfl
   refine J.loop (κ:=Nat) ([1,11,12]++[7,8,10,15,16,17,18,19,20,21,22,23,24,25,26,27,28,29,30,31,32,33,34,35,36,37,38,39,40,41,42,43,44,45,46,47,48,49,50,51,52,53,54]) (fun j=>[(15,.d (.int .i64 j))]) (fun _=>[]) (fun j=>j<=T.length/\∀ t∈T.take j,((ask k t).2==0&&decide ((ask k t).1=x.answer))=false) (fun j=>T.length-j) 0 ⟨afv _,fun t h=>by simp at h⟩ ?_ ?_
   ·(conv=>whnf);repeat (first|exact trivial|(rw[fF];conv=>whnf)|(refine sI ?_;conv=>whnf))
   rintro j ⟨hj,bI⟩ KH;refine J.head ag F108 2000 ?_;(conv=>whnf);refine ai (fun h8=>?_) (fun h8=>?_)
   ·have rU:j<T.length:=by simpa using h8
    obtain⟨t,DR⟩:=aH rU;obtain⟨xI,fN,Ah⟩:=hak t (by rw[DQ];exact afh DR);refine gO F108 ?_;refine aD (e := .int .i64 t) (aO DR) rfl ?_;refine gO F108 ?_;refine J.o9 18 1 (61,3) (by decide) rfl rfl ?_;refine gO F108 ?_;refine J.loop (κ:=Nat) ([10]++rg 27 23) (fun m=>[(27,.d (.int .i64 m))]) (fun m=>[(18,.cells [.d (.sl [y.enc]),.own 19 1,.d (.str h.anchor.name),.d (.int .i64 h.anchor.type),.d (.int .i64 h.anchor.bY),.d (.sl (h.anchor.data.map Datum.enc)),.d (.sl (h.hints.map (.int .i64)))]),(19,.arr 1 (61,3) ((ma (L.take m) t).map aK.enc))]) (fun m=>m<=L.length) (fun m=>L.length-m) 0 (afv _) ?_ ?_
    ·(conv=>whnf);repeat (first|exact trivial|(rw[fF];conv=>whnf)|(refine sI ?_;conv=>whnf))
     refine And.intro rfl ?_;(conv=>whnf);repeat (first|exact trivial|(rw[fF];conv=>whnf)|(refine sI ?_;conv=>whnf))
    intro m hm MH;refine J.head ag F108 2000 ?_;(conv=>whnf);refine ai (fun h9=>?_) (fun h9=>?_)
    ·have Gx:m<L.length:=by simpa using h9
     obtain⟨c,hc⟩:=aH Gx;have tU:=aae (t:=t) hc;have adG:(ma (L.take m) t).length<=m:=by rw[ma,aff];exact aen (aiN ..) (by simp;omega)
     generalize ma (L.take m) t=Y at *;refine gO F108 ?_;refine aD (e:=c.enc) (aO hc) rfl ?_;refine gO F108 ?_;refine ai (fun g1=>?_) (fun g1=>?_)
     ·refine gO F108 ?_;refine ai (fun g2=>?_) (fun g2=>?_)
      ·refine gO F108 ?_;refine aW ⟨by simp only[aff,aef,List.length_nil];omega,by simp[DV.cells]⟩ ?_;have ha:r9 t c=true:=by simp_all[r9]
       rw[ha,if_pos rfl]at tU;refine gO F108 ?_;refine J.back (MH (m+1) (by omega) (by omega)) ?_;rw[tU,aeJ];(conv=>whnf);repeat (first|exact trivial|(rw[fF];conv=>whnf)|(refine sI ?_;conv=>whnf))
       refine And.intro rfl ?_;(conv=>whnf);repeat (first|exact trivial|(rw[fF];conv=>whnf)|(refine sI ?_;conv=>whnf))
      ·have ha:r9 t c=false:=by rw[r9,g2,ahI]
       rw[ha]at tU;simp only[aet,if_false,ags]at tU;refine gO F108 ?_;refine J.back (MH (m+1) (by omega) (by omega)) ?_;rw[tU];(conv=>whnf);repeat (first|exact trivial|(rw[fF];conv=>whnf)|(refine sI ?_;conv=>whnf))
     ·have ha:r9 t c=false:=by rw[r9,g1,ahH]
      rw[ha]at tU;simp only[aet,if_false,ags]at tU;refine gO F108 ?_;refine aR ?_;refine gO F108 ?_;refine J.back (MH (m+1) (by omega) (by omega)) ?_;rw[tU];(conv=>whnf);repeat (first|exact trivial|(rw[fF];conv=>whnf)|(refine sI ?_;conv=>whnf))
    ·have aC:m=L.length:=by simp at h9;omega
     subst aC;refine J.freeze 19 ?_;(conv=>whnf);refine fW ?_
     rw[ahj];refine gO F108 ?_;refine J.yield 0 rfl rfl rfl (aV rfl) (lT (aV rfl)) rfl ?_;(conv=>whnf);refine fW ?_
     refine gO F17 ?_;refine J.begin 0 rfl rfl rfl ?_;(conv=>whnf);refine fW ?_
     refine gO F17 ?_;have c6:=ZN (ask k t).1 x.answer fN Ah;refine dU ?_;refine aD (e:=y.enc) (aO hy) rfl ?_;refine gD ?_;refine ax (xI) ?_;refine gD ?_;refine And.intro (by kernel_rfl) ?_;(conv=>whnf);refine gO F17 ?_;have aG:((ask k t).2==0&&decide ((ask k t).1=x.answer))=false->∀ t'∈T.take (j+1),((ask k t').2==0&&decide ((ask k t').1=x.answer))=false:=fun e t' ob=>by
      rw[cG DR]at ob;rcases aeI.1 ob with h|h
      ·exact bI t' h
      ·rw[List.mem_singleton.1 h];exact e
     refine ai (fun g3=>?_) (fun g3=>?_)
     ·refine gO F17 ?_;refine aq (c6) ?_;refine gO F17 ?_;cases DS:decide ((ask k t).1=x.answer)
      ·refine aR ?_;refine gO F17 ?_;refine J.pb 0 rfl rfl rfl ?_;(conv=>whnf);refine fW ?_
       refine gO F108 ?_;refine aR ?_;refine gO F108 ?_;refine J.back (KH (j+1) ⟨by omega,aG (by rw[DS,ahI])⟩ (by omega)) ?_;(conv=>whnf);repeat (first|exact trivial|(rw[fF];conv=>whnf)|(refine sI ?_;conv=>whnf))
      ·refine a8 ?_;have hct:jw ask h x k=true:=by rw[DA,List.any_eq_true];exact⟨t,afh DR,by rw[g3,DS];rfl⟩
       refine gO F17 ?_;refine aW ⟨by have:=aiN (jw ask h x) (aeU k);simp at this;simp;omega,by simp[DV.cells]⟩ ?_;refine gO F17 ?_;refine J.TI 0 rfl rfl rfl rfl ?_;(conv=>whnf);refine fW ?_
       refine gO F108 ?_;refine a8 ?_;refine gO F108 ?_;refine J.ky ag F108 rfl rfl rfl rfl (fun e=>nomatch e) ?_;(conv=>whnf);refine J.Pb (rows:=[]) rfl ?_;refine fW ?_
       refine gO F17 ?_;refine J.back (IH (k+1) _ (by omega) (by omega)) ?_;rw[ib,hct,if_pos rfl,aeJ,aeJ];(conv=>whnf);repeat (first|exact trivial|(rw[fF];conv=>whnf)|(refine sI ?_;conv=>whnf))
       refine And.intro rfl ?_;(conv=>whnf);repeat (first|exact trivial|(rw[fF];conv=>whnf)|(refine sI ?_;conv=>whnf))
     ·refine gO F17 ?_;refine aR ?_;refine gO F17 ?_;refine J.pb 0 rfl rfl rfl ?_;(conv=>whnf);refine fW ?_
      refine gO F108 ?_;refine aR ?_;refine gO F108 ?_;refine J.back (KH (j+1) ⟨by omega,aG (by rw[g3,ahH])⟩ (by omega)) ?_;(conv=>whnf);repeat (first|exact trivial|(rw[fF];conv=>whnf)|(refine sI ?_;conv=>whnf))
   ·have aC:j=T.length:=by simp at h8;omega
    subst aC;rw[ahj]at bI;have nx:jw ask h x k=false:=by rw[DA,List.any_eq_false];exact fun t ht=>by rw[bI t ht];simp
    refine gO F108 ?_;refine J.ky ag F108 rfl rfl rfl rfl (fun e=>nomatch e) ?_;(conv=>whnf);refine J.Pb (rows:=[]) rfl ?_;refine fW ?_
    refine gO F17 ?_;refine J.back (IH (k+1) _ (by omega) (by omega)) ?_;rw[ib,nx];simp only[aet,if_false,ags];(conv=>whnf);repeat (first|exact trivial|(rw[fF];conv=>whnf)|(refine sI ?_;conv=>whnf))
  ·obtain⟨z,hz,e⟩:∃ z,Z[j]?=some z/\(DV.int .i64 z,DV.bool true)=(kk,y):=by rw[<- II]at hj;simpa using hj
   cases e;have oU:=aX hz;have hkn:=Pf (seen:=seen) hz;have c8:(seen++[j]).Nodup:=by
    rw[List.nodup_append];exact⟨vG,by simp,fun a ha b hb e=>by simp at hb;subst hb;subst e;exact lb ha⟩
   have Po:∀ i∈seen++[j],i<Z.length:=fun i hi=>by rcases aeI.1 hi with h|h;exact IJ i h;simp at h;omega
   have aaj:=Pg c8 Po;rw[List.length_append,agw]at aaj;refine fW ?_
   refine gO F183 ?_;refine a8 ?_;refine gO F183 ?_;refine J.entry (it:=⟨bm,r,en,ck,since,seen++[j],ee⟩) (g1:=[]) (g2:=[]) (pre:=seen) (j:=j) rfl rfl rfl rfl hj (aV rfl) ?_;refine fW ?_
   (conv=>whnf);repeat ((fail_if_success (first|(refine J.yield 0 rfl rfl rfl (aV rfl) (lT (aV rfl)) rfl ?_)|fail));(refine J.run ag F183 1 ?_);(conv=>whnf))
   refine J.yield 0 rfl rfl rfl (aV rfl) (lT (aV rfl)) rfl ?_;(conv=>whnf);refine fW ?_
   (conv=>whnf);repeat ((fail_if_success (first|(refine J.begin 0 rfl rfl rfl ?_)|fail));(refine J.run ag F260 1 ?_);(conv=>whnf))
   refine J.begin 0 rfl rfl rfl ?_;(conv=>whnf);refine fW ?_
   refine gO F260 ?_;refine aW ⟨by simp;omega,by simp[DV.cells]⟩ ?_;refine gO F260 ?_;refine J.pb 0 rfl rfl rfl ?_;(conv=>whnf);refine fW ?_
   refine gO F183 ?_;refine aU (by decide) ?_;refine gO F183 ?_;refine J.back (JH (seen++[j]) ⟨c8,Po⟩ (by simp;omega)) ?_;(conv=>whnf);repeat (first|exact trivial|(rw[fF];conv=>whnf)|(refine sI ?_;conv=>whnf))
   refine And.intro (by rw[hkn];simp) ?_;(conv=>whnf);repeat (first|exact trivial|(rw[fF];conv=>whnf)|(refine sI ?_;conv=>whnf))
 ·have aC:k=h.ay.length:=by simp at h5;omega
  subst aC;refine J.freeze 3 ?_;(conv=>whnf);refine fW ?_
  cases ds with
  |nil =>
   refine gO F17 ?_;rw[<- hQ];rfl
  |cons d ds =>
   refine gO F17 ?_;refine J.lW ag F17 rfl rfl rfl rfl (L:=[]) ?hm ?hr
   case hm=>exact Pc (ds:=d::ds)
   case hr =>
    (conv=>whnf);rw[<- hQ];rfl
end Go.Proofs.YtfmdaiojokniiaaGreatDoor.P
end
section
namespace Go.aA
open Go Go.RowKit
theorem ar.abM{E:Env}{f:FuncId}{ds:List DV}{h:List af}{cs:List AV}{r:DV}(H:ar E f [.agg ds] (· = r))(hd:pU h cs=some ds)(hr:Cf r=true)(hg:uS cs=true)(mq:pQ h=true):aw E f h [.agg cs] (fun a b=>a=.d r/\b=h):=by
 unfold ar at H;unfold aw;refine⟨H.1,kn mq,fun c vs h1 h2 h3=>?_⟩;subst h1;have iS:uq E.G c.aE c.w:=fun g e aC=>by
  have hp:∀ p,VR c (.bQ e 0) p->VR ⟨fun _=>none,[],c.aE,c.w⟩ (.bQ e 0) p:=fun p hp=>by
   cases hp with
   |bQ _ _ blk o' fv k1 k2 k3 k4=>exact .bQ _ _ blk o' fv (fun hb=>k1 (.inl (wS.1 hb))) k2 k3 (fun j x hx=>wT ((k4 j x hx).mono fun b _ hn=>⟨fun hb=>hn (.inl hb),rfl⟩))
  exact hp _ (h2.fS g e aC)
 have hv:jE c.aE c.w [.agg ds] vs:=by
  obtain⟨v,rfl⟩:∃ v,vs=[v]:=by
   have:=h3.1
   match vs,this with
   |[v],_=>exact⟨v,rfl⟩
  obtain⟨us,rfl,hu⟩:=pG (h3.2 0 _ v rfl rfl);have:=Cg h2 (kn mq) hd hg hu;refine⟨rfl,fun j x u hx hu=>?_⟩;cases j with
  |zero=>simp at hx hu;subst hx;subst hu;exact .agg _ _ (by simpa using this.1) fun j x v hx hv=>this.2 j x v hx (by simpa using hv)
  |succ j=>simp at hx
 refine(H.2 c.aE c.w vs h2.bS iS hv).mono fun e w' ⟨v,r',k1,k2,k3,k4⟩=>?_;subst k2;obtain⟨q1,q2⟩:=h2.grow k4;exact⟨c.eB w',.d r',v,k1,rfl,⟨rfl,rfl⟩,.d _ _ (K3 hr k3),q1,(Rel.refl c (kn mq)).step q2⟩
theorem abN{E:Env}{s:List AV}{h:List af}(hE:E.OK){args:Array Operand}{uy:Array TypeId}{x y:Operand}{t0 t1 e e1:Nat}{i0 i1 ei:bu}{m:List DV}(hx:args.toList=[x,y])(BJ:uy.toList=[t0,t1])(lG:E.T[t0]?=some i0)(wY:E.T[t1]?=some i1)(b9:i0.k=.slice e)(dm:i1.k=.slice e1)(bV:E.T[e]?=some ei)
  (hz:ei.zero.length=ei.size) (cS:Nat.blt 0 ei.size=true) (qH:Nat.ble ei.bytes 65536=true) (ha:bh E.G s x (.d .aI)) (hy:bh E.G s y (.d (.sl m))) (hm:∀ e∈m,e.cells.length=ei.size) (sF:m.length<=2147483648) :
  bz E (.call { callee := .builtin .append,args:=args,argTypes:=uy }) s h (.d (.sl m)) (h++[.gone]):=fun o c ac h1 h2 h3 h4=>by
 have P2:=iO cS;have ho:=JP (h:=h) hE hx BJ lG wY b9 (fun k e=>by rw[dm]at e;cases e) bV hz P2 (Nat.le_of_ble_eq_true qH) hy hm (fun c v hv=>by cases hv with|d _ _ hv=>exact JK P2 hm hv) ha (r := .own h.length 1) (h':=h++[.arr 1 (e,ei.size) m]) (.inr ⟨rfl,sF,rfl,rfl⟩);obtain⟨c1,v,k1,k2,k3,k4,k5⟩:=ho o c ac h1 h2 h3 h4;obtain⟨c2,j1,j2,j3,j4,j5⟩:=k3.rest (b:=h.length) (g:=1) (ts:=(e,ei.size)) (l:=m) (by rw[k2];simp);exact⟨c2,v,by rw[j2];exact k1,by rw[j1,k2];simp,j3,j5 v k4,k5.trans j4⟩
end Go.aA
end
