/- Lemmas of mine. Conditions: as stated. -/
import Derived.Test.YtfmdaiojokniiaaGreatDoorU24
import Derived.Test.YtfmdaiojokniiaaGreatDoorU25
set_option linter.unusedVariables false
set_option linter.unusedSimpArgs false
section
namespace Go.Proofs.YtfmdaiojokniiaaGreatDoor.P
open Go Go.ay
set_option maxRecDepth 100000
set_option maxHeartbeats 4000000
def oA(f u:Int)(K:List Int)(t:Int):List Int:=if f<=t/\t<u then K++[t]else K
theorem HR(f u:Int)(K:List Int)(t:Int):ar E 106 [.cells [.d (.int .i64 f)],.cells [.d (.int .i64 u)],.cells [.map 3],.map (ek (DV.int .i64) K)] [.d (.int .i64 t),.ptr 0 0,.ptr 1 0,.ptr 2 0] (fun a b=>a=.aD []/\b=[.cells [.d (.int .i64 f)],.cells [.d (.int .i64 u)],.cells [.map 3],.map (ek (DV.int .i64) (oA f u K t))]):=by
 have iw:=Y6 (oo MR K).1;unfold oA;refine ar.run ab (fn:=Tryz.f106) Tryz.func106 (body:=Tryz.f106.body.getD .skip) rfl (by decide) 2000 rfl ?_;(conv=>whnf);repeat' (first|with_reducible(first|refine cY ?_|refine cN ?_|refine ai (fun _=>?_) (fun _=>?_))|refine gA Tryz.func106 ?_|refine gB ?_|with_reducible rfl)
 all_goals try (refine⟨rfl,?_⟩;rw[if_neg (by simp_all;try omega)];done)
 refine aV ⟨⟨_,rfl⟩,iw⟩ ?_;refine gO Tryz.func106 ?_;refine⟨rfl,?_⟩;rw[if_pos (by simp_all),te]
theorem Y8{α:Type}{f:α->DV}{l:List α}{i:Nat}{y:α}(h:l[i]?=some y)(z:DV):(((l.map f).take l.length).drop i).take 1++[z].drop (l.length-i)=[f y]:=by
 obtain⟨hi,rfl⟩:=List.getElem?_eq_some_iff.1 h;rw[List.take_of_length_le (l:=l.map f) (i:=l.length) (by simp),List.drop_eq_getElem_cons (by simpa using hi),List.drop_of_length_le (l:=[z]) (by rw[List.length_singleton];omega)];simp
def gT(i:Nat)(n:Text)(c:aY):Bool:=Nm.mn n c.aw.aj&&(c.host==i)
def AN(f u:Int)(K:List Int)(c:aY):List Int:=oA f u (oA f u K c.cu) c.upto
def nC(f u:Int)(l:List aY):List Int:=l.foldl (AN f u) (oA f u [] f)
theorem Y9(h:bZ)(i:Nat)(x:cW)(y:Host)(hy:h.aC[i]?=some y)(hl:h.aE.length<=1000000)(hz:∀ c∈h.aE,c.aw.aj.length<=maxLen)(hn:x.q.name.length<=maxLen)(ht:0<=x.time/\x.time<=10000000)(hd:0<=h.bN/\h.bN<=1000)(f u:Int)(rV:max (x.time-h.bN) 0=f)(AK:min (x.time+h.bN+1) h.fin=u) :
  ar E 43 [] [.d h.enc,.d (.int .i64 i),.d x.enc] (fun a b=>a=.fn (.func 108) [] [.ptr 8 0,.ptr 5 0,.ptr 0 0,.ptr 6 0]/\b=[.cells [.d (.sl (h.aC.map Host.enc)),.d (.sl (h.aE.map aY.enc)),.d (.str h.anchor.name),.d (.int .i64 h.anchor.type),.d (.int .i64 h.anchor.cy),.d (.sl (h.anchor.data.map Datum.enc)),.d (.sl (h.hints.map (.int .i64))),.d (.int .i64 h.bN),.d (.int .i64 h.fin)],.cells [.d (.int .i64 x.time),.d (.int .i64 x.addr),.d (.str x.q.name),.d (.int .i64 x.q.type),.d (.int .i64 x.answer.kind),.d (.sl (x.answer.ae.map Signed.enc)),.d (.str x.answer.cut)],.cells [.d (.int .i64 f)],.cells [.d (.int .i64 u)],.gone,.cells [.d (.sl [y.enc])],.cells [.d (.sl ((h.aE.filter (gT i x.q.name)).map aY.enc))],.map (ek (DV.int .i64) (nC f u (h.aE.filter (gT i x.q.name)))),.cells [.map 7],.gone]):=by
 obtain⟨aC,aE,anchor,hints,bN,fin⟩:=h;obtain⟨t,ad,⟨qn,qt⟩,⟨ak,al,ac⟩⟩:=x;simp only at hy hl hz hn ht hd rV AK;show ar E _ [] [.d (DV.agg [.sl (aC.map Host.enc),.sl (aE.map aY.enc),.str anchor.name,.int .i64 anchor.type,.int .i64 anchor.cy,.sl (anchor.data.map Datum.enc),.sl (hints.map (.int .i64)),.int .i64 bN,.int .i64 fin]),_,.d (DV.agg [.int .i64 t,.int .i64 ad,.str qn,.int .i64 qt,.int .i64 ak,.sl (al.map Signed.enc),.str ac])] _;refine ar.run ab (fn:=Tryz.f43) Tryz.func43 (body:=Tryz.f43.body.getD .skip) rfl (by decide) 2000 rfl ?_;(conv=>whnf);refine I.bJ ab bG 2000 (by kernel_rfl) ?_;(conv=>whnf);rw[wrap64 (n:=t-bN) (by omega) (by omega)];refine bM.pure rfl (fun _=>YT (aS rfl) Sk) ?_;rw[rV];refine gD ?_;rw[wrap64 (n:=t+bN) (by omega) (by omega),wrap64 (n:=t+bN+1) (by omega) (by omega)];refine bM.pure rfl (fun _=>YU (aS rfl) (aS rfl)) ?_;rw[AK];refine gD ?_;refine And.intro (by kernel_rfl) ?_;(conv=>whnf);refine gO F43 ?_;refine aV ⟨by omega,by omega,by omega⟩ ?_;refine gO F43 ?_;refine I.bJ ab bG 2000 (by kernel_rfl) ?_;(conv=>whnf);refine aV ⟨by simp,by simp;exact Nat.le_of_lt (aQ hy),by simp,by simp[DV.cells]⟩ ?_;refine gD ?_;refine gD ?_;refine bM.at rfl ?_;conv=>whnf
 refine kJ.KS ab [y.enc] rfl (aS rfl) (aS rfl) rfl rfl rfl rfl rfl (by simp) (fun z hz=>by
  obtain⟨u,_,rfl⟩:=List.mem_map.1 (List.mem_of_mem_take (List.mem_of_mem_drop hz))
  rfl) ?_ ?_
 ·simpa using Y8 (f:=Host.enc) hy (.agg [.str [],.int .i64 0,.int .i64 0])
 refine gD ?_;refine And.intro (by kernel_rfl) ?_;(conv=>whnf);refine gO F43 ?_;refine gO F43 ?_;have c1:=HR f u [] f;rw[show ek (DV.int .i64) ([]:List Int)=[]from rfl]at c1
 with_reducible refine aO (c1) ?_
 refine gO F43 ?_;refine I.freeze 4 ?_;(conv=>whnf);refine I.pK 6 0 (68,5) (by decide) rfl rfl ?_;refine gO F43 ?_;refine I.loop (κ:=Nat) ([14,15,16]++rg 47 34) (fun k=>[(47,.d (.int .i64 k))]) (fun k=>[(6,.cells [.own 9 1]),(7,.map (ek (DV.int .i64) (nC f u ((aE.take k).filter (gT i qn))))),(9,.arr 1 (68,5) (((aE.take k).filter (gT i qn)).map aY.enc))]) (fun k=>k<=aE.length) (fun k=>aE.length-k) 0 (Nat.zero_le _) ?_ ?_
 ·(conv=>whnf);repeat (first|exact trivial|(refine sI ?_;conv=>whnf))
  refine And.intro rfl ?_;(conv=>whnf);repeat (first|exact trivial|(refine sI ?_;conv=>whnf))
  refine And.intro rfl ?_;exact sZ
 intro k hk IH;refine I.head ab F43 2000 ?_;(conv=>whnf);refine ai (fun h5=>?_) (fun h5=>?_)
 ·have ah:k<aE.length:=by simpa using h5
  obtain⟨c,hc⟩:=aG ah;have c2:=uU qn c.aw.aj hn (hz c (List.mem_of_getElem? hc));have gS:(aE.take (k+1)).filter (gT i qn)=(aE.take k).filter (gT i qn)++(if gT i qn c then[c]else[]):=by
   rw[cK hc,List.filter_append];cases h:gT i qn c<;>simp[h]
  have hln:((aE.take k).filter (gT i qn)).length<=k:=Nat.le_trans (List.length_filter_le ..) (by simp;omega);generalize (aE.take k).filter (gT i qn)=L at *;have c3:=HR f u (nC f u L) c.cu;have c4:=HR f u (oA f u (nC f u L) c.cu) c.upto;refine gO F43 ?_;refine aB (e:=c.enc) (aN hc) rfl ?_;refine gO F43 ?_;refine ao (c2) ?_;refine gO F43 ?_;cases hv:Nm.mn qn c.aw.aj
  ·refine aR ?_;refine gO F43 ?_;refine aR ?_;refine gO F43 ?_;refine I.back (IH (k+1) (by omega) (by omega)) ?_;rw[gS,show gT i qn c=false by simp[gT,hv]];simp only[Bool.false_eq_true,if_false,List.append_nil];exact sZ
  refine bj ?_;refine gO F43 ?_;refine ai (fun h6=>?_) (fun h6=>?_)
  ·refine gO F43 ?_;refine aV ⟨by simp;omega,by simp[DV.cells]⟩ ?_;refine gO F43 ?_
   with_reducible refine aO (c3) ?_
   refine gO F43 ?_
   with_reducible refine aO (c4) ?_
   refine gO F43 ?_;refine I.back (IH (k+1) (by omega) (by omega)) ?_;rw[gS,show gT i qn c=true by simp[gT,hv,h6],if_pos rfl,show nC f u (L++[c])=oA f u (oA f u (nC f u L) c.cu) c.upto by simp[nC,AN],List.map_append];(conv=>whnf);repeat (first|exact trivial|(refine sI ?_;conv=>whnf))
   refine And.intro rfl ?_;exact sZ
  ·refine gO F43 ?_;refine I.back (IH (k+1) (by omega) (by omega)) ?_;rw[gS,show gT i qn c=false by simp[gT,h6]];simp only[Bool.false_eq_true,if_false,List.append_nil];exact sZ
 ·have aA:aE.length<=k:=by simpa using h5
  rw[List.take_of_length_le aA];refine I.freeze 9 ?_;(conv=>whnf);refine gO F43 ?_;exact⟨rfl,rfl⟩
end Go.Proofs.YtfmdaiojokniiaaGreatDoor.P
end
section
namespace Go.Proofs.YtfmdaiojokniiaaGreatDoor.P
open Go Go.ay Go.Sort
set_option maxRecDepth 100000
set_option maxHeartbeats 400000
def rL(t:Int)(c:aY):Bool:=decide (c.cu<=t)&&decide (t<c.upto)
def lU(l:List aY)(t:Int):List bc:=(l.filter (rL t)).map fun c=>⟨0,c.aw⟩
def x3(h:bZ)(x:cW):Int:=max (x.time-h.bN) 0
def x4(h:bZ)(x:cW):Int:=min (x.time+h.bN+1) h.fin
def nD(h:bZ)(x:cW)(i:Nat):List aY:=h.aE.filter (gT i x.q.name)
def nE(h:bZ)(x:cW)(i:Nat):List Int:=gm (eC [] (nC (x3 h x) (x4 h x) (nD h x i)))
def jh(ask:Nat->Int->dR × Int)(h:bZ)(x:cW)(i:Nat):Bool:=(nE h x i).any fun t=>(ask i t).2==0&&decide ((ask i t).1=x.answer)
def x5(h:bZ)(x:cW):Int:=if gz h&&p0 x then 0 else 1
def tC(ask:Nat->Int->dR × Int)(h:bZ)(x:cW):List Int:=if gz h&&p0 x && !nw x.answer then((List.range h.aC.length).filter (jh ask h x)).map fun(i:Nat)=>(i:Int)else[]
theorem Y'{h:bZ}{x:cW}{i:Nat}:(nD h x i).length<=h.aE.length:=List.length_filter_le ..
theorem HS{f u t:Int}{K:List Int}:(oA f u K t).length<=K.length+1:=by
 unfold oA;split<;>simp
theorem Ov{f u:Int}:∀ {l:List aY} {K:List Int},(l.foldl (AN f u) K).length<=K.length+2*l.length
 |[],_=>by simp
 |c::l,K=>by
  rw[List.foldl_cons,List.length_cons];have h1:=Ov (f:=f) (u:=u) (l:=l) (K:=AN f u K c);have h2:=HS (f:=f) (u:=u) (t:=c.upto) (K:=oA f u K c.cu);have h3:=HS (f:=f) (u:=u) (t:=c.cu) (K:=K);unfold AN at h1 ⊢;omega
theorem Za{f u:Int}{l:List aY}:(nC f u l).length<=1+2*l.length:=by
 have h1:=Ov (f:=f) (u:=u) (l:=l) (K:=oA f u [] f);have h2:=HS (f:=f) (u:=u) (t:=f) (K:=[]);unfold nC;simp at h2;omega
theorem Zb{a b:List Int}(h:a.Perm b):gm a=gm b:=by
 have h1:=HQ a;have h2:=HQ b;have h3:(gm a).Perm (gm b):=(xZ a).trans (h.trans (xZ b).symm);exact h3.eq_of_pairwise (fun x y _ _ p q=>Int.le_antisymm p q) h1 h2
theorem Zc{t:Int}{L:List aY}{m:Nat}{c:aY}(h:L[m]?=some c):lU (L.take (m+1)) t=lU (L.take m) t++(if rL t c then[⟨0,c.aw⟩]else[]):=by
 rw[lU,cK h,List.filter_append,List.map_append];cases e:rL t c<;>simp[e,lU]
theorem Ow(h:bZ)(x:cW)(ask:Nat->Int->dR × Int)(hf:h.Fits)(dz:h.aE.length<=1000000)(og:x.cT)
  (Zd:∀ (i:Nat) (y:Host) (t:Int),h.aC[i]?=some y->gz h=true->p0 x=true->t∈nE h x i->aq E 31 [.agg [.sl [y.enc],.sl ((lU (nD h x i) t).map bc.enc),.str h.anchor.name,.int .i64 h.anchor.type,.int .i64 h.anchor.cy,.sl (h.anchor.data.map Datum.enc),.sl (h.hints.map (.int .i64))],.int .i64 y.addr,.agg [.str x.q.name,.int .i64 x.q.type]] (· = .aD [.agg [.int .i64 (ask i t).1.kind,.sl ((ask i t).1.ae.map Signed.enc),.str (ask i t).1.cut],.int .i64 (ask i t).2])/\(ask i t).1.ae.length<=2147483648/\∀ s∈(ask i t).1.ae,s.set.data.length<=2147483648/\s.sigs.length<=2147483648) :
  aq E 17 [h.enc,x.enc] (· = .aD [.sl ((tC ask h x).map (.int .i64)),.int .i64 (x5 h x)]):=by
 refine aq.norm ?_;have c1:=Nb h hf dz;have c2:=YO x og;have c3:=Oe x.answer;unfold tC x5;cases mW:gz h
 ·rw[mW]at c1;refine eP F17 ?_;refine ao (c1) ?_;refine gO F17 ?_;refine bj ?_;refine gO F17 ?_;refine bj ?_;refine gO F17 ?_;rfl
 cases kg:p0 x
 ·rw[mW]at c1;rw[kg]at c2;refine eP F17 ?_;refine ao (c1) ?_;refine gO F17 ?_;refine aR ?_;refine gO F17 ?_;refine ao (c2) ?_;refine gO F17 ?_;refine bj ?_;refine gO F17 ?_;rfl
 rw[mW]at c1;rw[kg]at c2;cases Ox:nw x.answer
 case true =>
  rw[Ox]at c3;refine eP F17 ?_;refine ao (c1) ?_;refine gO F17 ?_;refine aR ?_;refine gO F17 ?_;refine ao (c2) ?_;refine gO F17 ?_;refine aR ?_;refine gO F17 ?_;refine ao (c3) ?_;refine gO F17 ?_;refine bj ?_;refine gO F17 ?_;rfl
 rw[Ox]at c3;have ht:0<=x.time/\x.time<=10000000:=by simp[p0]at kg;omega
 have hd:0<=h.bN/\h.bN<=1000:=by simp[gz]at mW;omega
 have CF:h.aC.length<=1000000:=by simp[gz,gy]at mW;omega
 have hq:fF x.q=true:=by simp[p0]at kg;exact kg.1.1.1.1.1
 have Ze:∀ c∈h.aE,c.aw.aj.length<=maxLen:=fun c hc=>(hf.jB c hc).aj;rw[if_pos (by rfl),if_pos (by rfl)];refine eP F17 ?_;refine ao (c1) ?_;refine gO F17 ?_;refine aR ?_;refine gO F17 ?_;refine ao (c2) ?_;refine gO F17 ?_;refine aR ?_;refine gO F17 ?_;refine ao (c3) ?_;refine gO F17 ?_;refine aR ?_;refine gO F17 ?_;refine I.pK 2 0 (3,1) (by decide) rfl rfl ?_;generalize hQ:(ua fun r=>norm r=DV.aD [DV.sl ((((List.range h.aC.length).filter (jh ask h x)).map fun(i:Nat)=>(i:Int)).map (DV.int .i64)),DV.int .i64 0])=Q;refine gO F17 ?_;refine I.YV (R:=⟨0,Q,[],⟨17,none,[],[],[],[]⟩⟩) (κ:=Nat) [7,8,9,10,25,26,27,28,29,30,31,33,34,35,36,37,38,39,40,41,42,43,44,45,46,47,48,49,50,51,52,53,54,55,56,57,58] (fun k=>[(25,.d (.int .i64 k))]) (fun k=>[(2,.cells [.own 3 1]),(3,.arr 1 (3,1) ((((List.range k).filter (jh ask h x)).map fun(i:Nat)=>(i:Int)).map (.int .i64)))]) (fun k=>k<=h.aC.length) (fun k=>h.aC.length-k) 0 [] [] (Nat.zero_le _) ?_ ?_
 ·(conv=>whnf);repeat (first|exact trivial|(refine sI ?_;conv=>whnf))
  refine And.intro rfl ?_;exact sZ
 intro k ds hk IH;refine I.head ab F17 2000 ?_;(conv=>whnf);refine ai (fun h5=>?_) (fun h5=>?_)
 ·have ah:k<h.aC.length:=by simpa using h5
  obtain⟨y,hy⟩:=aG ah;have c4:=Y9 h k x y hy dz Ze og.1 ht hd (x3 h x) (x4 h x) rfl rfl;obtain⟨Z,hZ⟩:∃ Z,eC [] (nC (x3 h x) (x4 h x) (h.aE.filter (gT k x.q.name)))=Z:=⟨_,rfl⟩;have hT:nE h x k=gm Z:=by rw[nE,nD,hZ]
  have hzn:Z.Nodup:=by rw[<- hZ];exact G1 List.nodup_nil
  have ky:Z.length<=2000000000:=by
   have h1:=CY (acc:=[]) (l:=nC (x3 h x) (x4 h x) (h.aE.filter (gT k x.q.name)));have h2:=Za (f:=x3 h x) (u:=x4 h x) (l:=h.aE.filter (gT k x.q.name));have h3:(h.aE.filter (gT k x.q.name)).length<=h.aE.length:=List.length_filter_le ..;rw[hZ]at h1;simp at h1;omega
  have hL:nD h x k=h.aE.filter (gT k x.q.name):=rfl;obtain⟨es,HT⟩:∃ es,(Z.map fun a=>(DV.int .i64 a,DV.bool true))=es:=⟨_,rfl⟩;rw[YW MR,hZ,HT,<- hL]at c4;have hLl:=Y' (h:=h) (x:=x) (i:=k);have Zf:=fun t=>Zd k y t hy mW kg;generalize nD h x k=L at *;refine gO F17 ?_;refine JL (ds:=[h.enc,.int .i64 k,x.enc]) c4 ?_;rintro r b ⟨rfl,rfl⟩;refine gO F17 ?_;refine I.rangeFunc (aS rfl) Tryz.func108 rfl (by decide) rfl (fun ll d t=>?_);refine gO F108 ?_
  with_reducible refine aO (Y7 es) ?_
  (conv=>whnf);repeat ((fail_if_success (first|(refine I.oa (fn:=Tryz.f109) rfl rfl pL (ml (aS rfl)) Tryz.func109 rfl (by decide) ?_)|fail));(refine I.run ab F108 1 ?_);(conv=>whnf))
  refine I.oa (fn:=Tryz.f109) rfl rfl pL (ml (aS rfl)) Tryz.func109 rfl (by decide) ?_;(conv=>whnf);conv =>
   arg 3
   try whnf
   try conv=>arg 1;whnf
   try conv=>arg 2;whnf
   try conv=>arg 3;whnf
   try conv=>arg 3;arg 2;whnf
   try conv=>arg 4;whnf
   try conv=>arg 4;arg 1;whnf
   try conv=>arg 4;arg 2;whnf
   try conv=>arg 4;arg 3;whnf
   try conv=>arg 4;arg 4;whnf
   try conv=>arg 4;arg 4;arg 2;whnf
   try conv=>arg 4;arg 4;arg 1;arg 1;whnf
   try conv=>arg 4;arg 4;arg 1;arg 1;arg 2;whnf
   try conv=>arg 4;arg 4;arg 1;arg 1;arg 3;whnf
   try conv=>arg 4;arg 4;arg 1;arg 1;arg 3;arg 2;whnf
   try conv=>arg 4;arg 5;whnf
   try conv=>arg 4;arg 5;arg 2;whnf
   try conv=>arg 4;arg 6;whnf
  (conv=>whnf);repeat ((fail_if_success (first|(refine I.oa (fn:=Tryz.f181) rfl rfl pL (ml (aS rfl)) Tryz.func181 rfl (by decide) ?_)|fail));(refine I.run ab Tryz.func109 1 ?_);(conv=>whnf))
  refine I.oa (fn:=Tryz.f181) rfl rfl pL (ml (aS rfl)) Tryz.func181 rfl (by decide) ?_;(conv=>whnf);conv =>
   arg 3
   try whnf
   try conv=>arg 1;whnf
   try conv=>arg 2;whnf
   try conv=>arg 3;whnf
   try conv=>arg 3;arg 2;whnf
   try conv=>arg 4;whnf
   try conv=>arg 4;arg 1;whnf
   try conv=>arg 4;arg 2;whnf
   try conv=>arg 4;arg 3;whnf
   try conv=>arg 4;arg 4;whnf
   try conv=>arg 4;arg 4;arg 2;whnf
   try conv=>arg 4;arg 4;arg 1;arg 1;whnf
   try conv=>arg 4;arg 4;arg 1;arg 1;arg 2;whnf
   try conv=>arg 4;arg 4;arg 1;arg 1;arg 3;whnf
   try conv=>arg 4;arg 4;arg 1;arg 1;arg 3;arg 2;whnf
   try conv=>arg 4;arg 5;whnf
   try conv=>arg 4;arg 5;arg 2;whnf
   try conv=>arg 4;arg 6;whnf
  (conv=>whnf);repeat ((fail_if_success (first|(refine I.oa (fn:=Tryz.f260) rfl rfl pL (sN Ot (aS rfl)) Tryz.func260 rfl (by decide) ?_)|fail));(refine I.run ab Tryz.func181 1 ?_);(conv=>whnf))
  refine I.oa (fn:=Tryz.f260) rfl rfl pL (sN Ot (aS rfl)) Tryz.func260 rfl (by decide) ?_;(conv=>whnf);conv =>
   arg 3
   try whnf
   try conv=>arg 1;whnf
   try conv=>arg 2;whnf
   try conv=>arg 3;whnf
   try conv=>arg 3;arg 2;whnf
   try conv=>arg 4;whnf
   try conv=>arg 4;arg 1;whnf
   try conv=>arg 4;arg 2;whnf
   try conv=>arg 4;arg 3;whnf
   try conv=>arg 4;arg 4;whnf
   try conv=>arg 4;arg 4;arg 2;whnf
   try conv=>arg 4;arg 4;arg 1;arg 1;whnf
   try conv=>arg 4;arg 4;arg 1;arg 1;arg 2;whnf
   try conv=>arg 4;arg 4;arg 1;arg 1;arg 3;whnf
   try conv=>arg 4;arg 4;arg 1;arg 1;arg 3;arg 2;whnf
   try conv=>arg 4;arg 5;whnf
   try conv=>arg 4;arg 5;arg 2;whnf
   try conv=>arg 4;arg 6;whnf
  (conv=>whnf);(conv=>whnf);repeat ((fail_if_success (first|(refine I.pK 16 0 (3,1) (by decide) rfl rfl ?_)|fail));(refine I.run ab F260 1 ?_);(conv=>whnf))
  refine I.pK 16 0 (3,1) (by decide) rfl rfl ?_;(conv=>whnf);(conv=>whnf);repeat ((fail_if_success (first|(refine I.rangeFunc (aS rfl) Tryz.func183 rfl (by decide) rfl (fun ll d t=>?_))|fail));(refine I.run ab F260 1 ?_);(conv=>whnf))
  refine I.rangeFunc (aS rfl) Tryz.func183 rfl (by decide) rfl (fun ll d t=>?_);(conv=>whnf);conv =>
   arg 3
   try whnf
   try conv=>arg 1;whnf
   try conv=>arg 2;whnf
   try conv=>arg 3;whnf
   try conv=>arg 3;arg 2;whnf
   try conv=>arg 4;whnf
   try conv=>arg 4;arg 1;whnf
   try conv=>arg 4;arg 2;whnf
   try conv=>arg 4;arg 3;whnf
   try conv=>arg 4;arg 4;whnf
   try conv=>arg 4;arg 4;arg 2;whnf
   try conv=>arg 4;arg 4;arg 1;arg 1;whnf
   try conv=>arg 4;arg 4;arg 1;arg 1;arg 2;whnf
   try conv=>arg 4;arg 4;arg 1;arg 1;arg 3;whnf
   try conv=>arg 4;arg 4;arg 1;arg 1;arg 3;arg 2;whnf
   try conv=>arg 4;arg 5;whnf
   try conv=>arg 4;arg 5;arg 2;whnf
   try conv=>arg 4;arg 6;whnf
  (conv=>whnf);repeat ((fail_if_success (first|(refine I.range ab rfl rfl rfl rfl (aS rfl) rfl (Nat.zero_le _) (fun it sF lZ sM=>?_))|fail));(refine I.run ab F183 1 ?_);(conv=>whnf))
  refine I.range ab rfl rfl rfl rfl (aS rfl) rfl (Nat.zero_le _) (fun it sF lZ sM=>?_);(conv=>whnf);obtain⟨bm,r,en,ck,since,seen,dV⟩:=it;simp only at sF lZ sM;subst sF;subst lZ;conv =>
   arg 3
   try whnf
   try conv=>arg 1;whnf
   try conv=>arg 2;whnf
   try conv=>arg 3;whnf
   try conv=>arg 3;arg 2;whnf
   try conv=>arg 4;whnf
   try conv=>arg 4;arg 1;whnf
   try conv=>arg 4;arg 2;whnf
   try conv=>arg 4;arg 3;whnf
   try conv=>arg 4;arg 4;whnf
   try conv=>arg 4;arg 4;arg 2;whnf
   try conv=>arg 4;arg 4;arg 1;arg 1;whnf
   try conv=>arg 4;arg 4;arg 1;arg 1;arg 2;whnf
   try conv=>arg 4;arg 4;arg 1;arg 1;arg 3;whnf
   try conv=>arg 4;arg 4;arg 1;arg 1;arg 3;arg 2;whnf
   try conv=>arg 4;arg 5;whnf
   try conv=>arg 4;arg 5;arg 2;whnf
   try conv=>arg 4;arg 6;whnf
  refine gO F183 ?_;refine I.Ck (κ:=List Nat) ([1,4]++[3,6,7,8,9,10,11,12,13]) (fun _=>[]) (fun x=>[(13,.gone),(15,.gone),(16,.cells [.own 17 1]),(17,.arr 1 (3,1) ((lT Z x).map (.int .i64)))]) (fun x=>[.iter ⟨bm,r,en,ck,since,x,dV⟩]) (fun x=>x.Nodup/\∀ j∈x,j<Z.length) (fun x=>Z.length-x.length) [] ⟨List.nodup_nil,fun j hj=>by cases hj⟩ rfl ?_ ?_
  ·(conv=>whnf);repeat (first|exact trivial|(rw[fy];conv=>whnf)|(refine sI ?_;conv=>whnf))
   refine And.intro rfl ?_;(conv=>whnf);repeat (first|exact trivial|(rw[fy];conv=>whnf)|(refine sI ?_;conv=>whnf))
  rintro seen ⟨vj,HU⟩ JH;have vK:=YX (xs:=Z) (seen:=seen);have abX:=Oo vj HU;refine I.head ab F183 2000 ?_;(conv=>whnf);refine I.next (it:=⟨bm,r,en,ck,since,seen,dV⟩) (g1:=[]) (g2:=[]) rfl rfl sM rfl (aS rfl) (fun aJ=>?_) (fun j kk y hj kH=>?_)
  ·refine gO F183 ?_;refine aR ?_;refine gO F183 ?_;refine I.kN ab F183 rfl rfl rfl rfl (fun e=>nomatch e) ?_;(conv=>whnf);conv =>
    arg 3
    try whnf
    try conv=>arg 1;whnf
    try conv=>arg 2;whnf
    try conv=>arg 3;whnf
    try conv=>arg 3;arg 2;whnf
    try conv=>arg 4;whnf
    try conv=>arg 4;arg 1;whnf
    try conv=>arg 4;arg 2;whnf
    try conv=>arg 4;arg 3;whnf
    try conv=>arg 4;arg 4;whnf
    try conv=>arg 4;arg 4;arg 2;whnf
    try conv=>arg 4;arg 4;arg 1;arg 1;whnf
    try conv=>arg 4;arg 4;arg 1;arg 1;arg 2;whnf
    try conv=>arg 4;arg 4;arg 1;arg 1;arg 3;whnf
    try conv=>arg 4;arg 4;arg 1;arg 1;arg 3;arg 2;whnf
    try conv=>arg 4;arg 5;whnf
    try conv=>arg 4;arg 5;arg 2;whnf
    try conv=>arg 4;arg 6;whnf
   have rB:(lT Z seen).Perm Z:=YZ vj HU fun j hj=>aJ j (by rw[<- HT];simpa using hj);have Ha:gm (lT Z seen)=gm Z:=Zb rB;have abY:(lT Z seen).length<=2000000000:=by rw[rB.length_eq];exact ky
   have c5:=Y5 (lT Z seen) (by omega);rw[Ha,<- hT]at c5;have CZ:(nE h x k).length<=2000000000:=by rw[hT,(xZ Z).length_eq];exact ky
   (conv=>whnf);repeat ((fail_if_success (first|(refine I.kM ab F260 rfl rfl rfl rfl ?_)|fail));(refine I.run ab F260 1 ?_);(conv=>whnf))
   refine I.kM ab F260 rfl rfl rfl rfl ?_;(conv=>whnf);(conv=>whnf);conv =>
    arg 3
    try whnf
    try conv=>arg 1;whnf
    try conv=>arg 2;whnf
    try conv=>arg 3;whnf
    try conv=>arg 3;arg 2;whnf
    try conv=>arg 4;whnf
    try conv=>arg 4;arg 1;whnf
    try conv=>arg 4;arg 2;whnf
    try conv=>arg 4;arg 3;whnf
    try conv=>arg 4;arg 4;whnf
    try conv=>arg 4;arg 4;arg 2;whnf
    try conv=>arg 4;arg 4;arg 1;arg 1;whnf
    try conv=>arg 4;arg 4;arg 1;arg 1;arg 2;whnf
    try conv=>arg 4;arg 4;arg 1;arg 1;arg 3;whnf
    try conv=>arg 4;arg 4;arg 1;arg 1;arg 3;arg 2;whnf
    try conv=>arg 4;arg 5;whnf
    try conv=>arg 4;arg 5;arg 2;whnf
    try conv=>arg 4;arg 6;whnf
   (conv=>whnf);repeat ((fail_if_success (first|(refine I.kM ab Tryz.func181 rfl rfl rfl rfl ?_)|fail));(refine I.run ab Tryz.func181 1 ?_);(conv=>whnf))
   refine I.kM ab Tryz.func181 rfl rfl rfl rfl ?_;(conv=>whnf);(conv=>whnf);conv =>
    arg 3
    try whnf
    try conv=>arg 1;whnf
    try conv=>arg 2;whnf
    try conv=>arg 3;whnf
    try conv=>arg 3;arg 2;whnf
    try conv=>arg 4;whnf
    try conv=>arg 4;arg 1;whnf
    try conv=>arg 4;arg 2;whnf
    try conv=>arg 4;arg 3;whnf
    try conv=>arg 4;arg 4;whnf
    try conv=>arg 4;arg 4;arg 2;whnf
    try conv=>arg 4;arg 4;arg 1;arg 1;whnf
    try conv=>arg 4;arg 4;arg 1;arg 1;arg 2;whnf
    try conv=>arg 4;arg 4;arg 1;arg 1;arg 3;whnf
    try conv=>arg 4;arg 4;arg 1;arg 1;arg 3;arg 2;whnf
    try conv=>arg 4;arg 5;whnf
    try conv=>arg 4;arg 5;arg 2;whnf
    try conv=>arg 4;arg 6;whnf
   refine gO Tryz.func109 ?_
   with_reducible refine aO c5 ?_
   (conv=>whnf);(conv=>whnf);repeat ((fail_if_success (first|(refine I.kM ab Tryz.func109 rfl rfl rfl rfl ?_)|fail));(refine I.run ab Tryz.func109 1 ?_);(conv=>whnf))
   refine I.kM ab Tryz.func109 rfl rfl rfl rfl ?_;(conv=>whnf);(conv=>whnf);conv =>
    arg 3
    try whnf
    try conv=>arg 1;whnf
    try conv=>arg 2;whnf
    try conv=>arg 3;whnf
    try conv=>arg 3;arg 2;whnf
    try conv=>arg 4;whnf
    try conv=>arg 4;arg 1;whnf
    try conv=>arg 4;arg 2;whnf
    try conv=>arg 4;arg 3;whnf
    try conv=>arg 4;arg 4;whnf
    try conv=>arg 4;arg 4;arg 2;whnf
    try conv=>arg 4;arg 4;arg 1;arg 1;whnf
    try conv=>arg 4;arg 4;arg 1;arg 1;arg 2;whnf
    try conv=>arg 4;arg 4;arg 1;arg 1;arg 3;whnf
    try conv=>arg 4;arg 4;arg 1;arg 1;arg 3;arg 2;whnf
    try conv=>arg 4;arg 5;whnf
    try conv=>arg 4;arg 5;arg 2;whnf
    try conv=>arg 4;arg 6;whnf
   refine I.freeze 17 ?_;(conv=>whnf);conv =>
    arg 3
    try whnf
    try conv=>arg 1;whnf
    try conv=>arg 2;whnf
    try conv=>arg 3;whnf
    try conv=>arg 3;arg 2;whnf
    try conv=>arg 4;whnf
    try conv=>arg 4;arg 1;whnf
    try conv=>arg 4;arg 2;whnf
    try conv=>arg 4;arg 3;whnf
    try conv=>arg 4;arg 4;whnf
    try conv=>arg 4;arg 4;arg 2;whnf
    try conv=>arg 4;arg 4;arg 1;arg 1;whnf
    try conv=>arg 4;arg 4;arg 1;arg 1;arg 2;whnf
    try conv=>arg 4;arg 4;arg 1;arg 1;arg 3;whnf
    try conv=>arg 4;arg 4;arg 1;arg 1;arg 3;arg 2;whnf
    try conv=>arg 4;arg 5;whnf
    try conv=>arg 4;arg 5;arg 2;whnf
    try conv=>arg 4;arg 6;whnf
   refine gO F108 ?_;obtain⟨T,Dq⟩:∃ T,nE h x k=T:=⟨_,rfl⟩;rw[Dq]at CZ;rw[Dq];have gS:(List.range (k+1)).filter (jh ask h x)=(List.range k).filter (jh ask h x)++(if jh ask h x k then[k]else[]):=by
    rw[List.range_succ,List.filter_append];cases h:jh ask h x k<;>simp[h]
   have Hm:jh ask h x k=T.any fun t=>(ask k t).2==0&&decide ((ask k t).1=x.answer):=by rw[<- Dq];rfl
   refine I.loop (κ:=Nat) ([1,11,12]++[7,8,10,15,16,17,18,19,20,21,22,23,24,25,26,27,28,29,30,31,32,33,34,35,36,37,38,39,40,41,42,43,44,45,46,47,48,49,50,51,52,53,54]) (fun j=>[(15,.d (.int .i64 j))]) (fun _=>[]) (fun j=>j<=T.length/\∀ t∈T.take j,((ask k t).2==0&&decide ((ask k t).1=x.answer))=false) (fun j=>T.length-j) 0 ⟨Nat.zero_le _,fun t h=>by simp at h⟩ ?_ ?_
   ·(conv=>whnf);repeat (first|exact trivial|(rw[fy];conv=>whnf)|(refine sI ?_;conv=>whnf))
   rintro j ⟨hj,bK⟩ KH;refine I.head ab F108 2000 ?_;(conv=>whnf);refine ai (fun h8=>?_) (fun h8=>?_)
   ·have rE:j<T.length:=by simpa using h8
    obtain⟨t,Dr⟩:=aG rE;obtain⟨xl,fG,zP⟩:=Zf t (by rw[Dq];exact List.mem_of_getElem? Dr);refine gO F108 ?_;refine aB (e := .int .i64 t) (aN Dr) rfl ?_;refine gO F108 ?_;refine I.pK 18 1 (61,3) (by decide) rfl rfl ?_;refine gO F108 ?_;refine I.loop (κ:=Nat) ([10]++rg 27 23) (fun m=>[(27,.d (.int .i64 m))]) (fun m=>[(18,.cells [.d (.sl [y.enc]),.own 19 1,.d (.str h.anchor.name),.d (.int .i64 h.anchor.type),.d (.int .i64 h.anchor.cy),.d (.sl (h.anchor.data.map Datum.enc)),.d (.sl (h.hints.map (.int .i64)))]),(19,.arr 1 (61,3) ((lU (L.take m) t).map bc.enc))]) (fun m=>m<=L.length) (fun m=>L.length-m) 0 (Nat.zero_le _) ?_ ?_
    ·(conv=>whnf);repeat (first|exact trivial|(rw[fy];conv=>whnf)|(refine sI ?_;conv=>whnf))
     refine And.intro rfl ?_;(conv=>whnf);repeat (first|exact trivial|(rw[fy];conv=>whnf)|(refine sI ?_;conv=>whnf))
    intro m hm MH;refine I.head ab F108 2000 ?_;(conv=>whnf);refine ai (fun h9=>?_) (fun h9=>?_)
    ·have FY:m<L.length:=by simpa using h9
     obtain⟨c,hc⟩:=aG FY;have tD:=Zc (t:=t) hc;have abZ:(lU (L.take m) t).length<=m:=by rw[lU,List.length_map];exact Nat.le_trans (List.length_filter_le ..) (by simp;omega)
     generalize lU (L.take m) t=Y at *;refine gO F108 ?_;refine aB (e:=c.enc) (aN hc) rfl ?_;refine gO F108 ?_;refine ai (fun g1=>?_) (fun g1=>?_)
     ·refine gO F108 ?_;refine ai (fun g2=>?_) (fun g2=>?_)
      ·refine gO F108 ?_;refine aV ⟨by simp only[List.length_map,List.length_cons,List.length_nil];omega,by simp[DV.cells]⟩ ?_;have ha:rL t c=true:=by simp_all[rL]
       rw[ha,if_pos rfl]at tD;refine gO F108 ?_;refine I.back (MH (m+1) (by omega) (by omega)) ?_;rw[tD,List.map_append];(conv=>whnf);repeat (first|exact trivial|(rw[fy];conv=>whnf)|(refine sI ?_;conv=>whnf))
       refine And.intro rfl ?_;(conv=>whnf);repeat (first|exact trivial|(rw[fy];conv=>whnf)|(refine sI ?_;conv=>whnf))
      ·have ha:rL t c=false:=by rw[rL,g2,Bool.and_false]
       rw[ha]at tD;simp only[Bool.false_eq_true,if_false,List.append_nil]at tD;refine gO F108 ?_;refine I.back (MH (m+1) (by omega) (by omega)) ?_;rw[tD];(conv=>whnf);repeat (first|exact trivial|(rw[fy];conv=>whnf)|(refine sI ?_;conv=>whnf))
     ·have ha:rL t c=false:=by rw[rL,g1,Bool.false_and]
      rw[ha]at tD;simp only[Bool.false_eq_true,if_false,List.append_nil]at tD;refine gO F108 ?_;refine aR ?_;refine gO F108 ?_;refine I.back (MH (m+1) (by omega) (by omega)) ?_;rw[tD];(conv=>whnf);repeat (first|exact trivial|(rw[fy];conv=>whnf)|(refine sI ?_;conv=>whnf))
    ·have aA:m=L.length:=by simp at h9;omega
     subst aA;refine I.freeze 19 ?_;(conv=>whnf);conv =>
      arg 3
      try whnf
      try conv=>arg 1;whnf
      try conv=>arg 2;whnf
      try conv=>arg 3;whnf
      try conv=>arg 3;arg 2;whnf
      try conv=>arg 4;whnf
      try conv=>arg 4;arg 1;whnf
      try conv=>arg 4;arg 2;whnf
      try conv=>arg 4;arg 3;whnf
      try conv=>arg 4;arg 4;whnf
      try conv=>arg 4;arg 4;arg 2;whnf
      try conv=>arg 4;arg 4;arg 1;arg 1;whnf
      try conv=>arg 4;arg 4;arg 1;arg 1;arg 2;whnf
      try conv=>arg 4;arg 4;arg 1;arg 1;arg 3;whnf
      try conv=>arg 4;arg 4;arg 1;arg 1;arg 3;arg 2;whnf
      try conv=>arg 4;arg 5;whnf
      try conv=>arg 4;arg 5;arg 2;whnf
      try conv=>arg 4;arg 6;whnf
     rw[List.take_length];refine gO F108 ?_;refine I.yield 0 rfl rfl rfl (aS rfl) (ml (aS rfl)) rfl ?_;(conv=>whnf);conv =>
      arg 3
      try whnf
      try conv=>arg 1;whnf
      try conv=>arg 2;whnf
      try conv=>arg 3;whnf
      try conv=>arg 3;arg 2;whnf
      try conv=>arg 4;whnf
      try conv=>arg 4;arg 1;whnf
      try conv=>arg 4;arg 2;whnf
      try conv=>arg 4;arg 3;whnf
      try conv=>arg 4;arg 4;whnf
      try conv=>arg 4;arg 4;arg 2;whnf
      try conv=>arg 4;arg 4;arg 1;arg 1;whnf
      try conv=>arg 4;arg 4;arg 1;arg 1;arg 2;whnf
      try conv=>arg 4;arg 4;arg 1;arg 1;arg 3;whnf
      try conv=>arg 4;arg 4;arg 1;arg 1;arg 3;arg 2;whnf
      try conv=>arg 4;arg 5;whnf
      try conv=>arg 4;arg 5;arg 2;whnf
      try conv=>arg 4;arg 6;whnf
     refine gO F17 ?_;refine I.begin 0 rfl rfl rfl ?_;(conv=>whnf);conv =>
      arg 3
      try whnf
      try conv=>arg 1;whnf
      try conv=>arg 2;whnf
      try conv=>arg 3;whnf
      try conv=>arg 3;arg 2;whnf
      try conv=>arg 4;whnf
      try conv=>arg 4;arg 1;whnf
      try conv=>arg 4;arg 2;whnf
      try conv=>arg 4;arg 3;whnf
      try conv=>arg 4;arg 4;whnf
      try conv=>arg 4;arg 4;arg 2;whnf
      try conv=>arg 4;arg 4;arg 1;arg 1;whnf
      try conv=>arg 4;arg 4;arg 1;arg 1;arg 2;whnf
      try conv=>arg 4;arg 4;arg 1;arg 1;arg 3;whnf
      try conv=>arg 4;arg 4;arg 1;arg 1;arg 3;arg 2;whnf
      try conv=>arg 4;arg 5;whnf
      try conv=>arg 4;arg 5;arg 2;whnf
      try conv=>arg 4;arg 6;whnf
     refine gO F17 ?_;have c6:=YN (ask k t).1 x.answer fG zP;refine I.bJ ab bG 2000 (by kernel_rfl) ?_;(conv=>whnf);refine aB (e:=y.enc) (aN hy) rfl ?_;refine gD ?_;refine au (xl) ?_;refine gD ?_;refine And.intro (by kernel_rfl) ?_;(conv=>whnf);refine gO F17 ?_;have aF:((ask k t).2==0&&decide ((ask k t).1=x.answer))=false->∀ t'∈T.take (j+1),((ask k t').2==0&&decide ((ask k t').1=x.answer))=false:=fun e t' nO=>by
      rw[cK Dr]at nO;rcases List.mem_append.1 nO with h|h
      ·exact bK t' h
      ·rw[List.mem_singleton.1 h];exact e
     refine ai (fun g3=>?_) (fun g3=>?_)
     ·refine gO F17 ?_;refine ao (c6) ?_;refine gO F17 ?_;cases Ds:decide ((ask k t).1=x.answer)
      ·refine aR ?_;refine gO F17 ?_;refine I.pM 0 rfl rfl rfl ?_;(conv=>whnf);conv =>
        arg 3
        try whnf
        try conv=>arg 1;whnf
        try conv=>arg 2;whnf
        try conv=>arg 3;whnf
        try conv=>arg 3;arg 2;whnf
        try conv=>arg 4;whnf
        try conv=>arg 4;arg 1;whnf
        try conv=>arg 4;arg 2;whnf
        try conv=>arg 4;arg 3;whnf
        try conv=>arg 4;arg 4;whnf
        try conv=>arg 4;arg 4;arg 2;whnf
        try conv=>arg 4;arg 4;arg 1;arg 1;whnf
        try conv=>arg 4;arg 4;arg 1;arg 1;arg 2;whnf
        try conv=>arg 4;arg 4;arg 1;arg 1;arg 3;whnf
        try conv=>arg 4;arg 4;arg 1;arg 1;arg 3;arg 2;whnf
        try conv=>arg 4;arg 5;whnf
        try conv=>arg 4;arg 5;arg 2;whnf
        try conv=>arg 4;arg 6;whnf
       refine gO F108 ?_;refine aR ?_;refine gO F108 ?_;refine I.back (KH (j+1) ⟨by omega,aF (by rw[Ds,Bool.and_false])⟩ (by omega)) ?_;(conv=>whnf);repeat (first|exact trivial|(rw[fy];conv=>whnf)|(refine sI ?_;conv=>whnf))
      ·refine bj ?_;have Zg:jh ask h x k=true:=by rw[Hm,List.any_eq_true];exact⟨t,List.mem_of_getElem? Dr,by rw[g3,Ds];rfl⟩
       refine gO F17 ?_;refine aV ⟨by have:=List.length_filter_le (jh ask h x) (List.range k);simp at this;simp;omega,by simp[DV.cells]⟩ ?_;refine gO F17 ?_;refine I.SA 0 rfl rfl rfl rfl ?_;(conv=>whnf);conv =>
        arg 3
        try whnf
        try conv=>arg 1;whnf
        try conv=>arg 2;whnf
        try conv=>arg 3;whnf
        try conv=>arg 3;arg 2;whnf
        try conv=>arg 4;whnf
        try conv=>arg 4;arg 1;whnf
        try conv=>arg 4;arg 2;whnf
        try conv=>arg 4;arg 3;whnf
        try conv=>arg 4;arg 4;whnf
        try conv=>arg 4;arg 4;arg 2;whnf
        try conv=>arg 4;arg 4;arg 1;arg 1;whnf
        try conv=>arg 4;arg 4;arg 1;arg 1;arg 2;whnf
        try conv=>arg 4;arg 4;arg 1;arg 1;arg 3;whnf
        try conv=>arg 4;arg 4;arg 1;arg 1;arg 3;arg 2;whnf
        try conv=>arg 4;arg 5;whnf
        try conv=>arg 4;arg 5;arg 2;whnf
        try conv=>arg 4;arg 6;whnf
       refine gO F108 ?_;refine bj ?_;refine gO F108 ?_;refine I.kN ab F108 rfl rfl rfl rfl (fun e=>nomatch e) ?_;(conv=>whnf);refine I.Oi (rows:=[]) rfl ?_;conv =>
        arg 3
        try whnf
        try conv=>arg 1;whnf
        try conv=>arg 2;whnf
        try conv=>arg 3;whnf
        try conv=>arg 3;arg 2;whnf
        try conv=>arg 4;whnf
        try conv=>arg 4;arg 1;whnf
        try conv=>arg 4;arg 2;whnf
        try conv=>arg 4;arg 3;whnf
        try conv=>arg 4;arg 4;whnf
        try conv=>arg 4;arg 4;arg 2;whnf
        try conv=>arg 4;arg 4;arg 1;arg 1;whnf
        try conv=>arg 4;arg 4;arg 1;arg 1;arg 2;whnf
        try conv=>arg 4;arg 4;arg 1;arg 1;arg 3;whnf
        try conv=>arg 4;arg 4;arg 1;arg 1;arg 3;arg 2;whnf
        try conv=>arg 4;arg 5;whnf
        try conv=>arg 4;arg 5;arg 2;whnf
        try conv=>arg 4;arg 6;whnf
       refine gO F17 ?_;refine I.back (IH (k+1) _ (by omega) (by omega)) ?_;rw[gS,Zg,if_pos rfl,List.map_append,List.map_append];(conv=>whnf);repeat (first|exact trivial|(rw[fy];conv=>whnf)|(refine sI ?_;conv=>whnf))
       refine And.intro rfl ?_;(conv=>whnf);repeat (first|exact trivial|(rw[fy];conv=>whnf)|(refine sI ?_;conv=>whnf))
     ·refine gO F17 ?_;refine aR ?_;refine gO F17 ?_;refine I.pM 0 rfl rfl rfl ?_;(conv=>whnf);conv =>
       arg 3
       try whnf
       try conv=>arg 1;whnf
       try conv=>arg 2;whnf
       try conv=>arg 3;whnf
       try conv=>arg 3;arg 2;whnf
       try conv=>arg 4;whnf
       try conv=>arg 4;arg 1;whnf
       try conv=>arg 4;arg 2;whnf
       try conv=>arg 4;arg 3;whnf
       try conv=>arg 4;arg 4;whnf
       try conv=>arg 4;arg 4;arg 2;whnf
       try conv=>arg 4;arg 4;arg 1;arg 1;whnf
       try conv=>arg 4;arg 4;arg 1;arg 1;arg 2;whnf
       try conv=>arg 4;arg 4;arg 1;arg 1;arg 3;whnf
       try conv=>arg 4;arg 4;arg 1;arg 1;arg 3;arg 2;whnf
       try conv=>arg 4;arg 5;whnf
       try conv=>arg 4;arg 5;arg 2;whnf
       try conv=>arg 4;arg 6;whnf
      refine gO F108 ?_;refine aR ?_;refine gO F108 ?_;refine I.back (KH (j+1) ⟨by omega,aF (by rw[g3,Bool.false_and])⟩ (by omega)) ?_;(conv=>whnf);repeat (first|exact trivial|(rw[fy];conv=>whnf)|(refine sI ?_;conv=>whnf))
   ·have aA:j=T.length:=by simp at h8;omega
    subst aA;rw[List.take_length]at bK;have nd:jh ask h x k=false:=by rw[Hm,List.any_eq_false];exact fun t ht=>by rw[bK t ht];simp
    refine gO F108 ?_;refine I.kN ab F108 rfl rfl rfl rfl (fun e=>nomatch e) ?_;(conv=>whnf);refine I.Oi (rows:=[]) rfl ?_;conv =>
     arg 3
     try whnf
     try conv=>arg 1;whnf
     try conv=>arg 2;whnf
     try conv=>arg 3;whnf
     try conv=>arg 3;arg 2;whnf
     try conv=>arg 4;whnf
     try conv=>arg 4;arg 1;whnf
     try conv=>arg 4;arg 2;whnf
     try conv=>arg 4;arg 3;whnf
     try conv=>arg 4;arg 4;whnf
     try conv=>arg 4;arg 4;arg 2;whnf
     try conv=>arg 4;arg 4;arg 1;arg 1;whnf
     try conv=>arg 4;arg 4;arg 1;arg 1;arg 2;whnf
     try conv=>arg 4;arg 4;arg 1;arg 1;arg 3;whnf
     try conv=>arg 4;arg 4;arg 1;arg 1;arg 3;arg 2;whnf
     try conv=>arg 4;arg 5;whnf
     try conv=>arg 4;arg 5;arg 2;whnf
     try conv=>arg 4;arg 6;whnf
    refine gO F17 ?_;refine I.back (IH (k+1) _ (by omega) (by omega)) ?_;rw[gS,nd];simp only[Bool.false_eq_true,if_false,List.append_nil];(conv=>whnf);repeat (first|exact trivial|(rw[fy];conv=>whnf)|(refine sI ?_;conv=>whnf))
  ·obtain⟨z,hz,e⟩:∃ z,Z[j]?=some z/\(DV.int .i64 z,DV.bool true)=(kk,y):=by rw[<- HT]at hj;simpa using hj
   cases e;have pj:=aQ hz;have Zh:=On (seen:=seen) hz;have cX:(seen++[j]).Nodup:=by
    rw[List.nodup_append];exact⟨vj,by simp,fun a ha b hb e=>by simp at hb;subst hb;subst e;exact kH ha⟩
   have Oy:∀ i∈seen++[j],i<Z.length:=fun i hi=>by rcases List.mem_append.1 hi with h|h;exact HU i h;simp at h;omega
   have Zi:=Oo cX Oy;rw[List.length_append,List.length_singleton]at Zi;conv =>
    arg 3
    try whnf
    try conv=>arg 1;whnf
    try conv=>arg 2;whnf
    try conv=>arg 3;whnf
    try conv=>arg 3;arg 2;whnf
    try conv=>arg 4;whnf
    try conv=>arg 4;arg 1;whnf
    try conv=>arg 4;arg 2;whnf
    try conv=>arg 4;arg 3;whnf
    try conv=>arg 4;arg 4;whnf
    try conv=>arg 4;arg 4;arg 2;whnf
    try conv=>arg 4;arg 4;arg 1;arg 1;whnf
    try conv=>arg 4;arg 4;arg 1;arg 1;arg 2;whnf
    try conv=>arg 4;arg 4;arg 1;arg 1;arg 3;whnf
    try conv=>arg 4;arg 4;arg 1;arg 1;arg 3;arg 2;whnf
    try conv=>arg 4;arg 5;whnf
    try conv=>arg 4;arg 5;arg 2;whnf
    try conv=>arg 4;arg 6;whnf
   refine gO F183 ?_;refine bj ?_;refine gO F183 ?_;refine I.entry (it:=⟨bm,r,en,ck,since,seen++[j],dV⟩) (g1:=[]) (g2:=[]) (pre:=seen) (j:=j) rfl rfl rfl rfl hj (aS rfl) ?_;conv =>
    arg 3
    try whnf
    try conv=>arg 1;whnf
    try conv=>arg 2;whnf
    try conv=>arg 3;whnf
    try conv=>arg 3;arg 2;whnf
    try conv=>arg 4;whnf
    try conv=>arg 4;arg 1;whnf
    try conv=>arg 4;arg 2;whnf
    try conv=>arg 4;arg 3;whnf
    try conv=>arg 4;arg 4;whnf
    try conv=>arg 4;arg 4;arg 2;whnf
    try conv=>arg 4;arg 4;arg 1;arg 1;whnf
    try conv=>arg 4;arg 4;arg 1;arg 1;arg 2;whnf
    try conv=>arg 4;arg 4;arg 1;arg 1;arg 3;whnf
    try conv=>arg 4;arg 4;arg 1;arg 1;arg 3;arg 2;whnf
    try conv=>arg 4;arg 5;whnf
    try conv=>arg 4;arg 5;arg 2;whnf
    try conv=>arg 4;arg 6;whnf
   (conv=>whnf);repeat ((fail_if_success (first|(refine I.yield 0 rfl rfl rfl (aS rfl) (ml (aS rfl)) rfl ?_)|fail));(refine I.run ab F183 1 ?_);(conv=>whnf))
   refine I.yield 0 rfl rfl rfl (aS rfl) (ml (aS rfl)) rfl ?_;(conv=>whnf);conv =>
    arg 3
    try whnf
    try conv=>arg 1;whnf
    try conv=>arg 2;whnf
    try conv=>arg 3;whnf
    try conv=>arg 3;arg 2;whnf
    try conv=>arg 4;whnf
    try conv=>arg 4;arg 1;whnf
    try conv=>arg 4;arg 2;whnf
    try conv=>arg 4;arg 3;whnf
    try conv=>arg 4;arg 4;whnf
    try conv=>arg 4;arg 4;arg 2;whnf
    try conv=>arg 4;arg 4;arg 1;arg 1;whnf
    try conv=>arg 4;arg 4;arg 1;arg 1;arg 2;whnf
    try conv=>arg 4;arg 4;arg 1;arg 1;arg 3;whnf
    try conv=>arg 4;arg 4;arg 1;arg 1;arg 3;arg 2;whnf
    try conv=>arg 4;arg 5;whnf
    try conv=>arg 4;arg 5;arg 2;whnf
    try conv=>arg 4;arg 6;whnf
   (conv=>whnf);repeat ((fail_if_success (first|(refine I.begin 0 rfl rfl rfl ?_)|fail));(refine I.run ab F260 1 ?_);(conv=>whnf))
   refine I.begin 0 rfl rfl rfl ?_;(conv=>whnf);conv =>
    arg 3
    try whnf
    try conv=>arg 1;whnf
    try conv=>arg 2;whnf
    try conv=>arg 3;whnf
    try conv=>arg 3;arg 2;whnf
    try conv=>arg 4;whnf
    try conv=>arg 4;arg 1;whnf
    try conv=>arg 4;arg 2;whnf
    try conv=>arg 4;arg 3;whnf
    try conv=>arg 4;arg 4;whnf
    try conv=>arg 4;arg 4;arg 2;whnf
    try conv=>arg 4;arg 4;arg 1;arg 1;whnf
    try conv=>arg 4;arg 4;arg 1;arg 1;arg 2;whnf
    try conv=>arg 4;arg 4;arg 1;arg 1;arg 3;whnf
    try conv=>arg 4;arg 4;arg 1;arg 1;arg 3;arg 2;whnf
    try conv=>arg 4;arg 5;whnf
    try conv=>arg 4;arg 5;arg 2;whnf
    try conv=>arg 4;arg 6;whnf
   refine gO F260 ?_;refine aV ⟨by simp;omega,by simp[DV.cells]⟩ ?_;refine gO F260 ?_;refine I.pM 0 rfl rfl rfl ?_;(conv=>whnf);conv =>
    arg 3
    try whnf
    try conv=>arg 1;whnf
    try conv=>arg 2;whnf
    try conv=>arg 3;whnf
    try conv=>arg 3;arg 2;whnf
    try conv=>arg 4;whnf
    try conv=>arg 4;arg 1;whnf
    try conv=>arg 4;arg 2;whnf
    try conv=>arg 4;arg 3;whnf
    try conv=>arg 4;arg 4;whnf
    try conv=>arg 4;arg 4;arg 2;whnf
    try conv=>arg 4;arg 4;arg 1;arg 1;whnf
    try conv=>arg 4;arg 4;arg 1;arg 1;arg 2;whnf
    try conv=>arg 4;arg 4;arg 1;arg 1;arg 3;whnf
    try conv=>arg 4;arg 4;arg 1;arg 1;arg 3;arg 2;whnf
    try conv=>arg 4;arg 5;whnf
    try conv=>arg 4;arg 5;arg 2;whnf
    try conv=>arg 4;arg 6;whnf
   refine gO F183 ?_;refine aW (by decide) ?_;refine gO F183 ?_;refine I.back (JH (seen++[j]) ⟨cX,Oy⟩ (by simp;omega)) ?_;(conv=>whnf);repeat (first|exact trivial|(rw[fy];conv=>whnf)|(refine sI ?_;conv=>whnf))
   refine And.intro (by rw[Zh];simp) ?_;(conv=>whnf);repeat (first|exact trivial|(rw[fy];conv=>whnf)|(refine sI ?_;conv=>whnf))
 ·have aA:k=h.aC.length:=by simp at h5;omega
  subst aA;refine I.freeze 3 ?_;(conv=>whnf);conv =>
   arg 3
   try whnf
   try conv=>arg 1;whnf
   try conv=>arg 2;whnf
   try conv=>arg 3;whnf
   try conv=>arg 3;arg 2;whnf
   try conv=>arg 4;whnf
   try conv=>arg 4;arg 1;whnf
   try conv=>arg 4;arg 2;whnf
   try conv=>arg 4;arg 3;whnf
   try conv=>arg 4;arg 4;whnf
   try conv=>arg 4;arg 4;arg 2;whnf
   try conv=>arg 4;arg 4;arg 1;arg 1;whnf
   try conv=>arg 4;arg 4;arg 1;arg 1;arg 2;whnf
   try conv=>arg 4;arg 4;arg 1;arg 1;arg 3;whnf
   try conv=>arg 4;arg 4;arg 1;arg 1;arg 3;arg 2;whnf
   try conv=>arg 4;arg 5;whnf
   try conv=>arg 4;arg 5;arg 2;whnf
   try conv=>arg 4;arg 6;whnf
  cases ds with
  |nil =>
   refine gO F17 ?_;rw[<- hQ];rfl
  |cons d ds =>
   refine gO F17 ?_;refine I.mo ab F17 rfl rfl rfl rfl (L:=[]) ?hm ?hr
   case hm=>exact Oj (ds:=d::ds)
   case hr =>
    (conv=>whnf);rw[<- hQ];rfl
end Go.Proofs.YtfmdaiojokniiaaGreatDoor.P
end
