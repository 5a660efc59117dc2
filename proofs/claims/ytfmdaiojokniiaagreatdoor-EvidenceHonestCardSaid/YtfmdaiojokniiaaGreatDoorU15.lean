/- Lemmas of mine. Conditions: as stated. -/
import Derived.Test.YtfmdaiojokniiaaGreatDoorU12
set_option linter.unusedVariables false
set_option linter.unusedSimpArgs false
section
namespace Go.Proofs.YtfmdaiojokniiaaGreatDoor.P
open Go Go.ay
set_option maxRecDepth 100000
set_option maxHeartbeats 4000000
theorem Wr(t:Text):lM t=((t==[42])||preB t [42,46]):=by
 unfold lM Nm.labels preB;by_cases hr:t=[46]
 ·subst hr;rfl
 rw[if_neg hr];cases t with
 |nil=>rfl
 |cons c r =>
  by_cases hc:c=46
  ·subst hc;simp[Nm.split];show((42:UInt8)==46&&_)=false;rfl
  ·cases r with
   |nil=>simp[Nm.split,hc]
   |cons d r' =>
    by_cases hd:d=46
    ·subst hd;simp[Nm.split,hc];rw[Bool.eq_iff_iff];simp;exact eq_comm
    ·obtain⟨x,u,h1,h2⟩:=Nm.pG d r' hd;have h3:Nm.split (c::d::r')=(c::d::x)::u:=by
      rw[Nm.split,if_neg hc,h2]
     rw[h3];have:(d==46)=false:=by simpa using hd
     have Ws:((46:UInt8)==d)=false:=by simpa using fun e=>hd e.symm
     simp;show((42:UInt8)==c&&((46:UInt8)==d&&_))=false;rw[Ws];simp
def kV(z:aX):Bool:=z.ae.isEmpty && !lM z.aj&&Nm.valid z.aj
def je(aC:Nat)(p:bc):Bool:=decide (0<=p.host)&&decide (p.host<aC)&&(kV p.aw||eB p.aw)
def iG(aC:Nat)(s:kQ):Bool:=decide (s.cA.length<=500)&&s.cA.all (je aC)&&decide ((s.cA.map bc.spot).Nodup)
def dC(aC:Nat)(fin:Int)(s:Step):Bool:=decide (0<=s.time)&&decide (s.time<fin)&&iG aC s.cb
def eZ(a b:Step):Bool:=decide (a.time<b.time)
def mF(h:bZ)(l:List Step):Bool:=decide (l.length<=400)&&chain (dC h.aC.length h.fin) eZ none l
def fq(h:bZ)(l:List Step):Bool:=gz h&&mF h l
structure kQ.Fits(s:kQ):Prop where
 jB:∀ p∈s.cA,p.aw.Fits
 C7:s.cA.length<=1000000
theorem He(z:aX)(hf:z.Fits):aq E 58 [z.enc] (· = .bool (kV z)):=by
 have e:kV z=(z.ae.isEmpty && !((z.aj==[42])||preB z.aj [42,46])&&Nm.valid z.aj):=by rw[kV,Wr]
 have e2:z.ae.isEmpty=(((z.ae.map Signed.enc).length:Int)==0):=by
  rw[Bool.eq_iff_iff];simp[List.isEmpty_iff]
 refine eP Tryz.func58 ?_;repeat' (first|with_reducible(first|refine ao (Co z.aj [42,46]) ?_|refine au (Co z.aj [42,46]) ?_|refine ao (gG z.aj hf.aj) ?_|refine au (gG z.aj hf.aj) ?_|refine cY ?_|refine cN ?_|refine ai (fun _=>?_) (fun _=>?_))|refine gA Tryz.func58 ?_|refine gB ?_|with_reducible rfl)
 all_goals
  rw[e,e2];clear e e2
  congr 1
  simp_all
theorem xP{l:List bc}{n:Nat}(h:l.all (je n)=false):iG n ⟨l⟩=false:=by simp[iG,h]
theorem Wt(s:kQ)(n:Nat)(hf:s.Fits):aq E 187 [s.enc,.int .i64 n] (· = .bool (iG n s)):=by
 obtain⟨l⟩:=s;obtain⟨hz,hl⟩:=hf;simp only at hz hl;show aq E _ [DV.agg [.sl (l.map bc.enc)],.int .i64 n] _;refine eP F187 ?_;refine ai (fun h1=>?_) (fun h1=>?_)
 ·refine gO F187 ?_;have:iG n ⟨l⟩=false:=by simp[iG];simp at h1;omega
  rw[this]
 have hlen:l.length<=500:=by simp at h1;omega
 refine gO F187 ?_;refine gO F187 ?_;refine I.loop (κ:=Nat) ([4,7,8]++rg 17 39) (fun k=>[(17,.d (.int .i64 k)),(4,.d (.bool false)),(5,.map 1)]) (fun k=>[(1,.map (ek dj.en ((l.take k).map bc.spot)))]) (fun k=>k<=l.length/\(l.take k).all (je n)=true/\((l.take k).map bc.spot).Nodup) (fun k=>l.length-k) 0 ⟨Nat.zero_le _,rfl,by simp⟩ ?_ ?_
 ·(conv=>whnf);repeat (first|exact trivial|(refine sI ?_;conv=>whnf))
  refine And.intro rfl ?_;exact sZ
 rintro i ⟨hi,aJ,cX⟩ IH;refine I.head ab F187 2000 ?_;(conv=>whnf);refine ai (fun h5=>?_) (fun h5=>?_)
 ·have ah:i<l.length:=by simpa using h5
  obtain⟨x,hx⟩:=aG ah;have fu:=hz x (List.mem_of_getElem? hx);have fp:=(oo pV ((l.take i).map bc.spot)).1;obtain⟨gw,jd⟩:=vq pV ((l.take i).map bc.spot) x.spot;have wj:dj.en x.spot=.agg [.int .i64 x.host,.str x.aw.aj]:=rfl;refine gO F187 ?_;refine aB (e:=x.enc) (aN hx) rfl ?_;refine gO F187 ?_;refine ai (fun h6=>?_) (fun h6=>?_)
  ·repeat' (first|with_reducible(first|refine cY ?_|refine cN ?_|refine ai (fun _=>?_) (fun _=>?_))|refine gA F187 ?_|refine gB ?_|with_reducible rfl)
   rw[xP (di hx (by simp[je];simp at h6;omega))]
  refine gO F187 ?_;refine ai (fun h7=>?_) (fun h7=>?_)
  ·repeat' (first|with_reducible(first|refine cY ?_|refine cN ?_|refine ai (fun _=>?_) (fun _=>?_))|refine gA F187 ?_|refine gB ?_|with_reducible rfl)
   rw[xP (di hx (by simp[je];simp at h7;omega))]
  refine gO F187 ?_;refine oK (.bool false) (.bool false) ⟨_,rfl,rfl,⟨_,rfl,_,rfl⟩,rfl,⟨_,rfl,_,rfl⟩,trivial⟩ (xK fp) (fun w=>by kernel_rfl) (fun _ _ => .bool _) gw jd ?_;refine gO F187 ?_;refine ai (fun h8=>?_) (fun h8=>?_)
  ·repeat' (first|with_reducible(first|refine cY ?_|refine cN ?_|refine ai (fun _=>?_) (fun _=>?_))|refine gA F187 ?_|refine gB ?_|with_reducible rfl)
   have:=G5 hx (by simpa using h8);simp[iG,this]
  repeat' (first|with_reducible(first|refine ao (He x.aw fu) ?_|refine au (He x.aw fu) ?_|refine ao (vk x.aw fu) ?_|refine au (vk x.aw fu) ?_|refine cY ?_|refine cN ?_|refine ai (fun _=>?_) (fun _=>?_))|refine gA F187 ?_|refine gB ?_|with_reducible rfl)
  all_goals try (rw[xP (di hx (by simp_all[je]))];done)
  all_goals
   have aM:je n x=true:=by simp_all[je]
   refine aV ⟨⟨_,rfl,rfl,⟨_,rfl,_,rfl⟩,rfl,⟨_,rfl,_,rfl⟩,trivial⟩,xK fp⟩ ?_;refine gO F187 ?_;refine I.back (IH (i+1) ⟨by omega,dw aJ hx aM,G6 hx cX (by simpa using h8)⟩ (by omega)) ?_;rw[C3 hx,te];(conv=>whnf);repeat (first|exact trivial|(refine sI ?_;conv=>whnf))
   refine And.intro rfl ?_;exact sZ
 ·have aA:l.length<=i:=by simpa using h5
  rw[List.take_of_length_le aA]at aJ cX;refine gO F187 ?_;simp[iG,aJ,cX,hlen]
def rC(l:List Step)(k:Nat):Int:=match bL l k with
 |none => -1
 |some q=>q.time
theorem Ng{l:List Step}{k:Nat}{x:Step}(h:l[k]?=some x):bL l (k+1)=some x:=by simp[bL,h]
structure Steps.Fits(l:List Step):Prop where
 each:∀ s∈l,s.cb.Fits
 C7:l.length<=1000000
theorem Wu(h:bZ)(l:List Step)(hf:Steps.Fits l):aq E 117 [h.enc,.sl (l.map Step.enc)] (· = .bool (mF h l)):=by
 obtain⟨aC,aE,anchor,hints,bN,fin⟩:=h;obtain⟨hz,hl⟩:=hf;show aq E _ [DV.agg [.sl (aC.map Host.enc),.sl (aE.map aY.enc),.str anchor.name,.int .i64 anchor.type,.int .i64 anchor.cy,.sl (anchor.data.map Datum.enc),.sl (hints.map (.int .i64)),.int .i64 bN,.int .i64 fin],_] _;refine eP F117 ?_;refine ai (fun h1=>?_) (fun h1=>?_)
 ·refine gO F117 ?_;have:mF ⟨aC,aE,anchor,hints,bN,fin⟩ l=false:=by simp[mF];simp at h1;omega
  rw[this]
 have hlen:l.length<=400:=by simp at h1;omega
 have bH:mF ⟨aC,aE,anchor,hints,bN,fin⟩ l=chain (dC aC.length fin) eZ none l:=by simp[mF,hlen]
 rw[bH];refine gO F117 ?_;refine I.loop (κ:=Nat) ([4,5,7]++rg 13 27) (fun k=>[(13,.d (.int .i64 k)),(4,.d (.bool false)),(5,.d (.int .i64 (rC l k)))]) (fun _=>[]) (fun k=>k<=l.length/\chain (dC aC.length fin) eZ none l=chain (dC aC.length fin) eZ (bL l k) (l.drop k)/\∀ q,bL l k=some q->0<=q.time) (fun k=>l.length-k) 0 ⟨Nat.zero_le _,rfl,fun q h=>by simp[bL]at h⟩ ?_ ?_
 ·(conv=>whnf);repeat (first|exact trivial|(refine sI ?_;conv=>whnf))
  refine And.intro rfl ?_;exact sZ
 rintro i ⟨hi,jf,cQ⟩ IH;refine I.head ab F117 2000 ?_;(conv=>whnf);refine ai (fun h5=>?_) (fun h5=>?_)
 ·have ah:i<l.length:=by simpa using h5
  obtain⟨x,hx⟩:=aG ah;have fu:=hz x (List.mem_of_getElem? hx);have aF:=uZ (ok:=dC aC.length fin) (rel:=eZ) hx;have bg:=Wt x.cb (aC.map Host.enc).length fu;rw[show iG (aC.map Host.enc).length x.cb=iG aC.length x.cb by rw[List.length_map]]at bg;have hC:=jf.trans aF;refine gO F117 ?_;refine aB (e:=x.enc) (aN hx) rfl ?_;refine gO F117 ?_;refine ai (fun h6=>?_) (fun h6=>?_)
  ·repeat' (first|with_reducible(first|refine cY ?_|refine cN ?_|refine ai (fun _=>?_) (fun _=>?_))|refine gA F117 ?_|refine gB ?_|with_reducible rfl)
   have vv:x.time<=rC l i:=by simpa using h6
   cases hq:bL l i with
   |none =>
    simp only[rC,hq]at vv;have:dC aC.length fin x=false:=by simp[dC];omega
    rw[hC];simp[this]
   |some q =>
    simp only[rC,hq]at vv;have:eZ q x=false:=by simp[eZ];omega
    rw[hC,hq];simp[this]
  have vv:rC l i<x.time:=by simpa using h6
  have CM:0<=x.time:=by
   cases hq:bL l i with
   |none=>simp only[rC,hq]at vv;omega
   |some q=>have:=cQ q hq;simp only[rC,hq]at vv;omega
  have tj:chain (dC aC.length fin) eZ none l=(dC aC.length fin x&&chain (dC aC.length fin) eZ (bL l (i+1)) (l.drop (i+1))):=by
   rw[hC];cases hq:bL l i with
   |none=>simp
   |some q=>simp only[rC,hq]at vv;simp[eZ,vv]
  refine gO F117 ?_;repeat' (first|with_reducible(first|refine ao (bg) ?_|refine au (bg) ?_|refine cY ?_|refine cN ?_|refine ai (fun _=>?_) (fun _=>?_))|refine gA F117 ?_|refine gB ?_|with_reducible rfl)
  all_goals try
   (have bK : dC aC.length fin x=false := by(simp_all[dC]<;>omega)
    rw[tj, bK];simp;done)
  have aM:dC aC.length fin x=true:=by(simp_all[dC]<;>omega)
  refine gO F117 ?_;refine I.back (IH (i+1) ⟨by omega,?_,fun q hq=>by rw[Ng hx]at hq;cases hq;exact CM⟩ (by omega)) ?_
  ·rw[tj,aM];rfl
  ·(conv=>whnf);repeat (first|exact trivial|(refine sI ?_;conv=>whnf))
   refine And.intro (by simp[rC,Ng hx]) ?_;exact sZ
 ·have aA:l.length<=i:=by simpa using h5
  rw[List.drop_eq_nil_of_le aA]at jf;refine gO F117 ?_;rw[jf];rfl
theorem Hf(h:bZ)(l:List Step)(hf:h.Fits)(dz:h.aE.length<=1000000)(hg:Steps.Fits l):aq E 47 [h.enc,.sl (l.map Step.enc)] (· = .bool (fq h l)):=by
 have h1:=Nb h hf dz;have h2:=Wu h l hg;refine eP Tryz.func47 ?_;repeat' (first|with_reducible(first|refine ao (h1) ?_|refine au (h1) ?_|refine ao (h2) ?_|refine au (h2) ?_|refine cY ?_|refine cN ?_|refine ai (fun _=>?_) (fun _=>?_))|refine gA Tryz.func47 ?_|refine gB ?_|with_reducible rfl)
 all_goals simp_all[fq]
theorem Wv(p:bc):aq E 167 [p.enc] (· = .bool p.aw.ae.isEmpty):=by
 refine eP Tryz.func167 ?_
 congr 1
 rw[Bool.eq_iff_iff];simp[List.isEmpty_iff]
theorem Ww(a b:bc):aq E 71 [a.enc,b.enc] (· = .bool (decide (a.spot=b.spot))):=by
 refine eP Tryz.func71 ?_;repeat' (first|with_reducible(first|refine cY ?_|refine cN ?_|refine ai (fun _=>?_) (fun _=>?_))|refine gA Tryz.func71 ?_|refine gB ?_|with_reducible rfl)
 all_goals
  congr 1
  simp_all[bc.spot];try (rw[Bool.eq_iff_iff];simp)
theorem Nh(s:kQ)(n:Nat)(hf:s.Fits):aq E 130 [.int .i64 n,s.enc] (· = .bool (iG n s)):=by
 obtain⟨l⟩:=s;obtain⟨hz,hl⟩:=hf;simp only at hz hl;show aq E _ [.int .i64 n,DV.agg [.sl (l.map bc.enc)]] _;refine eP F130 ?_;refine I.loop (κ:=Nat) (rg 4 65) (fun k=>[(5,.d (.int .i64 k)),(4,.d (.bool false))]) (fun _=>[]) (fun k=>k<=l.length/\(l.take k).all (je n)=true/\((l.take k).map bc.spot).Nodup) (fun k=>l.length-k) 0 ⟨Nat.zero_le _,rfl,by simp⟩ ?_ ?_
 ·exact sZ
 rintro i ⟨hi,aJ,cX⟩ IH;refine I.head ab F130 2000 ?_;(conv=>whnf);refine ai (fun h5=>?_) (fun h5=>?_)
 ·have ah:i<l.length:=by simpa using h5
  obtain⟨x,hx⟩:=aG ah;have fu:=hz x (List.mem_of_getElem? hx);have Ao:=Wv x;have bH:=eG x.aw.aj fu.aj;have Ni:=iW x.aw.aj fu.aj;have Nj:=GH x.aw fu;have Wx:Nm.valid x.aw.aj=true->lM x.aw.aj=Nm.ia x.aw.aj:=GP;have Wy:eB x.aw=true->x.aw.ae.isEmpty=false:=fun h=>by
   have:=VN h;cases hs:x.aw.ae with
   |nil=>exact absurd hs this
   |cons a b=>rfl
  have jJ:je n x=(decide (0<=x.host)&&decide (x.host<n)&&(if x.aw.ae.isEmpty then Nm.valid x.aw.aj && !Nm.ia x.aw.aj else eB x.aw)):=by
   unfold je kV;cases he:x.aw.ae.isEmpty
   ·simp
   ·cases C8:eB x.aw
    ·cases hv:Nm.valid x.aw.aj
     ·simp
     ·simp[Wx hv]
    ·rw[Wy C8]at he;cases he
  refine gO F130 ?_;refine aB (e:=x.enc) (aN hx) rfl ?_;refine gO F130 ?_;refine ai (fun h6=>?_) (fun h6=>?_)
  ·repeat' (first|with_reducible(first|refine cY ?_|refine cN ?_|refine ai (fun _=>?_) (fun _=>?_))|refine gA F130 ?_|refine gB ?_|with_reducible rfl)
   rw[xP (di hx (by rw[jJ];simp;simp at h6;omega))]
  refine gO F130 ?_;refine ai (fun h7=>?_) (fun h7=>?_)
  ·repeat' (first|with_reducible(first|refine cY ?_|refine cN ?_|refine ai (fun _=>?_) (fun _=>?_))|refine gA F130 ?_|refine gB ?_|with_reducible rfl)
   rw[xP (di hx (by rw[jJ];simp;simp at h7;omega))]
  have Wz:(decide (0<=x.host)&&decide (x.host<n))=true:=by simp at h6 h7 ⊢;omega
  rw[Wz,Bool.true_and]at jJ;refine gO F130 ?_;repeat' (first|with_reducible(first|refine ao (Ao) ?_|refine au (Ao) ?_|refine ao (bH) ?_|refine au (bH) ?_|refine ao (Ni) ?_|refine au (Ni) ?_|refine ao (Nj) ?_|refine au (Nj) ?_|refine cY ?_|refine cN ?_|refine ai (fun _=>?_) (fun _=>?_))|refine gA F130 ?_|refine gB ?_|with_reducible rfl)
  all_goals try (rw[xP (di hx (by rw[jJ];simp_all))];done)
  all_goals
   have aM:je n x=true:=by rw[jJ];simp_all
   refine gO F130 ?_;refine I.loop (κ:=Nat) ([4,7]++rg 57 12) (fun k=>[(7,.d (.int .i64 k)),(4,.d (.bool false))]) (fun _=>[]) (fun k=>k<=i/\∀ m y,m<k->l[m]?=some y->y.spot≠x.spot) (fun k=>i-k) 0 ⟨Nat.zero_le _,fun m y h=>by omega⟩ ?_ ?_
   ·exact sZ
   rintro k ⟨hk,aI⟩ oZ;refine I.head ab F130 2000 ?_;(conv=>whnf);refine ai (fun h9=>?_) (fun h9=>?_)
   ·have lO:k<i:=by simpa using h9
    obtain⟨y,hy⟩:=aG (l:=l) (k:=k) (by omega);refine gO F130 ?_;refine I.bJ ab bG 2000 (by kernel_rfl) ?_;(conv=>whnf);refine aB (e:=y.enc) (aN hy) rfl ?_;refine gD ?_;refine au (Ww y x) ?_;refine gD ?_;refine gO F130 ?_;refine ai (fun vw=>?_) (fun vw=>?_)
    ·refine gO F130 ?_;have hm:x.spot∈(l.take i).map bc.spot:=List.mem_map.2 ⟨y,List.mem_of_getElem? (i:=k) (by rw[List.getElem?_take,if_pos lO];exact hy),by simpa using vw⟩;have:=G5 hx hm;simp[iG,this]
    ·refine gO F130 ?_;refine I.back (oZ (k+1) ⟨by omega,fun m z hm ix=>?_⟩ (by omega)) ?_
     ·by_cases lQ:m=k
      ·subst lQ;rw[hy]at ix;cases ix;simpa using vw
      ·exact aI m z (by omega) ix
     ·exact sZ
   ·have xL:i<=k:=by simpa using h9
    refine gO F130 ?_;refine I.back (IH (i+1) ⟨by omega,dw aJ hx aM,G6 hx cX (fun hm=>?_)⟩ (by omega)) ?_
    ·obtain⟨y,hy,e⟩:=List.mem_map.1 hm;obtain⟨m,hm⟩:=List.getElem?_of_mem hy;rw[List.getElem?_take]at hm;split at hm
     ·exact aI m y (by omega) hm e
     ·cases hm
    ·exact sZ
 ·have aA:l.length<=i:=by simpa using h5
  rw[List.take_of_length_le aA]at aJ cX;refine gO F130 ?_;simp[iG,aJ,cX];try omega
theorem WA(h:bZ)(l:List Step)(hf:Steps.Fits l):aq E 129 [h.enc,.sl (l.map Step.enc)] (· = .bool (mF h l)):=by
 obtain⟨aC,aE,anchor,hints,bN,fin⟩:=h;obtain⟨hz,hl⟩:=hf;show aq E _ [DV.agg [.sl (aC.map Host.enc),.sl (aE.map aY.enc),.str anchor.name,.int .i64 anchor.type,.int .i64 anchor.cy,.sl (anchor.data.map Datum.enc),.sl (hints.map (.int .i64)),.int .i64 bN,.int .i64 fin],_] _;have bH:mF ⟨aC,aE,anchor,hints,bN,fin⟩ l=(decide (l.length<=400)&&chain (dC aC.length fin) eZ none l):=rfl;rw[bH];refine eP F129 ?_;refine I.loop (κ:=Nat) (rg 4 54) (fun k=>[(5,.d (.int .i64 k)),(4,.d (.bool false))]) (fun _=>[]) (fun k=>k<=l.length/\chain (dC aC.length fin) eZ none l=chain (dC aC.length fin) eZ (bL l k) (l.drop k)) (fun k=>l.length-k) 0 ⟨Nat.zero_le _,rfl⟩ ?_ ?_
 ·exact sZ
 rintro i ⟨hi,jf⟩ IH;refine I.head ab F129 2000 ?_;(conv=>whnf);refine ai (fun h5=>?_) (fun h5=>?_)
 ·have ah:i<l.length:=by simpa using h5
  obtain⟨x,hx⟩:=aG ah;have fu:=hz x (List.mem_of_getElem? hx);have aF:=uZ (ok:=dC aC.length fin) (rel:=eZ) hx;have bg:=Nh x.cb (aC.map Host.enc).length fu;rw[show iG (aC.map Host.enc).length x.cb=iG aC.length x.cb by rw[List.length_map]]at bg;have hC:=jf.trans aF;have C9:∀ b,chain (dC aC.length fin) eZ none l=(b&&chain (dC aC.length fin) eZ (bL l (i+1)) (l.drop (i+1)))->b=false->DV.bool false=DV.bool (decide (l.length<=400)&&chain (dC aC.length fin) eZ none l):=fun b h1 h2=>by rw[h1,h2];simp
  rcases Nat.eq_zero_or_pos i with h0|h0
  ·subst h0;have tj:chain (dC aC.length fin) eZ none l=(dC aC.length fin x&&chain (dC aC.length fin) eZ (bL l (0+1)) (l.drop (0+1))):=by rw[hC];simp[bL]
   refine gO F129 ?_;refine I.bJ ab bG 2000 (by kernel_rfl) ?_;(conv=>whnf);repeat' (first|with_reducible(first|refine aB (aN hx) rfl ?_|refine ao (bg) ?_|refine au (bg) ?_|refine cY ?_|refine cN ?_|refine ai (fun _=>?_) (fun _=>?_))|refine gA F129 ?_|refine gB ?_|with_reducible rfl)
   all_goals try (exact C9 _ tj (by(simp_all[dC]<;>omega)))
   have aM:dC aC.length fin x=true:=by(simp_all[dC]<;>omega)
   refine gO F129 ?_;refine I.back (IH (0+1) ⟨by omega,by rw[tj,aM];rfl⟩ (by omega)) ?_;exact sZ
  ·obtain⟨q,hq,dH⟩:=qZ h0 hi;have tj:chain (dC aC.length fin) eZ none l=((dC aC.length fin x&&eZ q x)&&chain (dC aC.length fin) eZ (bL l (i+1)) (l.drop (i+1))):=by rw[hC,dH]
   have hg:decide ((i:Int)>0)=true:=by simp;omega
   refine gO F129 ?_;refine I.bJ ab bG 2000 (by kernel_rfl) ?_;(conv=>whnf);repeat' (first|with_reducible(first|refine aB (aN hx) rfl ?_|refine aB (nh hq (by omega) (by omega)) rfl ?_|refine ao (bg) ?_|refine au (bg) ?_|refine cY ?_|refine cN ?_|refine ai (fun _=>?_) (fun _=>?_))|refine gA F129 ?_|refine gB ?_|with_reducible rfl)
   all_goals try (exact C9 _ tj (by(simp_all[dC,eZ]<;>omega)))
   have aM:(dC aC.length fin x&&eZ q x)=true:=by(simp_all[dC,eZ]<;>omega)
   refine gO F129 ?_;refine I.back (IH (i+1) ⟨by omega,by rw[tj,aM];rfl⟩ (by omega)) ?_;exact sZ
 ·have aA:l.length<=i:=by simpa using h5
  rw[List.drop_eq_nil_of_le aA]at jf;refine gO F129 ?_;rw[jf];simp[chain];try omega
theorem WB(h:bZ)(l:List Step)(hf:h.Fits)(dz:h.aE.length<=1000000)(fM:h.hints.length<=1000000)(hg:Steps.Fits l):aq E 53 [h.enc,.sl (l.map Step.enc)] (· = .bool (fq h l)):=by
 have h1:=Wp h hf dz fM;have h2:=WA h l hg;refine eP Tryz.func53 ?_;repeat' (first|with_reducible(first|refine ao (h1) ?_|refine au (h1) ?_|refine ao (h2) ?_|refine au (h2) ?_|refine cY ?_|refine cN ?_|refine ai (fun _=>?_) (fun _=>?_))|refine gA Tryz.func53 ?_|refine gB ?_|with_reducible rfl)
 all_goals simp_all[fq]
def ot(ended:List dj)(at_:Int)(c:aY):List aY:=if c.spot∈ended then(if c.cu>=at_ then[]else[{ c with upto:=min c.upto at_ }])else[c]
def lS(ended:List dj)(at_:Int)(l:List aY):List aY:=l.flatMap (ot ended at_)
theorem WG{ended:List dj}{at_:Int}{l:List aY}{k:Nat}{c:aY}(h:l[k]?=some c):lS ended at_ (l.take (k+1))=lS ended at_ (l.take k)++ot ended at_ c:=by
 rw[cK h,lS,List.flatMap_append];simp[lS]
theorem C'{ended:List dj}{at_:Int}:∀ (l:List aY),(lS ended at_ l).length<=l.length
 |[]=>by simp[lS]
 |c::l=>by
  have:=C' (ended:=ended) (at_:=at_) l;unfold lS at this ⊢;rw[List.flatMap_cons,List.length_append,List.length_cons];have h1:(ot ended at_ c).length<=1:=by unfold ot;split<;>(try split)<;>simp
  omega
theorem Nk{G:List (Nat × DV)}{s:List AV}{x:Operand}{v:AV}(h:aZ G s x v):jn G s [x] [v]:=fun c a h3 h4=>VL.cons (h c a h3 h4) .nil
theorem WH(s:kQ)(hf:s.Fits):ar E 57 [] [.d s.enc] (fun a b=>a=.map 1/\b=[.cells [.d (.sl (s.cA.map bc.enc))],.map (ek dj.en (s.cA.map bc.spot))]):=by
 obtain⟨l⟩:=s;obtain⟨hz,hl⟩:=hf;simp only at hz hl;show ar E _ [] [.d (DV.agg [.sl (l.map bc.enc)])] _;refine ar.run ab (fn:=Tryz.f57) Tryz.func57 (body:=Tryz.f57.body.getD .skip) rfl (by decide) 2000 rfl ?_;(conv=>whnf);refine gO F57 ?_;refine gO F57 ?_;refine I.loop (κ:=Nat) ([5]++rg 10 12) (fun k=>[(10,.d (.int .i64 k)),(3,.map 1)]) (fun k=>[(1,.map (ek dj.en ((l.take k).map bc.spot)))]) (fun k=>k<=l.length) (fun k=>l.length-k) 0 (Nat.zero_le _) ?_ ?_
 ·(conv=>whnf);repeat (first|exact trivial|(refine sI ?_;conv=>whnf))
  refine And.intro rfl ?_;exact sZ
 rintro i hi IH;refine I.head ab F57 2000 ?_;(conv=>whnf);refine ai (fun h5=>?_) (fun h5=>?_)
 ·have ah:i<l.length:=by simpa using h5
  obtain⟨x,hx⟩:=aG ah;have fp:=(oo pV ((l.take i).map bc.spot)).1;refine gO F57 ?_;refine aB (e:=x.enc) (aN hx) rfl ?_;refine gO F57 ?_;refine aV ⟨⟨_,rfl,rfl,⟨_,rfl,_,rfl⟩,rfl,⟨_,rfl,_,rfl⟩,trivial⟩,xK fp⟩ ?_;refine gO F57 ?_;refine I.back (IH (i+1) (by omega) (by omega)) ?_;rw[C3 hx,te];(conv=>whnf);repeat (first|exact trivial|(refine sI ?_;conv=>whnf))
  refine And.intro rfl ?_;exact sZ
 ·have aA:l.length<=i:=by simpa using h5
  rw[List.take_of_length_le aA];refine gO F57 ?_;exact⟨rfl,rfl⟩
theorem WI(l:List DV)(es:List (DV × DV))(at_:Int):ar E 56 [.map es] [.d (.sl l),.map 0,.d (.int .i64 at_)] (fun a b=>a=.fn (.func 132) [] [.ptr 1 0,.ptr 2 0,.ptr 3 0]/\b=[.map es,.cells [.d (.sl l)],.cells [.map 0],.cells [.d (.int .i64 at_)]]):=by
 refine ar.run ab (fn:=Tryz.f56) Tryz.func56 (body:=Tryz.f56.body.getD .skip) rfl (by decide) 2000 rfl ?_;(conv=>whnf);exact⟨rfl,rfl⟩
theorem WJ(l:List aY)(ended:List dj)(at_:Int)(hl:l.length<=1000000) :
  ar E 131 [.cells [.d (.sl (l.map aY.enc))],.cells [.map 3],.cells [.d (.int .i64 at_)],.map (ek dj.en ended)] [.d .aH,.fn (.func 132) [] [.ptr 0 0,.ptr 1 0,.ptr 2 0]]
   (fun a b=>a=.own 5 1/\b=[.cells [.d (.sl (l.map aY.enc))],.cells [.map 3],.cells [.d (.int .i64 at_)],.map (ek dj.en ended),.cells [.own 5 1],.arr 1 (68,5) ((lS ended at_ l).map aY.enc)]):=by
 refine ar.run ab (fn:=Tryz.f131) Tryz.func131 (body:=Tryz.f131.body.getD .skip) rfl (by decide) 2000 rfl ?_;(conv=>whnf);refine I.pK 4 0 (68,5) (by decide) rfl rfl ?_;(conv=>whnf);refine I.rangeFunc (aS rfl) Tryz.func132 rfl (by decide) rfl (fun ll d t=>?_);refine gO F132 ?_;refine I.loop (κ:=Nat) ([6]++rg 9 26) (fun k=>[(9,.d (.int .i64 k))]) (fun k=>[(4,.cells [.own 5 1]),(5,.arr 1 (68,5) ((lS ended at_ (l.take k)).map aY.enc))]) (fun k=>k<=l.length) (fun k=>l.length-k) 0 (Nat.zero_le _) ?_ ?_
 ·(conv=>whnf);repeat (first|exact trivial|(refine sI ?_;conv=>whnf))
  refine And.intro rfl ?_;exact sZ
 intro k hk IH;refine I.head ab F132 2000 ?_;(conv=>whnf);refine ai (fun h5=>?_) (fun h5=>?_)
 ·have ah:k<l.length:=by simpa using h5
  obtain⟨c,hc⟩:=aG ah;have aF:=WG (ended:=ended) (at_:=at_) hc;have hlen:=C' (ended:=ended) (at_:=at_) (l.take k);have Eo:(l.take k).length<=l.length:=by simp;omega
  obtain⟨gw,jd⟩:=vq pV ended c.spot;have fp:=(oo pV ended).1;refine gO F132 ?_;refine aB (e:=c.enc) (aN hc) rfl ?_;refine gO F132 ?_;refine oK (.bool false) (.bool false) ⟨_,rfl,rfl,⟨_,rfl,_,rfl⟩,rfl,⟨_,rfl,_,rfl⟩,trivial⟩ (xK fp) (fun w=>by kernel_rfl) (fun _ _ => .bool _) gw jd ?_;refine gO F132 ?_;by_cases hm:c.spot∈ended
  ·refine aU (by simp[hm]) ?_;refine gO F132 ?_;refine ai (fun h6=>?_) (fun h6=>?_)
   ·have e1:ot ended at_ c=[]:=by simp[ot,hm,of_decide_eq_true h6]
    refine gO F132 ?_;refine I.back (IH (k+1) (by omega) (by omega)) ?_;rw[aF,e1,List.append_nil];exact sZ
   ·have e1:ot ended at_ c=[{ c with upto:=min c.upto at_ }]:=by simp[ot,hm,of_decide_eq_false h6]
    refine gO F132 ?_;refine I.SJ rfl rfl (aS rfl) (aS rfl) ?_;(conv=>whnf);refine gO F132 ?_;refine I.yield 0 rfl rfl rfl (aS rfl) (Nk (aS rfl)) rfl ?_;(conv=>whnf);refine gO F131 ?_;refine I.begin 0 rfl rfl rfl ?_;(conv=>whnf);refine gO F131 ?_;refine aV ⟨by simp;omega,by simp[DV.cells]⟩ ?_;refine gO F131 ?_;refine I.pM 0 rfl rfl rfl ?_;(conv=>whnf);refine gO F132 ?_;refine aW (by decide) ?_;refine gO F132 ?_;refine I.back (IH (k+1) (by omega) (by omega)) ?_;rw[aF,e1];(conv=>whnf);repeat (first|exact trivial|(refine sI ?_;conv=>whnf))
    refine And.intro (by simp) ?_;exact sZ
  ·refine aW (by simp[hm]) ?_;have e1:ot ended at_ c=[c]:=by simp[ot,hm]
   refine gO F132 ?_;refine I.yield 0 rfl rfl rfl (aS rfl) (Nk (aS rfl)) rfl ?_;(conv=>whnf);refine gO F131 ?_;refine I.begin 0 rfl rfl rfl ?_;(conv=>whnf);refine gO F131 ?_;refine aV ⟨by simp;omega,by simp[DV.cells]⟩ ?_;refine gO F131 ?_;refine I.pM 0 rfl rfl rfl ?_;(conv=>whnf);refine gO F132 ?_;refine aW (by decide) ?_;refine gO F132 ?_;refine I.back (IH (k+1) (by omega) (by omega)) ?_;rw[aF,e1];(conv=>whnf);repeat (first|exact trivial|(refine sI ?_;conv=>whnf))
   refine And.intro (by simp) ?_;exact sZ
 ·have aA:l.length<=k:=by simpa using h5
  rw[List.take_of_length_le aA];refine gO F132 ?_;refine I.kN ab F132 rfl rfl rfl rfl (fun e=>nomatch e) ?_;(conv=>whnf);refine gO F131 ?_;refine I.mo ab F131 rfl rfl rfl rfl rfl ?_;(conv=>whnf);exact⟨rfl,rfl⟩
theorem WK(l:List aY)(ended:List dj)(at_:Int)(hl:l.length<=1000000) :
  ar E 55 [.cells [.d (.sl (l.map aY.enc))],.cells [.map 3],.cells [.d (.int .i64 at_)],.map (ek dj.en ended)] [.fn (.func 132) [] [.ptr 0 0,.ptr 1 0,.ptr 2 0]]
   (fun a b=>a=.own 5 1/\b=[.cells [.d (.sl (l.map aY.enc))],.cells [.map 3],.cells [.d (.int .i64 at_)],.map (ek dj.en ended),.cells [.own 5 1],.arr 1 (68,5) ((lS ended at_ l).map aY.enc)]):=by
 refine ar.run ab (fn:=Tryz.f55) Tryz.func55 (body:=Tryz.f55.body.getD .skip) rfl (by decide) 2000 rfl ?_;conv=>whnf
 with_reducible refine aO (WJ l ended at_ hl) ?_
 refine gO Tryz.func55 ?_;exact⟨rfl,rfl⟩
end Go.Proofs.YtfmdaiojokniiaaGreatDoor.P
end
