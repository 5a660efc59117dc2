/- Lemmas of mine. Conditions: as stated. -/
import Derived.Test.YtlhehdgciafakaaGreatDoorQ13
set_option linter.unusedVariables false
set_option linter.unusedSimpArgs false
open Bool renaming and_eq_true->ai2,eq_iff_iff->akN
open List renaming mem_of_getElem?->aiQ,mem_map->ahY,take_of_length_le->ajq,mem_cons_self->aio,length_map->aiO,append_nil->aj0,mem_cons_of_mem->aip,flatMap_cons->ahJ,length_append->ah5,mem_append->aif,flatMap_append->akg,foldl_append->alH,mem_flatMap->aiM,all_eq_true->ahH,take_length->akR,isEmpty_iff->amT,drop_eq_nil_of_le->amU,getElem?_take->ahS,length_cons->ahN,map_append->aih,flatMap_nil->amV,map_cons->ahx,append_assoc->aiK
open Nat renaming zero_le->ai4,le_refl->ahL
section
namespace Go.Proofs.YtlhehdgciafakaaGreatDoor.P
open Go Go.az
set_option maxRecDepth 100000
set_option maxHeartbeats 4000000
theorem ZW(t:Text):nf t=((t==[42])||preB t [42,46]):=by
 unfold nf Nm.labels preB;by_cases hr:t=[46]
 ·subst hr;rfl
 rw[if_neg hr];cases t with
 |nil=>rfl
 |cons c r =>
  by_cases hc:c=46
  ·subst hc;simp[Nm.split];show((42:UInt8)==46&&_)=false;rfl
  ·cases r with
   |nil=>simp[Nm.split,hc]
   |cons d r' =>
    by_cases hd:d=46
    ·subst hd;simp[Nm.split,hc];rw[akN];simp;exact eq_comm
    ·obtain⟨x,u,h1,h2⟩:=Nm.rJ d r' hd;have h3:Nm.split (c::d::r')=(c::d::x)::u:=by
      rw[Nm.split,if_neg hc,h2]
     rw[h3];have:(d==46)=false:=zD hd
     have ZX:((46:UInt8)==d)=false:=by simpa using fun e=>hd e.symm
     simp;show((42:UInt8)==c&&((46:UInt8)==d&&_))=false;rw[ZX];simp
def jz(z:aK):Bool:=z.J.isEmpty && !nf z.af&&Nm.valid z.af
def ky(ay:Nat)(p:aH):Bool:=decide (0<=p.host)&&decide (p.host<ay)&&(jz p.ar||dN p.ar)
def jV(ay:Nat)(s:mv):Bool:=decide (s.cQ.length<=500)&&s.cQ.all (ky ay)&&decide ((s.cQ.map aH.spot).Nodup)
def eJ(ay:Nat)(fin:Int)(s:Step):Bool:=decide (0<=s.time)&&decide (s.time<fin)&&jV ay s.cE
def iv(a b:Step):Bool:=decide (a.time<b.time)
def qL(h:bB)(l:List Step):Bool:=decide (l.length<=400)&&chain (eJ h.ay.length h.fin) iv none l
def mz(h:bB)(l:List Step):Bool:=ec h&&qL h l
structure mv.Fits(s:mv):Prop where
 dS:∀ p∈s.cQ,p.ar.Fits
 E2:s.cQ.length<=1000000
theorem JS(z:aK)(hf:z.Fits):aq E 52 [z.enc] (· = .bool (jz z)):=by
 have e:jz z=(z.J.isEmpty && !((z.af==[42])||preB z.af [42,46])&&Nm.valid z.af):=by rw[jz,ZW]
 have e2:z.J.isEmpty=(((z.J.map Signed.enc).length:Int)==0):=by
  rw[akN];simp[amT]
 refine eP Tryz.func52 ?_;repeat' (first|with_reducible(first|refine cC (Ei z.af [42,46]) ?_|refine cC (iP z.af hf.af) ?_|refine cX ?_|apply ah<;>intro)|refine gA Tryz.func52 ?_|refine gB ?_|with_reducible rfl)
 all_goals
  rw[e,e2];clear e e2
  congr 1
  simp_all
theorem zK{l:List aH}{n:Nat}(h:l.all (ky n)=false):jV n ⟨l⟩=false:=by simp[jV,h]
theorem ZY(s:mv)(n:Nat)(hf:s.Fits):aq E 170 [s.enc,.int .i64 n] (· = .bool (jV n s)):=by
 obtain⟨l⟩:=s;obtain⟨hz,hl⟩:=hf;simp only at hz hl;show aq E _ [DV.agg [.sl (l.map aH.enc)],.int .i64 n] _;refine eP F170.h ?_;apply ah<;>intro h1
 ·refine gC ?_;have:jV n ⟨l⟩=false:=by simp[jV];simp at h1;omega
  rw[this]
 have hlen:l.length<=500:=by simp at h1;omega
 refine gC ?_;refine gC ?_;refine I.lP l.length ([4,7,8]++rg 17 39) (fun k=>[(17,.d (.int .i64 k)),(4,.d (.bool false)),(5,.map 1)]) (fun k=>[(1,.map (eY cU.en ((l.take k).map aH.spot)))]) (fun k=>k<=l.length/\(l.take k).all (ky n)=true/\((l.take k).map aH.spot).Nodup) ⟨ai4 _,rfl,by simp⟩ ?_ ?_
 ·refine sY ?_
  refine⟨rfl, ?_⟩;exact sZ
 rintro i ⟨hi,aM,cW⟩ IH;refine zA ?_ ?_<;>intro h5
 ·have ai:i<l.length:=zD h5
  obtain⟨x,hx⟩:=aI ai;have gw:=hz x (aiQ hx);have gv:=(pU r8 ((l.take i).map aH.spot)).1;obtain⟨gU,jx⟩:=xy r8 ((l.take i).map aH.spot) x.spot;have yr:cU.en x.spot=.agg [.int .i64 x.host,.str x.ar.af]:=rfl;refine gC ?_;refine eM hx (gC ?_);apply ah<;>intro h6
  ·repeat' (first|with_reducible(first|refine cX ?_|apply ah<;>intro)|refine gE ?_|with_reducible rfl)
   rw[zK (dK hx (by simp[ky];simp at h6;omega))]
  refine gC ?_;apply ah<;>intro h7
  ·repeat' (first|with_reducible(first|refine cX ?_|apply ah<;>intro)|refine gE ?_|with_reducible rfl)
   rw[zK (dK hx (by simp[ky];simp at h7;omega))]
  refine gC ?_;refine qm (.bool false) (.bool false) ⟨_,rfl,rfl,⟨_,rfl,_,rfl⟩,rfl,⟨_,rfl,_,rfl⟩,trivial⟩ (zG gv) (fun w=>by kernel_rfl) (fun _ _ => .bool _) gU jx (gC ?_);apply ah<;>intro h8
  ·repeat' (first|with_reducible(first|refine cX ?_|apply ah<;>intro)|refine gE ?_|with_reducible rfl)
   have:=JF hx (zD h8);simp[jV,this]
  repeat' (first|with_reducible(first|refine cC (JS x.ar gw) ?_|refine cC (xt x.ar gw) ?_|refine cX ?_|apply ah<;>intro)|refine gE ?_|with_reducible rfl)
  all_goals try (rw[zK (dK hx (by simp_all[ky]))];done)
  all_goals
   have aV:ky n x=true:=by simp_all[ky]
   refine bj ⟨⟨_,rfl,rfl,⟨_,rfl,_,rfl⟩,rfl,⟨_,rfl,_,rfl⟩,trivial⟩,zG gv⟩ (gC ?_);refine I.back (IH (i+1) ⟨by omega,ea aM hx aV,JG hx cW (zD h8)⟩ oM) ?_;rw[EV hx,vC];refine sY ?_
   refine⟨rfl, ?_⟩;exact sZ
 ·have aA:l.length<=i:=zD h5
  rw[ajq aA]at aM cW;refine gC ?_;simp[jV,aM,cW,hlen]
def tT(l:List Step)(k:Nat):Int:=match bS l k with
 |none => -1
 |some q=>q.time
theorem Qp{l:List Step}{k:Nat}{x:Step}(h:l[k]?=some x):bS l (k+1)=some x:=by simp[bS,h]
structure Steps.Fits(l:List Step):Prop where
 each:∀ s∈l,s.cE.Fits
 E2:l.length<=1000000
theorem ZZ(h:bB)(l:List Step)(hf:Steps.Fits l):aq E 101 [h.enc,.sl (l.map Step.enc)] (· = .bool (qL h l)):=by
 obtain⟨ay,aw,anchor,hints,bq,fin⟩:=h;obtain⟨hz,hl⟩:=hf;show aq E _ [HD ay aw anchor hints bq fin,_] _;refine eP F101.h ?_;apply ah<;>intro h1
 ·refine gC ?_;have:qL ⟨ay,aw,anchor,hints,bq,fin⟩ l=false:=by simp[qL];simp at h1;omega
  rw[this]
 have hlen:l.length<=400:=by simp at h1;omega
 have bJ:qL ⟨ay,aw,anchor,hints,bq,fin⟩ l=chain (eJ ay.length fin) iv none l:=by simp[qL,hlen]
 rw[bJ];refine gC ?_;refine I.lP l.length ([4,5,7]++rg 13 27) (fun k=>[(13,.d (.int .i64 k)),(4,.d (.bool false)),(5,.d (.int .i64 (tT l k)))]) (fun _=>[]) (fun k=>k<=l.length/\chain (eJ ay.length fin) iv none l=chain (eJ ay.length fin) iv (bS l k) (l.drop k)/\∀ q,bS l k=some q->0<=q.time) ⟨ai4 _,rfl,fun q h=>by simp[bS]at h⟩ ?_ ?_
 ·refine sY ?_
  refine⟨rfl, ?_⟩;exact sZ
 rintro i ⟨hi,kz,db⟩ IH;refine zA ?_ ?_<;>intro h5
 ·have ai:i<l.length:=zD h5
  obtain⟨x,hx⟩:=aI ai;have gw:=hz x (aiQ hx);have aJ:=xl (ok:=eJ ay.length fin) (rel:=iv) hx;have bc:=ZY x.cE (ay.map Host.enc).length gw;rw[show jV (ay.map Host.enc).length x.cE=jV ay.length x.cE by rw[aiO]]at bc;have hC:=kz.trans aJ;refine gC ?_;refine eM hx (gC ?_);apply ah<;>intro h6
  ·repeat' (first|with_reducible(first|refine cX ?_|apply ah<;>intro)|refine gE ?_|with_reducible rfl)
   have xC:x.time<=tT l i:=zD h6
   cases hq:bS l i with
   |none =>
    simp only[tT,hq]at xC;have:eJ ay.length fin x=false:=by simp[eJ];omega
    rw[hC];simp[this]
   |some q =>
    simp only[tT,hq]at xC;have:iv q x=false:=by simp[iv];omega
    rw[hC,hq];simp[this]
  have xC:tT l i<x.time:=zD h6
  have EB:0<=x.time:=by
   cases hq:bS l i with
   |none=>simp only[tT,hq]at xC;omega
   |some q=>have:=db q hq;simp only[tT,hq]at xC;omega
  have vE:chain (eJ ay.length fin) iv none l=(eJ ay.length fin x&&chain (eJ ay.length fin) iv (bS l (i+1)) (l.drop (i+1))):=by
   rw[hC];cases hq:bS l i with
   |none=>simp
   |some q=>simp only[tT,hq]at xC;simp[iv,xC]
  refine gC ?_;repeat' (first|with_reducible(first|refine cC bc ?_|refine cX ?_|apply ah<;>intro)|refine gE ?_|with_reducible rfl)
  all_goals try
   (have bI : eJ ay.length fin x=false := by(simp_all[eJ]<;>omega)
    rw[vE, bI];simp;done)
  have aV:eJ ay.length fin x=true:=by(simp_all[eJ]<;>omega)
  refine gC ?_;refine I.back (IH (i+1) ⟨by omega,?_,fun q hq=>by rw[Qp hx]at hq;cases hq;exact EB⟩ oM) ?_
  ·rw[vE,aV];rfl
  ·refine sY ?_
   exact And.intro (by simp[tT,Qp hx]) sZ
 ·have aA:l.length<=i:=zD h5
  rw[amU aA]at kz;refine gC ?_;rw[kz];rfl
theorem Qq(h:bB)(l:List Step)(hf:h.Fits)(dB:h.aw.length<=1000000)(hg:Steps.Fits l):aq E 37 [h.enc,.sl (l.map Step.enc)] (· = .bool (mz h l)):=by
 have h1:=Qk h hf dB;have h2:=ZZ h l hg;refine eP Tryz.func37 ?_;repeat' (first|with_reducible(first|refine cC h1 ?_|refine cC h2 ?_|refine cX ?_|apply ah<;>intro)|refine gA Tryz.func37 ?_|refine gB ?_|with_reducible rfl)
 all_goals simp_all[mz]
theorem Qr(p:aH):aq E 121 [p.enc] (· = .bool p.ar.J.isEmpty):=by
 refine eP Tryz.func121 ?_
 congr 1
 rw[akN];simp[amT]
theorem Qs(a b:aH):aq E 120 [a.enc,b.enc] (· = .bool (decide (a.spot=b.spot))):=by
 refine eP Tryz.func120 ?_;repeat' (first|with_reducible(first|refine cX ?_|apply ah<;>intro)|refine gA Tryz.func120 ?_|refine gB ?_|with_reducible rfl)
 all_goals
  congr 1
  simp_all[aH.spot];try (rw[akN];simp)
theorem Qt(s:mv)(n:Nat)(hf:s.Fits):aq E 114 [.int .i64 n,s.enc] (· = .bool (jV n s)):=by
 obtain⟨l⟩:=s;obtain⟨hz,hl⟩:=hf;simp only at hz hl;show aq E _ [.int .i64 n,DV.agg [.sl (l.map aH.enc)]] _;refine eP F114.h ?_;refine I.lP l.length (rg 4 65) (fun k=>[(5,.d (.int .i64 k)),(4,.d (.bool false))]) (fun _=>[]) (fun k=>k<=l.length/\(l.take k).all (ky n)=true/\((l.take k).map aH.spot).Nodup) ⟨ai4 _,rfl,by simp⟩ ?_ ?_
 ·exact sZ
 rintro i ⟨hi,aM,cW⟩ IH;refine zA ?_ ?_<;>intro h5
 ·have ai:i<l.length:=zD h5
  obtain⟨x,hx⟩:=aI ai;have gw:=hz x (aiQ hx);have Ce:=Qr x;have bJ:=fA x.ar.af gw.af;have Qu:=kn x.ar.af gw.af;have Qv:=EA x.ar gw;have Z0:Nm.valid x.ar.af=true->nf x.ar.af=Nm.jS x.ar.af:=Jd;have Z1:dN x.ar=true->x.ar.J.isEmpty=false:=fun h=>by
   have:=P7 h;cases hs:x.ar.J with
   |nil=>exact absurd hs this
   |cons a b=>rfl
  have jo:ky n x=(decide (0<=x.host)&&decide (x.host<n)&&(if x.ar.J.isEmpty then Nm.valid x.ar.af && !Nm.jS x.ar.af else dN x.ar)):=by
   unfold ky jz;cases he:x.ar.J.isEmpty
   ·simp
   ·cases E3:dN x.ar
    ·cases hv:Nm.valid x.ar.af
     ·simp
     ·simp[Z0 hv]
    ·rw[Z1 E3]at he;cases he
  refine gC ?_;refine eM hx (gC ?_);apply ah<;>intro h6
  ·repeat' (first|with_reducible(first|refine cX ?_|apply ah<;>intro)|refine gE ?_|with_reducible rfl)
   rw[zK (dK hx (by rw[jo];simp;simp at h6;omega))]
  refine gC ?_;apply ah<;>intro h7
  ·repeat' (first|with_reducible(first|refine cX ?_|apply ah<;>intro)|refine gE ?_|with_reducible rfl)
   rw[zK (dK hx (by rw[jo];simp;simp at h7;omega))]
  have Z2:(decide (0<=x.host)&&decide (x.host<n))=true:=by simp at h6 h7 ⊢;omega
  rw[Z2,Bool.true_and]at jo;refine gC ?_;repeat' (first|with_reducible(first|refine cC Ce ?_|refine cC bJ ?_|refine cC Qu ?_|refine cC Qv ?_|refine cX ?_|apply ah<;>intro)|refine gE ?_|with_reducible rfl)
  all_goals try (rw[zK (dK hx (by rw[jo];simp_all))];done)
  all_goals
   have aV:ky n x=true:=by rw[jo];simp_all
   refine gC ?_;refine I.lP i ([4,7]++rg 57 12) (fun k=>[(7,.d (.int .i64 k)),(4,.d (.bool false))]) (fun _=>[]) (fun k=>k<=i/\∀ m y,m<k->l[m]?=some y->y.spot≠x.spot) ⟨ai4 _,fun m y h=>by omega⟩ ?_ ?_
   ·exact sZ
   rintro k ⟨hk,aL⟩ qG;refine zA ?_ ?_<;>intro h9
   ·have ni:k<i:=zD h9
    obtain⟨y,hy⟩:=aI (l:=l) (k:=k) oM;refine gC ?_;refine dU ?_;refine eM hy (gD ?_);refine ax (Qs y x) (gD ?_);refine gC ?_;apply ah<;>intro xD
    ·refine gC ?_;have hm:x.spot∈(l.take i).map aH.spot:=ahY.2 ⟨y,aiQ (i:=k) (by rw[ahS,if_pos ni];exact hy),zD xD⟩;have:=JF hx hm;simp[jV,this]
    ·refine gC ?_;refine I.back (qG (k+1) ⟨by omega,fun m z hm iW=>?_⟩ oM) ?_
     ·by_cases nk:m=k
      ·subst nk;rw[hy]at iW;cases iW;simpa using xD
      ·exact aL m z oM iW
     ·exact sZ
   ·have zH:i<=k:=zD h9
    refine gC ?_;refine I.back (IH (i+1) ⟨by omega,ea aM hx aV,JG hx cW (fun hm=>?_)⟩ oM) ?_
    ·obtain⟨y,hy,e⟩:=ahY.1 hm;obtain⟨m,hm⟩:=List.getElem?_of_mem hy;rw[ahS]at hm;split at hm
     ·exact aL m y oM hm e
     ·cases hm
    ·exact sZ
 ·have aA:l.length<=i:=zD h5
  rw[ajq aA]at aM cW;refine gC ?_;simp[jV,aM,cW];try omega
theorem Z3(h:bB)(l:List Step)(hf:Steps.Fits l):aq E 113 [h.enc,.sl (l.map Step.enc)] (· = .bool (qL h l)):=by
 obtain⟨ay,aw,anchor,hints,bq,fin⟩:=h;obtain⟨hz,hl⟩:=hf;show aq E _ [HD ay aw anchor hints bq fin,_] _;have bJ:qL ⟨ay,aw,anchor,hints,bq,fin⟩ l=(decide (l.length<=400)&&chain (eJ ay.length fin) iv none l):=rfl;rw[bJ];refine eP F113.h ?_;refine I.lP l.length (rg 4 54) (fun k=>[(5,.d (.int .i64 k)),(4,.d (.bool false))]) (fun _=>[]) (fun k=>k<=l.length/\chain (eJ ay.length fin) iv none l=chain (eJ ay.length fin) iv (bS l k) (l.drop k)) ⟨ai4 _,rfl⟩ ?_ ?_
 ·exact sZ
 rintro i ⟨hi,kz⟩ IH;refine zA ?_ ?_<;>intro h5
 ·have ai:i<l.length:=zD h5
  obtain⟨x,hx⟩:=aI ai;have gw:=hz x (aiQ hx);have aJ:=xl (ok:=eJ ay.length fin) (rel:=iv) hx;have bc:=Qt x.cE (ay.map Host.enc).length gw;rw[show jV (ay.map Host.enc).length x.cE=jV ay.length x.cE by rw[aiO]]at bc;have hC:=kz.trans aJ;have E4:∀ b,chain (eJ ay.length fin) iv none l=(b&&chain (eJ ay.length fin) iv (bS l (i+1)) (l.drop (i+1)))->b=false->DV.bool false=DV.bool (decide (l.length<=400)&&chain (eJ ay.length fin) iv none l):=fun b h1 h2=>by rw[h1,h2];simp
  rcases Nat.eq_zero_or_pos i with h0|h0
  ·subst h0;have vE:chain (eJ ay.length fin) iv none l=(eJ ay.length fin x&&chain (eJ ay.length fin) iv (bS l (0+1)) (l.drop (0+1))):=by rw[hC];simp[bS]
   refine gC ?_;refine dU ?_;repeat' (first|with_reducible(first|refine aR (bC hx) rfl ?_|refine cC bc ?_|refine cX ?_|apply ah<;>intro)|refine gE ?_|with_reducible rfl)
   all_goals try (exact E4 _ vE (by(simp_all[eJ]<;>omega)))
   have aV:eJ ay.length fin x=true:=by(simp_all[eJ]<;>omega)
   refine gC ?_;refine I.back (IH (0+1) ⟨by omega,by rw[vE,aV];rfl⟩ oM) ?_;exact sZ
  ·obtain⟨q,hq,dM⟩:=tF h0 hi;have vE:chain (eJ ay.length fin) iv none l=((eJ ay.length fin x&&iv q x)&&chain (eJ ay.length fin) iv (bS l (i+1)) (l.drop (i+1))):=by rw[hC,dM]
   have hg:decide ((i:Int)>0)=true:=by simp;omega
   refine gC ?_;refine dU ?_;repeat' (first|with_reducible(first|refine aR (bC hx) rfl ?_|refine aR (nP hq oM oM) rfl ?_|refine cC bc ?_|refine cX ?_|apply ah<;>intro)|refine gE ?_|with_reducible rfl)
   all_goals try (exact E4 _ vE (by(simp_all[eJ,iv]<;>omega)))
   have aV:(eJ ay.length fin x&&iv q x)=true:=by(simp_all[eJ,iv]<;>omega)
   refine gC ?_;refine I.back (IH (i+1) ⟨by omega,by rw[vE,aV];rfl⟩ oM) ?_;exact sZ
 ·have aA:l.length<=i:=zD h5
  rw[amU aA]at kz;refine gC ?_;rw[kz];simp[chain];try omega
theorem Qw(h:bB)(l:List Step)(hf:h.Fits)(dB:h.aw.length<=1000000)(fq:h.hints.length<=1000000)(hg:Steps.Fits l):aq E 43 [h.enc,.sl (l.map Step.enc)] (· = .bool (mz h l)):=by
 have h1:=Qo h hf dB fq;have h2:=Z3 h l hg;refine eP Tryz.func43 ?_;repeat' (first|with_reducible(first|refine cC h1 ?_|refine cC h2 ?_|refine cX ?_|apply ah<;>intro)|refine gA Tryz.func43 ?_|refine gB ?_|with_reducible rfl)
 all_goals simp_all[mz]
def jA(ended:List cU)(at_:Int)(c:aT):List aT:=if c.spot∈ended then(if c.bQ>=at_ then[]else[{ c with upto:=min c.upto at_ }])else[c]
def gZ(ended:List cU)(at_:Int)(l:List aT):List aT:=l.flatMap (jA ended at_)
theorem Z4{ended:List cU}{at_:Int}{l:List aT}{k:Nat}{c:aT}(h:l[k]?=some c):gZ ended at_ (l.take (k+1))=gZ ended at_ (l.take k)++jA ended at_ c:=by
 rw[cj h,gZ,akg];simp[gZ]
theorem E5{ended:List cU}{at_:Int}:∀ (l:List aT),(gZ ended at_ l).length<=l.length
 |[]=>by simp[gZ]
 |c::l=>by
  have:=E5 (ended:=ended) (at_:=at_) l;unfold gZ at this ⊢;rw[ahJ,ah5,ahN];have h1:(jA ended at_ c).length<=1:=by unfold jA;split<;>(try split)<;>simp
  omega
theorem Qx{G:List (Nat × DV)}{s:List AV}{x:Operand}{v:AV}(h:bk G s x v):kK G s [x] [v]:=fun c a h3 h4=>VL.cons (h c a h3 h4) .nil
theorem Z5(s:mv)(hf:s.Fits):au E 51 [] [.d s.enc] (fun a b=>a=.map 1/\b=[.cells [.d (.sl (s.cQ.map aH.enc))],.map (eY cU.en (s.cQ.map aH.spot))]):=by
 obtain⟨l⟩:=s;obtain⟨hz,hl⟩:=hf;simp only at hz hl;show au E _ [] [.d (DV.agg [.sl (l.map aH.enc)])] _;refine aE ?_;refine gC ?_;refine gC ?_;refine I.lP l.length ([5]++rg 10 12) (fun k=>[(10,.d (.int .i64 k)),(3,.map 1)]) (fun k=>[(1,.map (eY cU.en ((l.take k).map aH.spot)))]) (fun k=>k<=l.length) (ai4 _) ?_ ?_
 ·refine sY ?_
  refine⟨rfl, ?_⟩;exact sZ
 rintro i hi IH;refine zA ?_ ?_<;>intro h5
 ·have ai:i<l.length:=zD h5
  obtain⟨x,hx⟩:=aI ai;have gv:=(pU r8 ((l.take i).map aH.spot)).1;refine gC ?_;refine eM hx (gC ?_);refine bj ⟨⟨_,rfl,rfl,⟨_,rfl,_,rfl⟩,rfl,⟨_,rfl,_,rfl⟩,trivial⟩,zG gv⟩ (gC ?_);refine I.back (IH (i+1) oM oM) ?_;rw[EV hx,vC];refine sY ?_
  refine⟨rfl, ?_⟩;exact sZ
 ·have aA:l.length<=i:=zD h5
  rw[ajq aA];refine gC ?_;exact⟨rfl,rfl⟩
theorem Z6(l:List DV)(es:List (DV × DV))(at_:Int):au E 50 [.map es] [.d (.sl l),.map 0,.d (.int .i64 at_)] (fun a b=>a=.fn (.func 116) [] [.ptr 1 0,.ptr 2 0,.ptr 3 0]/\b=[.map es,.cells [.d (.sl l)],.cells [.map 0],.cells [.d (.int .i64 at_)]]):=by
 refine aE ?_;exact⟨rfl,rfl⟩
theorem Z7(l:List aT)(ended:List cU)(at_:Int)(hl:l.length<=1000000) :
  au E 115 [.cells [.d (.sl (l.map aT.enc))],.cells [.map 3],.cells [.d (.int .i64 at_)],.map (eY cU.en ended)] [.d .aF,.fn (.func 116) [] [.ptr 0 0,.ptr 1 0,.ptr 2 0]]
   (fun a b=>a=.own 5 1/\b=[.cells [.d (.sl (l.map aT.enc))],.cells [.map 3],.cells [.d (.int .i64 at_)],.map (eY cU.en ended),.cells [.own 5 1],.arr 1 (72,5) ((gZ ended at_ l).map aT.enc)]):=by
 refine aE ?_;refine I.qA 4 0 (72,5) dC rfl rfl ?_;(conv=>whnf);refine I.rangeFunc (bg rfl) Tryz.func116 rfl dC rfl (fun ll d t=>?_);refine gC ?_;refine I.lP l.length ([6]++rg 9 26) (fun k=>[(9,.d (.int .i64 k))]) (fun k=>[(4,.cells [.own 5 1]),(5,.arr 1 (72,5) ((gZ ended at_ (l.take k)).map aT.enc))]) (fun k=>k<=l.length) (ai4 _) ?_ ?_
 ·refine sY ?_
  refine⟨rfl, ?_⟩;exact sZ
 intro k hk IH;refine zA ?_ ?_<;>intro h5
 ·have ai:k<l.length:=zD h5
  obtain⟨c,hc⟩:=aI ai;have aJ:=Z4 (ended:=ended) (at_:=at_) hc;have hlen:=E5 (ended:=ended) (at_:=at_) (l.take k);have G0:(l.take k).length<=l.length:=by simp;omega
  obtain⟨gU,jx⟩:=xy r8 ended c.spot;have gv:=(pU r8 ended).1;refine gC ?_;refine eM hc (gC ?_);refine qm (.bool false) (.bool false) ⟨_,rfl,rfl,⟨_,rfl,_,rfl⟩,rfl,⟨_,rfl,_,rfl⟩,trivial⟩ (zG gv) (fun w=>by kernel_rfl) (fun _ _ => .bool _) gU jx (gC ?_);by_cases hm:c.spot∈ended
  ·refine aN (by simp[hm]) (gC ?_);apply ah<;>intro h6
   ·have e1:jA ended at_ c=[]:=by simp[jA,hm,of_decide_eq_true h6]
    refine gC ?_;refine I.back (IH (k+1) oM oM) ?_;rw[aJ,e1,aj0];exact sZ
   ·have e1:jA ended at_ c=[{ c with upto:=min c.upto at_ }]:=by simp[jA,hm,of_decide_eq_false h6]
    refine gC ?_;refine I.Od rfl rfl (bg rfl) (bg rfl) ?_;(conv=>whnf);refine gC ?_;refine I.yield 0 rfl rfl rfl (bg rfl) (Qx (bg rfl)) rfl ?_;(conv=>whnf);refine gC ?_;refine I.begin 0 rfl rfl rfl ?_;(conv=>whnf);refine gC ?_;refine nA (gC ?_);refine I.rO 0 rfl rfl rfl ?_;(conv=>whnf);refine gC ?_;refine aP dC (gC ?_);refine I.back (IH (k+1) oM oM) ?_;rw[aJ,e1];refine sY ?_
    refine⟨by simp, ?_⟩;exact sZ
  ·refine aP (by simp[hm]) ?_;have e1:jA ended at_ c=[c]:=by simp[jA,hm]
   refine gC ?_;refine I.yield 0 rfl rfl rfl (bg rfl) (Qx (bg rfl)) rfl ?_;(conv=>whnf);refine gC ?_;refine I.begin 0 rfl rfl rfl ?_;(conv=>whnf);refine gC ?_;refine nA (gC ?_);refine I.rO 0 rfl rfl rfl ?_;(conv=>whnf);refine gC ?_;refine aP dC (gC ?_);refine I.back (IH (k+1) oM oM) ?_;rw[aJ,e1];refine sY ?_
   refine⟨by simp, ?_⟩;exact sZ
 ·have aA:l.length<=k:=zD h5
  rw[ajq aA];refine gC ?_;refine I.mZ ag F116.h rfl rfl rfl rfl (fun e=>nomatch e) ?_;(conv=>whnf);refine gC ?_;refine I.kq ag F115.h rfl rfl rfl rfl rfl ?_;(conv=>whnf);exact⟨rfl,rfl⟩
theorem Z8(l:List aT)(ended:List cU)(at_:Int)(hl:l.length<=1000000) :
  au E 49 [.cells [.d (.sl (l.map aT.enc))],.cells [.map 3],.cells [.d (.int .i64 at_)],.map (eY cU.en ended)] [.fn (.func 116) [] [.ptr 0 0,.ptr 1 0,.ptr 2 0]]
   (fun a b=>a=.own 5 1/\b=[.cells [.d (.sl (l.map aT.enc))],.cells [.map 3],.cells [.d (.int .i64 at_)],.map (eY cU.en ended),.cells [.own 5 1],.arr 1 (72,5) ((gZ ended at_ l).map aT.enc)]):=by
 refine aE ?_
 with_reducible refine aX (Z7 l ended at_ hl) ?_
 refine gC ?_;exact⟨rfl,rfl⟩
def lT(fin at_:Int)(l:List aH):List aT:=(l.filter (fun p => !jz p.ar)).map (fun p=>⟨p.host,at_,fin,p.ar⟩)
def xE(fin:Int)(cs:List aT)(s:Step):List aT:=gZ (s.cE.cQ.map aH.spot) s.time cs++lT fin s.time s.cE.cQ
def dV(fin:Int)(cs:List aT)(l:List Step):List aT:=l.foldl (xE fin) cs
theorem Qy{fin:Int}{cs:List aT}{l:List Step}{k:Nat}{x:Step}(h:l[k]?=some x):dV fin cs (l.take (k+1))=xE fin (dV fin cs (l.take k)) x:=by
 rw[cj h,dV,alH];rfl
theorem Z9{fin at_:Int}{l:List aH}{k:Nat}{x:aH}(h:l[k]?=some x):lT fin at_ (l.take (k+1))=lT fin at_ (l.take k)++(if jz x.ar then[]else[⟨x.host,at_,fin,x.ar⟩]):=by
 rw[cj h,lT,List.filter_append,aih];cases hs:jz x.ar<;>simp[lT,hs]
theorem Qz{fin at_:Int}{l:List aH}:(lT fin at_ l).length<=l.length:=by
 rw[lT,aiO];exact List.length_filter_le ..
theorem JT{fin:Int}{cs:List aT}{l:List Step}(hl:∀ s∈l,s.cE.cQ.length<=500):∀ k,k<=l.length->(dV fin cs (l.take k)).length<=cs.length+500*k
 |0,_=>by simp[dV]
 |k+1,h=>by
  obtain⟨x,hx⟩:=aI (l:=l) (k:=k) oM;have ih:=JT (fin:=fin) (cs:=cs) hl k oM;have h1:=hl x (aiQ hx);rw[Qy hx,xE,ah5];have h2:=E5 (ended:=x.cE.cQ.map aH.spot) (at_:=x.time) (dV fin cs (l.take k));have h3:=Qz (fin:=fin) (at_:=x.time) (l:=x.cE.cQ);omega
theorem Z'{P:aK->Prop}{ended:List cU}{at_:Int}{cs:List aT}(h:∀ c∈cs,P c.ar):∀ c∈gZ ended at_ cs,P c.ar:=fun c hc=>by
 obtain⟨d,hd,e⟩:=aiM.1 hc;unfold jA at e;split at e
 ·split at e
  ·simp at e
  ·simp at e;subst e;exact h d hd
 ·simp at e;subst e;exact h c hd
theorem JU{P:aK->Prop}{fin:Int}:∀ {l:List Step} {cs:List aT},(∀ c∈cs,P c.ar)->(∀ s∈l,∀ p∈s.cE.cQ,jz p.ar=false->P p.ar)->∀ c∈dV fin cs l,P c.ar
 |[],cs,h,_=>h
 |s::l,cs,h,hp=>by
  show ∀ c∈dV fin (xE fin cs s) l,P c.ar;refine JU (fun c hc=>?_) (fun t ht=>hp t (aip _ ht));rcases aif.1 hc with hc|hc
  ·exact Z' h c hc
  ·obtain⟨p,pQ,e⟩:=ahY.1 hc;obtain⟨JV,hp3⟩:=List.mem_filter.1 pQ;subst e;exact hp s (aio ..) p JV (zD hp3)
theorem QA{h:bB}{l:List Step}(hv:mz h l=true):(∀ c∈h.aw,dN c.ar=true)/\(∀ s∈l,∀ p∈s.cE.cQ,jz p.ar=false->dN p.ar=true):=by
 simp only[mz,ec,qL,ai2,decide_eq_true_eq]at hv;obtain⟨⟨⟨⟨⟨h1,h2⟩,h3⟩,h4⟩,h5⟩,h6,h7⟩:=hv;refine⟨fun c hc=>?_,fun s hs p hp hn=>?_⟩
 ·have:=ahH.1 h3 c hc;simp only[jy,ai2]at this;exact this.2
 ·have:=zw h7 s hs;simp only[eJ,jV,ai2]at this;have:=ahH.1 this.2.1.2 p hp;simp only[ky,ai2,Bool.or_eq_true]at this;rcases this.2 with e|e
  ·rw[hn]at e;cases e
  ·exact e
theorem QB{h:bB}{l:List Step}(hv:mz h l=true):h.aw.length<=4000/\(∀ s∈l,s.cE.cQ.length<=500)/\l.length<=400/\(∀ c∈dV h.fin h.aw l,c.ar.gY)/\h.anchor.data.length<=2147483648/\h.ay.length<=2147483648/\h.hints.length<=2147483648:=by
 obtain⟨z1,z2⟩:=QA hv;have hz:=JU (fin:=h.fin) (P:=fun z=>dN z=true) z1 z2;simp only[mz,ec,qL,gb,kx,ai2,decide_eq_true_eq]at hv;obtain⟨⟨⟨⟨⟨⟨⟨⟨⟨q1,q2⟩,q3⟩,q4⟩,q5⟩,⟨⟨q6,q7⟩,q8⟩,⟨⟨⟨⟨q9,q10⟩,q11⟩,q12⟩,q13⟩,q14⟩,h3⟩,h4⟩,h5⟩,h6,h7⟩:=hv;have:=xj q9;refine⟨q5,fun s hs=>?_,h6,fun c hc=>Jw (hz c hc),by omega,by omega,by omega⟩;have:=zw h7 s hs;simp only[eJ,jV,ai2,decide_eq_true_eq]at this;exact this.2.1.1
theorem aab{l:List aT}{i:Nat}{x:aT}(h:l[i]?=some x):(l.map aT.enc).set i x.enc=l.map aT.enc:=by
 apply List.ext_getElem?;intro j;rw[List.getElem?_set];split
 ·rename_i e;subst e;have ai:=aW h;rw[if_pos (zD ai),List.getElem?_map,h];rfl
 ·rfl
def o3:bB:=⟨[],[],⟨[],0,0,[]⟩,[],0,0⟩
def applyN(h:bB)(l:List Step):Int:=if mz h l then(if qK (dV h.fin h.aw l)then 2 else 0)else 1
def gp(h:bB)(l:List Step):bB:=if applyN h l=0 then{ h with aw:=dV h.fin h.aw l }else o3
def jW(h:bB)(l:List Step):DV:=if applyN h l=0 then .aG [(gp h l).enc,.int .i64 0]else .aG [.agg [.aF,.aF,.str [],.int .i64 0,.int .i64 0,.aF,.aF,.int .i64 0,.int .i64 0],.int .i64 (applyN h l)]
theorem aac(h:bB)(l:List Step)(hf:h.Fits)(dB:h.aw.length<=1000000)(hs:Steps.Fits l):aq E 23 [h.enc,.sl (l.map Step.enc)] (· = jW h l):=by
 have qB:=Qq h l hf dB hs;cases hv:mz h l
 ·have e1:applyN h l=1:=by simp[applyN,hv]
  have e2:jW h l=.aG [.agg [.aF,.aF,.str [],.int .i64 0,.int .i64 0,.aF,.aF,.int .i64 0,.int .i64 0],.int .i64 1]:=by simp[jW,e1]
  rw[e2];rw[hv]at qB;obtain⟨ay,aw,anchor,hints,bq,fin⟩:=h;show aq E _ [HD ay aw anchor hints bq fin,_] _;refine eP F23.h ?_
  with_reducible refine ao (qB) ?_
  refine gC ?_;refine vT ?_
  with_reducible rfl
 ·rw[hv]at qB;obtain⟨ay,aw,anchor,hints,bq,fin⟩:=h;show aq E _ [HD ay aw anchor hints bq fin,_] _;refine eP F23.h ?_
  with_reducible refine ao (qB) ?_
  refine gC ?_;refine vF ?_;obtain⟨JW,jo,l9,E6,Cf,xF,Cg⟩:=QB hv;simp only at JW jo l9 E6 Cf xF Cg;have rZ:=JT (fin:=fin) (cs:=aw) jo;refine I.lP l.length ([6,8,10]++rg 22 38) (fun k=>[(22,.d (.int .i64 k)),(6,.d (.sl ((dV fin aw (l.take k)).map aT.enc)))]) (fun k=>[]) (fun k=>k<=l.length) (ai4 _) ?_ ?_
  ·refine sY ?_
   refine⟨rfl, ?_⟩;exact sZ
  intro k hk IH;refine zA ?_ ?_<;>intro h5
  ·have ai:k<l.length:=zD h5
   obtain⟨x,hx⟩:=aI ai;have rS:=rZ k hk;have jd:=jo x (aiQ hx);have aJ:=Qy (fin:=fin) (cs:=aw) hx;refine gC ?_;refine eM hx (gC ?_);refine dU ?_;refine Ny (Z5 x.cE (hs.each x (aiQ hx))) rfl (gD ?_);refine wS (Z6 ((dV fin aw (l.take k)).map aT.enc) (eY cU.en (x.cE.cQ.map aH.spot)) x.time) (gD ?_);refine wS (Z8 (dV fin aw (l.take k)) (x.cE.cQ.map aH.spot) x.time oM) (gD ?_);refine And.intro (by kernel_rfl) ?_;(conv=>whnf);refine gC ?_;refine I.lP x.cE.cQ.length ([33]++[6,10,38,39,40,41,42,43,44,45,46,47,48,49,50,51,52,53,54,55,56,57,58]) (fun j=>[(38,.d (.int .i64 j)),(6,.own 9 1)]) (fun j=>[(8,.gone),(9,.arr 1 (72,5) ((gZ (x.cE.cQ.map aH.spot) x.time (dV fin aw (l.take k))++lT fin x.time (x.cE.cQ.take j)).map aT.enc))]) (fun j=>j<=x.cE.cQ.length) (ai4 _) ?_ ?_
   ·refine sY ?_
    exact And.intro (by simp[lT]) sZ
   intro j hj JH;refine zA ?_ ?_<;>intro h6
   ·have B':j<x.cE.cQ.length:=zD h6
    obtain⟨p,hp⟩:=aI B';have hpz:=(hs.each x (aiQ hx)).dS p (aiQ hp);have eK:=Z9 (fin:=fin) (at_:=x.time) hp;refine gC ?_;refine eM hp (gC ?_)
    with_reducible refine ao (JS p.ar hpz) ?_
    refine gC ?_;cases Ce:jz p.ar
    ·have JX:lT fin x.time (x.cE.cQ.take (j+1))=lT fin x.time (x.cE.cQ.take j)++[⟨p.host,x.time,fin,p.ar⟩]:=by rw[eK,Ce];rfl
     have qd:=E5 (ended:=x.cE.cQ.map aH.spot) (at_:=x.time) (dV fin aw (l.take k));have po:=Qz (fin:=fin) (at_:=x.time) (l:=x.cE.cQ.take j);have hl3:(x.cE.cQ.take j).length<=x.cE.cQ.length:=by simp;omega
     refine aN rfl (gC ?_);refine nA (gC ?_);refine I.back (JH (j+1) oM oM) ?_;rw[JX];refine sY ?_
     refine⟨by simp, ?_⟩;exact sZ
    ·have JX:lT fin x.time (x.cE.cQ.take (j+1))=lT fin x.time (x.cE.cQ.take j):=by rw[eK,Ce];simp
     refine aP rfl (gC ?_);refine I.back (JH (j+1) oM oM) ?_;rw[JX];exact sZ
   ·have aA:x.cE.cQ.length<=j:=zD h6
    rw[ajq aA];refine gC ?_;refine I.freeze 9 ?_;(conv=>whnf);refine I.back (IH (k+1) oM oM) ?_;rw[aJ,xE];exact sZ
  ·have aA:l.length<=k:=zD h5
   rw[ajq aA];refine gC ?_;have E7:(dV fin aw l).length<=1000000:=by have:=rZ l.length (ahL _);rw[akR]at this;omega
   with_reducible refine lB (ZU (dV fin aw l) E7) ?_
   rintro r h1 ⟨es,e1,e2⟩;subst e1;subst e2;cases hm:qK (dV fin aw l)
   ·have e1:applyN ⟨ay,aw,anchor,hints,bq,fin⟩ l=0:=by simp[applyN,hv,hm]
    have e3:gp ⟨ay,aw,anchor,hints,bq,fin⟩ l=⟨ay,dV fin aw l,anchor,hints,bq,fin⟩:=by simp[gp,e1]
    have e2:jW ⟨ay,aw,anchor,hints,bq,fin⟩ l=.aG [(⟨ay,dV fin aw l,anchor,hints,bq,fin⟩:bB).enc,.int .i64 0]:=by simp[jW,e1,e3]
    rw[e2];refine gC ?_;refine vF ?_;clear IH rZ hm e1 e2 e3;generalize dV fin aw l=C at *;cases C with
    |nil =>
     refine ao (Y4 [] sP sP) (gC ?_);refine I.te ?_;refine I.run ag F23.h 2000 ?_;(conv=>whnf);refine aP sP (gC ?_)
     with_reducible refine ao (PV (ay.map Host.enc) (zD xF) (fun e h=>by obtain⟨c,_,rfl⟩:=ahY.1 h;simp[DV.cells])) ?_
     refine gC ?_
     with_reducible refine ao (EO (anchor.data.map Datum.enc) (zD Cf) (fun e h=>by obtain⟨c,_,rfl⟩:=ahY.1 h;simp[DV.cells])) ?_
     refine gC ?_
     with_reducible refine ao (PW (hints.map (.int .i64)) (zD Cg) (fun e h=>by obtain⟨c,_,rfl⟩:=ahY.1 h;simp[DV.cells])) ?_
     refine gC ?_;rfl
    |cons c0 C =>
     have aL:c0::C≠[]:=by simp
     generalize c0::C=L at *;refine lC (Y5 (L.map aT.enc) (zD aL) (by simp;omega) (fun e h=>by obtain⟨c,_,rfl⟩:=ahY.1 h;rfl)) rfl ?_;refine gC ?_;refine I.lP L.length ([12]++rg 70 16) (fun k=>[(70,.d (.int .i64 k))]) (fun k=>[(3,.arr 1 (72,5) (L.map aT.enc))]) (fun k=>k<=L.length) (ai4 _) ?_ ?_
     ·exact sZ
     intro k hk IH;refine zA ?_ ?_<;>intro h5
     ·have ai:k<L.length:=zD h5
      obtain⟨x,hx⟩:=aI ai;have hb:0<=(k:Int)/\(k:Int)<((L.map aT.enc).length:Int):=⟨by omega,by simp;omega⟩;have eH:(L.map aT.enc).set (k:Int).toNat (DV.agg [.int .i64 x.host,.int .i64 x.bQ,.int .i64 x.upto,.str x.ar.af,.sl (x.ar.J.map Signed.enc)])=L.map aT.enc:=aab hx;refine gC ?_;refine dU ?_;refine bj hb (gD ?_);refine eM hx (gD ?_);refine ax (Y8 x.ar (E6 x (aiQ hx))) (gD ?_);refine bj hb (gD ?_);refine eM hx (gD ?_);refine And.intro (by kernel_rfl) ?_;(conv=>whnf);rw[eH];refine gC ?_;exact I.back (IH (k+1) oM oM) sZ
     ·refine gC ?_
      with_reducible refine ao (PV (ay.map Host.enc) (zD xF) (fun e h=>by obtain⟨c,_,rfl⟩:=ahY.1 h;simp[DV.cells])) ?_
      refine gC ?_
      with_reducible refine ao (EO (anchor.data.map Datum.enc) (zD Cf) (fun e h=>by obtain⟨c,_,rfl⟩:=ahY.1 h;simp[DV.cells])) ?_
      refine gC ?_
      with_reducible refine ao (PW (hints.map (.int .i64)) (zD Cg) (fun e h=>by obtain⟨c,_,rfl⟩:=ahY.1 h;simp[DV.cells])) ?_
      refine gC ?_
      with_reducible rfl
   ·have e1:applyN ⟨ay,aw,anchor,hints,bq,fin⟩ l=2:=by simp[applyN,hv,hm]
    have e2:jW ⟨ay,aw,anchor,hints,bq,fin⟩ l=.aG [.agg [.aF,.aF,.str [],.int .i64 0,.int .i64 0,.aF,.aF,.int .i64 0,.int .i64 0],.int .i64 2]:=by simp[jW,e1]
    rw[e2];refine gC ?_;refine vT ?_
    with_reducible rfl
theorem JY(h:bB)(l:List Step)(hf:h.Fits)(dB:h.aw.length<=1000000)(hs:Steps.Fits l):aq E 23 [h.enc,.sl (l.map Step.enc)] (· = .aG [(gp h l).enc,.int .i64 (applyN h l)]):=by
 have H:=aac h l hf dB hs;by_cases h0:applyN h l=0
 ·refine H.mono fun r e=>?_;rw[e,jW,if_pos h0,h0]
 ·refine aq.norm (H.mono fun r e=>?_);rw[e,jW,if_neg h0,gp,if_neg h0];rfl
def o4(p:cU)(at_:Int)(c:aT):aT:=if c.spot=p then{ c with upto:=min c.upto at_ }else c
def jX(p:cU)(at_:Int)(c:aT):List aT:=if (o4 p at_ c).bQ<(o4 p at_ c).upto then[o4 p at_ c]else[]
def jY(p:cU)(at_:Int)(l:List aT):List aT:=l.flatMap (jX p at_)
def r9(fin at_:Int)(cs:List aT)(p:aH):List aT:=jY p.spot at_ cs++(if p.ar.J.isEmpty then[]else[⟨p.host,at_,fin,p.ar⟩])
def mA(fin at_:Int)(cs:List aT)(l:List aH):List aT:=l.foldl (r9 fin at_) cs
theorem QC{fin at_:Int}{cs:List aT}{l:List aH}{k:Nat}{x:aH}(h:l[k]?=some x):mA fin at_ cs (l.take (k+1))=r9 fin at_ (mA fin at_ cs (l.take k)) x:=by
 rw[cj h,mA,alH];rfl
theorem aae{p:cU}{at_:Int}{l:List aT}{k:Nat}{c:aT}(h:l[k]?=some c):jY p at_ (l.take (k+1))=jY p at_ (l.take k)++jX p at_ c:=by
 rw[cj h,jY,akg];simp[jY]
theorem E8{p:cU}{at_:Int}:∀ (l:List aT),(jY p at_ l).length<=l.length
 |[]=>by simp[jY]
 |c::l=>by
  have:=E8 (p:=p) (at_:=at_) l;unfold jY at this ⊢;rw[ahJ,ah5,ahN];have h1:(jX p at_ c).length<=1:=by unfold jX;split<;>simp
  omega
theorem JZ{fin at_:Int}{cs:List aT}{l:List aH}:∀ k,k<=l.length->(mA fin at_ cs (l.take k)).length<=cs.length+k
 |0,_=>by simp[mA]
 |k+1,h=>by
  obtain⟨x,hx⟩:=aI (l:=l) (k:=k) oM;have ih:=JZ (fin:=fin) (at_:=at_) (cs:=cs) (l:=l) k oM;have h2:=E8 (p:=x.spot) (at_:=at_) (mA fin at_ cs (l.take k));rw[QC hx,r9,ah5];have h3:(if x.ar.J.isEmpty then([]:List aT)else[⟨x.host,at_,fin,x.ar⟩]).length<=1:=by split<;>simp
  omega
theorem aaf(h:bB)(s:Step)(hl:h.aw.length+s.cE.cQ.length<=1000000):aq E 60 [h.enc,s.enc] (· = ({ h with aw:=mA h.fin s.time h.aw s.cE.cQ }:bB).enc):=by
 obtain⟨ay,aw,anchor,hints,bq,fin⟩:=h;obtain⟨time,⟨l⟩⟩:=s;simp only at hl;have yB:=JZ (fin:=fin) (at_:=time) (cs:=aw) (l:=l);show aq E _ [HD ay aw anchor hints bq fin,DV.agg [.int .i64 time,.sl (l.map aH.enc)]] (· = bB.enc ⟨ay,mA fin time aw l,anchor,hints,bq,fin⟩);refine eP F60.h ?_;refine I.lP l.length (rg 5 70) (fun k=>[(5,.d (.int .i64 k))]) (fun k=>[(0,.cells [.d (.sl (ay.map Host.enc)),.d (.sl ((mA fin time aw (l.take k)).map aT.enc)),.d (.str anchor.name),.d (.int .i64 anchor.type),.d (.int .i64 anchor.dD),.d (.sl (anchor.data.map Datum.enc)),.d (.sl (hints.map (.int .i64))),.d (.int .i64 bq),.d (.int .i64 fin)])]) (fun k=>k<=l.length) (ai4 _) ?_ ?_
 ·refine sY ?_
  refine⟨rfl, ?_⟩;exact sZ
 intro k hk IH;refine zA ?_ ?_<;>intro h5
 ·have ai:k<l.length:=zD h5
  obtain⟨x,hx⟩:=aI ai;have aV:=yB k hk;have aJ:=QC (fin:=fin) (at_:=time) (cs:=aw) hx;generalize mA fin time aw (l.take k)=C at *;refine gC ?_;refine eM hx (gC ?_);refine I.nH 7 (72,5) dC rfl ?_;(conv=>whnf);refine I.lP C.length ([7,8,9]++rg 24 34) (fun j=>[(8,.d (.int .i64 j)),(7,.own 4 1)]) (fun j=>[(4,.arr 1 (72,5) ((jY x.spot time (C.take j)).map aT.enc))]) (fun j=>j<=C.length) (ai4 _) ?_ ?_
  ·refine sY ?_
   refine⟨rfl, ?_⟩;exact sZ
  intro j hj JH;refine zA ?_ ?_<;>intro h6
  ·have B':j<C.length:=zD h6
   obtain⟨c,hc⟩:=aI B';have dG:=aae (p:=x.spot) (at_:=time) hc;have qd:=E8 (p:=x.spot) (at_:=time) (C.take j);have po:(C.take j).length<=C.length:=by simp;omega
   refine gC ?_;refine eM hc (gC ?_);refine ao (Qs x ⟨c.host,c.ar⟩) (gC ?_);by_cases hm:x.spot=c.spot
   ·have hcut:o4 x.spot time c={ c with upto:=min c.upto time }:=by rw[o4,if_pos hm.symm]
    refine aN (decide_eq_true hm) (gC ?_);refine I.Od rfl rfl (bg rfl) (bg rfl) ?_;(conv=>whnf);refine gC ?_;apply ah<;>intro h7
    ·have e1:jX x.spot time c=[{ c with upto:=min c.upto time }]:=by rw[jX,hcut,if_pos (of_decide_eq_true h7)]
     refine gC ?_;refine nA (gC ?_);refine I.back (JH (j+1) oM oM) ?_;rw[dG,e1];refine sY ?_
     refine⟨by simp, ?_⟩;exact sZ
    ·have e1:jX x.spot time c=[]:=by rw[jX,hcut,if_neg (of_decide_eq_false h7)]
     refine gC ?_;refine I.back (JH (j+1) oM oM) ?_;rw[dG,e1,aj0];exact sZ
   ·have hcut:o4 x.spot time c=c:=by rw[o4,if_neg (fun e=>hm e.symm)]
    refine aP (decide_eq_false hm) (gC ?_);apply ah<;>intro h7
    ·have e1:jX x.spot time c=[c]:=by rw[jX,hcut,if_pos (of_decide_eq_true h7)]
     refine gC ?_;refine nA (gC ?_);refine I.back (JH (j+1) oM oM) ?_;rw[dG,e1];refine sY ?_
     refine⟨by simp, ?_⟩;exact sZ
    ·have e1:jX x.spot time c=[]:=by rw[jX,hcut,if_neg (of_decide_eq_false h7)]
     refine gC ?_;refine I.back (JH (j+1) oM oM) ?_;rw[dG,e1,aj0];exact sZ
  ·have aA:C.length<=j:=zD h6
   rw[ajq aA];refine gC ?_
   with_reducible refine ao (Qr x) ?_
   refine gC ?_;have qd:=E8 (p:=x.spot) (at_:=time) C;cases bc:x.ar.J.isEmpty
   ·have e2:r9 fin time C x=jY x.spot time C++[⟨x.host,time,fin,x.ar⟩]:=by rw[r9,bc];rfl
    refine aN rfl (gC ?_);refine nA (gC ?_);refine I.freeze 4 ?_;(conv=>whnf);refine I.back (IH (k+1) oM oM) ?_;rw[aJ,e2];refine sY ?_
    refine⟨by simp, ?_⟩;exact sZ
   ·have e2:r9 fin time C x=jY x.spot time C:=by rw[r9,bc];simp
    refine aP rfl (gC ?_);refine I.freeze 4 ?_;(conv=>whnf);refine I.back (IH (k+1) oM oM) ?_;rw[aJ,e2];exact sZ
 ·have aA:l.length<=k:=zD h5
  rw[ajq aA];refine gC ?_
  with_reducible rfl
def lb(l:List aT):List aH:=l.map fun c=>⟨c.host,c.ar⟩
theorem aag(h:bB)(hl:h.aw.length<=1000000):aq E 62 [h.enc] (· = .sl ((lb h.aw).map aH.enc)):=by
 obtain⟨ay,aw,anchor,hints,bq,fin⟩:=h;simp only at hl;show aq E _ [HD ay aw anchor hints bq fin] _;refine eP F62.h ?_;refine I.nH 3 (85,3) dC rfl ?_;(conv=>whnf);refine I.lP aw.length (rg 3 25) (fun k=>[(4,.d (.int .i64 k)),(3,.own 1 1)]) (fun k=>[(1,.arr 1 (85,3) ((lb (aw.take k)).map aH.enc))]) (fun k=>k<=aw.length) (ai4 _) ?_ ?_
 ·refine sY ?_
  refine⟨rfl, ?_⟩;exact sZ
 intro k hk IH;refine zA ?_ ?_<;>intro h5
 ·have ai:k<aw.length:=zD h5
  obtain⟨c,hc⟩:=aI ai;have eb:lb (aw.take (k+1))=lb (aw.take k)++[⟨c.host,c.ar⟩]:=by rw[cj hc,lb,aih];rfl
  have fF:(lb (aw.take k)).length<=aw.length:=by simp[lb];omega
  refine gC ?_;refine dU ?_;refine eM hc (gD ?_);refine eM hc (gD ?_);refine nA (gD ?_);refine And.intro (by kernel_rfl) ?_;(conv=>whnf);refine gC ?_;refine I.back (IH (k+1) oM oM) ?_;rw[eb];refine sY ?_
  refine⟨by simp, ?_⟩;exact sZ
 ·have aA:aw.length<=k:=zD h5
  rw[ajq aA];refine gC ?_
  with_reducible rfl
def o5(fin:Int)(cs:List aT)(l:List Step):List aT:=l.foldl (fun cs s=>mA fin s.time cs s.cE.cQ) cs
def sc(cs:List aT):Prop:=∀ c∈cs,c.bQ<c.upto
theorem aah{p:cU}{ss:List cU}{at_:Int}{c:aT}(h:c.bQ<c.upto):gZ ss at_ (jX p at_ c)=jA (p::ss) at_ c:=by
 by_cases hp:c.spot=p
 ·have e:o4 p at_ c={ c with upto:=min c.upto at_ }:=by rw[o4,if_pos hp]
  by_cases hf:c.bQ>=at_
  ·have e2:¬ c.bQ<min c.upto at_:=by omega
   rw[jX,e,if_neg e2,jA,if_pos (by rw[hp];exact aio ..),if_pos hf];rfl
  ·have e2:c.bQ<min c.upto at_:=by omega
   rw[jX,e,if_pos e2];have e3:jA (p::ss) at_ c=[{ c with upto:=min c.upto at_ }]:=by rw[jA,if_pos (by rw[hp];exact aio ..),if_neg hf]
   rw[e3];simp only[gZ,ahJ,amV,aj0];unfold jA;split
   ·simp only;have:min (min c.upto at_) at_=min c.upto at_:=by omega
    rw[this]
   ·rfl
 ·have e:o4 p at_ c=c:=by rw[o4,if_neg hp]
  rw[jX,e,if_pos h];simp only[gZ,ahJ,amV,aj0];unfold jA;simp[hp]
theorem QD{p:cU}{ss:List cU}{at_:Int}:∀ {cs:List aT},sc cs->gZ ss at_ (jY p at_ cs)=gZ (p::ss) at_ cs
 |[],_=>rfl
 |c::cs,h=>by
  have ih:=QD (p:=p) (ss:=ss) (at_:=at_) (cs:=cs) (fun x hx=>h x (aip _ hx));have h1:=aah (p:=p) (ss:=ss) (at_:=at_) (h c (aio ..));show gZ ss at_ (jX p at_ c++jY p at_ cs)=jA (p::ss) at_ c++gZ (p::ss) at_ cs;rw[<- ih,<- h1];simp[gZ]
theorem aai{p:cU}{at_:Int}{cs:List aT}:sc (jY p at_ cs):=fun c hc=>by
 obtain⟨d,_,e⟩:=aiM.1 hc;unfold jX at e;split at e
 ·rename_i q;simp at e;subst e;exact q
 ·simp at e
theorem QE{p:cU}{at_:Int}:∀ {N:List aT},sc N->(∀ c∈N,c.spot≠p)->jY p at_ N=N
 |[],_,_=>rfl
 |c::N,h,hp=>by
  have ih:=QE (p:=p) (at_:=at_) (N:=N) (fun x hx=>h x (aip _ hx)) (fun x hx=>hp x (aip _ hx));have e:o4 p at_ c=c:=by rw[o4,if_neg (hp c (aio ..))]
  show jX p at_ c++jY p at_ N=c::N;rw[ih,jX,e,if_pos (h c (aio ..))];rfl
theorem QF{at_:Int}:∀ {cs:List aT},gZ [] at_ cs=cs
 |[]=>rfl
 |c::cs=>by
  have ih:=QF (at_:=at_) (cs:=cs);show jA [] at_ c++gZ [] at_ cs=c::cs;rw[ih,jA];simp
theorem QG{fin at_:Int}(cZ:at_<fin):∀ {l:List aH} {cs N:List aT},sc cs->sc N->(∀ c∈N,∀ p∈l,c.spot≠p.spot)->(l.map aH.spot).Nodup->(∀ p∈l,jz p.ar=p.ar.J.isEmpty) ->
  mA fin at_ (cs++N) l=gZ (l.map aH.spot) at_ cs++(N++lT fin at_ l)
 |[],cs,N,h1,h2,h3,h4,h5=>by
  show cs++N=gZ [] at_ cs++(N++[]);rw[QF,aj0]
 |p::l,cs,N,h1,h2,h3,h4,h5=>by
  rw[ahx,List.nodup_cons]at h4;have hN:=QE (p:=p.spot) (at_:=at_) h2 (fun c hc=>h3 c hc p (aio ..));obtain⟨W,hW⟩:∃ W:List aT,W=if p.ar.J.isEmpty then[]else[⟨p.host,at_,fin,p.ar⟩]:=⟨_,rfl⟩;have QH:∀ c∈W,c.spot=p.spot/\c.bQ<c.upto:=fun c hc=>by
   rw[hW]at hc;split at hc
   ·simp at hc
   ·simp at hc;subst hc;exact⟨rfl,cZ⟩
  have e1:r9 fin at_ (cs++N) p=jY p.spot at_ cs++(N++W):=by
   rw[r9,<- hW,jY,akg];show jY p.spot at_ cs++jY p.spot at_ N++W=_;rw[hN,aiK]
  have e2:lT fin at_ (p::l)=W++lT fin at_ l:=by
   rw[hW,<- h5 p (aio ..)];cases hs:jz p.ar<;>simp[lT,hs]
  show mA fin at_ (r9 fin at_ (cs++N) p) l=_
  rw[e1,QG cZ (aai) (fun c hc=>by
   rcases aif.1 hc with hc|hc
   ·exact h2 c hc
   ·exact(QH c hc).2) (fun c hc q hq=>by
   rcases aif.1 hc with hc|hc
   ·exact h3 c hc q (aip _ hq)
   ·rw[(QH c hc).1]
    exact fun e=>h4.1 (e ▸ List.mem_map_of_mem hq)) h4.2 (fun q hq=>h5 q (aip _ hq)),QD h1,e2,ahx,aiK]
theorem aaj{ended:List cU}{at_:Int}{cs:List aT}(h:sc cs):sc (gZ ended at_ cs):=fun c hc=>by
 obtain⟨d,hd,e⟩:=aiM.1 hc;have:=h d hd;unfold jA at e;split at e
 ·split at e
  ·simp at e
  ·simp at e;subst e;simp only;omega
 ·simp at e;subst e;exact this
theorem run_eq{fin:Int}:∀ {l:List Step} {cs:List aT},sc cs->(∀ s∈l,s.time<fin/\(s.cE.cQ.map aH.spot).Nodup/\∀ p∈s.cE.cQ,jz p.ar=p.ar.J.isEmpty)->o5 fin cs l=dV fin cs l/\sc (dV fin cs l)
 |[],cs,h,_=>⟨rfl,h⟩
 |s::l,cs,h,hs=>by
  obtain⟨q1,q2,q3⟩:=hs s (aio ..);have e:=QG (fin:=fin) q1 (l:=s.cE.cQ) (cs:=cs) (N:=[]) h (fun c hc=>by simp at hc) (fun c hc=>by simp at hc) q2 q3;rw[aj0,List.nil_append]at e;have aak:sc (xE fin cs s):=fun c hc=>by
   rcases aif.1 hc with hc|hc
   ·exact aaj h c hc
   ·obtain⟨p,_,e⟩:=ahY.1 hc;subst e;exact q1
  have ih:=run_eq (fin:=fin) (l:=l) aak (fun t ht=>hs t (aip _ ht));refine⟨?_,ih.2⟩;show o5 fin (mA fin s.time cs s.cE.cQ) l=dV fin (xE fin cs s) l;rw[e];exact ih.1
theorem aal{h:bB}{l:List Step}(hv:mz h l=true):o5 h.fin h.aw l=dV h.fin h.aw l:=by
 obtain⟨z1,z2⟩:=QA hv;simp only[mz,ec,qL,ai2,decide_eq_true_eq]at hv;obtain⟨⟨⟨⟨⟨h1,h2⟩,h3⟩,h4⟩,h5⟩,h6,h7⟩:=hv;refine(run_eq (fun c hc=>?_) (fun s hs=>?_)).1
 ·have:=ahH.1 h3 c hc;simp only[jy,ai2,decide_eq_true_eq]at this;exact this.1.1.2
 ·have:=zw h7 s hs;simp only[eJ,jV,ai2,decide_eq_true_eq]at this;refine⟨this.1.2,this.2.2,fun p hp=>?_⟩;cases hn:jz p.ar
  ·have:=P7 (z2 s hs p hp hn);cases hz:p.ar.J with
   |nil=>exact absurd hz this
   |cons _ _=>rfl
  ·simp only[jz,ai2]at hn;exact hn.1.1.symm
theorem QI{fin:Int}{cs:List aT}{l:List Step}{k:Nat}{x:Step}(h:l[k]?=some x):o5 fin cs (l.take (k+1))=mA fin x.time (o5 fin cs (l.take k)) x.cE.cQ:=by
 rw[cj h,o5,alH];rfl
theorem QJ{fin:Int}{cs:List aT}{l:List Step}(hl:∀ s∈l,s.cE.cQ.length<=500):∀ k,k<=l.length->(o5 fin cs (l.take k)).length<=cs.length+500*k
 |0,_=>by simp[o5]
 |k+1,h=>by
  obtain⟨x,hx⟩:=aI (l:=l) (k:=k) oM;have ih:=QJ (fin:=fin) (cs:=cs) hl k oM;have h1:=hl x (aiQ hx);have h2:=JZ (fin:=fin) (at_:=x.time) (cs:=o5 fin cs (l.take k)) (l:=x.cE.cQ) x.cE.cQ.length (ahL _);rw[akR]at h2;rw[QI hx];omega
theorem aam(l:List aT):(lb l).map (·.ar.af)=l.map (·.ar.af):=by simp[lb]
theorem aan(h:bB)(l:List Step)(hf:h.Fits)(dB:h.aw.length<=1000000)(fq:h.hints.length<=1000000)(hs:Steps.Fits l):aq E 25 [h.enc,.sl (l.map Step.enc)] (· = jW h l):=by
 have qB:=Qw h l hf dB fq hs;cases hv:mz h l
 ·have e1:applyN h l=1:=by simp[applyN,hv]
  have e2:jW h l=.aG [.agg [.aF,.aF,.str [],.int .i64 0,.int .i64 0,.aF,.aF,.int .i64 0,.int .i64 0],.int .i64 1]:=by simp[jW,e1]
  rw[e2];rw[hv]at qB;obtain⟨ay,aw,anchor,hints,bq,fin⟩:=h;show aq E _ [HD ay aw anchor hints bq fin,_] _;refine eP F25.h ?_
  with_reducible refine ao (qB) ?_
  refine gC ?_;refine vT ?_
  with_reducible rfl
 ·rw[hv]at qB;have cL:=aal hv;obtain⟨ay,aw,anchor,hints,bq,fin⟩:=h;obtain⟨JW,jo,l9,E6,Cf,xF,Cg⟩:=QB hv;simp only at JW jo l9 E6 Cf xF Cg cL;have rZ:=QJ (fin:=fin) (cs:=aw) jo;show aq E _ [HD ay aw anchor hints bq fin,_] _;refine eP F25.h ?_
  with_reducible refine ao (qB) ?_
  refine gC ?_;refine vF ?_;refine I.lP l.length ([6]++rg 12 12) (fun k=>[(6,.d (.int .i64 k))]) (fun k=>[(0,.cells [.d (.sl (ay.map Host.enc)),.d (.sl ((o5 fin aw (l.take k)).map aT.enc)),.d (.str anchor.name),.d (.int .i64 anchor.type),.d (.int .i64 anchor.dD),.d (.sl (anchor.data.map Datum.enc)),.d (.sl (hints.map (.int .i64))),.d (.int .i64 bq),.d (.int .i64 fin)])]) (fun k=>k<=l.length) (ai4 _) ?_ ?_
  ·refine sY ?_
   refine⟨rfl, ?_⟩;exact sZ
  intro k hk IH;refine zA ?_ ?_<;>intro h5
  ·have ai:k<l.length:=zD h5
   obtain⟨x,hx⟩:=aI ai;have aJ:=QI (fin:=fin) (cs:=aw) hx;have rS:=rZ k hk;have hxp:=jo x (aiQ hx);have bW:aq E 60 [DV.agg [.sl (ay.map Host.enc),.sl ((o5 fin aw (l.take k)).map aT.enc),.str anchor.name,.int .i64 anchor.type,.int .i64 anchor.dD,.sl (anchor.data.map Datum.enc),.sl (hints.map (.int .i64)),.int .i64 bq,.int .i64 fin],x.enc] (· = DV.agg [.sl (ay.map Host.enc),.sl ((mA fin x.time (o5 fin aw (l.take k)) x.cE.cQ).map aT.enc),.str anchor.name,.int .i64 anchor.type,.int .i64 anchor.dD,.sl (anchor.data.map Datum.enc),.sl (hints.map (.int .i64)),.int .i64 bq,.int .i64 fin]):=aaf ⟨ay,o5 fin aw (l.take k),anchor,hints,bq,fin⟩ x (by simp only;omega);refine gC ?_;refine dU ?_;refine eM hx (gD ?_);refine ax bW (gD ?_);refine And.intro (by kernel_rfl) ?_;(conv=>whnf);refine gC ?_;refine I.back (IH (k+1) oM oM) ?_;rw[aJ];exact sZ
  ·have aA:l.length<=k:=zD h5
   rw[ajq aA];have E7:(dV fin aw l).length<=1000000:=by have:=rZ l.length (ahL _);rw[akR,cL]at this;omega
   rw[cL];have fF:aq E 62 [DV.agg [.sl (ay.map Host.enc),.sl ((dV fin aw l).map aT.enc),.str anchor.name,.int .i64 anchor.type,.int .i64 anchor.dD,.sl (anchor.data.map Datum.enc),.sl (hints.map (.int .i64)),.int .i64 bq,.int .i64 fin]] (· = .sl ((lb (dV fin aw l)).map aH.enc)):=aag ⟨ay,dV fin aw l,anchor,hints,bq,fin⟩ E7;have tS:=Zs (lb (dV fin aw l)) (by simpa [lb]using E7);rw[aam]at tS;refine gC ?_;apply ah<;>intro h6
   ·have h7:4000<(dV fin aw l).length:=by simp at h6;omega
    have hm:qK (dV fin aw l)=true:=by simp[qK,h7]
    have e1:applyN ⟨ay,aw,anchor,hints,bq,fin⟩ l=2:=by simp[applyN,hv,hm]
    have e2:jW ⟨ay,aw,anchor,hints,bq,fin⟩ l=.aG [.agg [.aF,.aF,.str [],.int .i64 0,.int .i64 0,.aF,.aF,.int .i64 0,.int .i64 0],.int .i64 2]:=by simp[jW,e1]
    rw[e2];refine gC ?_;refine vT ?_
    with_reducible rfl
   ·have h7:¬ 4000<(dV fin aw l).length:=by simp at h6;omega
    refine gC ?_
    with_reducible refine ao (fF) ?_
    refine gC ?_
    with_reducible refine ao (tS) ?_
    refine gC ?_;apply ah<;>intro h8
    ·have h9:500<o0 (dV fin aw l):=by rw[aiO]at h8;have:=of_decide_eq_true h8;unfold o0;omega
     have hm:qK (dV fin aw l)=true:=by simp[qK,h9]
     have e1:applyN ⟨ay,aw,anchor,hints,bq,fin⟩ l=2:=by simp[applyN,hv,hm]
     have e2:jW ⟨ay,aw,anchor,hints,bq,fin⟩ l=.aG [.agg [.aF,.aF,.str [],.int .i64 0,.int .i64 0,.aF,.aF,.int .i64 0,.int .i64 0],.int .i64 2]:=by simp[jW,e1]
     rw[e2];refine gC ?_
     with_reducible rfl
    ·have h9:¬ 500<o0 (dV fin aw l):=by rw[aiO]at h8;have:=of_decide_eq_false h8;unfold o0;omega
     have hm:qK (dV fin aw l)=false:=by simp[qK,h7,h9]
     have e1:applyN ⟨ay,aw,anchor,hints,bq,fin⟩ l=0:=by simp[applyN,hv,hm]
     have e3:gp ⟨ay,aw,anchor,hints,bq,fin⟩ l=⟨ay,dV fin aw l,anchor,hints,bq,fin⟩:=by simp[gp,e1]
     have e2:jW ⟨ay,aw,anchor,hints,bq,fin⟩ l=.aG [DV.agg [.sl (ay.map Host.enc),.sl ((dV fin aw l).map aT.enc),.str anchor.name,.int .i64 anchor.type,.int .i64 anchor.dD,.sl (anchor.data.map Datum.enc),.sl (hints.map (.int .i64)),.int .i64 bq,.int .i64 fin],.int .i64 0]:=by simp[jW,e1,e3]
     rw[e2];refine gC ?_
     with_reducible rfl
theorem QK(h:bB)(l:List Step)(hf:h.Fits)(dB:h.aw.length<=1000000)(fq:h.hints.length<=1000000)(hs:Steps.Fits l):aq E 25 [h.enc,.sl (l.map Step.enc)] (· = .aG [(gp h l).enc,.int .i64 (applyN h l)]):=by
 have H:=aan h l hf dB fq hs;by_cases h0:applyN h l=0
 ·refine H.mono fun r e=>?_;rw[e,jW,if_pos h0,h0]
 ·refine aq.norm (H.mono fun r e=>?_);rw[e,jW,if_neg h0,gp,if_neg h0];rfl

theorem aao(a b:List Host)(x y:dw)(c d:List Int)(hl:a.length<=1000000)(hc:c.length<=1000000)(hx:x.data.length<=2147483648):aq E 35 [.agg [.sl (a.map Host.enc),.aF,.str x.name,.int .i64 x.type,.int .i64 x.dD,.sl (x.data.map Datum.enc),.sl (c.map (.int .i64))],.agg [.sl (b.map Host.enc),.aF,.str y.name,.int .i64 y.type,.int .i64 y.dD,.sl (y.data.map Datum.enc),.sl (d.map (.int .i64))]] (· = .bool (decide (a=b)&&decide (c=d)&&decide (x=y))):=by
 refine eP F35.h ?_;apply ah<;>intro h4
 ·have aL:a≠b:=by rintro rfl;simp at h4
  rw[decide_eq_false aL];refine gC ?_;refine vT ?_;refine vT ?_;simp
 ·have oF:a.length=b.length:=by simp only[bne_eq_false_iff_eq,aiO]at h4;omega
  refine gC ?_;apply ah<;>intro h5
  ·have aL:c≠d:=by rintro rfl;simp at h5
   rw[decide_eq_false aL];refine gC ?_;refine vT ?_;simp
  ·have J0:c.length=d.length:=by simp only[bne_eq_false_iff_eq,aiO]at h5;omega
   refine gC ?_
   with_reducible refine ao (OH x y hx) ?_
   refine gC ?_;by_cases oR:x=y
   ·refine aP (by simp[oR]) ?_;rw[decide_eq_true oR];refine gC ?_;refine I.lP a.length ([4,5]++rg 31 18) (fun k=>[(5,.d (.int .i64 k))]) (fun _=>[]) (fun k=>k<=a.length/\a.take k=b.take k) ⟨ai4 _,rfl⟩ ?_ ?_
    ·exact sZ
    ·intro k hk IH;refine zA ?_ ?_<;>intro h6
     ·have ai:k<a.length:=zD h6
      obtain⟨u,hu⟩:=aI ai;obtain⟨w,hw⟩:=aI (l:=b) (k:=k) oM;refine gC ?_;refine dU ?_;refine eM hu (gD ?_);refine eM hw (gD ?_);refine gC ?_;apply ah<;>intro h7
      ·have aL:u≠w:=by rintro rfl;simp at h7
       refine gC ?_;rw[decide_eq_false (pP hu hw aL)];simp
      ·have he:u=w:=by
        obtain⟨u1,u2,u3⟩:=u;obtain⟨w1,w2,w3⟩:=w;simp at h7;simp[h7]
       refine gC ?_;exact I.back (IH (k+1) ⟨by omega,tD hk.2 hu hw he⟩ oM) sZ
     ·have aA:k=a.length:=by simp at h6;omega
      have aap:a=b:=tE hk.2 oM oM;rw[decide_eq_true aap];refine gC ?_;refine I.lP c.length ([4,6]++rg 49 18) (fun k=>[(6,.d (.int .i64 k))]) (fun _=>[]) (fun k=>k<=c.length/\c.take k=d.take k) ⟨ai4 _,rfl⟩ ?_ ?_
      ·exact sZ
      ·intro k hk IH;refine zA ?_ ?_<;>intro h6
       ·have ai:k<c.length:=zD h6
        obtain⟨u,hu⟩:=aI ai;obtain⟨w,hw⟩:=aI (l:=d) (k:=k) oM;refine gC ?_;refine dU ?_;refine aR (e := .int .i64 u) (bC hu) rfl (gD ?_);refine aR (e := .int .i64 w) (bC hw) rfl (gD ?_);refine gC ?_;apply ah<;>intro h7
        ·have aL:u≠w:=by rintro rfl;simp at h7
         refine gC ?_;rw[decide_eq_false (pP hu hw aL)];simp
        ·have he:u=w:=zD h7
         refine gC ?_;exact I.back (IH (k+1) ⟨by omega,tD hk.2 hu hw he⟩ oM) sZ
       ·have aA:k=c.length:=by simp at h6;omega
        have aaq:c=d:=tE hk.2 oM oM;refine gC ?_;simp[aaq]
   ·refine aN (by simp[oR]) ?_;rw[decide_eq_false oR];refine gC ?_;simp
structure bB.ga(h:bB):Prop where
 ay:h.ay.length<=1000000
 aw:h.aw.length<=1000000
 hints:h.hints.length<=1000000
 anchor:h.anchor.data.length<=2147483648
 dS:∀ c∈h.aw,c.ar.ga
theorem J1(h g:bB)(hf:h.ga):aq E 14 [h.enc,g.enc] (· = .bool (decide (h=g))):=by
 obtain⟨a,b,x,c,dr,fi⟩:=h;obtain⟨a2,b2,x2,c2,Ch,Ci⟩:=g;obtain⟨q1,q2,q3,q4,q5⟩:=hf;simp only at q1 q2 q3 q4 q5;have hd:decide ((⟨a,b,x,c,dr,fi⟩:bB)=⟨a2,b2,x2,c2,Ch,Ci⟩)=(decide (dr=Ch)&&decide (fi=Ci)&&(decide (a=a2)&&decide (c=c2)&&decide (x=x2))&&decide (b=b2)):=by
  rw[akN];simp;constructor
  ·rintro⟨h1,h2,h3,h4,h5,h6⟩;exact⟨⟨⟨h5,h6⟩,⟨h1,h4⟩,h3⟩,h2⟩
  ·rintro⟨⟨⟨h5,h6⟩,⟨h1,h4⟩,h3⟩,h2⟩;exact⟨h1,h2,h3,h4,h5,h6⟩
 rw[hd];show aq E _ [DV.agg [.sl (a.map Host.enc),.sl (b.map aT.enc),.str x.name,.int .i64 x.type,.int .i64 x.dD,.sl (x.data.map Datum.enc),.sl (c.map (.int .i64)),.int .i64 dr,.int .i64 fi],DV.agg [.sl (a2.map Host.enc),.sl (b2.map aT.enc),.str x2.name,.int .i64 x2.type,.int .i64 x2.dD,.sl (x2.data.map Datum.enc),.sl (c2.map (.int .i64)),.int .i64 Ch,.int .i64 Ci]] _;have xF:=aao a a2 x x2 c c2 q1 q3 q4;refine eP F14.h ?_;apply ah<;>intro h4
 ·have aL:dr≠Ch:=by rintro rfl;simp at h4
  rw[decide_eq_false aL];refine gC ?_;refine vT ?_;refine vT ?_;refine vT ?_;simp
 ·have he1:dr=Ch:=zD h4
  rw[decide_eq_true he1];refine gC ?_;apply ah<;>intro h5
  ·have aL:fi≠Ci:=by rintro rfl;simp at h5
   rw[decide_eq_false aL];refine gC ?_;refine vT ?_;refine vT ?_;simp
  ·have QL:fi=Ci:=zD h5
   rw[decide_eq_true QL];refine gC ?_;apply ah<;>intro h6
   ·have aL:b≠b2:=by rintro rfl;simp at h6
    rw[decide_eq_false aL];refine gC ?_;refine vT ?_;simp
   ·have sX:b.length=b2.length:=by simp only[bne_eq_false_iff_eq,aiO]at h6;omega
    refine gC ?_
    with_reducible refine ao (xF) ?_
    refine gC ?_;generalize (decide (a=a2)&&decide (c=c2)&&decide (x=x2))=W at *;cases W
    ·refine vT ?_;simp
    ·refine vF ?_;refine I.lP b.length (rg 4 4++rg 47 44) (fun k=>[(5,.d (.int .i64 k))]) (fun _=>[]) (fun k=>k<=b.length/\b.take k=b2.take k) ⟨ai4 _,rfl⟩ ?_ ?_
     ·exact sZ
     ·intro k hk IH;refine zA ?_ ?_<;>intro h7
      ·have ai:k<b.length:=zD h7
       obtain⟨u,hu⟩:=aI ai;obtain⟨w,hw⟩:=aI (l:=b2) (k:=k) oM;have l8:=q5 u (aiQ hu);refine gC ?_;refine eM hu (gC ?_);refine eM hw (gC ?_);apply ah<;>intro h8
       ·have aL:u≠w:=by rintro rfl;simp at h8
        refine gC ?_;refine vT ?_;refine vT ?_;refine vT ?_;rw[decide_eq_false (pP hu hw aL)];simp
       ·have e1:u.host=w.host:=zD h8
        refine gC ?_;apply ah<;>intro h9
        ·have aL:u≠w:=by rintro rfl;simp at h9
         refine gC ?_;refine vT ?_;refine vT ?_;rw[decide_eq_false (pP hu hw aL)];simp
        ·have e2:u.bQ=w.bQ:=zD h9
         refine gC ?_;apply ah<;>intro xD
         ·have aL:u≠w:=by rintro rfl;simp at xD
          refine gC ?_;refine vT ?_;rw[decide_eq_false (pP hu hw aL)];simp
         ·have e3:u.upto=w.upto:=zD xD
          refine gC ?_
          with_reducible refine ao (XB u.ar w.ar l8) ?_
          refine gC ?_;by_cases hz:u.ar=w.ar
          ·have he:u=w:=by
            obtain⟨u1,u2,u3,u4⟩:=u;obtain⟨w1,w2,w3,w4⟩:=w;simp only at e1 e2 e3 hz;rw[e1,e2,e3,hz]
           refine aP (by simp[hz]) (gC ?_);exact I.back (IH (k+1) ⟨by omega,tD hk.2 hu hw he⟩ oM) sZ
          ·have aL:u≠w:=fun e=>hz (e ▸ rfl);refine aN (by simp[hz]) (gC ?_);rw[decide_eq_false (pP hu hw aL)];simp
      ·have aA:k=b.length:=by simp at h7;omega
       have xG:b=b2:=tE hk.2 oM oM;refine gC ?_;simp[xG]
end Go.Proofs.YtlhehdgciafakaaGreatDoor.P
end
