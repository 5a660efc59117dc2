/- Lemmas of mine. Conditions: as stated. -/
import Derived.Test.YtfmdaiojokniiaaGreatDoorS14
set_option linter.unusedVariables false
set_option linter.unusedSimpArgs false
open Bool renaming and_eq_true->aft,eq_iff_iff->ahf
open List renaming mem_of_getElem?->afh,mem_map->aer,take_of_length_le->afS,length_map->aff,isEmpty_iff->ajm,drop_eq_nil_of_le->ajn,getElem?_take->aek,length_append->aey,all_eq_true->ad'
open Nat renaming zero_le->afv
section
namespace Go.Proofs.YtfmdaiojokniiaaGreatDoor.P
open Go Go.aA
set_option maxRecDepth 100000
set_option maxHeartbeats 4000000
theorem Xx(t:Text):l5 t=((t==[42])||preB t [42,46]):=by
 unfold l5 Nm.labels preB;by_cases hr:t=[46]
 ·subst hr;rfl
 rw[if_neg hr];cases t with
 |nil=>rfl
 |cons c r =>
  by_cases hc:c=46
  ·subst hc;simp[Nm.split];show((42:UInt8)==46&&_)=false;rfl
  ·cases r with
   |nil=>simp[Nm.split,hc]
   |cons d r' =>
    by_cases hd:d=46
    ·subst hd;simp[Nm.split,hc];rw[ahf];simp;exact eq_comm
    ·obtain⟨x,u,h1,h2⟩:=Nm.pZ d r' hd;have h3:Nm.split (c::d::r')=(c::d::x)::u:=by
      rw[Nm.split,if_neg hc,h2]
     rw[h3];have:(d==46)=false:=by simpa using hd
     have Xy:((46:UInt8)==d)=false:=by simpa using fun e=>hd e.symm
     simp;show((42:UInt8)==c&&((46:UInt8)==d&&_))=false;rw[Xy];simp
def fQ(z:bc):Bool:=z.ae.isEmpty && !l5 z.ao&&Nm.valid z.ao
def iz(ay:Nat)(p:aK):Bool:=decide (0<=p.host)&&decide (p.host<ay)&&(fQ p.au||eu p.au)
def gK(ay:Nat)(s:kA):Bool:=decide (s.cZ.length<=500)&&s.cZ.all (iz ay)&&decide ((s.cZ.map aK.spot).Nodup)
def dM(ay:Nat)(fin:Int)(s:Step):Bool:=decide (0<=s.time)&&decide (s.time<fin)&&gK ay s.cD
def eZ(a b:Step):Bool:=decide (a.time<b.time)
def pv(h:bO)(l:List Step):Bool:=decide (l.length<=400)&&chain (dM h.ay.length h.fin) eZ none l
def gM(h:bO)(l:List Step):Bool:=eJ h&&pv h l
structure kA.Fits(s:kA):Prop where
 eb:∀ p∈s.cZ,p.au.Fits
 Dv:s.cZ.length<=1000000
theorem HV(z:bc)(hf:z.Fits):ar E 58 [z.enc] (· = .bool (fQ z)):=by
 have e:fQ z=(z.ae.isEmpty && !((z.ao==[42])||preB z.ao [42,46])&&Nm.valid z.ao):=by rw[fQ,Xx]
 have e2:z.ae.isEmpty=(((z.ae.map Signed.enc).length:Int)==0):=by
  rw[ahf];simp[ajm]
 refine eP Tryz.func58 ?_;repeat' (first|with_reducible(first|refine aq (CO z.ao [42,46]) ?_|refine ax (CO z.ao [42,46]) ?_|refine aq (gU z.ao hf.ao) ?_|refine ax (gU z.ao hf.ao) ?_|refine cY ?_|refine cN ?_|refine ai (fun _=>?_) (fun _=>?_))|refine gA Tryz.func58 ?_|refine gB ?_|with_reducible rfl)
 all_goals
  rw[e,e2];clear e e2
  congr 1
  simp_all
theorem yd{l:List aK}{n:Nat}(h:l.all (iz n)=false):gK n ⟨l⟩=false:=by simp[gK,h]
theorem Xz(s:kA)(n:Nat)(hf:s.Fits):ar E 187 [s.enc,.int .i64 n] (· = .bool (gK n s)):=by
 obtain⟨l⟩:=s;obtain⟨hz,hl⟩:=hf;simp only at hz hl;show ar E _ [DV.agg [.sl (l.map aK.enc)],.int .i64 n] _;refine eP F187 ?_;refine ai (fun h1=>?_) (fun h1=>?_)
 ·refine gO F187 ?_;have:gK n ⟨l⟩=false:=by simp[gK];simp at h1;omega
  rw[this]
 have hlen:l.length<=500:=by simp at h1;omega
 refine gO F187 ?_;refine gO F187 ?_;refine J.loop (κ:=Nat) ([4,7,8]++rg 17 39) (fun k=>[(17,.d (.int .i64 k)),(4,.d (.bool false)),(5,.map 1)]) (fun k=>[(1,.map (ev cH.en ((l.take k).map aK.spot)))]) (fun k=>k<=l.length/\(l.take k).all (iz n)=true/\((l.take k).map aK.spot).Nodup) (fun k=>l.length-k) 0 ⟨afv _,rfl,by simp⟩ ?_ ?_
 ·(conv=>whnf);repeat (first|exact trivial|(refine sI ?_;conv=>whnf))
  refine And.intro rfl ?_;exact sZ
 rintro i ⟨hi,aL,c8⟩ IH;refine J.head ag F187 2000 ?_;(conv=>whnf);refine ai (fun h5=>?_) (fun h5=>?_)
 ·have ah:i<l.length:=by simpa using h5
  obtain⟨x,hx⟩:=aH ah;have fE:=hz x (afh hx);have fC:=(oG qm ((l.take i).map aK.spot)).1;obtain⟨gJ,jq⟩:=vK qm ((l.take i).map aK.spot) x.spot;have wM:cH.en x.spot=.agg [.int .i64 x.host,.str x.au.ao]:=rfl;refine gO F187 ?_;refine aD (e:=x.enc) (aO hx) rfl ?_;refine gO F187 ?_;refine ai (fun h6=>?_) (fun h6=>?_)
  ·repeat' (first|with_reducible(first|refine cY ?_|refine cN ?_|refine ai (fun _=>?_) (fun _=>?_))|refine gA F187 ?_|refine gB ?_|with_reducible rfl)
   rw[yd (di hx (by simp[iz];simp at h6;omega))]
  refine gO F187 ?_;refine ai (fun h7=>?_) (fun h7=>?_)
  ·repeat' (first|with_reducible(first|refine cY ?_|refine cN ?_|refine ai (fun _=>?_) (fun _=>?_))|refine gA F187 ?_|refine gB ?_|with_reducible rfl)
   rw[yd (di hx (by simp[iz];simp at h7;omega))]
  refine gO F187 ?_;refine oX (.bool false) (.bool false) ⟨_,rfl,rfl,⟨_,rfl,_,rfl⟩,rfl,⟨_,rfl,_,rfl⟩,trivial⟩ (x8 fC) (fun w=>by kernel_rfl) (fun _ _ => .bool _) gJ jq ?_;refine gO F187 ?_;refine ai (fun h8=>?_) (fun h8=>?_)
  ·repeat' (first|with_reducible(first|refine cY ?_|refine cN ?_|refine ai (fun _=>?_) (fun _=>?_))|refine gA F187 ?_|refine gB ?_|with_reducible rfl)
   have:=HL hx (by simpa using h8);simp[gK,this]
  repeat' (first|with_reducible(first|refine aq (HV x.au fE) ?_|refine ax (HV x.au fE) ?_|refine aq (vH x.au fE) ?_|refine ax (vH x.au fE) ?_|refine cY ?_|refine cN ?_|refine ai (fun _=>?_) (fun _=>?_))|refine gA F187 ?_|refine gB ?_|with_reducible rfl)
  all_goals try (rw[yd (di hx (by simp_all[iz]))];done)
  all_goals
   have aP:iz n x=true:=by simp_all[iz]
   refine aW ⟨⟨_,rfl,rfl,⟨_,rfl,_,rfl⟩,rfl,⟨_,rfl,_,rfl⟩,trivial⟩,x8 fC⟩ ?_;refine gO F187 ?_;refine J.back (IH (i+1) ⟨by omega,dv aL hx aP,HM hx c8 (by simpa using h8)⟩ (by omega)) ?_;rw[Dr hx,tH];(conv=>whnf);repeat (first|exact trivial|(refine sI ?_;conv=>whnf))
   refine And.intro rfl ?_;exact sZ
 ·have aC:l.length<=i:=by simpa using h5
  rw[afS aC]at aL c8;refine gO F187 ?_;simp[gK,aL,c8,hlen]
def rR(l:List Step)(k:Nat):Int:=match bN l k with
 |none => -1
 |some q=>q.time
theorem N7{l:List Step}{k:Nat}{x:Step}(h:l[k]?=some x):bN l (k+1)=some x:=by simp[bN,h]
structure Steps.Fits(l:List Step):Prop where
 each:∀ s∈l,s.cD.Fits
 Dv:l.length<=1000000
theorem XA(h:bO)(l:List Step)(hf:Steps.Fits l):ar E 117 [h.enc,.sl (l.map Step.enc)] (· = .bool (pv h l)):=by
 obtain⟨ay,aB,anchor,hints,bJ,fin⟩:=h;obtain⟨hz,hl⟩:=hf;show ar E _ [DV.agg [.sl (ay.map Host.enc),.sl (aB.map aQ.enc),.str anchor.name,.int .i64 anchor.type,.int .i64 anchor.bY,.sl (anchor.data.map Datum.enc),.sl (hints.map (.int .i64)),.int .i64 bJ,.int .i64 fin],_] _;refine eP F117 ?_;refine ai (fun h1=>?_) (fun h1=>?_)
 ·refine gO F117 ?_;have:pv ⟨ay,aB,anchor,hints,bJ,fin⟩ l=false:=by simp[pv];simp at h1;omega
  rw[this]
 have hlen:l.length<=400:=by simp at h1;omega
 have bG:pv ⟨ay,aB,anchor,hints,bJ,fin⟩ l=chain (dM ay.length fin) eZ none l:=by simp[pv,hlen]
 rw[bG];refine gO F117 ?_;refine J.loop (κ:=Nat) ([4,5,7]++rg 13 27) (fun k=>[(13,.d (.int .i64 k)),(4,.d (.bool false)),(5,.d (.int .i64 (rR l k)))]) (fun _=>[]) (fun k=>k<=l.length/\chain (dM ay.length fin) eZ none l=chain (dM ay.length fin) eZ (bN l k) (l.drop k)/\∀ q,bN l k=some q->0<=q.time) (fun k=>l.length-k) 0 ⟨afv _,rfl,fun q h=>by simp[bN]at h⟩ ?_ ?_
 ·(conv=>whnf);repeat (first|exact trivial|(refine sI ?_;conv=>whnf))
  refine And.intro rfl ?_;exact sZ
 rintro i ⟨hi,js,cS⟩ IH;refine J.head ag F117 2000 ?_;(conv=>whnf);refine ai (fun h5=>?_) (fun h5=>?_)
 ·have ah:i<l.length:=by simpa using h5
  obtain⟨x,hx⟩:=aH ah;have fE:=hz x (afh hx);have aG:=vy (ok:=dM ay.length fin) (rel:=eZ) hx;have bg:=Xz x.cD (ay.map Host.enc).length fE;rw[show gK (ay.map Host.enc).length x.cD=gK ay.length x.cD by rw[aff]]at bg;have hC:=js.trans aG;refine gO F117 ?_;refine aD (e:=x.enc) (aO hx) rfl ?_;refine gO F117 ?_;refine ai (fun h6=>?_) (fun h6=>?_)
  ·repeat' (first|with_reducible(first|refine cY ?_|refine cN ?_|refine ai (fun _=>?_) (fun _=>?_))|refine gA F117 ?_|refine gB ?_|with_reducible rfl)
   have vN:x.time<=rR l i:=by simpa using h6
   cases hq:bN l i with
   |none =>
    simp only[rR,hq]at vN;have:dM ay.length fin x=false:=by simp[dM];omega
    rw[hC];simp[this]
   |some q =>
    simp only[rR,hq]at vN;have:eZ q x=false:=by simp[eZ];omega
    rw[hC,hq];simp[this]
  have vN:rR l i<x.time:=by simpa using h6
  have Db:0<=x.time:=by
   cases hq:bN l i with
   |none=>simp only[rR,hq]at vN;omega
   |some q=>have:=cS q hq;simp only[rR,hq]at vN;omega
  have tL:chain (dM ay.length fin) eZ none l=(dM ay.length fin x&&chain (dM ay.length fin) eZ (bN l (i+1)) (l.drop (i+1))):=by
   rw[hC];cases hq:bN l i with
   |none=>simp
   |some q=>simp only[rR,hq]at vN;simp[eZ,vN]
  refine gO F117 ?_;repeat' (first|with_reducible(first|refine aq (bg) ?_|refine ax (bg) ?_|refine cY ?_|refine cN ?_|refine ai (fun _=>?_) (fun _=>?_))|refine gA F117 ?_|refine gB ?_|with_reducible rfl)
  all_goals try
   (have bI : dM ay.length fin x=false := by(simp_all[dM]<;>omega)
    rw[tL, bI];simp;done)
  have aP:dM ay.length fin x=true:=by(simp_all[dM]<;>omega)
  refine gO F117 ?_;refine J.back (IH (i+1) ⟨by omega,?_,fun q hq=>by rw[N7 hx]at hq;cases hq;exact Db⟩ (by omega)) ?_
  ·rw[tL,aP];rfl
  ·(conv=>whnf);repeat (first|exact trivial|(refine sI ?_;conv=>whnf))
   refine And.intro (by simp[rR,N7 hx]) ?_;exact sZ
 ·have aC:l.length<=i:=by simpa using h5
  rw[ajn aC]at js;refine gO F117 ?_;rw[js];rfl
theorem HW(h:bO)(l:List Step)(hf:h.Fits)(dm:h.aB.length<=1000000)(hg:Steps.Fits l):ar E 47 [h.enc,.sl (l.map Step.enc)] (· = .bool (gM h l)):=by
 have h1:=HQ h hf dm;have h2:=XA h l hg;refine eP Tryz.func47 ?_;repeat' (first|with_reducible(first|refine aq (h1) ?_|refine ax (h1) ?_|refine aq (h2) ?_|refine ax (h2) ?_|refine cY ?_|refine cN ?_|refine ai (fun _=>?_) (fun _=>?_))|refine gA Tryz.func47 ?_|refine gB ?_|with_reducible rfl)
 all_goals simp_all[gM]
theorem XB(p:aK):ar E 167 [p.enc] (· = .bool p.au.ae.isEmpty):=by
 refine eP Tryz.func167 ?_
 congr 1
 rw[ahf];simp[ajm]
theorem N8(a b:aK):ar E 71 [a.enc,b.enc] (· = .bool (decide (a.spot=b.spot))):=by
 refine eP Tryz.func71 ?_;repeat' (first|with_reducible(first|refine cY ?_|refine cN ?_|refine ai (fun _=>?_) (fun _=>?_))|refine gA Tryz.func71 ?_|refine gB ?_|with_reducible rfl)
 all_goals
  congr 1
  simp_all[aK.spot];try (rw[ahf];simp)
theorem N9(s:kA)(n:Nat)(hf:s.Fits):ar E 130 [.int .i64 n,s.enc] (· = .bool (gK n s)):=by
 obtain⟨l⟩:=s;obtain⟨hz,hl⟩:=hf;simp only at hz hl;show ar E _ [.int .i64 n,DV.agg [.sl (l.map aK.enc)]] _;refine eP F130 ?_;refine J.loop (κ:=Nat) (rg 4 65) (fun k=>[(5,.d (.int .i64 k)),(4,.d (.bool false))]) (fun _=>[]) (fun k=>k<=l.length/\(l.take k).all (iz n)=true/\((l.take k).map aK.spot).Nodup) (fun k=>l.length-k) 0 ⟨afv _,rfl,by simp⟩ ?_ ?_
 ·exact sZ
 rintro i ⟨hi,aL,c8⟩ IH;refine J.head ag F130 2000 ?_;(conv=>whnf);refine ai (fun h5=>?_) (fun h5=>?_)
 ·have ah:i<l.length:=by simpa using h5
  obtain⟨x,hx⟩:=aH ah;have fE:=hz x (afh hx);have AM:=XB x;have bG:=eO x.au.ao fE.ao;have N':=jg x.au.ao fE.ao;have Oa:=Hj x.au fE;have XC:Nm.valid x.au.ao=true->l5 x.au.ao=Nm.iu x.au.ao:=Hr;have XD:eu x.au=true->x.au.ae.isEmpty=false:=fun h=>by
   have:=WR h;cases hs:x.au.ae with
   |nil=>exact absurd hs this
   |cons a b=>rfl
  have ke:iz n x=(decide (0<=x.host)&&decide (x.host<n)&&(if x.au.ae.isEmpty then Nm.valid x.au.ao && !Nm.iu x.au.ao else eu x.au)):=by
   unfold iz fQ;cases he:x.au.ae.isEmpty
   ·simp
   ·cases Dw:eu x.au
    ·cases hv:Nm.valid x.au.ao
     ·simp
     ·simp[XC hv]
    ·rw[XD Dw]at he;cases he
  refine gO F130 ?_;refine aD (e:=x.enc) (aO hx) rfl ?_;refine gO F130 ?_;refine ai (fun h6=>?_) (fun h6=>?_)
  ·repeat' (first|with_reducible(first|refine cY ?_|refine cN ?_|refine ai (fun _=>?_) (fun _=>?_))|refine gA F130 ?_|refine gB ?_|with_reducible rfl)
   rw[yd (di hx (by rw[ke];simp;simp at h6;omega))]
  refine gO F130 ?_;refine ai (fun h7=>?_) (fun h7=>?_)
  ·repeat' (first|with_reducible(first|refine cY ?_|refine cN ?_|refine ai (fun _=>?_) (fun _=>?_))|refine gA F130 ?_|refine gB ?_|with_reducible rfl)
   rw[yd (di hx (by rw[ke];simp;simp at h7;omega))]
  have XE:(decide (0<=x.host)&&decide (x.host<n))=true:=by simp at h6 h7 ⊢;omega
  rw[XE,Bool.true_and]at ke;refine gO F130 ?_;repeat' (first|with_reducible(first|refine aq (AM) ?_|refine ax (AM) ?_|refine aq (bG) ?_|refine ax (bG) ?_|refine aq (N') ?_|refine ax (N') ?_|refine aq (Oa) ?_|refine ax (Oa) ?_|refine cY ?_|refine cN ?_|refine ai (fun _=>?_) (fun _=>?_))|refine gA F130 ?_|refine gB ?_|with_reducible rfl)
  all_goals try (rw[yd (di hx (by rw[ke];simp_all))];done)
  all_goals
   have aP:iz n x=true:=by rw[ke];simp_all
   refine gO F130 ?_;refine J.loop (κ:=Nat) ([4,7]++rg 57 12) (fun k=>[(7,.d (.int .i64 k)),(4,.d (.bool false))]) (fun _=>[]) (fun k=>k<=i/\∀ m y,m<k->l[m]?=some y->y.spot≠x.spot) (fun k=>i-k) 0 ⟨afv _,fun m y h=>by omega⟩ ?_ ?_
   ·exact sZ
   rintro k ⟨hk,aJ⟩ pk;refine J.head ag F130 2000 ?_;(conv=>whnf);refine ai (fun h9=>?_) (fun h9=>?_)
   ·have l6:k<i:=by simpa using h9
    obtain⟨y,hy⟩:=aH (l:=l) (k:=k) (by omega);refine gO F130 ?_;refine dU ?_;refine aD (e:=y.enc) (aO hy) rfl ?_;refine gD ?_;refine ax (N8 y x) ?_;refine gD ?_;refine gO F130 ?_;refine ai (fun vO=>?_) (fun vO=>?_)
    ·refine gO F130 ?_;have hm:x.spot∈(l.take i).map aK.spot:=aer.2 ⟨y,afh (i:=k) (by rw[aek,if_pos l6];exact hy),by simpa using vO⟩;have:=HL hx hm;simp[gK,this]
    ·refine gO F130 ?_;refine J.back (pk (k+1) ⟨by omega,fun m z hm iK=>?_⟩ (by omega)) ?_
     ·by_cases l7:m=k
      ·subst l7;rw[hy]at iK;cases iK;simpa using vO
      ·exact aJ m z (by omega) iK
     ·exact sZ
   ·have x9:i<=k:=by simpa using h9
    refine gO F130 ?_;refine J.back (IH (i+1) ⟨by omega,dv aL hx aP,HM hx c8 (fun hm=>?_)⟩ (by omega)) ?_
    ·obtain⟨y,hy,e⟩:=aer.1 hm;obtain⟨m,hm⟩:=List.getElem?_of_mem hy;rw[aek]at hm;split at hm
     ·exact aJ m y (by omega) hm e
     ·cases hm
    ·exact sZ
 ·have aC:l.length<=i:=by simpa using h5
  rw[afS aC]at aL c8;refine gO F130 ?_;simp[gK,aL,c8];try omega
theorem XF(h:bO)(l:List Step)(hf:Steps.Fits l):ar E 129 [h.enc,.sl (l.map Step.enc)] (· = .bool (pv h l)):=by
 obtain⟨ay,aB,anchor,hints,bJ,fin⟩:=h;obtain⟨hz,hl⟩:=hf;show ar E _ [DV.agg [.sl (ay.map Host.enc),.sl (aB.map aQ.enc),.str anchor.name,.int .i64 anchor.type,.int .i64 anchor.bY,.sl (anchor.data.map Datum.enc),.sl (hints.map (.int .i64)),.int .i64 bJ,.int .i64 fin],_] _;have bG:pv ⟨ay,aB,anchor,hints,bJ,fin⟩ l=(decide (l.length<=400)&&chain (dM ay.length fin) eZ none l):=rfl;rw[bG];refine eP F129 ?_;refine J.loop (κ:=Nat) (rg 4 54) (fun k=>[(5,.d (.int .i64 k)),(4,.d (.bool false))]) (fun _=>[]) (fun k=>k<=l.length/\chain (dM ay.length fin) eZ none l=chain (dM ay.length fin) eZ (bN l k) (l.drop k)) (fun k=>l.length-k) 0 ⟨afv _,rfl⟩ ?_ ?_
 ·exact sZ
 rintro i ⟨hi,js⟩ IH;refine J.head ag F129 2000 ?_;(conv=>whnf);refine ai (fun h5=>?_) (fun h5=>?_)
 ·have ah:i<l.length:=by simpa using h5
  obtain⟨x,hx⟩:=aH ah;have fE:=hz x (afh hx);have aG:=vy (ok:=dM ay.length fin) (rel:=eZ) hx;have bg:=N9 x.cD (ay.map Host.enc).length fE;rw[show gK (ay.map Host.enc).length x.cD=gK ay.length x.cD by rw[aff]]at bg;have hC:=js.trans aG;have Dx:∀ b,chain (dM ay.length fin) eZ none l=(b&&chain (dM ay.length fin) eZ (bN l (i+1)) (l.drop (i+1)))->b=false->DV.bool false=DV.bool (decide (l.length<=400)&&chain (dM ay.length fin) eZ none l):=fun b h1 h2=>by rw[h1,h2];simp
  rcases Nat.eq_zero_or_pos i with h0|h0
  ·subst h0;have tL:chain (dM ay.length fin) eZ none l=(dM ay.length fin x&&chain (dM ay.length fin) eZ (bN l (0+1)) (l.drop (0+1))):=by rw[hC];simp[bN]
   refine gO F129 ?_;refine dU ?_;repeat' (first|with_reducible(first|refine aD (aO hx) rfl ?_|refine aq (bg) ?_|refine ax (bg) ?_|refine cY ?_|refine cN ?_|refine ai (fun _=>?_) (fun _=>?_))|refine gA F129 ?_|refine gB ?_|with_reducible rfl)
   all_goals try (exact Dx _ tL (by(simp_all[dM]<;>omega)))
   have aP:dM ay.length fin x=true:=by(simp_all[dM]<;>omega)
   refine gO F129 ?_;refine J.back (IH (0+1) ⟨by omega,by rw[tL,aP];rfl⟩ (by omega)) ?_;exact sZ
  ·obtain⟨q,hq,dI⟩:=rC h0 hi;have tL:chain (dM ay.length fin) eZ none l=((dM ay.length fin x&&eZ q x)&&chain (dM ay.length fin) eZ (bN l (i+1)) (l.drop (i+1))):=by rw[hC,dI]
   have hg:decide ((i:Int)>0)=true:=by simp;omega
   refine gO F129 ?_;refine dU ?_;repeat' (first|with_reducible(first|refine aD (aO hx) rfl ?_|refine aD (nA hq (by omega) (by omega)) rfl ?_|refine aq (bg) ?_|refine ax (bg) ?_|refine cY ?_|refine cN ?_|refine ai (fun _=>?_) (fun _=>?_))|refine gA F129 ?_|refine gB ?_|with_reducible rfl)
   all_goals try (exact Dx _ tL (by(simp_all[dM,eZ]<;>omega)))
   have aP:(dM ay.length fin x&&eZ q x)=true:=by(simp_all[dM,eZ]<;>omega)
   refine gO F129 ?_;refine J.back (IH (i+1) ⟨by omega,by rw[tL,aP];rfl⟩ (by omega)) ?_;exact sZ
 ·have aC:l.length<=i:=by simpa using h5
  rw[ajn aC]at js;refine gO F129 ?_;rw[js];simp[chain];try omega
theorem XG(h:bO)(l:List Step)(hf:h.Fits)(dm:h.aB.length<=1000000)(fL:h.hints.length<=1000000)(hg:Steps.Fits l):ar E 53 [h.enc,.sl (l.map Step.enc)] (· = .bool (gM h l)):=by
 have h1:=Xv h hf dm fL;have h2:=XF h l hg;refine eP Tryz.func53 ?_;repeat' (first|with_reducible(first|refine aq (h1) ?_|refine ax (h1) ?_|refine aq (h2) ?_|refine ax (h2) ?_|refine cY ?_|refine cN ?_|refine ai (fun _=>?_) (fun _=>?_))|refine gA Tryz.func53 ?_|refine gB ?_|with_reducible rfl)
 all_goals simp_all[gM]
def jT(ended:List cH)(at_:Int)(c:aQ):List aQ:=if c.spot∈ended then(if c.bL>=at_ then[]else[{ c with upto:=min c.upto at_ }])else[c]
def jt(ended:List cH)(at_:Int)(l:List aQ):List aQ:=l.flatMap (jT ended at_)
theorem XK{ended:List cH}{at_:Int}{l:List aQ}{k:Nat}{c:aQ}(h:l[k]?=some c):jt ended at_ (l.take (k+1))=jt ended at_ (l.take k)++jT ended at_ c:=by
 rw[cG h,jt,List.flatMap_append];simp[jt]
theorem Dy{ended:List cH}{at_:Int}:∀ (l:List aQ),(jt ended at_ l).length<=l.length
 |[]=>by simp[jt]
 |c::l=>by
  have:=Dy (ended:=ended) (at_:=at_) l;unfold jt at this ⊢;rw[List.flatMap_cons,aey,List.length_cons];have h1:(jT ended at_ c).length<=1:=by unfold jT;split<;>(try split)<;>simp
  omega
theorem Ob{G:List (Nat × DV)}{s:List AV}{x:Operand}{v:AV}(h:bh G s x v):jC G s [x] [v]:=fun c a h3 h4=>VL.cons (h c a h3 h4) .nil
theorem XL(s:kA)(hf:s.Fits):aw E 57 [] [.d s.enc] (fun a b=>a=.map 1/\b=[.cells [.d (.sl (s.cZ.map aK.enc))],.map (ev cH.en (s.cZ.map aK.spot))]):=by
 obtain⟨l⟩:=s;obtain⟨hz,hl⟩:=hf;simp only at hz hl;show aw E _ [] [.d (DV.agg [.sl (l.map aK.enc)])] _;refine aw.run ag (fn:=Tryz.f57) Tryz.func57 (body:=Tryz.f57.body.getD .skip) rfl (by decide) 2000 rfl ?_;(conv=>whnf);refine gO F57 ?_;refine gO F57 ?_;refine J.loop (κ:=Nat) ([5]++rg 10 12) (fun k=>[(10,.d (.int .i64 k)),(3,.map 1)]) (fun k=>[(1,.map (ev cH.en ((l.take k).map aK.spot)))]) (fun k=>k<=l.length) (fun k=>l.length-k) 0 (afv _) ?_ ?_
 ·(conv=>whnf);repeat (first|exact trivial|(refine sI ?_;conv=>whnf))
  refine And.intro rfl ?_;exact sZ
 rintro i hi IH;refine J.head ag F57 2000 ?_;(conv=>whnf);refine ai (fun h5=>?_) (fun h5=>?_)
 ·have ah:i<l.length:=by simpa using h5
  obtain⟨x,hx⟩:=aH ah;have fC:=(oG qm ((l.take i).map aK.spot)).1;refine gO F57 ?_;refine aD (e:=x.enc) (aO hx) rfl ?_;refine gO F57 ?_;refine aW ⟨⟨_,rfl,rfl,⟨_,rfl,_,rfl⟩,rfl,⟨_,rfl,_,rfl⟩,trivial⟩,x8 fC⟩ ?_;refine gO F57 ?_;refine J.back (IH (i+1) (by omega) (by omega)) ?_;rw[Dr hx,tH];(conv=>whnf);repeat (first|exact trivial|(refine sI ?_;conv=>whnf))
  refine And.intro rfl ?_;exact sZ
 ·have aC:l.length<=i:=by simpa using h5
  rw[afS aC];refine gO F57 ?_;exact⟨rfl,rfl⟩
theorem XM(l:List DV)(es:List (DV × DV))(at_:Int):aw E 56 [.map es] [.d (.sl l),.map 0,.d (.int .i64 at_)] (fun a b=>a=.fn (.func 132) [] [.ptr 1 0,.ptr 2 0,.ptr 3 0]/\b=[.map es,.cells [.d (.sl l)],.cells [.map 0],.cells [.d (.int .i64 at_)]]):=by
 refine aw.run ag (fn:=Tryz.f56) Tryz.func56 (body:=Tryz.f56.body.getD .skip) rfl (by decide) 2000 rfl ?_;(conv=>whnf);exact⟨rfl,rfl⟩
theorem XN(l:List aQ)(ended:List cH)(at_:Int)(hl:l.length<=1000000) :
  aw E 131 [.cells [.d (.sl (l.map aQ.enc))],.cells [.map 3],.cells [.d (.int .i64 at_)],.map (ev cH.en ended)] [.d .aI,.fn (.func 132) [] [.ptr 0 0,.ptr 1 0,.ptr 2 0]]
   (fun a b=>a=.own 5 1/\b=[.cells [.d (.sl (l.map aQ.enc))],.cells [.map 3],.cells [.d (.int .i64 at_)],.map (ev cH.en ended),.cells [.own 5 1],.arr 1 (68,5) ((jt ended at_ l).map aQ.enc)]):=by
 refine aw.run ag (fn:=Tryz.f131) Tryz.func131 (body:=Tryz.f131.body.getD .skip) rfl (by decide) 2000 rfl ?_;(conv=>whnf);refine J.o9 4 0 (68,5) (by decide) rfl rfl ?_;(conv=>whnf);refine J.rangeFunc (aV rfl) Tryz.func132 rfl (by decide) rfl (fun ll d t=>?_);refine gO F132 ?_;refine J.loop (κ:=Nat) ([6]++rg 9 26) (fun k=>[(9,.d (.int .i64 k))]) (fun k=>[(4,.cells [.own 5 1]),(5,.arr 1 (68,5) ((jt ended at_ (l.take k)).map aQ.enc))]) (fun k=>k<=l.length) (fun k=>l.length-k) 0 (afv _) ?_ ?_
 ·(conv=>whnf);repeat (first|exact trivial|(refine sI ?_;conv=>whnf))
  refine And.intro rfl ?_;exact sZ
 intro k hk IH;refine J.head ag F132 2000 ?_;(conv=>whnf);refine ai (fun h5=>?_) (fun h5=>?_)
 ·have ah:k<l.length:=by simpa using h5
  obtain⟨c,hc⟩:=aH ah;have aG:=XK (ended:=ended) (at_:=at_) hc;have hlen:=Dy (ended:=ended) (at_:=at_) (l.take k);have EY:(l.take k).length<=l.length:=by simp;omega
  obtain⟨gJ,jq⟩:=vK qm ended c.spot;have fC:=(oG qm ended).1;refine gO F132 ?_;refine aD (e:=c.enc) (aO hc) rfl ?_;refine gO F132 ?_;refine oX (.bool false) (.bool false) ⟨_,rfl,rfl,⟨_,rfl,_,rfl⟩,rfl,⟨_,rfl,_,rfl⟩,trivial⟩ (x8 fC) (fun w=>by kernel_rfl) (fun _ _ => .bool _) gJ jq ?_;refine gO F132 ?_;by_cases hm:c.spot∈ended
  ·refine aY (by simp[hm]) ?_;refine gO F132 ?_;refine ai (fun h6=>?_) (fun h6=>?_)
   ·have e1:jT ended at_ c=[]:=by simp[jT,hm,of_decide_eq_true h6]
    refine gO F132 ?_;refine J.back (IH (k+1) (by omega) (by omega)) ?_;rw[aG,e1,List.append_nil];exact sZ
   ·have e1:jT ended at_ c=[{ c with upto:=min c.upto at_ }]:=by simp[jT,hm,of_decide_eq_false h6]
    refine gO F132 ?_;refine J.TS rfl rfl (aV rfl) (aV rfl) ?_;(conv=>whnf);refine gO F132 ?_;refine J.yield 0 rfl rfl rfl (aV rfl) (Ob (aV rfl)) rfl ?_;(conv=>whnf);refine gO F131 ?_;refine J.begin 0 rfl rfl rfl ?_;(conv=>whnf);refine gO F131 ?_;refine aW ⟨by simp;omega,by simp[DV.cells]⟩ ?_;refine gO F131 ?_;refine J.pb 0 rfl rfl rfl ?_;(conv=>whnf);refine gO F132 ?_;refine aU (by decide) ?_;refine gO F132 ?_;refine J.back (IH (k+1) (by omega) (by omega)) ?_;rw[aG,e1];(conv=>whnf);repeat (first|exact trivial|(refine sI ?_;conv=>whnf))
    refine And.intro (by simp) ?_;exact sZ
  ·refine aU (by simp[hm]) ?_;have e1:jT ended at_ c=[c]:=by simp[jT,hm]
   refine gO F132 ?_;refine J.yield 0 rfl rfl rfl (aV rfl) (Ob (aV rfl)) rfl ?_;(conv=>whnf);refine gO F131 ?_;refine J.begin 0 rfl rfl rfl ?_;(conv=>whnf);refine gO F131 ?_;refine aW ⟨by simp;omega,by simp[DV.cells]⟩ ?_;refine gO F131 ?_;refine J.pb 0 rfl rfl rfl ?_;(conv=>whnf);refine gO F132 ?_;refine aU (by decide) ?_;refine gO F132 ?_;refine J.back (IH (k+1) (by omega) (by omega)) ?_;rw[aG,e1];(conv=>whnf);repeat (first|exact trivial|(refine sI ?_;conv=>whnf))
   refine And.intro (by simp) ?_;exact sZ
 ·have aC:l.length<=k:=by simpa using h5
  rw[afS aC];refine gO F132 ?_;refine J.ky ag F132 rfl rfl rfl rfl (fun e=>nomatch e) ?_;(conv=>whnf);refine gO F131 ?_;refine J.lW ag F131 rfl rfl rfl rfl rfl ?_;(conv=>whnf);exact⟨rfl,rfl⟩
theorem XO(l:List aQ)(ended:List cH)(at_:Int)(hl:l.length<=1000000) :
  aw E 55 [.cells [.d (.sl (l.map aQ.enc))],.cells [.map 3],.cells [.d (.int .i64 at_)],.map (ev cH.en ended)] [.fn (.func 132) [] [.ptr 0 0,.ptr 1 0,.ptr 2 0]]
   (fun a b=>a=.own 5 1/\b=[.cells [.d (.sl (l.map aQ.enc))],.cells [.map 3],.cells [.d (.int .i64 at_)],.map (ev cH.en ended),.cells [.own 5 1],.arr 1 (68,5) ((jt ended at_ l).map aQ.enc)]):=by
 refine aw.run ag (fn:=Tryz.f55) Tryz.func55 (body:=Tryz.f55.body.getD .skip) rfl (by decide) 2000 rfl ?_;conv=>whnf
 with_reducible refine aS (XN l ended at_ hl) ?_
 refine gO Tryz.func55 ?_;exact⟨rfl,rfl⟩
def iA(fin at_:Int)(l:List aK):List aQ:=(l.filter (fun p => !fQ p.au)).map (fun p=>⟨p.host,at_,fin,p.au⟩)
def mU(fin:Int)(cs:List aQ)(s:Step):List aQ:=jt (s.cD.cZ.map aK.spot) s.time cs++iA fin s.time s.cD.cZ
def dN(fin:Int)(cs:List aQ)(l:List Step):List aQ:=l.foldl (mU fin) cs
theorem Oc{fin:Int}{cs:List aQ}{l:List Step}{k:Nat}{x:Step}(h:l[k]?=some x):dN fin cs (l.take (k+1))=mU fin (dN fin cs (l.take k)) x:=by
 rw[cG h,dN,List.foldl_append];rfl
theorem XP{fin at_:Int}{l:List aK}{k:Nat}{x:aK}(h:l[k]?=some x):iA fin at_ (l.take (k+1))=iA fin at_ (l.take k)++(if fQ x.au then[]else[⟨x.host,at_,fin,x.au⟩]):=by
 rw[cG h,iA,List.filter_append,List.map_append];cases hs:fQ x.au<;>simp[iA,hs]
theorem Od{fin at_:Int}{l:List aK}:(iA fin at_ l).length<=l.length:=by
 rw[iA,aff];exact List.length_filter_le ..
theorem HX{fin:Int}{cs:List aQ}{l:List Step}(hl:∀ s∈l,s.cD.cZ.length<=500):∀ k,k<=l.length->(dN fin cs (l.take k)).length<=cs.length+500*k
 |0,_=>by simp[dN]
 |k+1,h=>by
  obtain⟨x,hx⟩:=aH (l:=l) (k:=k) (by omega);have ih:=HX (fin:=fin) (cs:=cs) hl k (by omega);have h1:=hl x (afh hx);rw[Oc hx,mU,aey];have h2:=Dy (ended:=x.cD.cZ.map aK.spot) (at_:=x.time) (dN fin cs (l.take k));have h3:=Od (fin:=fin) (at_:=x.time) (l:=x.cD.cZ);omega
theorem XQ{P:bc->Prop}{ended:List cH}{at_:Int}{cs:List aQ}(h:∀ c∈cs,P c.au):∀ c∈jt ended at_ cs,P c.au:=fun c hc=>by
 obtain⟨d,hd,e⟩:=List.mem_flatMap.1 hc;unfold jT at e;split at e
 ·split at e
  ·simp at e
  ·simp at e;subst e;exact h d hd
 ·simp at e;subst e;exact h c hd
theorem Dz{P:bc->Prop}{fin:Int}:∀ {l:List Step} {cs:List aQ},(∀ c∈cs,P c.au)->(∀ s∈l,∀ p∈s.cD.cZ,fQ p.au=false->P p.au)->∀ c∈dN fin cs l,P c.au
 |[],cs,h,_=>h
 |s::l,cs,h,hp=>by
  show ∀ c∈dN fin (mU fin cs s) l,P c.au;refine Dz (fun c hc=>?_) (fun t ht=>hp t (List.mem_cons_of_mem _ ht));rcases List.mem_append.1 hc with hc|hc
  ·exact XQ h c hc
  ·obtain⟨p,vB,e⟩:=aer.1 hc;obtain⟨XR,XS⟩:=List.mem_filter.1 vB;subst e;exact hp s (List.mem_cons_self ..) p XR (by simpa using XS)
theorem XT{h:bO}{l:List Step}(hv:gM h l=true):(∀ c∈h.aB,eu c.au=true)/\(∀ s∈l,∀ p∈s.cD.cZ,fQ p.au=false->eu p.au=true):=by
 simp only[gM,eJ,pv,aft,decide_eq_true_eq]at hv;obtain⟨⟨⟨⟨⟨h1,h2⟩,h3⟩,h4⟩,h5⟩,h6,h7⟩:=hv;refine⟨fun c hc=>?_,fun s hs p hp hn=>?_⟩
 ·have:=ad'.1 h3 c hc;simp only[jr,aft]at this;exact this.2
 ·have:=Ar h7 s hs;simp only[dM,gK,aft]at this;have:=ad'.1 this.2.1.2 p hp;simp only[iz,aft,Bool.or_eq_true]at this;rcases this.2 with e|e
  ·rw[hn]at e;cases e
  ·exact e
theorem XU{h:bO}{l:List Step}(hv:gM h l=true):h.aB.length<=4000/\(∀ s∈l,s.cD.cZ.length<=500)/\l.length<=400/\(∀ c∈dN h.fin h.aB l,c.au.lv)/\h.anchor.data.length<=2147483648/\h.ay.length<=2147483648/\h.hints.length<=2147483648:=by
 obtain⟨z1,z2⟩:=XT hv;have hz:=Dz (fin:=h.fin) (P:=fun z=>eu z=true) z1 z2;simp only[gM,eJ,pv,fD,jo,aft,decide_eq_true_eq]at hv;obtain⟨⟨⟨⟨⟨⟨⟨⟨⟨q1,q2⟩,q3⟩,q4⟩,q5⟩,⟨⟨q6,q7⟩,q8⟩,⟨⟨⟨⟨q9,q10⟩,q11⟩,q12⟩,q13⟩,q14⟩,h3⟩,h4⟩,h5⟩,h6,h7⟩:=hv;have:=vt q9;refine⟨q5,fun s hs=>?_,h6,fun c hc=>HJ (hz c hc),by omega,by omega,by omega⟩;have:=Ar h7 s hs;simp only[dM,gK,aft,decide_eq_true_eq]at this;exact this.2.1.1
theorem XV{l:List aQ}{i:Nat}{x:aQ}(h:l[i]?=some x):(l.map aQ.enc).set i x.enc=l.map aQ.enc:=by
 apply List.ext_getElem?;intro j;rw[List.getElem?_set];split
 ·rename_i e;subst e;have ah:=aX h;rw[if_pos (by simpa using ah),List.getElem?_map,h];rfl
 ·rfl
def mV:bO:=⟨[],[],⟨[],0,0,[]⟩,[],0,0⟩
def applyN(h:bO)(l:List Step):Int:=if gM h l then(if qo (dN h.fin h.aB l)then 2 else 0)else 1
def ew(h:bO)(l:List Step):bO:=if applyN h l=0 then{ h with aB:=dN h.fin h.aB l }else mV
def rS(h:bO)(l:List Step):DV:=if applyN h l=0 then .aF [(ew h l).enc,.int .i64 0]else .aF [.agg [.aI,.aI,.str [],.int .i64 0,.int .i64 0,.aI,.aI,.int .i64 0,.int .i64 0],.int .i64 (applyN h l)]
theorem XW(h:bO)(l:List Step)(hf:h.Fits)(dm:h.aB.length<=1000000)(hs:Steps.Fits l):ar E 22 [h.enc,.sl (l.map Step.enc)] (· = rS h l):=by
 have nD:=HW h l hf dm hs;cases hv:gM h l
 ·have e1:applyN h l=1:=by simp[applyN,hv]
  have e2:rS h l=.aF [.agg [.aI,.aI,.str [],.int .i64 0,.int .i64 0,.aI,.aI,.int .i64 0,.int .i64 0],.int .i64 1]:=by simp[rS,e1]
  rw[e2];rw[hv]at nD;obtain⟨ay,aB,anchor,hints,bJ,fin⟩:=h;show ar E _ [DV.agg [.sl (ay.map Host.enc),.sl (aB.map aQ.enc),.str anchor.name,.int .i64 anchor.type,.int .i64 anchor.bY,.sl (anchor.data.map Datum.enc),.sl (hints.map (.int .i64)),.int .i64 bJ,.int .i64 fin],_] _;refine eP F22 ?_
  with_reducible refine aq (nD) ?_
  refine gO F22 ?_;refine a8 ?_;refine gO F22 ?_
  with_reducible rfl
 ·rw[hv]at nD;obtain⟨ay,aB,anchor,hints,bJ,fin⟩:=h;show ar E _ [DV.agg [.sl (ay.map Host.enc),.sl (aB.map aQ.enc),.str anchor.name,.int .i64 anchor.type,.int .i64 anchor.bY,.sl (anchor.data.map Datum.enc),.sl (hints.map (.int .i64)),.int .i64 bJ,.int .i64 fin],_] _;refine eP F22 ?_
  with_reducible refine aq (nD) ?_
  refine gO F22 ?_;refine aR ?_;refine gO F22 ?_;obtain⟨XX,ke,mi,Oe,HY,vP,HZ⟩:=XU hv;simp only at XX ke mi Oe HY vP HZ;have vu:=HX (fin:=fin) (cs:=aB) ke;refine J.loop (κ:=Nat) ([6,8,10]++rg 22 38) (fun k=>[(22,.d (.int .i64 k)),(6,.d (.sl ((dN fin aB (l.take k)).map aQ.enc)))]) (fun k=>[]) (fun k=>k<=l.length) (fun k=>l.length-k) 0 (afv _) ?_ ?_
  ·(conv=>whnf);repeat (first|exact trivial|(refine sI ?_;conv=>whnf))
   refine And.intro rfl ?_;exact sZ
  intro k hk IH;refine J.head ag F22 2000 ?_;(conv=>whnf);refine ai (fun h5=>?_) (fun h5=>?_)
  ·have ah:k<l.length:=by simpa using h5
   obtain⟨x,hx⟩:=aH ah;have Aj:=vu k hk;have oD:=ke x (afh hx);have aG:=Oc (fin:=fin) (cs:=aB) hx;refine gO F22 ?_;refine aD (e:=x.enc) (aO hx) rfl ?_;refine gO F22 ?_;refine dU ?_;refine S3 (XL x.cD (hs.each x (afh hx))) rfl ?_;refine gD ?_;refine zS (XM ((dN fin aB (l.take k)).map aQ.enc) (ev cH.en (x.cD.cZ.map aK.spot)) x.time) ?_;refine gD ?_;refine zS (XO (dN fin aB (l.take k)) (x.cD.cZ.map aK.spot) x.time (by omega)) ?_;refine gD ?_;refine And.intro (by kernel_rfl) ?_;(conv=>whnf);refine gO F22 ?_;refine J.loop (κ:=Nat) ([33]++[6,10,38,39,40,41,42,43,44,45,46,47,48,49,50,51,52,53,54,55,56,57,58]) (fun j=>[(38,.d (.int .i64 j)),(6,.own 9 1)]) (fun j=>[(8,.gone),(9,.arr 1 (68,5) ((jt (x.cD.cZ.map aK.spot) x.time (dN fin aB (l.take k))++iA fin x.time (x.cD.cZ.take j)).map aQ.enc))]) (fun j=>j<=x.cD.cZ.length) (fun j=>x.cD.cZ.length-j) 0 (afv _) ?_ ?_
   ·(conv=>whnf);repeat (first|exact trivial|(refine sI ?_;conv=>whnf))
    refine And.intro (by simp[iA]) ?_;exact sZ
   intro j hj JH;refine J.head ag F22 2000 ?_;(conv=>whnf);refine ai (fun h6=>?_) (fun h6=>?_)
   ·have H3:j<x.cD.cZ.length:=by simpa using h6
    obtain⟨p,hp⟩:=aH H3;have XY:=(hs.each x (afh hx)).eb p (afh hp);have dF:=XP (fin:=fin) (at_:=x.time) hp;refine gO F22 ?_;refine aD (e:=p.enc) (aO hp) rfl ?_;refine gO F22 ?_
    with_reducible refine aq (HV p.au XY) ?_
    refine gO F22 ?_;cases AM:fQ p.au
    ·have H4:iA fin x.time (x.cD.cZ.take (j+1))=iA fin x.time (x.cD.cZ.take j)++[⟨p.host,x.time,fin,p.au⟩]:=by rw[dF,AM];rfl
     have si:=Dy (ended:=x.cD.cZ.map aK.spot) (at_:=x.time) (dN fin aB (l.take k));have oQ:=Od (fin:=fin) (at_:=x.time) (l:=x.cD.cZ.take j);have hl3:(x.cD.cZ.take j).length<=x.cD.cZ.length:=by simp;omega
     refine aY rfl ?_;refine gO F22 ?_;refine aW ⟨by simp;omega,by simp[DV.cells]⟩ ?_;refine gO F22 ?_;refine J.back (JH (j+1) (by omega) (by omega)) ?_;rw[H4];(conv=>whnf);repeat (first|exact trivial|(refine sI ?_;conv=>whnf))
     refine And.intro (by simp) ?_;exact sZ
    ·have H4:iA fin x.time (x.cD.cZ.take (j+1))=iA fin x.time (x.cD.cZ.take j):=by rw[dF,AM];simp
     refine aU rfl ?_;refine gO F22 ?_;refine J.back (JH (j+1) (by omega) (by omega)) ?_;rw[H4];exact sZ
   ·have aC:x.cD.cZ.length<=j:=by simpa using h6
    rw[afS aC];refine gO F22 ?_;refine J.freeze 9 ?_;(conv=>whnf);refine J.back (IH (k+1) (by omega) (by omega)) ?_;rw[aG,mU];exact sZ
  ·have aC:l.length<=k:=by simpa using h5
   rw[afS aC];refine gO F22 ?_;have XZ:(dN fin aB l).length<=1000000:=by have:=vu l.length (Nat.le_refl _);rw[List.take_length]at this;omega
   with_reducible refine jK (XI (dN fin aB l) XZ) ?_
   rintro r h1 ⟨es,e1,e2⟩;subst e1;subst e2;cases hm:qo (dN fin aB l)
   ·have e1:applyN ⟨ay,aB,anchor,hints,bJ,fin⟩ l=0:=by simp[applyN,hv,hm]
    have e3:ew ⟨ay,aB,anchor,hints,bJ,fin⟩ l=⟨ay,dN fin aB l,anchor,hints,bJ,fin⟩:=by simp[ew,e1]
    have e2:rS ⟨ay,aB,anchor,hints,bJ,fin⟩ l=.aF [(⟨ay,dN fin aB l,anchor,hints,bJ,fin⟩:bO).enc,.int .i64 0]:=by simp[rS,e1,e3]
    rw[e2];refine gO F22 ?_;refine aR ?_;refine gO F22 ?_;clear IH vu hm e1 e2 e3;generalize dN fin aB l=C at *;cases C with
    |nil =>
     refine aq (WJ [] (by simp) (by simp)) ?_;refine gO F22 ?_;refine J.mB ?_;refine J.run ag F22 2000 ?_;(conv=>whnf);refine aU (by simp) ?_;refine gO F22 ?_
     with_reducible refine aq (HG (ay.map Host.enc) (by simpa using vP) (fun e h=>by obtain⟨c,_,rfl⟩:=aer.1 h;simp[DV.cells])) ?_
     refine gO F22 ?_
     with_reducible refine aq (x7 (anchor.data.map Datum.enc) (by simpa using HY) (fun e h=>by obtain⟨c,_,rfl⟩:=aer.1 h;simp[DV.cells])) ?_
     refine gO F22 ?_
     with_reducible refine aq (HH (hints.map (.int .i64)) (by simpa using HZ) (fun e h=>by obtain⟨c,_,rfl⟩:=aer.1 h;simp[DV.cells])) ?_
     refine gO F22 ?_;rfl
    |cons c0 C =>
     have aJ:c0::C≠[]:=by simp
     generalize c0::C=L at *;refine xn (WK (L.map aQ.enc) (by simpa using aJ) (by simp;omega) (fun e h=>by obtain⟨c,_,rfl⟩:=aer.1 h;rfl)) rfl ?_;refine gO F22 ?_;refine J.loop (κ:=Nat) ([12]++rg 70 16) (fun k=>[(70,.d (.int .i64 k))]) (fun k=>[(3,.arr 1 (68,5) (L.map aQ.enc))]) (fun k=>k<=L.length) (fun k=>L.length-k) 0 (afv _) ?_ ?_
     ·exact sZ
     intro k hk IH;refine J.head ag F22 2000 ?_;(conv=>whnf);refine ai (fun h5=>?_) (fun h5=>?_)
     ·have ah:k<L.length:=by simpa using h5
      obtain⟨x,hx⟩:=aH ah;have hb:0<=(k:Int)/\(k:Int)<((L.map aQ.enc).length:Int):=⟨by omega,by simp;omega⟩;have dR:(L.map aQ.enc).set (k:Int).toNat (DV.agg [.int .i64 x.host,.int .i64 x.bL,.int .i64 x.upto,.str x.au.ao,.sl (x.au.ae.map Signed.enc)])=L.map aQ.enc:=XV hx;refine gO F22 ?_;refine dU ?_;refine aW hb ?_;refine gD ?_;refine aD (e:=x.enc) (aO hx) rfl ?_;refine gD ?_;refine ax (WN x.au (Oe x (afh hx))) ?_;refine gD ?_;refine aW hb ?_;refine gD ?_;refine aD (e:=x.enc) (aO hx) rfl ?_;refine gD ?_;refine And.intro (by kernel_rfl) ?_;(conv=>whnf);rw[dR];refine gO F22 ?_;refine J.back (IH (k+1) (by omega) (by omega)) ?_;exact sZ
     ·refine gO F22 ?_
      with_reducible refine aq (HG (ay.map Host.enc) (by simpa using vP) (fun e h=>by obtain⟨c,_,rfl⟩:=aer.1 h;simp[DV.cells])) ?_
      refine gO F22 ?_
      with_reducible refine aq (x7 (anchor.data.map Datum.enc) (by simpa using HY) (fun e h=>by obtain⟨c,_,rfl⟩:=aer.1 h;simp[DV.cells])) ?_
      refine gO F22 ?_
      with_reducible refine aq (HH (hints.map (.int .i64)) (by simpa using HZ) (fun e h=>by obtain⟨c,_,rfl⟩:=aer.1 h;simp[DV.cells])) ?_
      refine gO F22 ?_
      with_reducible rfl
   ·have e1:applyN ⟨ay,aB,anchor,hints,bJ,fin⟩ l=2:=by simp[applyN,hv,hm]
    have e2:rS ⟨ay,aB,anchor,hints,bJ,fin⟩ l=.aF [.agg [.aI,.aI,.str [],.int .i64 0,.int .i64 0,.aI,.aI,.int .i64 0,.int .i64 0],.int .i64 2]:=by simp[rS,e1]
    rw[e2];refine gO F22 ?_;refine a8 ?_;refine gO F22 ?_
    with_reducible rfl
theorem H5(h:bO)(l:List Step)(hf:h.Fits)(dm:h.aB.length<=1000000)(hs:Steps.Fits l):ar E 22 [h.enc,.sl (l.map Step.enc)] (· = .aF [(ew h l).enc,.int .i64 (applyN h l)]):=by
 have H:=XW h l hf dm hs;by_cases h0:applyN h l=0
 ·refine H.mono fun r e=>?_;rw[e,rS,if_pos h0,h0]
 ·refine ar.norm (H.mono fun r e=>?_);rw[e,rS,if_neg h0,ew,if_neg h0];rfl

def AN(l:List aQ):List aK:=l.map fun c=>⟨c.host,c.au⟩



theorem X0(a b:List Host)(x y:cM)(c d:List Int)(hl:a.length<=1000000)(hc:c.length<=1000000)(hx:x.data.length<=2147483648):ar E 46 [.agg [.sl (a.map Host.enc),.aI,.str x.name,.int .i64 x.type,.int .i64 x.bY,.sl (x.data.map Datum.enc),.sl (c.map (.int .i64))],.agg [.sl (b.map Host.enc),.aI,.str y.name,.int .i64 y.type,.int .i64 y.bY,.sl (y.data.map Datum.enc),.sl (d.map (.int .i64))]] (· = .bool (decide (a=b)&&decide (c=d)&&decide (x=y))):=by
 refine eP F46 ?_;refine ai (fun h4=>?_) (fun h4=>?_)
 ·have aJ:a≠b:=by rintro rfl;simp at h4
  rw[decide_eq_false aJ];refine gO F46 ?_;refine a8 ?_;refine gO F46 ?_;refine a8 ?_;refine gO F46 ?_;simp
 ·have my:a.length=b.length:=by simp only[bne_eq_false_iff_eq,aff]at h4;omega
  refine gO F46 ?_;refine ai (fun h5=>?_) (fun h5=>?_)
  ·have aJ:c≠d:=by rintro rfl;simp at h5
   rw[decide_eq_false aJ];refine gO F46 ?_;refine a8 ?_;refine gO F46 ?_;simp
  ·have DA:c.length=d.length:=by simp only[bne_eq_false_iff_eq,aff]at h5;omega
   refine gO F46 ?_
   with_reducible refine aq (G9 x y hx) ?_
   refine gO F46 ?_;by_cases jO:x=y
   ·refine aU (by simp[jO]) ?_;rw[decide_eq_true jO];refine gO F46 ?_;refine J.loop (κ:=Nat) ([4,5]++rg 31 18) (fun k=>[(5,.d (.int .i64 k))]) (fun _=>[]) (fun k=>k<=a.length/\a.take k=b.take k) (fun k=>a.length-k) 0 ⟨afv _,rfl⟩ ?_ ?_
    ·exact sZ
    ·intro k hk IH;refine J.head ag F46 2000 ?_;(conv=>whnf);refine ai (fun h6=>?_) (fun h6=>?_)
     ·have ah:k<a.length:=by simpa using h6
      obtain⟨u,hu⟩:=aH ah;obtain⟨w,hw⟩:=aH (l:=b) (k:=k) (by omega);refine gO F46 ?_;refine dU ?_;refine aD (e:=u.enc) (aO hu) rfl ?_;refine gD ?_;refine aD (e:=w.enc) (aO hw) rfl ?_;refine gD ?_;refine gO F46 ?_;refine ai (fun h7=>?_) (fun h7=>?_)
      ·have aJ:u≠w:=by rintro rfl;simp at h7
       refine gO F46 ?_;rw[decide_eq_false (mL hu hw aJ)];simp
      ·have he:u=w:=by
        obtain⟨u1,u2,u3⟩:=u;obtain⟨w1,w2,w3⟩:=w;simp at h7;simp[h7]
       refine gO F46 ?_;refine J.back (IH (k+1) ⟨by omega,pg hk.2 hu hw he⟩ (by omega)) ?_;exact sZ
     ·have aC:k=a.length:=by simp at h6;omega
      have H6:a=b:=pj hk.2 (by omega) (by omega);rw[decide_eq_true H6];refine gO F46 ?_;refine J.loop (κ:=Nat) ([4,6]++rg 49 18) (fun k=>[(6,.d (.int .i64 k))]) (fun _=>[]) (fun k=>k<=c.length/\c.take k=d.take k) (fun k=>c.length-k) 0 ⟨afv _,rfl⟩ ?_ ?_
      ·exact sZ
      ·intro k hk IH;refine J.head ag F46 2000 ?_;(conv=>whnf);refine ai (fun h6=>?_) (fun h6=>?_)
       ·have ah:k<c.length:=by simpa using h6
        obtain⟨u,hu⟩:=aH ah;obtain⟨w,hw⟩:=aH (l:=d) (k:=k) (by omega);refine gO F46 ?_;refine dU ?_;refine aD (e := .int .i64 u) (aO hu) rfl ?_;refine gD ?_;refine aD (e := .int .i64 w) (aO hw) rfl ?_;refine gD ?_;refine gO F46 ?_;refine ai (fun h7=>?_) (fun h7=>?_)
        ·have aJ:u≠w:=by rintro rfl;simp at h7
         refine gO F46 ?_;rw[decide_eq_false (mL hu hw aJ)];simp
        ·have he:u=w:=by simpa using h7
         refine gO F46 ?_;refine J.back (IH (k+1) ⟨by omega,pg hk.2 hu hw he⟩ (by omega)) ?_;exact sZ
       ·have aC:k=c.length:=by simp at h6;omega
        have H7:c=d:=pj hk.2 (by omega) (by omega);refine gO F46 ?_;simp[H7]
   ·refine aY (by simp[jO]) ?_;rw[decide_eq_false jO];refine gO F46 ?_;simp
structure bO.fO(h:bO):Prop where
 ay:h.ay.length<=1000000
 aB:h.aB.length<=1000000
 hints:h.hints.length<=1000000
 anchor:h.anchor.data.length<=2147483648
 eb:∀ c∈h.aB,c.au.fO
theorem X1(h g:bO)(hf:h.fO):ar E 19 [h.enc,g.enc] (· = .bool (decide (h=g))):=by
 obtain⟨a,b,x,c,dr,fi⟩:=h;obtain⟨a2,b2,x2,c2,AO,AP⟩:=g;obtain⟨q1,q2,q3,q4,q5⟩:=hf;simp only at q1 q2 q3 q4 q5;have hd:decide ((⟨a,b,x,c,dr,fi⟩:bO)=⟨a2,b2,x2,c2,AO,AP⟩)=(decide (dr=AO)&&decide (fi=AP)&&(decide (a=a2)&&decide (c=c2)&&decide (x=x2))&&decide (b=b2)):=by
  rw[ahf];simp;constructor
  ·rintro⟨h1,h2,h3,h4,h5,h6⟩;exact⟨⟨⟨h5,h6⟩,⟨h1,h4⟩,h3⟩,h2⟩
  ·rintro⟨⟨⟨h5,h6⟩,⟨h1,h4⟩,h3⟩,h2⟩;exact⟨h1,h2,h3,h4,h5,h6⟩
 rw[hd];show ar E _ [DV.agg [.sl (a.map Host.enc),.sl (b.map aQ.enc),.str x.name,.int .i64 x.type,.int .i64 x.bY,.sl (x.data.map Datum.enc),.sl (c.map (.int .i64)),.int .i64 dr,.int .i64 fi],DV.agg [.sl (a2.map Host.enc),.sl (b2.map aQ.enc),.str x2.name,.int .i64 x2.type,.int .i64 x2.bY,.sl (x2.data.map Datum.enc),.sl (c2.map (.int .i64)),.int .i64 AO,.int .i64 AP]] _;have vP:=X0 a a2 x x2 c c2 q1 q3 q4;refine eP F19 ?_;refine ai (fun h4=>?_) (fun h4=>?_)
 ·have aJ:dr≠AO:=by rintro rfl;simp at h4
  rw[decide_eq_false aJ];refine gO F19 ?_;refine a8 ?_;refine gO F19 ?_;refine a8 ?_;refine gO F19 ?_;refine a8 ?_;refine gO F19 ?_;simp
 ·have X2:dr=AO:=by simpa using h4
  rw[decide_eq_true X2];refine gO F19 ?_;refine ai (fun h5=>?_) (fun h5=>?_)
  ·have aJ:fi≠AP:=by rintro rfl;simp at h5
   rw[decide_eq_false aJ];refine gO F19 ?_;refine a8 ?_;refine gO F19 ?_;refine a8 ?_;refine gO F19 ?_;simp
  ·have X3:fi=AP:=by simpa using h5
   rw[decide_eq_true X3];refine gO F19 ?_;refine ai (fun h6=>?_) (fun h6=>?_)
   ·have aJ:b≠b2:=by rintro rfl;simp at h6
    rw[decide_eq_false aJ];refine gO F19 ?_;refine a8 ?_;refine gO F19 ?_;simp
   ·have qP:b.length=b2.length:=by simp only[bne_eq_false_iff_eq,aff]at h6;omega
    refine gO F19 ?_
    with_reducible refine aq (vP) ?_
    refine gO F19 ?_;generalize (decide (a=a2)&&decide (c=c2)&&decide (x=x2))=W at *;cases W
    ·refine a8 ?_;refine gO F19 ?_;simp
    ·refine aR ?_;refine gO F19 ?_;refine J.loop (κ:=Nat) (rg 4 4++rg 47 44) (fun k=>[(5,.d (.int .i64 k))]) (fun _=>[]) (fun k=>k<=b.length/\b.take k=b2.take k) (fun k=>b.length-k) 0 ⟨afv _,rfl⟩ ?_ ?_
     ·exact sZ
     ·intro k hk IH;refine J.head ag F19 2000 ?_;(conv=>whnf);refine ai (fun h7=>?_) (fun h7=>?_)
      ·have ah:k<b.length:=by simpa using h7
       obtain⟨u,hu⟩:=aH ah;obtain⟨w,hw⟩:=aH (l:=b2) (k:=k) (by omega);have kR:=q5 u (afh hu);refine gO F19 ?_;refine aD (e:=u.enc) (aO hu) rfl ?_;refine gO F19 ?_;refine aD (e:=w.enc) (aO hw) rfl ?_;refine gO F19 ?_;refine ai (fun h8=>?_) (fun h8=>?_)
       ·have aJ:u≠w:=by rintro rfl;simp at h8
        refine gO F19 ?_;refine a8 ?_;refine gO F19 ?_;refine a8 ?_;refine gO F19 ?_;refine a8 ?_;refine gO F19 ?_;rw[decide_eq_false (mL hu hw aJ)];simp
       ·have e1:u.host=w.host:=by simpa using h8
        refine gO F19 ?_;refine ai (fun h9=>?_) (fun h9=>?_)
        ·have aJ:u≠w:=by rintro rfl;simp at h9
         refine gO F19 ?_;refine a8 ?_;refine gO F19 ?_;refine a8 ?_;refine gO F19 ?_;rw[decide_eq_false (mL hu hw aJ)];simp
        ·have e2:u.bL=w.bL:=by simpa using h9
         refine gO F19 ?_;refine ai (fun vO=>?_) (fun vO=>?_)
         ·have aJ:u≠w:=by rintro rfl;simp at vO
          refine gO F19 ?_;refine a8 ?_;refine gO F19 ?_;rw[decide_eq_false (mL hu hw aJ)];simp
         ·have e3:u.upto=w.upto:=by simpa using vO
          refine gO F19 ?_
          with_reducible refine aq (C5 u.au w.au kR) ?_
          refine gO F19 ?_;by_cases hz:u.au=w.au
          ·have he:u=w:=by
            obtain⟨u1,u2,u3,u4⟩:=u;obtain⟨w1,w2,w3,w4⟩:=w;simp only at e1 e2 e3 hz;rw[e1,e2,e3,hz]
           refine aU (by simp[hz]) ?_;refine gO F19 ?_;refine J.back (IH (k+1) ⟨by omega,pg hk.2 hu hw he⟩ (by omega)) ?_;exact sZ
          ·have aJ:u≠w:=fun e=>hz (e ▸ rfl);refine aY (by simp[hz]) ?_;refine gO F19 ?_;rw[decide_eq_false (mL hu hw aJ)];simp
      ·have aC:k=b.length:=by simp at h7;omega
       have vQ:b=b2:=pj hk.2 (by omega) (by omega);refine gO F19 ?_;simp[vQ]
end Go.Proofs.YtfmdaiojokniiaaGreatDoor.P
end
