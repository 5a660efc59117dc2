/- Lemmas of mine. Conditions: as stated. -/
import Derived.Test.YtfmdaiojokniiaaGreatDoorU14
import Derived.Test.YtfmdaiojokniiaaGreatDoorU16
set_option linter.unusedVariables false
set_option linter.unusedSimpArgs false
section
namespace Go.Proofs.YtfmdaiojokniiaaGreatDoor.P
open Go Go.ay
set_option maxRecDepth 100000
set_option maxHeartbeats 4000000
def pW(s:kQ):Bool:=decide (s.cA.length<=20)&&s.cA.all fun p=>lN p.aw
theorem W3(s:kQ):aq E 94 [s.enc] (· = .bool (pW s)):=by
 obtain⟨l⟩:=s;unfold pW;simp only;show aq E _ [DV.agg [.sl (l.map bc.enc)]] _;refine eP F94 ?_;refine I.loop (κ:=Nat) (rg 2 21) (fun k=>[(3,.d (.int .i64 k))]) (fun _=>[]) (fun k=>k<=l.length/\k<=20/\(l.take k).all (fun p=>lN p.aw)=true) (fun k=>l.length-k) 0 ⟨Nat.zero_le _,by omega,rfl⟩ ?_ ?_
 ·exact sZ
 intro k hk IH;refine I.head ab F94 2000 ?_;(conv=>whnf);refine ai (fun h5=>?_) (fun h5=>?_)
 ·have ah:k<l.length:=by simpa using h5
  refine gO F94 ?_;refine ai (fun h6=>?_) (fun h6=>?_)
  ·have vc:k<20:=by have:=of_decide_eq_true h6;omega
   obtain⟨x,hx⟩:=aG ah;refine gO F94 ?_;refine aB (e:=x.enc) (aN hx) rfl ?_;refine gO F94 ?_
   with_reducible refine ao (Gx x.aw) ?_
   refine gO F94 ?_;cases hz:lN x.aw
   ·refine bj ?_;refine gO F94 ?_;rw[di (p:=fun p=>lN p.aw) hx hz,Bool.and_false]
   ·refine aR ?_;refine gO F94 ?_;refine I.back (IH (k+1) ⟨by omega,by omega,dw (p:=fun p=>lN p.aw) hk.2.2 hx hz⟩ (by omega)) ?_;exact sZ
  ·have vc:¬ k<20:=by have:=of_decide_eq_false h6;omega
   have fM:=hk.2.1;have hle:¬ l.length<=20:=by omega
   refine gO F94 ?_;rw[decide_eq_false hle,Bool.false_and];simp;omega
 ·have aA:l.length<=k:=by simpa using h5
  have fM:=hk.2.1;have hle:l.length<=20:=by omega
  rw[lI (p:=fun p=>lN p.aw) hk.2.2 aA,decide_eq_true hle];refine gO F94 ?_;refine aR ?_;refine gO F94 ?_;have:decide (((l.map bc.enc).length:Int)<=20)=true:=by simp;omega
  rw[this];rfl
def xQ(l:List Step):Bool:=decide (l.length<=20)&&l.all fun s=>pW s.cb
theorem W4(l:List Step):aq E 36 [.sl (l.map Step.enc)] (· = .bool (xQ l)):=by
 unfold xQ;refine eP F36 ?_;refine I.loop (κ:=Nat) (rg 2 19) (fun k=>[(3,.d (.int .i64 k))]) (fun _=>[]) (fun k=>k<=l.length/\k<=20/\(l.take k).all (fun p=>pW p.cb)=true) (fun k=>l.length-k) 0 ⟨Nat.zero_le _,by omega,rfl⟩ ?_ ?_
 ·exact sZ
 intro k hk IH;refine I.head ab F36 2000 ?_;(conv=>whnf);refine ai (fun h5=>?_) (fun h5=>?_)
 ·have ah:k<l.length:=by simpa using h5
  refine gO F36 ?_;refine ai (fun h6=>?_) (fun h6=>?_)
  ·have vc:k<20:=by have:=of_decide_eq_true h6;omega
   obtain⟨x,hx⟩:=aG ah;refine gO F36 ?_;refine aB (e:=x.enc) (aN hx) rfl ?_;refine gO F36 ?_
   with_reducible refine ao (W3 x.cb) ?_
   refine gO F36 ?_;cases hz:pW x.cb
   ·refine bj ?_;refine gO F36 ?_;rw[di (p:=fun p=>pW p.cb) hx hz,Bool.and_false]
   ·refine aR ?_;refine gO F36 ?_;refine I.back (IH (k+1) ⟨by omega,by omega,dw (p:=fun p=>pW p.cb) hk.2.2 hx hz⟩ (by omega)) ?_;exact sZ
  ·have vc:¬ k<20:=by have:=of_decide_eq_false h6;omega
   have fM:=hk.2.1;have hle:¬ l.length<=20:=by omega
   refine gO F36 ?_;rw[decide_eq_false hle,Bool.false_and];simp;omega
 ·have aA:l.length<=k:=by simpa using h5
  have fM:=hk.2.1;have hle:l.length<=20:=by omega
  rw[lI (p:=fun p=>pW p.cb) hk.2.2 aA,decide_eq_true hle];refine gO F36 ?_;refine aR ?_;refine gO F36 ?_;have:decide (((l.map Step.enc).length:Int)<=20)=true:=by simp;omega
  rw[this];rfl
def o6(c:aY):Bool:=lN c.aw && !(decide ((c.aw.aj.length:Int)>100))
def As(h:bZ):Bool:=(h.aE.take 21).all o6&&(h.aC.take 71).all lR&&xN h.aE.length h.aC.length h.hints.length h.anchor.data.length
theorem W5(h:bZ):aq E 11 [h.enc] (· = .bool (As h)):=by
 obtain⟨aC,aE,anchor,hints,bN,fin⟩:=h;unfold As;simp only;show aq E _ [DV.agg [.sl (aC.map Host.enc),.sl (aE.map aY.enc),.str anchor.name,.int .i64 anchor.type,.int .i64 anchor.cy,.sl (anchor.data.map Datum.enc),.sl (hints.map (.int .i64)),.int .i64 bN,.int .i64 fin]] _;refine eP F11 ?_;refine I.loop (κ:=Nat) ([2,3]++rg 5 30) (fun k=>[(3,.d (.int .i64 k))]) (fun _=>[]) (fun k=>k<=aE.length/\k<=21/\(aE.take k).all o6=true) (fun k=>aE.length-k) 0 ⟨Nat.zero_le _,by omega,rfl⟩ ?_ ?_
 ·exact sZ
 intro k hk IH;refine I.head ab F11 2000 ?_;(conv=>whnf);have fM:=hk.2.1;refine ai (fun h5=>?_) (fun h5=>?_)
 ·have ah:k<aE.length:=by simpa using h5
  refine gO F11 ?_;refine ai (fun h6=>?_) (fun h6=>?_)
  ·have vc:k<=20:=by have:=of_decide_eq_true h6;omega
   obtain⟨x,hx⟩:=aG ah;refine gO F11 ?_;refine aB (e:=x.enc) (aN hx) rfl ?_;refine gO F11 ?_
   with_reducible refine ao (Gx x.aw) ?_
   refine gO F11 ?_;cases hz:lN x.aw
   ·have ix:o6 x=false:=by rw[o6,hz];rfl
    refine bj ?_;refine gO F11 ?_;refine bj ?_;refine gO F11 ?_;rw[di (k:=k) (by rw[List.getElem?_take,if_pos (by omega)];exact hx) ix,Bool.false_and,Bool.false_and]
   ·refine aR ?_;refine gO F11 ?_;refine aB (e:=x.enc) (aN hx) rfl ?_;refine gO F11 ?_;refine ai (fun h7=>?_) (fun h7=>?_)
    ·have ix:o6 x=false:=by rw[o6,hz,h7];rfl
     refine gO F11 ?_;rw[di (k:=k) (by rw[List.getElem?_take,if_pos (by omega)];exact hx) ix,Bool.false_and,Bool.false_and]
    ·have ix:o6 x=true:=by rw[o6,hz,h7];rfl
     refine gO F11 ?_;refine I.back (IH (k+1) ⟨by omega,by omega,dw hk.2.2 hx ix⟩ (by omega)) ?_;exact sZ
  ·have W6:k=21:=by have:=of_decide_eq_false h6;omega
   have iU:(aE.take 21).all o6=true:=by rw[<- W6];exact hk.2.2
   rw[iU,Bool.true_and];refine gO F11 ?_;refine I.loop (κ:=Nat) ([2,4]++rg 35 19) (fun k=>[(4,.d (.int .i64 k))]) (fun _=>[]) (fun k=>k<=aC.length/\k<=71/\(aC.take k).all lR=true) (fun k=>aC.length-k) 0 ⟨Nat.zero_le _,by omega,rfl⟩ ?_ ?_
   ·exact sZ
   intro j hj JH;refine I.head ab F11 2000 ?_;(conv=>whnf);have Au:=hj.2.1;refine ai (fun g5=>?_) (fun g5=>?_)
   ·have ah:j<aC.length:=by simpa using g5
    refine gO F11 ?_;refine ai (fun g6=>?_) (fun g6=>?_)
    ·have W7:j<=70:=by have:=of_decide_eq_true g6;omega
     obtain⟨x,hx⟩:=aG ah;refine gO F11 ?_;refine aB (e:=x.enc) (aN hx) rfl ?_;refine gO F11 ?_;refine ai (fun g7=>?_) (fun g7=>?_)
     ·have hz:lR x=false:=by rw[lR,g7];rfl
      refine gO F11 ?_;rw[di (k:=j) (by rw[List.getElem?_take,if_pos (by omega)];exact hx) hz,Bool.false_and]
     ·have hz:lR x=true:=by rw[lR,g7];rfl
      refine gO F11 ?_;refine I.back (JH (j+1) ⟨by omega,by omega,dw hj.2.2 hx hz⟩ (by omega)) ?_;exact sZ
    ·have Ho:j=71:=by have:=of_decide_eq_false g6;omega
     have aJ:(aC.take 71).all lR=true:=by rw[<- Ho];exact hj.2.2
     rw[aJ];refine gO F11 ?_;clear IH JH;repeat' (first|with_reducible(first|refine cY ?_|refine cN ?_|refine ai (fun _=>?_) (fun _=>?_))|refine gA F11 ?_|refine gB ?_|with_reducible rfl)
     all_goals
      clear aJ iU hk hj;simp_all[xN];try (first|omega|(rw[Bool.eq_iff_iff];simp;omega))
   ·have aA:aC.length<=j:=by simpa using g5
    have aJ:(aC.take 71).all lR=true:=by
     have h1:=lI hj.2.2 aA;rw[List.all_eq_true]at h1 ⊢;exact fun y hy=>h1 y (List.mem_of_mem_take hy)
    rw[aJ];refine gO F11 ?_;refine aR ?_;refine gO F11 ?_;clear IH JH;repeat' (first|with_reducible(first|refine cY ?_|refine cN ?_|refine ai (fun _=>?_) (fun _=>?_))|refine gA F11 ?_|refine gB ?_|with_reducible rfl)
    all_goals
     clear aJ iU hk hj;simp_all[xN];try (first|omega|(rw[Bool.eq_iff_iff];simp;omega))
 ·have aA:aE.length<=k:=by simpa using h5
  have iU:(aE.take 21).all o6=true:=by
   have h1:=lI hk.2.2 aA;rw[List.all_eq_true]at h1 ⊢;exact fun y hy=>h1 y (List.mem_of_mem_take hy)
  rw[iU,Bool.true_and];refine gO F11 ?_;refine aR ?_;refine gO F11 ?_;refine I.loop (κ:=Nat) ([2,4]++rg 35 19) (fun k=>[(4,.d (.int .i64 k))]) (fun _=>[]) (fun k=>k<=aC.length/\k<=71/\(aC.take k).all lR=true) (fun k=>aC.length-k) 0 ⟨Nat.zero_le _,by omega,rfl⟩ ?_ ?_
  ·exact sZ
  intro j hj JH;refine I.head ab F11 2000 ?_;(conv=>whnf);have Au:=hj.2.1;refine ai (fun g5=>?_) (fun g5=>?_)
  ·have ah:j<aC.length:=by simpa using g5
   refine gO F11 ?_;refine ai (fun g6=>?_) (fun g6=>?_)
   ·have W7:j<=70:=by have:=of_decide_eq_true g6;omega
    obtain⟨x,hx⟩:=aG ah;refine gO F11 ?_;refine aB (e:=x.enc) (aN hx) rfl ?_;refine gO F11 ?_;refine ai (fun g7=>?_) (fun g7=>?_)
    ·have hz:lR x=false:=by rw[lR,g7];rfl
     refine gO F11 ?_;rw[di (k:=j) (by rw[List.getElem?_take,if_pos (by omega)];exact hx) hz,Bool.false_and]
    ·have hz:lR x=true:=by rw[lR,g7];rfl
     refine gO F11 ?_;refine I.back (JH (j+1) ⟨by omega,by omega,dw hj.2.2 hx hz⟩ (by omega)) ?_;exact sZ
   ·have Ho:j=71:=by have:=of_decide_eq_false g6;omega
    have aJ:(aC.take 71).all lR=true:=by rw[<- Ho];exact hj.2.2
    rw[aJ];refine gO F11 ?_;clear IH JH;repeat' (first|with_reducible(first|refine cY ?_|refine cN ?_|refine ai (fun _=>?_) (fun _=>?_))|refine gA F11 ?_|refine gB ?_|with_reducible rfl)
    all_goals
     clear aJ iU hk hj;simp_all[xN];try (first|omega|(rw[Bool.eq_iff_iff];simp;omega))
  ·have aA:aC.length<=j:=by simpa using g5
   have aJ:(aC.take 71).all lR=true:=by
    have h1:=lI hj.2.2 aA;rw[List.all_eq_true]at h1 ⊢;exact fun y hy=>h1 y (List.mem_of_mem_take hy)
   rw[aJ];refine gO F11 ?_;refine aR ?_;refine gO F11 ?_;clear IH JH;repeat' (first|with_reducible(first|refine cY ?_|refine cN ?_|refine ai (fun _=>?_) (fun _=>?_))|refine gA F11 ?_|refine gB ?_|with_reducible rfl)
   all_goals
    clear aJ iU hk hj;simp_all[xN];try (first|omega|(rw[Bool.eq_iff_iff];simp;omega))
abbrev mH:=Int × Int × Text
@[reducible] def mH.en (p : mH) : DV := .agg [.int .i64 p.1, .int .i64 p.2.1, .str p.2.2]
theorem Np(a b:mH):eE (mH.en a) (mH.en b)=decide (a=b):=by
 show((a.1==b.1)&&((a.2.1==b.2.1)&&((a.2.2==b.2.2)&&true)))=_;rw[Bool.eq_iff_iff];simp[Prod.ext_iff]
theorem Nq{es:List (DV × DV)}(h:mA mH.en es):∀ p∈es,dn E.T (TK.struct [(0,3),(1,3),(2,9)]) p.1:=fun p hp=>by
 obtain⟨a,e⟩:=h p hp;rw[e];exact⟨_,rfl,rfl,⟨_,rfl,_,rfl⟩,rfl,⟨_,rfl,_,rfl⟩,rfl,⟨_,rfl,_,rfl⟩,trivial⟩
def Claim.key(c:Claim):mH:=(c.host,c.time,c.aw.aj)
def ou(n:Nat)(fin t:Int)(S:List mH)(c:Claim):Bool:=je n ⟨c.host,c.aw⟩&&decide (t<=c.time)&&decide (c.time<fin)&&decide (c.key ∉ S)
def gI(n:Nat)(fin:Int):Int->List mH->List Claim->Bool
 |_,_,[]=>true
 |t,S,c::l=>ou n fin t S c&&gI n fin c.time (S++[c.key]) l
def mI(h:bZ)(l:List Claim):Bool:=decide (l.length<=4000)&&gI h.aC.length h.fin 0 [] l
def eR(l:List Claim)(k:Nat):Int:=match bL l k with
 |none=>0
 |some q=>q.time
theorem Nr{n:Nat}{fin:Int}{l:List Claim}{k:Nat}{x:Claim}(hx:l[k]?=some x):gI n fin (eR l k) ((l.take k).map Claim.key) (l.drop k)=(ou n fin (eR l k) ((l.take k).map Claim.key) x&&gI n fin (eR l (k+1)) ((l.take (k+1)).map Claim.key) (l.drop (k+1))):=by
 obtain⟨hk,e⟩:=List.getElem?_eq_some_iff.1 hx;have e2:eR l (k+1)=x.time:=by simp[eR,bL,hx]
 rw[List.drop_eq_getElem_cons hk,e,gI,cK hx,List.map_append,e2];rfl
def ov.Fits(l:List Claim):Prop:=l.length<=maxLen/\∀ c∈l,c.aw.Fits
theorem W8(z:aX)(hf:z.Fits):aq E 118 [z.enc] (· = .bool (kV z)):=by
 have c1:=gG z.aj hf.aj;have e2:z.ae.isEmpty=(((z.ae.map Signed.enc).length:Int)==0):=by
  rw[Bool.eq_iff_iff];simp[List.isEmpty_iff]
 unfold kV;rw[e2];cases h1:Nm.valid z.aj
 ·rw[h1]at c1;refine eP Tryz.func118 ?_;repeat' (first|with_reducible(first|refine ao (c1) ?_|refine au (c1) ?_|refine cY ?_|refine cN ?_|refine ai (fun _=>?_) (fun _=>?_))|refine gA Tryz.func118 ?_|refine gB ?_|with_reducible rfl)
  all_goals simp_all
 rw[h1]at c1;rw[GP h1];have h2:=Nm.K0 _ h1;obtain⟨aj,l⟩:=z;simp only at c1 h2 ⊢;cases aj with
 |nil=>simp at h2
 |cons c r =>
  show aq E _ [DV.agg [.str (c::r),.sl (l.map Signed.enc)]] _;have e:((c.toNat:Int) != 42) = !(c==42):=by
   rw[Bool.eq_iff_iff];simp only[bne_iff_ne,ne_eq,Bool.not_eq_true',beq_eq_false_iff_ne];exact not_congr ⟨fun h=>UInt8.toNat_inj.1 (Int.ofNat.inj h),fun h=>h ▸ rfl⟩
  refine eP Tryz.func118 ?_;repeat' (first|with_reducible(first|refine ao (c1) ?_|refine au (c1) ?_|refine cY ?_|refine cN ?_|refine ai (fun _=>?_) (fun _=>?_))|refine gA Tryz.func118 ?_|refine gB ?_|with_reducible rfl)
  all_goals try (simp_all;done)
  refine kD c (by decide) rfl ?_;refine gO Tryz.func118 ?_;rw[e];refine congrArg DV.bool ?_;simp_all[Nm.ia]
theorem W9(h:bZ)(l:List Claim)(hf:ov.Fits l):aq E 54 [h.enc,.sl (l.map Claim.enc)] (· = .bool (mI h l)):=by
 obtain⟨aC,aE,anchor,hints,bN,fin⟩:=h;obtain⟨hl,hz⟩:=hf;unfold maxLen at hl;unfold mI;simp only;show aq E _ [DV.agg [.sl (aC.map Host.enc),.sl (aE.map aY.enc),.str anchor.name,.int .i64 anchor.type,.int .i64 anchor.cy,.sl (anchor.data.map Datum.enc),.sl (hints.map (.int .i64)),.int .i64 bN,.int .i64 fin],_] _;refine eP F54 ?_;refine I.loop (κ:=Nat) (rg 4 90) (fun k=>[(5,.d (.int .i64 k))]) (fun _=>[]) (fun k=>k<=l.length/\gI aC.length fin 0 [] l=gI aC.length fin (eR l k) ((l.take k).map Claim.key) (l.drop k)/\0<=eR l k) (fun k=>l.length-k) 0 ⟨Nat.zero_le _,rfl,Int.le_refl 0⟩ ?_ ?_
 ·exact sZ
 rintro i ⟨hi,jf,cQ⟩ IH;refine I.head ab F54 2000 ?_;(conv=>whnf);refine ai (fun h5=>?_) (fun h5=>?_)
 ·have ah:i<l.length:=by simpa using h5
  obtain⟨x,hx⟩:=aG ah;have fu:=hz x (List.mem_of_getElem? hx);rw[Nr hx]at jf;have bg:aq E 130 [.int .i64 ((aC.map Host.enc).length:Nat),.agg [.sl [.agg [.int .i64 x.host,.str x.aw.aj,.sl (x.aw.ae.map Signed.enc)]]]] (· = .bool (je aC.length ⟨x.host,x.aw⟩)):=by
   have:=Nh ⟨[⟨x.host,x.aw⟩]⟩ (aC.map Host.enc).length ⟨fun p hp=>by simp at hp;subst hp;exact fu,by simp⟩
   rwa [show iG (aC.map Host.enc).length ⟨[⟨x.host,x.aw⟩]⟩=je aC.length ⟨x.host,x.aw⟩ by simp[iG]]at this
  refine gO F54 ?_;refine aB (e:=x.enc) (aN hx) rfl ?_;refine gO F54 ?_;have C9:∀ b r,gI aC.length fin 0 [] l=(b&&r)->b=false->DV.bool false=DV.bool (decide (l.length<=4000)&&gI aC.length fin 0 [] l):=fun b r h1 h2=>by rw[h1,h2];simp
  obtain⟨q,hq⟩:∃ q,0<i->l[i-1]?=some q/\eR l i=q.time:=by
   by_cases h0:0<i
   ·obtain⟨q,h1,h2⟩:=qZ h0 hi;exact⟨q,fun _=>⟨h1,by rw[eR,h2]⟩⟩
   ·exact⟨x,fun h=>absurd h h0⟩
  have Xa:¬ 0<i->eR l i=0:=fun h=>by rw[show i=0 by omega];rfl
  have bad:=fun h=>C9 _ _ jf h;have pos:decide ((i:Int)>0)=true->0<i:=fun h=>by simpa using h
  have Xb:decide ((i:Int)>0)=true->sO (l.map Claim.enc) (IntKind.i64.wrap ((i:Int)-1)) q.enc:=fun h=>by
   have h0:=pos h;rw[wrap64 (by omega) (by omega),show(i:Int)-1=((i-1:Nat):Int) by omega];exact aN (hq h0).1
  have lG:decide ((i:Int)>0)=true->eR l i=q.time:=fun h=>(hq (pos h)).2;have MB:decide ((i:Int)>0)=false->eR l i=0:=fun h=>Xa (by simpa using h);have xR:ou aC.length fin (eR l i) ((l.take i).map Claim.key) x=(je aC.length ⟨x.host,x.aw⟩&&decide (eR l i<=x.time)&&decide (x.time<fin)&&decide (x.key ∉ (l.take i).map Claim.key)):=rfl;refine I.bJ ab bG 2000 (by kernel_rfl) ?_;(conv=>whnf);repeat' (first|with_reducible(first|refine ao (bg) ?_|refine au (bg) ?_|refine aB (Xb (by assumption)) rfl ?_|refine cY ?_|refine cN ?_|refine ai (fun _=>?_) (fun _=>?_))|refine gA F54 ?_|refine gB ?_|with_reducible rfl)
  all_goals try (exact bad (by rw[xR];simp_all;try omega))
  all_goals
   have hk:ou aC.length fin (eR l i) ((l.take i).map Claim.key) x=decide (x.key ∉ (l.take i).map Claim.key):=by
    rw[xR];have:je aC.length ⟨x.host,x.aw⟩=true/\eR l i<=x.time/\x.time<fin:=by refine⟨?_,?_,?_⟩<;>simp_all<;>omega
    simp[this.1,this.2.1,this.2.2]
   have ht:0<=x.time:=by simp_all
   refine gO F54 ?_;refine I.loop (κ:=Nat) ([4,8]++rg 59 35) (fun j=>[(8,.d (.int .i64 j))]) (fun _=>[]) (fun j=>j<=i/\∀ m y,m<j->l[m]?=some y->y.key≠x.key) (fun j=>i-j) 0 ⟨Nat.zero_le _,fun m y h=>by omega⟩ ?_ ?_
   ·exact sZ
   rintro j ⟨hj,bK⟩ JH;refine I.head ab F54 2000 ?_;(conv=>whnf);refine ai (fun h8=>?_) (fun h8=>?_)
   ·have ly:j<i:=by simpa using h8
    obtain⟨y,hy⟩:=aG (l:=l) (k:=j) (by omega);have Ns:y.key=x.key↔y.host=x.host/\y.time=x.time/\y.aw.aj=x.aw.aj:=by simp[Claim.key]
    have Xc:y.key=x.key->ou aC.length fin (eR l i) ((l.take i).map Claim.key) x=false:=fun e=>by
     rw[hk,decide_eq_false_iff_not,Classical.not_not,<- e];exact List.mem_map.2 ⟨y,List.mem_of_getElem? (by rw[List.getElem?_take,if_pos ly];exact hy),rfl⟩
    refine gO F54 ?_;refine I.bJ ab bG 2000 (by kernel_rfl) ?_;(conv=>whnf);repeat' (first|with_reducible(first|refine aB (aN hy) rfl ?_|refine cY ?_|refine cN ?_|refine ai (fun _=>?_) (fun _=>?_))|refine gA F54 ?_|refine gB ?_|with_reducible rfl)
    all_goals try (exact bad (Xc (Ns.2 ⟨by simp_all,by simp_all,by simp_all⟩)))
    all_goals
     have aI:y.key≠x.key:=fun e=>by
      have:=Ns.1 e;simp_all
     refine gO F54 ?_;refine I.back (JH (j+1) ⟨by omega,fun m z hm hz=>(Nat.lt_succ_iff_lt_or_eq.1 hm).elim (bK m z · hz) (fun e=>by subst e;rw[hy]at hz;cases hz;exact aI)⟩ (by omega)) ?_;exact sZ
   ·have aA:j=i:=by simp at h8;omega
    subst aA;have aM:ou aC.length fin (eR l j) ((l.take j).map Claim.key) x=true:=by
     rw[hk,decide_eq_true_eq];intro hm;obtain⟨y,hy,e⟩:=List.mem_map.1 hm;obtain⟨m,hm⟩:=List.getElem?_of_mem hy;have Xd:=aQ hm;rw[List.length_take]at Xd;rw[List.getElem?_take,if_pos (by omega)]at hm;exact bK m y (by omega) hm e
    refine gO F54 ?_;refine I.back (IH (j+1) ⟨by omega,by rw[jf,aM];rfl,by simp[eR,bL,hx,ht]⟩ (by omega)) ?_;exact sZ
 ·have aA:l.length<=i:=by simpa using h5
  rw[List.drop_eq_nil_of_le aA]at jf;refine gO F54 ?_;rw[jf];simp[gI];try omega
def xS(e:fm):Bool:=(e.eh.take 21).all (fun c=>lN c.aw)&&(e.jY.take 11).all rp&&As e.before&&xQ e.steps&&decide ((e.eh.length:Int)<=20)&&decide ((e.jY.length:Int)<=10)
def cP.Nt(t:cP):Prop:=t.cache.list.length<=maxLen/\t.heard.length<=maxLen/\(∀ x∈t.heard,x.answer.ae.length<=maxLen)/\t.result.ae.length<=maxLen
theorem Xe(e:fm)(h1:e.eh.length<=maxLen)(h2:e.jY.length<=maxLen)(h3:∀ t∈e.jY,t.Nt):aq E 10 [e.enc] (· = .bool (xS e)):=by
 have c1:=W5 e.before;have c2:=W4 e.steps;obtain⟨⟨aC,aE,anchor,hints,bN,fin⟩,sl,cl,tl⟩:=e;unfold xS;simp only at c1 c2 h1 h2 h3 ⊢;unfold maxLen at h1 h2;show aq E _ [DV.agg [.sl (aC.map Host.enc),.sl (aE.map aY.enc),.str anchor.name,.int .i64 anchor.type,.int .i64 anchor.cy,.sl (anchor.data.map Datum.enc),.sl (hints.map (.int .i64)),.int .i64 bN,.int .i64 fin,.sl (sl.map Step.enc),.sl (cl.map Claim.enc),.sl (tl.map cP.enc)]] _;refine eP F10 ?_;refine I.loop (κ:=Nat) ([2,3,4]++rg 7 20) (fun k=>[(3,.d (.int .i64 k))]) (fun _=>[]) (fun k=>k<=cl.length/\k<=21/\(cl.take k).all (fun c=>lN c.aw)=true) (fun k=>cl.length-k) 0 ⟨Nat.zero_le _,by omega,rfl⟩ ?_ ?_
 ·exact sZ
 rintro k ⟨hk,fM,aJ⟩ IH;refine I.head ab F10 2000 ?_;(conv=>whnf);by_cases ah:k<cl.length/\k<21
 ·obtain⟨x,hx⟩:=aG ah.1;have no:=fun h=>di (l:=cl.take 21) (k:=k) (p:=fun c:Claim=>lN c.aw) (by rw[List.getElem?_take,if_pos ah.2];exact hx) h;have back:=fun h=>IH (k+1) ⟨by omega,by omega,dw aJ hx h⟩ (by omega);have c3:=Gx x.aw;refine aU (by simp;omega) ?_;refine gO F10 ?_;refine aU (by simp;omega) ?_;refine gO F10 ?_;repeat' (first|with_reducible(first|refine aB (aN hx) rfl ?_|refine ao (c3) ?_|refine au (c3) ?_|refine cY ?_|refine cN ?_|refine ai (fun _=>?_) (fun _=>?_))|refine gA F10 ?_|refine gB ?_|with_reducible rfl)
  all_goals try (rw[no (by simp_all)];simp;done)
  refine gO F10 ?_;refine I.back (back (by simp_all)) ?_;exact sZ
 ·rw[z7 aJ ah fM];by_cases h:k<cl.length
  case pos =>
   refine aU (by simpa using h) ?_;refine gO F10 ?_;refine aW (by simp;omega) ?_;refine gO F10 ?_;refine I.loop (κ:=Nat) ([2,5,6]++rg 27 19) (fun k=>[(5,.d (.int .i64 k))]) (fun _=>[]) (fun k=>k<=tl.length/\k<=11/\(tl.take k).all rp=true) (fun k=>tl.length-k) 0 ⟨Nat.zero_le _,by omega,rfl⟩ ?_ ?_
   ·exact sZ
   clear IH;rintro j ⟨hj,Au,vu⟩ JH;refine I.head ab F10 2000 ?_;(conv=>whnf);by_cases rE:j<tl.length/\j<11
   ·obtain⟨x,hx⟩:=aG rE.1;have no:=fun h=>di (l:=tl.take 11) (k:=j) (p:=rp) (by rw[List.getElem?_take,if_pos rE.2];exact hx) h;have back:=fun h=>JH (j+1) ⟨by omega,by omega,dw vu hx h⟩ (by omega);obtain⟨g1,g2,g3,g4⟩:=h3 x (List.mem_of_getElem? hx);have c3:=L6 x g1 g2 g3 g4;refine aU (by simp;omega) ?_;refine gO F10 ?_;refine aU (by simp;omega) ?_;refine gO F10 ?_;repeat' (first|with_reducible(first|refine aB (aN hx) rfl ?_|refine ao (c3) ?_|refine au (c3) ?_|refine cY ?_|refine cN ?_|refine ai (fun _=>?_) (fun _=>?_))|refine gA F10 ?_|refine gB ?_|with_reducible rfl)
    all_goals try (rw[no (by simp_all)];simp;done)
    refine gO F10 ?_;refine I.back (back (by simp_all)) ?_;exact sZ
   ·rw[z7 vu rE Au];by_cases h:j<tl.length
    ·refine aU (by simpa using h) ?_;refine gO F10 ?_;refine aW (by simp;omega) ?_;refine gO F10 ?_;repeat' (first|with_reducible(first|refine ao (c1) ?_|refine au (c1) ?_|refine ao (c2) ?_|refine au (c2) ?_|refine cY ?_|refine cN ?_|refine ai (fun _=>?_) (fun _=>?_))|refine gA F10 ?_|refine gB ?_|with_reducible rfl)
     all_goals (refine congrArg DV.bool ?_;simp_all;try omega)
    ·refine aW (by simpa using h) ?_;refine gO F10 ?_;refine aR ?_;refine gO F10 ?_;repeat' (first|with_reducible(first|refine ao (c1) ?_|refine au (c1) ?_|refine ao (c2) ?_|refine au (c2) ?_|refine cY ?_|refine cN ?_|refine ai (fun _=>?_) (fun _=>?_))|refine gA F10 ?_|refine gB ?_|with_reducible rfl)
     all_goals (refine congrArg DV.bool ?_;simp_all;try omega)
  case neg =>
   refine aW (by simpa using h) ?_;refine gO F10 ?_;refine aR ?_;refine gO F10 ?_;refine I.loop (κ:=Nat) ([2,5,6]++rg 27 19) (fun k=>[(5,.d (.int .i64 k))]) (fun _=>[]) (fun k=>k<=tl.length/\k<=11/\(tl.take k).all rp=true) (fun k=>tl.length-k) 0 ⟨Nat.zero_le _,by omega,rfl⟩ ?_ ?_
   ·exact sZ
   clear IH;rintro j ⟨hj,Au,vu⟩ JH;refine I.head ab F10 2000 ?_;(conv=>whnf);by_cases rE:j<tl.length/\j<11
   ·obtain⟨x,hx⟩:=aG rE.1;have no:=fun h=>di (l:=tl.take 11) (k:=j) (p:=rp) (by rw[List.getElem?_take,if_pos rE.2];exact hx) h;have back:=fun h=>JH (j+1) ⟨by omega,by omega,dw vu hx h⟩ (by omega);obtain⟨g1,g2,g3,g4⟩:=h3 x (List.mem_of_getElem? hx);have c3:=L6 x g1 g2 g3 g4;refine aU (by simp;omega) ?_;refine gO F10 ?_;refine aU (by simp;omega) ?_;refine gO F10 ?_;repeat' (first|with_reducible(first|refine aB (aN hx) rfl ?_|refine ao (c3) ?_|refine au (c3) ?_|refine cY ?_|refine cN ?_|refine ai (fun _=>?_) (fun _=>?_))|refine gA F10 ?_|refine gB ?_|with_reducible rfl)
    all_goals try (rw[no (by simp_all)];simp;done)
    refine gO F10 ?_;refine I.back (back (by simp_all)) ?_;exact sZ
   ·rw[z7 vu rE Au];by_cases h:j<tl.length
    ·refine aU (by simpa using h) ?_;refine gO F10 ?_;refine aW (by simp;omega) ?_;refine gO F10 ?_;repeat' (first|with_reducible(first|refine ao (c1) ?_|refine au (c1) ?_|refine ao (c2) ?_|refine au (c2) ?_|refine cY ?_|refine cN ?_|refine ai (fun _=>?_) (fun _=>?_))|refine gA F10 ?_|refine gB ?_|with_reducible rfl)
     all_goals (refine congrArg DV.bool ?_;simp_all;try omega)
    ·refine aW (by simpa using h) ?_;refine gO F10 ?_;refine aR ?_;refine gO F10 ?_;repeat' (first|with_reducible(first|refine ao (c1) ?_|refine au (c1) ?_|refine ao (c2) ?_|refine au (c2) ?_|refine cY ?_|refine cN ?_|refine ai (fun _=>?_) (fun _=>?_))|refine gA F10 ?_|refine gB ?_|with_reducible rfl)
     all_goals (refine congrArg DV.bool ?_;simp_all;try omega)
def kj(e:fm):Bool:=e.jY.all ka&&fq e.before e.steps&&mI e.before e.eh&&decide ((e.jY.length:Int)<=100)
structure fm.Fits(e:fm):Prop where
 before:e.before.Fits
 aE:e.before.aE.length<=1000000
 hints:e.before.hints.length<=1000000
 steps:Steps.Fits e.steps
 eh:ov.Fits e.eh
 C7:e.jY.length<=maxLen
 each:∀ t∈e.jY,t.cT
theorem Xf(e:fm)(hf:e.Fits):aq E 21 [e.enc] (· = .bool (kj e)):=by
 have c1:=WB e.before e.steps hf.before hf.aE hf.hints hf.steps;have c2:=W9 e.before e.eh hf.eh;have hl:=hf.C7;have he:=hf.each;obtain⟨⟨aC,aE,anchor,hints,bN,fin⟩,sl,cl,tl⟩:=e;clear hf;unfold kj;simp only at c1 c2 hl he ⊢;unfold maxLen at hl;show aq E _ [DV.agg [.sl (aC.map Host.enc),.sl (aE.map aY.enc),.str anchor.name,.int .i64 anchor.type,.int .i64 anchor.cy,.sl (anchor.data.map Datum.enc),.sl (hints.map (.int .i64)),.int .i64 bN,.int .i64 fin,.sl (sl.map Step.enc),.sl (cl.map Claim.enc),.sl (tl.map cP.enc)]] _;refine eP F21 ?_;refine I.loop (κ:=Nat) ([2,3,4]++rg 6 15) (fun k=>[(3,.d (.int .i64 k))]) (fun _=>[]) (fun k=>k<=tl.length/\(tl.take k).all ka=true) (fun k=>tl.length-k) 0 ⟨Nat.zero_le _,rfl⟩ ?_ ?_
 ·exact sZ
 rintro k ⟨hk,aJ⟩ IH;refine I.head ab F21 2000 ?_;(conv=>whnf);refine ai (fun h5=>?_) (fun h5=>?_)
 ·have ah:k<tl.length:=by simpa using h5
  obtain⟨x,hx⟩:=aG ah;have c3:=UY x (he x (List.mem_of_getElem? hx));refine gO F21 ?_;repeat' (first|with_reducible(first|refine aB (aN hx) rfl ?_|refine ao (c3) ?_|refine au (c3) ?_|refine cY ?_|refine cN ?_|refine ai (fun _=>?_) (fun _=>?_))|refine gA F21 ?_|refine gB ?_|with_reducible rfl)
  all_goals try (rw[di hx (by simp_all)];simp;done)
  refine gO F21 ?_;refine I.back (IH (k+1) ⟨by omega,dw aJ hx (by simp_all)⟩ (by omega)) ?_;exact sZ
 ·have aA:tl.length<=k:=by simpa using h5
  rw[lI aJ aA];refine gO F21 ?_;repeat' (first|with_reducible(first|refine ao (c1) ?_|refine au (c1) ?_|refine ao (c2) ?_|refine au (c2) ?_|refine cY ?_|refine cN ?_|refine ai (fun _=>?_) (fun _=>?_))|refine gA F21 ?_|refine gB ?_|with_reducible rfl)
  all_goals (refine congrArg DV.bool ?_;simp_all;try omega)
def ov.Dc(h:bZ)(l:List Claim):Prop:=l.length<=maxLen/\∀ (k:Nat) (c:Claim),l[k]?=some c->c.aw.Fits\/¬ (0<=c.host/\c.host<h.aC.length/\eR l k<=c.time/\c.time<h.fin)
theorem ov.Fits.b{h:bZ}{l:List Claim}(hf:ov.Fits l):ov.Dc h l:=⟨hf.1,fun k c hc => .inl (hf.2 c (List.mem_of_getElem? hc))⟩
theorem Nu(h:bZ)(l:List Claim)(hf:ov.Dc h l):aq E 48 [h.enc,.sl (l.map Claim.enc)] (· = .bool (mI h l)):=by
 obtain⟨aC,aE,anchor,hints,bN,fin⟩:=h;obtain⟨hl,hz⟩:=hf;unfold maxLen at hl;unfold mI;simp only;show aq E _ [DV.agg [.sl (aC.map Host.enc),.sl (aE.map aY.enc),.str anchor.name,.int .i64 anchor.type,.int .i64 anchor.cy,.sl (anchor.data.map Datum.enc),.sl (hints.map (.int .i64)),.int .i64 bN,.int .i64 fin],_] _;refine eP F48 ?_;refine ai (fun h1=>?_) (fun h1=>?_)
 ·refine gO F48 ?_;refine congrArg DV.bool ?_;simp_all;try omega
 have hlen:decide (l.length<=4000)=true:=by simp at h1 ⊢;omega
 rw[hlen,Bool.true_and];clear h1 hlen;refine gO F48 ?_;refine gO F48 ?_;refine I.loop (κ:=Nat) ([4,6,8,9]++rg 16 54) (fun k=>[(16,.d (.int .i64 k)),(4,.d (.bool false)),(5,.map 1),(6,.d (.int .i64 (eR l k)))]) (fun k=>[(1,.map (ek mH.en ((l.take k).map Claim.key)))]) (fun k=>k<=l.length/\gI aC.length fin 0 [] l=gI aC.length fin (eR l k) ((l.take k).map Claim.key) (l.drop k)/\0<=eR l k) (fun k=>l.length-k) 0 ⟨Nat.zero_le _,rfl,Int.le_refl 0⟩ ?_ ?_
 ·(conv=>whnf);repeat (first|exact trivial|(refine sI ?_;conv=>whnf))
  refine And.intro rfl ?_;(conv=>whnf);repeat (first|exact trivial|(refine sI ?_;conv=>whnf))
  refine And.intro rfl ?_;exact sZ
 rintro i ⟨hi,jf,cQ⟩ IH;refine I.head ab F48 2000 ?_;(conv=>whnf);refine ai (fun h5=>?_) (fun h5=>?_)
 ·have ah:i<l.length:=by simpa using h5
  obtain⟨x,hx⟩:=aG ah;have fu:=hz i x hx;simp only at fu;rw[Nr hx]at jf;have fp:=(oo Np ((l.take i).map Claim.key)).1;obtain⟨gw,jd⟩:=vq Np ((l.take i).map Claim.key) x.key;have wj:mH.en x.key=.agg [.int .i64 x.host,.int .i64 x.time,.str x.aw.aj]:=rfl;have xR:ou aC.length fin (eR l i) ((l.take i).map Claim.key) x=(decide (0<=x.host)&&decide (x.host<aC.length)&&(kV x.aw||eB x.aw)&&decide (eR l i<=x.time)&&decide (x.time<fin)&&decide (x.key ∉ (l.take i).map Claim.key)):=rfl;have bad:ou aC.length fin (eR l i) ((l.take i).map Claim.key) x=false->DV.bool false=DV.bool (gI aC.length fin 0 [] l):=fun h=>by rw[jf,h];rfl
  refine gO F48 ?_;refine aB (e:=x.enc) (aN hx) rfl ?_;refine gO F48 ?_;rcases fu with fu|fu
  case inr =>
   have hk:=bad (by
    rw[xR];cases q:kV x.aw||eB x.aw
    ·simp
    ·simp;intro q1 q2 q3 q4
     exact absurd ⟨q1,q2,q3,q4⟩ fu)
   repeat' (first|with_reducible(first|refine cY ?_|refine cN ?_|refine ai (fun _=>?_) (fun _=>?_))|refine gA F48 ?_|refine gB ?_|with_reducible rfl)
   all_goals first
    |exact hk
    |(rename_i a1 a2 a3 a4;exact absurd ⟨by simpa using a1,by simpa using a2,by simpa using a3,by simpa using a4⟩ fu)
  have c1:=vk x.aw fu;have c2:=W8 x.aw fu;repeat' (first|with_reducible(first|refine ao (c1) ?_|refine au (c1) ?_|refine ao (c2) ?_|refine au (c2) ?_|refine cY ?_|refine cN ?_|refine ai (fun _=>?_) (fun _=>?_))|refine gA F48 ?_|refine gB ?_|with_reducible rfl)
  all_goals try (exact bad (by rw[xR];simp_all;try omega))
  all_goals
   have hk:ou aC.length fin (eR l i) ((l.take i).map Claim.key) x=decide (x.key ∉ (l.take i).map Claim.key):=by
    rw[xR];have:(0<=x.host/\x.host<aC.length)/\(kV x.aw||eB x.aw)=true/\eR l i<=x.time/\x.time<fin:=by refine⟨⟨?_,?_⟩,?_,?_,?_⟩<;>simp_all<;>omega
    simp[this.1.1,this.1.2,this.2.1,this.2.2.1,this.2.2.2]
   have ht:0<=x.time:=by simp_all;omega
   refine oK (.bool false) (.bool false) ⟨_,rfl,rfl,⟨_,rfl,_,rfl⟩,rfl,⟨_,rfl,_,rfl⟩,rfl,⟨_,rfl,_,rfl⟩,trivial⟩ (Nq fp) (fun w=>by kernel_rfl) (fun _ _ => .bool _) gw jd ?_;refine gO F48 ?_;refine ai (fun h8=>?_) (fun h8=>?_)
   ·refine gO F48 ?_;exact bad (by rw[hk];simp_all)
   ·refine gO F48 ?_;refine aV ⟨⟨_,rfl,rfl,⟨_,rfl,_,rfl⟩,rfl,⟨_,rfl,_,rfl⟩,rfl,⟨_,rfl,_,rfl⟩,trivial⟩,Nq fp⟩ ?_;refine gO F48 ?_;refine I.back (IH (i+1) ⟨by omega,by rw[jf,hk,show decide (x.key ∉ (l.take i).map Claim.key)=true by simp_all];rfl,by simp[eR,bL,hx,ht]⟩ (by omega)) ?_;rw[cK hx,List.map_append,show[x].map Claim.key=[x.key]from rfl,te,show eR l (i+1)=x.time by simp[eR,bL,hx],wj];exact sZ
 ·have aA:l.length<=i:=by simpa using h5
  rw[List.drop_eq_nil_of_le aA]at jf;refine gO F48 ?_;rw[jf];rfl
theorem Xg:ar E 119 [] [.d (.sl []),.fn (.func 50) [] []] (fun a b=>a=.d (.int .i64 (-1))/\b=[]):=by
 refine ar.run ab (fn:=Tryz.f119) Tryz.func119 (body:=Tryz.f119.body.getD .skip) rfl (by decide) 2000 rfl ?_;(conv=>whnf);refine I.mg ?_;refine I.run ab F119 2000 ?_;(conv=>whnf);refine aW rfl ?_;refine gO F119 ?_;exact⟨rfl,rfl⟩
theorem Xh:ar E 49 [] [.d (.sl []),.fn (.func 50) [] []] (fun a b=>a=.d (.bool false)/\b=[]):=by
 refine ar.run ab (fn:=Tryz.f49) Tryz.func49 (body:=Tryz.f49.body.getD .skip) rfl (by decide) 2000 rfl ?_;(conv=>whnf);refine jv Xg ?_;rintro r b ⟨rfl,rfl⟩;refine gO Tryz.func49 ?_;exact⟨rfl,rfl⟩
theorem Xi(e:fm)(h1:e.before.Fits)(h2:e.before.aE.length<=1000000)(h3:Steps.Fits e.steps)(h4:ov.Dc e.before e.eh)(ht:e.jY=[]\/mI e.before e.eh=false):aq E 20 [e.enc] (· = .bool (fq e.before e.steps&&mI e.before e.eh)):=by
 have c1:=Hf e.before e.steps h1 h2 h3;have c2:=Nu e.before e.eh h4;obtain⟨⟨aC,aE,anchor,hints,bN,fin⟩,sl,cl,tl⟩:=e;simp only at c1 c2 ht ⊢;show aq E _ [DV.agg [.sl (aC.map Host.enc),.sl (aE.map aY.enc),.str anchor.name,.int .i64 anchor.type,.int .i64 anchor.cy,.sl (anchor.data.map Datum.enc),.sl (hints.map (.int .i64)),.int .i64 bN,.int .i64 fin,.sl (sl.map Step.enc),.sl (cl.map Claim.enc),.sl (tl.map cP.enc)]] _;refine eP Tryz.func20 ?_;repeat' (first|with_reducible(first|refine ao (c1) ?_|refine au (c1) ?_|refine ao (c2) ?_|refine au (c2) ?_|refine cY ?_|refine cN ?_|refine ai (fun _=>?_) (fun _=>?_))|refine gA Tryz.func20 ?_|refine gB ?_|with_reducible rfl)
 all_goals try (refine congrArg DV.bool ?_;simp_all;done)
 have:tl=[]:=ht.elim id fun h=>by simp_all
 subst this;refine jv Xh ?_;rintro r b ⟨rfl,rfl⟩;refine gO Tryz.func20 ?_;refine congrArg DV.bool ?_;simp_all
end Go.Proofs.YtfmdaiojokniiaaGreatDoor.P
end
