/- Lemmas of mine. Conditions: as stated. -/
import Derived.Test.YtfmdaiojokniiaaGreatDoorS14
set_option linter.unusedVariables false
set_option linter.unusedSimpArgs false
open Bool renaming true_and->afC
open List renaming length_append->aey,length_singleton->agw,mem_append->aeI,append_assoc->afb,take_of_length_le->afS,mem_of_getElem?->afh,getElem?_take->aek,mem_map->aer,getElem?_map->ad1,flatMap_append->agJ,length_take->aeu,mem_of_mem_take->ag0
open Nat renaming zero_le->afv
open Option renaming getD_some->aeB
section
namespace Go.Proofs.YtfmdaiojokniiaaGreatDoor.P
open Go Go.aA
set_option maxRecDepth 100000
set_option maxHeartbeats 4000000
theorem MW{α:Type}{l:List α}{k:Nat}{x:α}{β:Type}{f:α->β}(h:((l.take k).map f).Nodup)(hx:l[k]?=some x)(hn:∀ j y,j<k->l[j]?=some y->f y≠f x):((l.take (k+1)).map f).Nodup:=by
 rw[cG hx,List.map_append,List.nodup_append];refine⟨h,by simp,fun a ha b hb e=>?_⟩;obtain⟨y,hy,rfl⟩:=aer.1 ha;obtain⟨j,hj⟩:=List.getElem?_of_mem hy;have rH:j<k:=by have:=aX hj;simp at this;omega
 rw[aek,if_pos rH]at hj;simp at hb;exact hn j y rH hj (e.trans hb)
theorem MX{α:Type}{l:List α}{k j:Nat}{x y:α}{β:Type}{f:α->β}(hx:l[k]?=some x)(hy:l[j]?=some y)(hj:j<k)(e:f y=f x):¬ (l.map f).Nodup:=fun h=>by
 have h1:(l.map f)[k]?=some (f x):=by rw[ad1,hx];rfl
 have h2:(l.map f)[j]?=some (f x):=by rw[ad1,hy,<- e];rfl
 have:=(List.getElem?_inj (by simpa using aX hy) h).1 (h2.trans h1.symm);omega
def xU(s:Signed):Bool := !(decide ((s.set.data.length:Int)>20)) && !(decide ((s.sigs.length:Int)>20)) && !(decide ((s.set.name.length:Int)>100))
def vD(l:List Signed):Bool:=(l.take 61).all xU&&decide (l.length<=60)
theorem MY(l:List Signed)(hl:l.length<=maxLen):ar E 12 [.sl (l.map Signed.enc)] (· = .bool (vD l)):=by
 unfold maxLen at hl;unfold vD;refine eP F12 ?_;refine J.loop (κ:=Nat) (rg 2 39) (fun k=>[(3,.d (.int .i64 k))]) (fun _=>[]) (fun k=>k<=l.length/\k<=61/\(l.take k).all xU=true) (fun k=>l.length-k) 0 ⟨afv _,by omega,rfl⟩ ?_ ?_
 ·exact sZ
 rintro k ⟨hk,fL,aL⟩ IH;refine J.head ag F12 2000 ?_;(conv=>whnf);by_cases ah:k<l.length/\k<=60
 ·obtain⟨x,hx⟩:=aH ah.1;have no:=fun h=>di (l:=l.take 61) (k:=k) (p:=xU) (by rw[aek,if_pos (by omega)];exact hx) h;have back:=fun h=>IH (k+1) ⟨by omega,by omega,dv aL hx h⟩ (by omega);have nC:xU x=(!(decide ((x.set.data.length:Int)>20)) && !(decide ((x.sigs.length:Int)>20)) && !(decide ((x.set.name.length:Int)>100))):=rfl;refine aY (by simp;omega) ?_;refine gO F12 ?_;refine aY (by simp;omega) ?_;refine gO F12 ?_;repeat' (first|with_reducible(first|refine aD (aO hx) rfl ?_|refine cY ?_|refine cN ?_|refine ai (fun _=>?_) (fun _=>?_))|refine gA F12 ?_|refine gB ?_|with_reducible rfl)
  all_goals try (rw[no (by rw[nC];simp_all)];rfl)
  refine gO F12 ?_;refine J.back (back (by rw[nC];simp_all)) ?_;exact sZ
 ·have e:(l.take 61).all xU=true:=by
   by_cases h:k=61
   ·rw[<- h];exact aL
   ·rw[afS (by omega)]at aL ⊢;exact aL
  rw[e];by_cases h:k<l.length
  ·refine aY (by simpa using h) ?_;refine gO F12 ?_;refine aU (by simp;omega) ?_;refine gO F12 ?_;rw[afC];refine congrArg DV.bool (decide_eq_decide.2 ?_);simp;omega
  ·refine aU (by simpa using h) ?_;refine gO F12 ?_;refine aR ?_;refine gO F12 ?_;rw[afC];refine congrArg DV.bool (decide_eq_decide.2 ?_);simp;omega
def xV(s z:Text):Bool:=Nm.valid s&&Nm.valid z && !l5 z&&Nm.under s z
theorem VT(s z:Text)(hs:s.length<=maxLen)(hz:z.length<=maxLen):ar E 272 [.str s,.str z] (· = .bool (xV s z)):=by
 unfold xV;have c1:=eO s hs;have c2:=eO z hz;cases h1:Nm.valid s
 ·rw[h1]at c1;refine eP Tryz.func272 ?_;repeat' (first|with_reducible(first|refine aq (c1) ?_|refine ax (c1) ?_|refine aq (c2) ?_|refine ax (c2) ?_|refine cY ?_|refine cN ?_|refine ai (fun _=>?_) (fun _=>?_))|refine gA Tryz.func272 ?_|refine gB ?_|with_reducible rfl)
  all_goals simp_all
 cases h2:Nm.valid z
 ·rw[h1]at c1;rw[h2]at c2;refine eP Tryz.func272 ?_;repeat' (first|with_reducible(first|refine aq (c1) ?_|refine ax (c1) ?_|refine aq (c2) ?_|refine ax (c2) ?_|refine cY ?_|refine cN ?_|refine ai (fun _=>?_) (fun _=>?_))|refine gA Tryz.func272 ?_|refine gB ?_|with_reducible rfl)
  all_goals simp_all
 have l1:=dV h1;have l2:=dV h2;have c3:=C1 z (by omega);have c4:=Aa s z (by omega) (by omega);rw[h1]at c1;rw[h2]at c2;refine eP Tryz.func272 ?_;repeat' (first|with_reducible(first|refine aq (c1) ?_|refine ax (c1) ?_|refine aq (c2) ?_|refine ax (c2) ?_|refine aq (c3) ?_|refine ax (c3) ?_|refine aq (c4) ?_|refine ax (c4) ?_|refine cY ?_|refine cN ?_|refine ai (fun _=>?_) (fun _=>?_))|refine gA Tryz.func272 ?_|refine gB ?_|with_reducible rfl)
 all_goals simp_all
def As(s:cM):Bool:=(s.data.length:Int)==0
theorem VU(e:Entry):ar E 273 [e.enc] (· = .bool (As e.signed.set)):=by
 unfold As;refine eP Tryz.func273 ?_;simp
def po(e:Entry):Bool:=xV e.signed.set.name e.au&&decide (1<=e.upto)&&decide (e.upto<=20100001) &&
 (if As e.signed.set then decide (1 <= e.signed.set.type) && decide (e.signed.set.type <= 8) && decide (0 <= e.signed.set.bY) && decide (e.signed.set.bY <= 100000) && ((e.signed.sigs.length : Int) == 0)
  else er e.signed.set && jS e.signed.sigs e.au)
def Entry.cV(e:Entry):Prop:=e.signed.cV/\e.au.length<=maxLen
theorem VV(e:Entry)(hf:e.cV):ar E 204 [e.enc] (· = .bool (po e)):=by
 have c1:=VT e.signed.set.name e.au hf.1.1.name hf.2;have c2:=VU e;have c3:=xO e.signed.set hf.1.1;have c4:=Ha e.signed.sigs e.au;obtain⟨⟨s,l⟩,z,u⟩:=e;unfold po;simp only at c1 c2 c3 c4 ⊢;show ar E _ [DV.agg [.str s.name,.int .i64 s.type,.int .i64 s.bY,pX s.data,pY l,.str z,.int .i64 u]] _;refine eP Tryz.func204 ?_;repeat' (first|with_reducible(first|refine aq (c1) ?_|refine ax (c1) ?_|refine aq (c2) ?_|refine ax (c2) ?_|refine aq (c3) ?_|refine ax (c3) ?_|refine aq (c4) ?_|refine ax (c4) ?_|refine cY ?_|refine cN ?_|refine ai (fun _=>?_) (fun _=>?_))|refine gA Tryz.func204 ?_|refine gB ?_|with_reducible rfl)
 all_goals (refine congrArg DV.bool ?_;simp_all;try omega)
def kB(e:Entry):Text × Int × Text:=(e.signed.set.name,e.signed.set.type,e.au)
theorem VW(a b:Entry):ar E 205 [a.enc,b.enc] (· = .bool (decide (kB a=kB b))):=by
 unfold kB;refine eP Tryz.func205 ?_;repeat' (first|with_reducible(first|refine cY ?_|refine cN ?_|refine ai (fun _=>?_) (fun _=>?_))|refine gA Tryz.func205 ?_|refine gB ?_|with_reducible rfl)
 all_goals (refine congrArg DV.bool ?_;rw[Bool.eq_iff_iff];simp_all)
def xW(c:Cache):Bool:=c.list.all po&&decide ((c.list.map kB).Nodup)&&decide (c.list.length<=400)
theorem VX(c:Cache)(hl:c.list.length<=maxLen)(hf:∀ e∈c.list,e.cV):ar E 127 [c.enc] (· = .bool (xW c)):=by
 obtain⟨l⟩:=c;unfold xW;simp only at hl hf ⊢;unfold maxLen at hl;show ar E _ [DV.agg [.sl (l.map Entry.enc)]] _;refine eP F127 ?_;refine J.loop (κ:=Nat) (rg 2 33) (fun k=>[(3,.d (.int .i64 k))]) (fun _=>[]) (fun k=>k<=l.length/\(l.take k).all po=true/\((l.take k).map kB).Nodup) (fun k=>l.length-k) 0 ⟨afv _,rfl,by simp⟩ ?_ ?_
 ·exact sZ
 rintro k ⟨hk,aL,c8⟩ IH;refine J.head ag F127 2000 ?_;(conv=>whnf);refine ai (fun h5=>?_) (fun h5=>?_)
 ·have ah:k<l.length:=by simpa using h5
  obtain⟨x,hx⟩:=aH ah;have c1:=VV x (hf x (afh hx));refine gO F127 ?_;refine aD (e:=x.enc) (aO hx) rfl ?_;refine gO F127 ?_;refine aq (c1) ?_;refine gO F127 ?_;cases hp:po x
  ·refine a8 ?_;refine gO F127 ?_;rw[di hx hp];rfl
  refine aR ?_;refine gO F127 ?_;refine J.loop (κ:=Nat) ([2,4]++rg 19 16) (fun j=>[(4,.d (.int .i64 j))]) (fun _=>[]) (fun j=>j<=k/\∀ i y,i<j->l[i]?=some y->kB y≠kB x) (fun j=>k-j) 0 ⟨afv _,by omega⟩ ?_ ?_
  ·exact sZ
  rintro j ⟨hj,bI⟩ JH;refine J.head ag F127 2000 ?_;(conv=>whnf);refine ai (fun h6=>?_) (fun h6=>?_)
  ·have rH:j<k:=by simpa using h6
   obtain⟨y,hy⟩:=aH (l:=l) (k:=j) (by omega);have c2:=VW y x;refine gO F127 ?_;refine dU ?_;refine aD (e:=y.enc) (aO hy) rfl ?_;refine gD ?_;refine aD (e:=x.enc) (aO hx) rfl ?_;refine gD ?_;refine ax (c2) ?_;refine gD ?_;refine gO F127 ?_;by_cases he:kB y=kB x
   ·refine aY (decide_eq_true he) ?_;refine gO F127 ?_;rw[decide_eq_false (MX hx hy rH he),Bool.and_false];rfl
   ·refine aU (decide_eq_false he) ?_;refine gO F127 ?_;refine J.back (JH (j+1) ⟨by omega,fun i w hi hw=>(Nat.lt_succ_iff_lt_or_eq.1 hi).elim (fun h=>bI i w h hw) (fun h=>by subst h;rw[hy]at hw;cases hw;exact he)⟩ (by omega)) ?_;exact sZ
  ·have aC:j=k:=by simp at h6;omega
   subst aC;refine gO F127 ?_;refine J.back (IH (j+1) ⟨by omega,dv aL hx hp,MW c8 hx bI⟩ (by omega)) ?_;exact sZ
 ·have aC:l.length<=k:=by simpa using h5
  rw[afS aC]at aL c8;rw[aL,decide_eq_true c8];refine gO F127 ?_;refine congrArg DV.bool ?_;simp;omega
def Au(e:Entry):Bool := !(decide ((e.signed.set.data.length:Int)>20)) && !(decide ((e.signed.sigs.length:Int)>20)) && !(decide ((e.au.length:Int)>100))
def Da(c:Cache):Bool:=(c.list.take 411).all Au&&decide (c.list.length<=410)
theorem Av{α:Type}{P:α->Bool}{l:List α}{k n:Nat}(h:(l.take k).all P=true)(hk:¬ (k<l.length/\k<n))(hn:k<=n):(l.take n).all P=true:=by
 by_cases e:k=n
 ·rw[<- e];exact h
 ·rw[afS (by omega)]at h ⊢;exact h
theorem VY(c:Cache)(hl:c.list.length<=maxLen):ar E 93 [c.enc] (· = .bool (Da c)):=by
 obtain⟨l⟩:=c;unfold Da;simp only at hl ⊢;unfold maxLen at hl;show ar E _ [DV.agg [.sl (l.map Entry.enc)]] _;refine eP F93 ?_;refine J.loop (κ:=Nat) (rg 2 38) (fun k=>[(3,.d (.int .i64 k))]) (fun _=>[]) (fun k=>k<=l.length/\k<=411/\(l.take k).all Au=true) (fun k=>l.length-k) 0 ⟨afv _,by omega,rfl⟩ ?_ ?_
 ·exact sZ
 rintro k ⟨hk,fL,aL⟩ IH;refine J.head ag F93 2000 ?_;(conv=>whnf);by_cases ah:k<l.length/\k<411
 ·obtain⟨x,hx⟩:=aH ah.1;have no:=fun h=>di (l:=l.take 411) (k:=k) (p:=Au) (by rw[aek,if_pos ah.2];exact hx) h;have back:=fun h=>IH (k+1) ⟨by omega,by omega,dv aL hx h⟩ (by omega);have nC:Au x=(!(decide ((x.signed.set.data.length:Int)>20)) && !(decide ((x.signed.sigs.length:Int)>20)) && !(decide ((x.au.length:Int)>100))):=rfl;refine aY (by simp;omega) ?_;refine gO F93 ?_;refine aY (by simp;omega) ?_;refine gO F93 ?_;repeat' (first|with_reducible(first|refine aD (aO hx) rfl ?_|refine cY ?_|refine cN ?_|refine ai (fun _=>?_) (fun _=>?_))|refine gA F93 ?_|refine gB ?_|with_reducible rfl)
  all_goals try (rw[no (by rw[nC];simp_all)];rfl)
  refine gO F93 ?_;refine J.back (back (by rw[nC];simp_all)) ?_;exact sZ
 ·rw[Av aL ah fL];by_cases h:k<l.length
  ·refine aY (by simpa using h) ?_;refine gO F93 ?_;refine aU (by simp;omega) ?_;refine gO F93 ?_;rw[afC];refine congrArg DV.bool (decide_eq_decide.2 ?_);simp;omega
  ·refine aU (by simpa using h) ?_;refine gO F93 ?_;refine aR ?_;refine gO F93 ?_;rw[afC];refine congrArg DV.bool (decide_eq_decide.2 ?_);simp;omega
def nK(a:dZ):Bool:=a.kind==0&&(a.ae.length:Int)==0&&a.cut==[]
theorem VZ(a:dZ):ar E 90 [a.enc] (· = .bool (nK a)):=by
 unfold nK;refine eP Tryz.func90 ?_;repeat' (first|with_reducible(first|refine cY ?_|refine cN ?_|refine ai (fun _=>?_) (fun _=>?_))|refine gA Tryz.func90 ?_|refine gB ?_|with_reducible rfl)
 all_goals (refine congrArg DV.bool ?_;simp_all)
def xX(v:l3):Bool:=decide (1<=v.kind)&&decide (v.kind<=3) && !(v.kind != 1&&decide ((v.ae.length:Int)>0)) &&
 (if v.kind=3 then fM v.q else decide (v.q=⟨[],0⟩)&&nH ⟨1,v.ae,[]⟩)
def l3.cV(v:l3):Prop:=v.q.name.length<=maxLen/\v.ae.length<=maxLen/\∀ s∈v.ae,s.cV
theorem V0(v:l3)(hf:v.cV):ar E 128 [v.enc] (· = .bool (xX v)):=by
 have c1:=G5 v.q hf.1;have c2:=MA ⟨1,v.ae,[]⟩ ⟨hf.2.1,hf.2.2,afv _⟩;obtain⟨kd,⟨qn,qt⟩,l⟩:=v;unfold xX;simp only at c1 c2 ⊢;show ar E _ [DV.agg [.int .i64 kd,.str qn,.int .i64 qt,.sl (l.map Signed.enc)]] _;refine eP Tryz.func128 ?_;repeat' (first|with_reducible(first|refine aq (c1) ?_|refine ax (c1) ?_|refine aq (c2) ?_|refine ax (c2) ?_|refine cY ?_|refine cN ?_|refine ai (fun _=>?_) (fun _=>?_))|refine gA Tryz.func128 ?_|refine gB ?_|with_reducible rfl)
 all_goals (refine congrArg DV.bool ?_;simp_all;try omega)
def mO(at_:Int)(x:c7):Bool:=fM x.q&&x.time==at_&&decide (1<=x.addr)&&decide (x.addr<=1000000)&&(nK x.answer||nH x.answer)
def kC(t:cO):Bool:=t.heard.all (mO t.time)&&fM t.q&&decide (0<=t.time)&&decide (t.time<=10000000)&&xW t.cache&&decide (t.heard.length<=40)&&xX t.result
def c7.cV(x:c7):Prop:=x.q.name.length<=maxLen/\x.answer.cV
def cO.cV(t:cO):Prop:=t.q.name.length<=maxLen/\(t.cache.list.length<=maxLen/\∀ e∈t.cache.list,e.cV)/\(t.heard.length<=maxLen/\∀ x∈t.heard,x.cV)/\t.result.cV
theorem V1(t:cO)(hf:t.cV):ar E 52 [t.enc] (· = .bool (kC t)):=by
 obtain⟨h1,⟨h2,h3⟩,⟨h4,h5⟩,h6⟩:=hf;have c1:=G5 t.q h1;have c2:=VX t.cache h2 h3;have c3:=V0 t.result h6;obtain⟨⟨qn,qt⟩,at_,⟨cl⟩,l,⟨rk,⟨rn,rt⟩,rl⟩⟩:=t;unfold kC;simp only at c1 c2 c3 h4 h5 ⊢;unfold maxLen at h4;show ar E _ [DV.agg [.str qn,.int .i64 qt,.int .i64 at_,.sl (cl.map Entry.enc),.sl (l.map c7.enc),.int .i64 rk,.str rn,.int .i64 rt,.sl (rl.map Signed.enc)]] _;refine eP F52 ?_;refine J.loop (κ:=Nat) (rg 2 4++rg 7 46) (fun k=>[(3,.d (.int .i64 k))]) (fun _=>[]) (fun k=>k<=l.length/\(l.take k).all (mO at_)=true) (fun k=>l.length-k) 0 ⟨afv _,rfl⟩ ?_ ?_
 ·exact sZ
 rintro k ⟨hk,aL⟩ IH;refine J.head ag F52 2000 ?_;(conv=>whnf);refine ai (fun h7=>?_) (fun h7=>?_)
 ·have ah:k<l.length:=by simpa using h7
  obtain⟨x,hx⟩:=aH ah;have oD:=h5 x (afh hx);have c4:=G5 x.q oD.1;have c5:=VZ x.answer;have c6:=MA x.answer oD.2;have no:=fun h=>di hx (p:=mO at_) h;have back:=fun h=>IH (k+1) ⟨by omega,dv aL hx h⟩ (by omega);have nC:mO at_ x=(fM x.q&&x.time==at_&&decide (1<=x.addr)&&decide (x.addr<=1000000)&&(nK x.answer||nH x.answer)):=rfl;refine gO F52 ?_;refine aD (e:=x.enc) (aO hx) rfl ?_;refine gO F52 ?_;repeat' (first|with_reducible(first|refine aq (c4) ?_|refine ax (c4) ?_|refine aq (c5) ?_|refine ax (c5) ?_|refine aq (c6) ?_|refine ax (c6) ?_|refine cY ?_|refine cN ?_|refine ai (fun _=>?_) (fun _=>?_))|refine gA F52 ?_|refine gB ?_|with_reducible rfl)
  all_goals try (rw[no (by rw[nC];simp_all;try omega)];simp;done)
  all_goals
   refine gO F52 ?_;refine J.back (back (by rw[nC];simp_all;try omega)) ?_;exact sZ
 ·have aC:l.length<=k:=by simpa using h7
  rw[afS aC]at aL;rw[aL];refine gO F52 ?_;repeat' (first|with_reducible(first|refine aq (c1) ?_|refine ax (c1) ?_|refine aq (c2) ?_|refine ax (c2) ?_|refine aq (c3) ?_|refine ax (c3) ?_|refine cY ?_|refine cN ?_|refine ai (fun _=>?_) (fun _=>?_))|refine gA F52 ?_|refine gB ?_|with_reducible rfl)
  all_goals (refine congrArg DV.bool ?_;simp_all;try omega)
def Aw(x:c7):Bool:=vD x.answer.ae && !(decide ((x.answer.ae.length:Int)>40)) && !(decide ((x.answer.cut.length:Int)>100)) && !(decide ((x.q.name.length:Int)>100))
def rI(t:cO):Bool:=(t.heard.take 43).all Aw&&vD t.result.ae&&Da t.cache&&decide ((t.cache.list.length:Int)<=60)&&decide ((t.heard.length:Int)<=42)&&decide ((t.q.name.length:Int)<=100)&&decide ((t.result.q.name.length:Int)<=100)
theorem MZ(t:cO)(h1:t.cache.list.length<=maxLen)(h2:t.heard.length<=maxLen)(h3:∀ x∈t.heard,x.answer.ae.length<=maxLen)(h4:t.result.ae.length<=maxLen):ar E 35 [t.enc] (· = .bool (rI t)):=by
 have c1:=VY t.cache h1;have c2:=MY t.result.ae h4;obtain⟨⟨qn,qt⟩,at_,⟨cl⟩,l,⟨rk,⟨rn,rt⟩,rl⟩⟩:=t;unfold rI;simp only at c1 c2 h2 h3 ⊢;unfold maxLen at h2;show ar E _ [DV.agg [.str qn,.int .i64 qt,.int .i64 at_,.sl (cl.map Entry.enc),.sl (l.map c7.enc),.int .i64 rk,.str rn,.int .i64 rt,.sl (rl.map Signed.enc)]] _;refine eP F35 ?_;refine J.loop (κ:=Nat) ([2,3,4]++rg 6 54) (fun k=>[(3,.d (.int .i64 k))]) (fun _=>[]) (fun k=>k<=l.length/\k<=43/\(l.take k).all Aw=true) (fun k=>l.length-k) 0 ⟨afv _,by omega,rfl⟩ ?_ ?_
 ·exact sZ
 rintro k ⟨hk,fL,aL⟩ IH;refine J.head ag F35 2000 ?_;(conv=>whnf);by_cases ah:k<l.length/\k<43
 ·obtain⟨x,hx⟩:=aH ah.1;have no:=fun h=>di (l:=l.take 43) (k:=k) (p:=Aw) (by rw[aek,if_pos ah.2];exact hx) h;have back:=fun h=>IH (k+1) ⟨by omega,by omega,dv aL hx h⟩ (by omega);have nC:Aw x=(vD x.answer.ae && !(decide ((x.answer.ae.length:Int)>40)) && !(decide ((x.answer.cut.length:Int)>100)) && !(decide ((x.q.name.length:Int)>100))):=rfl;have c3:=MY x.answer.ae (h3 x (afh hx));refine aY (by simp;omega) ?_;refine gO F35 ?_;refine aY (by simp;omega) ?_;refine gO F35 ?_;repeat' (first|with_reducible(first|refine aD (aO hx) rfl ?_|refine aq (c3) ?_|refine ax (c3) ?_|refine cY ?_|refine cN ?_|refine ai (fun _=>?_) (fun _=>?_))|refine gA F35 ?_|refine gB ?_|with_reducible rfl)
  all_goals try (rw[no (by rw[nC];simp_all)];simp;done)
  refine gO F35 ?_;refine J.back (back (by rw[nC];simp_all)) ?_;exact sZ
 ·rw[Av aL ah fL];by_cases h:k<l.length
  ·refine aY (by simpa using h) ?_;refine gO F35 ?_;refine aU (by simp;omega) ?_;refine gO F35 ?_;repeat' (first|with_reducible(first|refine aq (c1) ?_|refine ax (c1) ?_|refine aq (c2) ?_|refine ax (c2) ?_|refine cY ?_|refine cN ?_|refine ai (fun _=>?_) (fun _=>?_))|refine gA F35 ?_|refine gB ?_|with_reducible rfl)
   all_goals (refine congrArg DV.bool ?_;simp_all;try omega)
  ·refine aU (by simpa using h) ?_;refine gO F35 ?_;refine aR ?_;refine gO F35 ?_;repeat' (first|with_reducible(first|refine aq (c1) ?_|refine ax (c1) ?_|refine aq (c2) ?_|refine ax (c2) ?_|refine cY ?_|refine cN ?_|refine ai (fun _=>?_) (fun _=>?_))|refine gA F35 ?_|refine gB ?_|with_reducible rfl)
   all_goals (refine congrArg DV.bool ?_;simp_all;try omega)
theorem YX:OA Tryz.prog 202 5:=YL Tryz.OD
theorem YY:Ox Tryz.prog 202 5:=YG Tryz.OD
theorem YZ:Oy Tryz.prog 269 5:=YH Tryz.OC
theorem Y0:OB Tryz.prog 269 5:=YM Tryz.OC
theorem Y1:Oz Tryz.prog 268 5:=YI Tryz.YW
theorem tQ{G:List (Nat × DV)}{s:List AV}{x:Operand}{ds:List DV}(h:bh G s x (.d (.agg ds))):bh G s x (.agg (ds.map .d)):=fun c ac h3 h4=>by
 have hv:=h c ac h3 h4;generalize ac.eval x=p at hv ⊢;cases hv with
 |d _ _ hd =>
  cases hd with
  |agg _ vs hlen bG =>
   refine .agg _ vs (by simpa using hlen) fun j y v hy hv=>?_;rw[ad1]at hy;cases hq:ds[j]? with
   |none=>rw[hq]at hy;cases hy
   |some z=>rw[hq]at hy;cases hy;exact .d _ _ (bG j z v hq hv)
def fb(L:List DV):Prop:=L≠[]/\∀ x∈L,isByte x
theorem fb.more{L M:List DV}(h:fb L)(k:∀ x∈M,isByte x):fb (L++M):=⟨by simp[h.1],fun x hx=>(aeI.1 hx).elim (h.2 x) (k x)⟩
theorem fb.cells{L:List DV}(h:fb L):∀ x∈L,x.cells=[x]:=fun x hx=>by obtain⟨n,rfl⟩:=h.2 x hx;rfl
theorem oI(n:Int):∀ x∈[DV.int .u8 n],isByte x:=fun x hx=>⟨n,List.mem_singleton.1 hx⟩
def nQ(n:Int):List DV:=[56,48,40,32,24,16,8,0].map fun k => .int .u8 (IntKind.u8.wrap (lJ .shr .u64 n k))
def iD(n:Int):List DV:=[24,16,8,0].map fun k => .int .u8 (IntKind.u8.wrap (lJ .shr .i64 n k))
theorem Y2(n:Int){k:Nat}(h:k<8):(nQ n).take k++[.int .u8 (IntKind.u8.wrap (lJ .shr .u64 n (56-8*(k:Int)).toNat))]=(nQ n).take (k+1):=by
 match k,h with
 |0,_=>rfl
 |1,_=>rfl
 |2,_=>rfl
 |3,_=>rfl
 |4,_=>rfl
 |5,_=>rfl
 |6,_=>rfl
 |7,_=>rfl
theorem Y3(n:Int){k:Nat}(h:k<4):(iD n).take k++[.int .u8 (IntKind.u8.wrap (lJ .shr .i64 n (24-8*(k:Int)).toNat))]=(iD n).take (k+1):=by
 match k,h with
 |0,_=>rfl
 |1,_=>rfl
 |2,_=>rfl
 |3,_=>rfl
theorem Iq(n:Int):∀ x∈nQ n,isByte x:=fun x hx=>by obtain⟨k,-,rfl⟩:=aer.1 hx;exact⟨_,rfl⟩
theorem mW(n:Int):∀ x∈iD n,isByte x:=fun x hx=>by obtain⟨k,-,rfl⟩:=aer.1 hx;exact⟨_,rfl⟩
theorem OE:lH E.P 202:=⟨_,Tryz.func202,by rfl,by decide⟩
theorem OF:lH E.P 269:=⟨_,Tryz.func269,by rfl,by decide⟩
theorem Y4:lH E.P 268:=⟨_,Tryz.func268,by rfl,by decide⟩
theorem Ir(n:Int){L:List DV}(hL:fb L)(hl:L.length+1<=140737488355328) :
  aw E 202 [.cells [.own 1 0,.d (.int .i64 0),.d (.int .i8 0)],.arr 0 (5,1) L] [.ptr 0 0,.d (.int .u8 n)] (fun a h=>a=.d .eR/\h=[.cells [.own 1 1,.d (.int .i64 0),.d (.int .i8 0)],.arr 1 (5,1) (L++[.int .u8 n])]) :=
 YN YY OE hL.1 hL.cells hl
theorem Y5(n:Int) :
  aw E 202 [.cells [.d .aI,.d (.int .i64 0),.d (.int .i8 0)]] [.ptr 0 0,.d (.int .u8 n)] (fun a h=>a=.d .eR/\h=[.cells [.own 1 0,.d (.int .i64 0),.d (.int .i8 0)],.arr 0 (5,1) ([.int .u8 n])]) :=
 YR YX OE
theorem OG{L:List DV}(hL:fb L) :
  aw E 269 [.cells [.own 1 0,.d (.int .i64 0),.d (.int .i8 0)],.arr 0 (5,1) L] [.ptr 0 0,.d (.str [])] (fun a h=>a=.aF [.d (.int .i64 0),.d .eR]/\h=[.cells [.own 1 1,.d (.int .i64 0),.d (.int .i8 0)],.arr 1 (5,1) L]) :=
 YS Y0 OF hL.1 hL.cells
theorem OH(s:Text){L:List DV}(hL:fb L)(hs:s≠[])(hl:L.length+s.length<=140737488355328) :
  aw E 269 [.cells [.own 1 0,.d (.int .i64 0),.d (.int .i8 0)],.arr 0 (5,1) L] [.ptr 0 0,.d (.str s)] (fun a h=>a=.aF [.d (.int .i64 s.length),.d .eR]/\h=[.cells [.own 1 1,.d (.int .i64 0),.d (.int .i8 0)],.arr 1 (5,1) (L++s.map kV)]) :=
 YO YZ OF hL.1 hs hL.cells hl
theorem Y6(M:List DV){L:List DV}(hL:fb L)(hM:fb M)(hl:L.length+M.length<=140737488355328) :
  aw E 268 [.cells [.own 1 0,.d (.int .i64 0),.d (.int .i8 0)],.arr 0 (5,1) L] [.ptr 0 0,.d (.sl M)] (fun a h=>a=.aF [.d (.int .i64 M.length),.d .eR]/\h=[.cells [.own 1 1,.d (.int .i64 0),.d (.int .i8 0)],.arr 1 (5,1) (L++M)]) :=
 YP Y1 Y4 hL.1 hM.1 hL.cells hM.cells hl
theorem DJ(n:Int)(L:List DV)(hL:fb L)(hl:L.length+8<=140737488355328):aw E 122 [.cells [.own 1 0,.d (.int .i64 0),.d (.int .i8 0)],.arr 0 (5,1) L] [.ptr 0 0,.d (.int .u64 n)] (fun a b=>a=.aF []/\b=[.cells [.own 1 1,.d (.int .i64 0),.d (.int .i8 0)],.arr 1 (5,1) (L++nQ n)]):=by
 refine aw.run ag (fn:=Tryz.f122) Tryz.func122 (body:=Tryz.f122.body.getD .skip) rfl (by decide) 2000 rfl ?_;(conv=>whnf);refine J.loop (κ:=Nat) (rg 4 13) (fun k=>[(4,.d (.int .i64 (56-8*(k:Int))))]) (fun k=>[(0,.cells [.own 1 1,.d (.int .i64 0),.d (.int .i8 0)]),(1,.arr 1 (5,1) (L++(nQ n).take k))]) (fun k=>k<=8) (fun k=>8-k) 0 (afv _) ?_ ?_
 ·(conv=>whnf);repeat (first|exact trivial|(refine sI ?_;conv=>whnf))
  refine And.intro (by simp) ?_;exact sZ
 ·intro k hk IH;refine J.head ag Tryz.func122 2000 ?_;(conv=>whnf);refine ai (fun h=>?_) (fun h=>?_)
  ·have ah:k<8:=by simp at h;omega
   have Y7:((nQ n).take k).length<=7:=by rw[aeu];omega
   refine gO Tryz.func122 ?_;refine dU ?_;refine aW (by omega) ?_;refine gD ?_;refine zS (Ir _ (hL.more (M:=(nQ n).take k) fun x hx=>Iq n x (ag0 hx)) (by rw[aey];omega)) ?_;refine gD ?_;refine And.intro (by kernel_rfl) ?_;(conv=>whnf);refine gO Tryz.func122 ?_;refine J.back (IH (k+1) (by omega) (by omega)) ?_;(conv=>whnf);repeat (first|exact trivial|(refine sI ?_;conv=>whnf))
   refine And.intro (by rw[afb,Y2 n ah]) ?_;exact sZ
  ·have aC:k=8:=by simp at h;omega
   subst aC;refine gO Tryz.func122 ?_;exact⟨rfl,rfl⟩
theorem A0(n:Int)(L:List DV)(hL:fb L)(hl:L.length+4<=140737488355328):aw E 197 [.cells [.own 1 0,.d (.int .i64 0),.d (.int .i8 0)],.arr 0 (5,1) L] [.ptr 0 0,.d (.int .i64 n)] (fun a b=>a=.aF []/\b=[.cells [.own 1 1,.d (.int .i64 0),.d (.int .i8 0)],.arr 1 (5,1) (L++iD n)]):=by
 refine aw.run ag (fn:=Tryz.f197) Tryz.func197 (body:=Tryz.f197.body.getD .skip) rfl (by decide) 2000 rfl ?_;(conv=>whnf);refine J.loop (κ:=Nat) (rg 4 13) (fun k=>[(4,.d (.int .i64 (24-8*(k:Int))))]) (fun k=>[(0,.cells [.own 1 1,.d (.int .i64 0),.d (.int .i8 0)]),(1,.arr 1 (5,1) (L++(iD n).take k))]) (fun k=>k<=4) (fun k=>4-k) 0 (afv _) ?_ ?_
 ·(conv=>whnf);repeat (first|exact trivial|(refine sI ?_;conv=>whnf))
  refine And.intro (by simp) ?_;exact sZ
 ·intro k hk IH;refine J.head ag Tryz.func197 2000 ?_;(conv=>whnf);refine ai (fun h=>?_) (fun h=>?_)
  ·have ah:k<4:=by simp at h;omega
   have Y7:((iD n).take k).length<=3:=by rw[aeu];omega
   refine gO Tryz.func197 ?_;refine dU ?_;refine aW (by omega) ?_;refine gD ?_;refine zS (Ir _ (hL.more (M:=(iD n).take k) fun x hx=>mW n x (ag0 hx)) (by rw[aey];omega)) ?_;refine gD ?_;refine And.intro (by kernel_rfl) ?_;(conv=>whnf);refine gO Tryz.func197 ?_;refine J.back (IH (k+1) (by omega) (by omega)) ?_;(conv=>whnf);repeat (first|exact trivial|(refine sI ?_;conv=>whnf))
   refine And.intro (by rw[afb,Y3 n ah]) ?_;exact sZ
  ·have aC:k=4:=by simp at h;omega
   subst aC;refine gO Tryz.func197 ?_;exact⟨rfl,rfl⟩
theorem rY(n:Int)(L:List DV)(hL:fb L)(hl:L.length+1<=140737488355328):aw E 200 [.cells [.own 1 0,.d (.int .i64 0),.d (.int .i8 0)],.arr 0 (5,1) L] [.ptr 0 0,.d (.int .i64 n)] (fun a b=>a=.aF []/\b=[.cells [.own 1 1,.d (.int .i64 0),.d (.int .i8 0)],.arr 1 (5,1) (L++[.int .u8 (IntKind.u8.wrap n)])]):=by
 refine aw.run ag (fn:=Tryz.f200) Tryz.func200 (body:=Tryz.f200.body.getD .skip) rfl (by decide) 2000 rfl ?_;conv=>whnf
 with_reducible refine aS (Ir _ hL hl) ?_
 refine gO Tryz.func200 ?_;exact⟨rfl,rfl⟩
theorem OI(n:Int):aw E 200 [.cells [.d .aI,.d (.int .i64 0),.d (.int .i8 0)]] [.ptr 0 0,.d (.int .i64 n)] (fun a b=>a=.aF []/\b=[.cells [.own 1 0,.d (.int .i64 0),.d (.int .i8 0)],.arr 0 (5,1) ([.int .u8 (IntKind.u8.wrap n)])]):=by
 refine aw.run ag (fn:=Tryz.f200) Tryz.func200 (body:=Tryz.f200.body.getD .skip) rfl (by decide) 2000 rfl ?_;conv=>whnf
 with_reducible refine aS (Y5 _) ?_
 refine gO Tryz.func200 ?_;exact⟨rfl,rfl⟩
theorem nR(n:Int)(L:List DV)(hL:fb L)(hl:L.length+8<=140737488355328):aw E 196 [.cells [.own 1 0,.d (.int .i64 0),.d (.int .i8 0)],.arr 0 (5,1) L] [.ptr 0 0,.d (.int .i64 n)] (fun a b=>a=.aF []/\b=[.cells [.own 1 1,.d (.int .i64 0),.d (.int .i8 0)],.arr 1 (5,1) (L++fX n)]):=by
 refine aw.run ag (fn:=Tryz.f196) Tryz.func196 (body:=Tryz.f196.body.getD .skip) rfl (by decide) 2000 rfl ?_;conv=>whnf
 with_reducible refine aS (DJ _ L hL hl) ?_
 refine gO Tryz.func196 ?_;exact⟨rfl,rfl⟩
theorem fb.one(n:Int):fb [DV.int .u8 n]:=⟨by simp,oI n⟩
theorem yi(t:Text)(L:List DV)(hL:fb L)(hl:L.length+(eX t).length<=140737488355328):aw E 199 [.cells [.own 1 0,.d (.int .i64 0),.d (.int .i8 0)],.arr 0 (5,1) L] [.ptr 0 0,.d (.str t)] (fun a b=>a=.aF []/\b=[.cells [.own 1 2,.d (.int .i64 0),.d (.int .i8 0)],.arr 2 (5,1) (L++eX t)]):=by
 rw[mI]at hl;have hM:=hL.more (oI (IntKind.u8.wrap t.length));cases t with
 |nil =>
  refine aw.run ag (fn:=Tryz.f199) Tryz.func199 (body:=Tryz.f199.body.getD .skip) rfl (by decide) 2000 rfl ?_;conv=>whnf
  with_reducible refine aS (rY _ L hL (by omega)) ?_
  refine gO F199 ?_
  with_reducible refine aS (OG hM) ?_
  refine gO F199 ?_;exact⟨rfl,rfl⟩
 |cons c r =>
  refine aw.run ag (fn:=Tryz.f199) Tryz.func199 (body:=Tryz.f199.body.getD .skip) rfl (by decide) 2000 rfl ?_;conv=>whnf
  with_reducible refine aS (rY _ L hL (by omega)) ?_
  refine gO F199 ?_
  with_reducible refine aS (OH (c::r) hM (by simp) (by simp at hl ⊢;omega)) ?_
  refine gO F199 ?_;exact⟨rfl,by rw[afb];rfl⟩
theorem Y8(t:Text)(hl:(eX t).length<=140737488355328):aw E 199 [.cells [.d .aI,.d (.int .i64 0),.d (.int .i8 0)]] [.ptr 0 0,.d (.str t)] (fun a b=>a=.aF []/\b=[.cells [.own 1 1,.d (.int .i64 0),.d (.int .i8 0)],.arr 1 (5,1) (eX t)]):=by
 rw[mI]at hl;have hM:=fb.one (IntKind.u8.wrap t.length);cases t with
 |nil =>
  refine aw.run ag (fn:=Tryz.f199) Tryz.func199 (body:=Tryz.f199.body.getD .skip) rfl (by decide) 2000 rfl ?_;conv=>whnf
  with_reducible refine aS (OI _) ?_
  refine gO F199 ?_
  with_reducible refine aS (OG hM) ?_
  refine gO F199 ?_;exact⟨rfl,rfl⟩
 |cons c r =>
  refine aw.run ag (fn:=Tryz.f199) Tryz.func199 (body:=Tryz.f199.body.getD .skip) rfl (by decide) 2000 rfl ?_;conv=>whnf
  with_reducible refine aS (OI _) ?_
  refine gO F199 ?_
  with_reducible refine aS (OH (c::r) hM (by simp) (by simp at hl ⊢;omega)) ?_
  refine gO F199 ?_;exact⟨rfl,rfl⟩
theorem fb.text(t:Text):fb (eX t):=⟨by simp[eX],ln _⟩
def jv(q:bC):List DV:=eX q.name++[.int .u8 (IntKind.u8.wrap q.type)]
theorem yj(q:bC):∀ x∈jv q,isByte x:=fun x hx=>(aeI.1 hx).elim (ln _ x) (oI _ x)
theorem OJ(q:bC)(L:List DV)(hL:fb L)(hl:L.length+(jv q).length<=140737488355328):aw E 195 [.cells [.own 1 0,.d (.int .i64 0),.d (.int .i8 0)],.arr 0 (5,1) L] [.ptr 0 0,.d q.enc] (fun a b=>a=.aF []/\b=[.cells [.own 1 3,.d (.int .i64 0),.d (.int .i8 0)],.arr 3 (5,1) (L++jv q)]):=by
 have o5:L.length+(eX q.name).length+1<=140737488355328:=by simp[jv]at hl;omega
 apply aw.kK
 case hk=>rfl
 refine aw.run ag (fn:=Tryz.f195) Tryz.func195 (body:=Tryz.f195.body.getD .skip) rfl (by decide) 2000 rfl ?_;conv=>whnf
 with_reducible refine aS (yi q.name L hL (by omega)) ?_
 refine gO Tryz.func195 ?_
 with_reducible refine aS (rY q.type _ (hL.more (ln _)) (by rw[aey];omega)) ?_
 refine gO Tryz.func195 ?_;exact⟨rfl,by rw[afb];rfl⟩
theorem Y9(q:bC)(hl:(jv q).length<=140737488355328):aw E 195 [.cells [.d .aI,.d (.int .i64 0),.d (.int .i8 0)]] [.ptr 0 0,.d q.enc] (fun a b=>a=.aF []/\b=[.cells [.own 2 2,.d (.int .i64 0),.d (.int .i8 0)],.cells [.d (.str q.name),.d (.int .i64 q.type)],.arr 2 (5,1) (jv q)]):=by
 have o5:(eX q.name).length+1<=140737488355328:=by simp[jv]at hl;omega
 refine aw.run ag (fn:=Tryz.f195) Tryz.func195 (body:=Tryz.f195.body.getD .skip) rfl (by decide) 2000 rfl ?_;conv=>whnf
 with_reducible refine aS (Y8 q.name (by omega)) ?_
 refine gO Tryz.func195 ?_
 with_reducible refine aS (rY q.type _ (fb.text q.name) (by omega)) ?_
 refine gO Tryz.func195 ?_;exact⟨rfl,rfl⟩
def iE(g:c9):List DV:=eX g.au++fX g.key++fX g.ku++fX g.bL++fX g.upto++nQ g.sum
theorem Is(g:c9):∀ x∈iE g,isByte x:=fun x hx=>by
 simp only[iE,aeI]at hx;rcases hx with((((h|h)|h)|h)|h)|h
 ·exact ln _ x h
 ·exact gv _ x h
 ·exact gv _ x h
 ·exact gv _ x h
 ·exact gv _ x h
 ·exact Iq _ x h
def mX(s:cM):List DV:=if s.data=[]then iD 0++eX s.name++[.int .u8 (IntKind.u8.wrap s.type)]++fX s.bY else iD (mJ s).length++mJ s
theorem OL(s:cM):∀ x∈mX s,isByte x:=fun x hx=>by
 unfold mX at hx;split at hx<;>simp only[aeI]at hx
 ·rcases hx with((h|h)|h)|h
  ·exact mW _ x h
  ·exact ln _ x h
  ·exact oI _ x h
  ·exact gv _ x h
 ·exact hx.elim (mW _ x) (GN s x)
def iV(s:Signed):List DV:=mX s.set++[.int .u8 (IntKind.u8.wrap s.sigs.length)]++s.sigs.flatMap iE
theorem lK{α:Type}{f:α->List DV}{l:List α}(h:∀ y,∀ x∈f y,isByte x):∀ x∈l.flatMap f,isByte x:=fun x hx=>by
 obtain⟨y,-,hy⟩:=List.mem_flatMap.1 hx;exact h y x hy
theorem A2(s:Signed):∀ x∈iV s,isByte x:=fun x hx=>by
 simp only[iV,aeI]at hx;rcases hx with(h|h)|h
 ·exact OL _ x h
 ·exact oI _ x h
 ·exact lK Is x h
theorem A3{α:Type}{f:α->List DV}{l:List α}{k:Nat}{x:α}(hx:l[k]?=some x):((l.take k).flatMap f).length+(f x).length<=(l.flatMap f).length:=by
 have e:l.flatMap f=(l.take (k+1)).flatMap f++(l.drop (k+1)).flatMap f:=by rw[<- agJ,List.take_append_drop]
 rw[e,cG hx,agJ,aey,aey];simp
theorem A4{α:Type}{f:α->List DV}{l:List α}{k:Nat}{x:α}(hx:l[k]?=some x)(M:List DV):M++(l.take k).flatMap f++f x=M++(l.take (k+1)).flatMap f:=by
 rw[cG hx,agJ];simp
theorem fb.set(s:cM):fb (mJ s):=⟨by simp[mJ,tu,eX],GN s⟩
theorem OM(s:Signed)(hf:s.set.Fits)(hs:s.set.data=[]\/er s.set=true)(hg:s.sigs.length<=maxLen)(L:List DV)(hL:fb L)(hl:L.length+(iV s).length<=140737488355328):aw E 198 [.cells [.own 1 0,.d (.int .i64 0),.d (.int .i8 0)],.arr 0 (5,1) L] [.ptr 0 0,.d s.enc] (fun a b=>a=.aF []/\b=[.cells [.own 1 7,.d (.int .i64 0),.d (.int .i8 0)],.arr 7 (5,1) (L++iV s)]):=by
 have hl0:(iV s).length=(mX s.set).length+1+(s.sigs.flatMap iE).length:=by simp only[iV,aey,agw]
 have o5:L.length+(mX s.set).length+1+(s.sigs.flatMap iE).length<=140737488355328:=by omega
 have hM:fb (L++(mX s.set++[.int .u8 (IntKind.u8.wrap s.sigs.length)])):=hL.more fun x hx=>(aeI.1 hx).elim (OL _ x) (oI _ x);have ON:(L++(mX s.set++[DV.int .u8 (IntKind.u8.wrap s.sigs.length)])).length+(s.sigs.flatMap iE).length<=140737488355328:=by simp only[aey,agw];omega
 obtain⟨M,v7⟩:∃ M,M=L++(mX s.set++[DV.int .u8 (IntKind.u8.wrap s.sigs.length)]):=⟨_,rfl⟩;have gI:L++iV s=M++s.sigs.flatMap iE:=by rw[v7];simp[iV]
 rw[<- v7]at hM ON;rw[gI];clear hl gI;obtain⟨⟨sn,st,sl,sd⟩,l⟩:=s;simp only at hf hs hg v7 o5 ON ⊢;unfold maxLen at hg;apply aw.kK
 case hk=>rfl
 show aw E _ _ [_,.d (DV.agg [.str sn,.int .i64 st,.int .i64 sl,pX sd,pY l])] _;refine aw.run ag (fn:=Tryz.f198) Tryz.func198 (body:=Tryz.f198.body.getD .skip) rfl (by decide) 2000 rfl ?_;(conv=>whnf);by_cases hd:sd=[]
 ·have hb:mX ⟨sn,st,sl,sd⟩=iD 0++eX sn++[DV.int .u8 (IntKind.u8.wrap st)]++fX sl:=by unfold mX;rw[if_pos hd]
  rw[hb]at o5 v7;simp only[aey,agw]at o5;subst hd;refine aY rfl ?_;refine gO F198 ?_
  with_reducible refine aS (A0 _ L hL (by have:(iD 0).length=4:=rfl;omega)) ?_
  refine gO F198 ?_
  with_reducible refine aS (yi sn _ (hL.more (mW _)) (by simp;omega)) ?_
  refine gO F198 ?_
  with_reducible refine aS (rY st _ ((hL.more (mW _)).more (ln _)) (by simp;omega)) ?_
  refine gO F198 ?_
  with_reducible refine aS (nR sl _ (((hL.more (mW _)).more (ln _)).more (oI _)) (by have:(fX sl).length=8:=rfl;simp;omega)) ?_
  refine gO F198 ?_
  with_reducible refine aS (rY _ _ ((((hL.more (mW _)).more (ln _)).more (oI _)).more (gv _)) (by simp only[aey,agw];omega)) ?_
  refine gO F198 ?_;refine J.loop (κ:=Nat) ([7,9]++rg 55 29) (fun k=>[(55,.d (.int .i64 k))]) (fun k=>[(0,.cells [.own 1 7,.d (.int .i64 0),.d (.int .i8 0)]),(1,.arr 7 (5,1) (M++(l.take k).flatMap iE))]) (fun k=>k<=l.length) (fun k=>l.length-k) 0 (afv _) ?_ ?_
  ·(conv=>whnf);repeat (first|exact trivial|(refine sI ?_;conv=>whnf))
   refine And.intro (by rw[v7];simp[hb]) ?_;exact sZ
  intro k hk IH;refine J.head ag F198 2000 ?_;(conv=>whnf);refine ai (fun h5=>?_) (fun h5=>?_)
  ·have ah:k<l.length:=by simpa using h5
   obtain⟨x,hx⟩:=aH ah;have mu:=A3 (f:=iE) hx;have gS:(iE x).length=(eX x.au).length+40:=by simp only[iE,aey,dz];rfl
   have b0:=hM.more (lK (f:=iE) (l:=l.take k) Is);have b1:=b0.more (ln x.au);have b2:=b1.more (gv x.key);have b3:=b2.more (gv x.ku);have b4:=b3.more (gv x.bL);have b5:=b4.more (gv x.upto);refine gO F198 ?_;refine aD (e:=x.enc) (aO hx) rfl ?_;refine gO F198 ?_
   with_reducible refine aS (yi x.au _ b0 (by simp only[aey];omega)) ?_
   refine gO F198 ?_;refine J.mB ?_;refine J.run ag F198 2000 ?_;(conv=>whnf);refine aY (by decide) ?_;refine gO F198 ?_;refine J.tj ag 0 rfl rfl rfl rfl rfl rfl rfl (tQ (aV rfl)) (aV rfl) rfl (by decide) rfl ?_;refine gO F198 ?_
   with_reducible refine aS (nR x.key _ b1 (by simp only[aey,dz];omega)) ?_
   refine gO F198 ?_;refine J.again ?_;refine J.run ag F198 2000 ?_;(conv=>whnf);refine aY (by decide) ?_;refine gO F198 ?_;refine J.tj ag 1 rfl rfl rfl rfl rfl rfl rfl (tQ (aV rfl)) (aV rfl) rfl (by decide) rfl ?_;refine gO F198 ?_
   with_reducible refine aS (nR x.ku _ b2 (by simp only[aey,dz];omega)) ?_
   refine gO F198 ?_;refine J.again ?_;refine J.run ag F198 2000 ?_;(conv=>whnf);refine aY (by decide) ?_;refine gO F198 ?_;refine J.tj ag 2 rfl rfl rfl rfl rfl rfl rfl (tQ (aV rfl)) (aV rfl) rfl (by decide) rfl ?_;refine gO F198 ?_
   with_reducible refine aS (nR x.bL _ b3 (by simp only[aey,dz];omega)) ?_
   refine gO F198 ?_;refine J.again ?_;refine J.run ag F198 2000 ?_;(conv=>whnf);refine aY (by decide) ?_;refine gO F198 ?_;refine J.tj ag 3 rfl rfl rfl rfl rfl rfl rfl (tQ (aV rfl)) (aV rfl) rfl (by decide) rfl ?_;refine gO F198 ?_
   with_reducible refine aS (nR x.upto _ b4 (by simp only[aey,dz];omega)) ?_
   refine gO F198 ?_;refine J.again ?_;refine J.run ag F198 2000 ?_;(conv=>whnf);refine aU (by decide) ?_;refine gO F198 ?_
   with_reducible refine aS (DJ x.sum _ b5 (by simp only[aey,dz];omega)) ?_
   refine gO F198 ?_;refine J.back (IH (k+1) (by omega) (by omega)) ?_;(conv=>whnf);repeat (first|exact trivial|(refine sI ?_;conv=>whnf))
   refine And.intro (by rw[<- A4 hx];simp only[iE,afb]) ?_;exact sZ
  ·have aC:l.length<=k:=by simpa using h5
   rw[afS aC];refine gO F198 ?_;exact⟨rfl,rfl⟩
 ·have aP:=hs.resolve_left hd;have hb:mX ⟨sn,st,sl,sd⟩=iD (mJ ⟨sn,st,sl,sd⟩).length++mJ ⟨sn,st,sl,sd⟩:=by unfold mX;rw[if_neg hd]
  rw[hb]at o5 v7;simp only[aey]at o5;have dL:(iD (mJ ⟨sn,st,sl,sd⟩).length).length=4:=rfl;refine aU (by simpa using hd) ?_;refine gO F198 ?_
  with_reducible refine aq (Uq ⟨sn,st,sl,sd⟩ hf aP) ?_
  refine gO F198 ?_
  with_reducible refine aS (A0 _ L hL (by omega)) ?_
  refine gO F198 ?_
  with_reducible refine aS (Y6 (mJ ⟨sn,st,sl,sd⟩) (hL.more (mW _)) (fb.set _) (by simp only[aey];omega)) ?_
  refine gO F198 ?_
  with_reducible refine aS (rY _ _ ((hL.more (mW _)).more (GN _)) (by simp only[aey];omega)) ?_
  refine gO F198 ?_;refine J.loop (κ:=Nat) ([7,9]++rg 55 29) (fun k=>[(55,.d (.int .i64 k))]) (fun k=>[(0,.cells [.own 1 7,.d (.int .i64 0),.d (.int .i8 0)]),(1,.arr 7 (5,1) (M++(l.take k).flatMap iE))]) (fun k=>k<=l.length) (fun k=>l.length-k) 0 (afv _) ?_ ?_
  ·(conv=>whnf);repeat (first|exact trivial|(refine sI ?_;conv=>whnf))
   refine And.intro (by rw[v7];simp[hb]) ?_;exact sZ
  intro k hk IH;refine J.head ag F198 2000 ?_;(conv=>whnf);refine ai (fun h5=>?_) (fun h5=>?_)
  ·have ah:k<l.length:=by simpa using h5
   obtain⟨x,hx⟩:=aH ah;have mu:=A3 (f:=iE) hx;have gS:(iE x).length=(eX x.au).length+40:=by simp only[iE,aey,dz];rfl
   have b0:=hM.more (lK (f:=iE) (l:=l.take k) Is);have b1:=b0.more (ln x.au);have b2:=b1.more (gv x.key);have b3:=b2.more (gv x.ku);have b4:=b3.more (gv x.bL);have b5:=b4.more (gv x.upto);refine gO F198 ?_;refine aD (e:=x.enc) (aO hx) rfl ?_;refine gO F198 ?_
   with_reducible refine aS (yi x.au _ b0 (by simp only[aey];omega)) ?_
   refine gO F198 ?_;refine J.mB ?_;refine J.run ag F198 2000 ?_;(conv=>whnf);refine aY (by decide) ?_;refine gO F198 ?_;refine J.tj ag 0 rfl rfl rfl rfl rfl rfl rfl (tQ (aV rfl)) (aV rfl) rfl (by decide) rfl ?_;refine gO F198 ?_
   with_reducible refine aS (nR x.key _ b1 (by simp only[aey,dz];omega)) ?_
   refine gO F198 ?_;refine J.again ?_;refine J.run ag F198 2000 ?_;(conv=>whnf);refine aY (by decide) ?_;refine gO F198 ?_;refine J.tj ag 1 rfl rfl rfl rfl rfl rfl rfl (tQ (aV rfl)) (aV rfl) rfl (by decide) rfl ?_;refine gO F198 ?_
   with_reducible refine aS (nR x.ku _ b2 (by simp only[aey,dz];omega)) ?_
   refine gO F198 ?_;refine J.again ?_;refine J.run ag F198 2000 ?_;(conv=>whnf);refine aY (by decide) ?_;refine gO F198 ?_;refine J.tj ag 2 rfl rfl rfl rfl rfl rfl rfl (tQ (aV rfl)) (aV rfl) rfl (by decide) rfl ?_;refine gO F198 ?_
   with_reducible refine aS (nR x.bL _ b3 (by simp only[aey,dz];omega)) ?_
   refine gO F198 ?_;refine J.again ?_;refine J.run ag F198 2000 ?_;(conv=>whnf);refine aY (by decide) ?_;refine gO F198 ?_;refine J.tj ag 3 rfl rfl rfl rfl rfl rfl rfl (tQ (aV rfl)) (aV rfl) rfl (by decide) rfl ?_;refine gO F198 ?_
   with_reducible refine aS (nR x.upto _ b4 (by simp only[aey,dz];omega)) ?_
   refine gO F198 ?_;refine J.again ?_;refine J.run ag F198 2000 ?_;(conv=>whnf);refine aU (by decide) ?_;refine gO F198 ?_
   with_reducible refine aS (DJ x.sum _ b5 (by simp only[aey,dz];omega)) ?_
   refine gO F198 ?_;refine J.back (IH (k+1) (by omega) (by omega)) ?_;(conv=>whnf);repeat (first|exact trivial|(refine sI ?_;conv=>whnf))
   refine And.intro (by rw[<- A4 hx];simp only[iE,afb]) ?_;exact sZ
  ·have aC:l.length<=k:=by simpa using h5
   rw[afS aC];refine gO F198 ?_;exact⟨rfl,rfl⟩
def Signed.nS(s:Signed):Prop:=s.set.Fits/\(s.set.data=[]\/er s.set=true)/\s.sigs.length<=maxLen
def ly(l:List Signed):List DV:=iD l.length++l.flatMap iV
theorem OO(l:List Signed):∀ x∈ly l,isByte x:=fun x hx=>(aeI.1 hx).elim (mW _ x) (lK A2 x)
theorem gW(n:Int):(iD n).length=4:=rfl
theorem OP(l:List Signed)(hn:l.length<=maxLen)(hf:∀ s∈l,s.nS)(L:List DV)(hL:fb L)(hl:L.length+(ly l).length<=140737488355328):aw E 201 [.cells [.own 1 0,.d (.int .i64 0),.d (.int .i8 0)],.arr 0 (5,1) L] [.ptr 0 0,.d (.sl (l.map Signed.enc))] (fun a b=>a=.aF []/\b=[.cells [.own 1 1,.d (.int .i64 0),.d (.int .i8 0)],.arr 1 (5,1) (L++ly l)]):=by
 unfold maxLen at hn;have hs:(ly l).length=4+(l.flatMap iV).length:=by simp only[ly,aey,gW]
 have hM:=hL.more (mW l.length);apply aw.kK
 case hk=>rfl
 refine aw.run ag (fn:=Tryz.f201) Tryz.func201 (body:=Tryz.f201.body.getD .skip) rfl (by decide) 2000 rfl ?_;conv=>whnf
 with_reducible refine aS (A0 _ L hL (by omega)) ?_
 refine gO Tryz.func201 ?_;refine J.loop (κ:=Nat) ([5]++rg 12 8) (fun k=>[(12,.d (.int .i64 k))]) (fun k=>[(0,.cells [.own 1 1,.d (.int .i64 0),.d (.int .i8 0)]),(1,.arr 1 (5,1) (L++iD l.length++(l.take k).flatMap iV))]) (fun k=>k<=l.length) (fun k=>l.length-k) 0 (afv _) ?_ ?_
 ·(conv=>whnf);repeat (first|exact trivial|(refine sI ?_;conv=>whnf))
  refine And.intro (by simp) ?_;exact sZ
 intro k hk IH;refine J.head ag Tryz.func201 2000 ?_;(conv=>whnf);refine ai (fun h5=>?_) (fun h5=>?_)
 ·have ah:k<l.length:=by simpa using h5
  obtain⟨x,hx⟩:=aH ah;have mu:=A3 (f:=iV) hx;obtain⟨f1,f2,f3⟩:=hf x (afh hx);refine gO Tryz.func201 ?_;refine aD (e:=x.enc) (aO hx) rfl ?_;refine gO Tryz.func201 ?_
  with_reducible refine aS (OM x f1 f2 f3 _ (hM.more (lK (f:=iV) (l:=l.take k) A2)) (by simp only[aey,gW];omega)) ?_
  refine gO Tryz.func201 ?_;refine J.back (IH (k+1) (by omega) (by omega)) ?_;(conv=>whnf);repeat (first|exact trivial|(refine sI ?_;conv=>whnf))
  refine And.intro (A4 hx _) ?_;exact sZ
 ·have aC:l.length<=k:=by simpa using h5
  rw[afS aC];refine gO Tryz.func201 ?_;exact⟨rfl,by simp only[ly,afb];rfl⟩
def lz(e:Entry):List DV:=iV e.signed++eX e.au++fX e.upto
def lA(x:c7):List DV:=fX x.time++fX x.addr++jv x.q++[.int .u8 (IntKind.u8.wrap x.answer.kind)]++eX x.answer.cut++ly x.answer.ae
def oJ(t:cO):List DV:=jv t.q++fX t.time++iD t.cache.list.length
def rZ(v:l3):List DV:=[.int .u8 (IntKind.u8.wrap v.kind)]++jv v.q++ly v.ae
def qs(t:cO):List DV:=oJ t++t.cache.list.flatMap lz++iD t.heard.length++t.heard.flatMap lA++rZ t.result
theorem DK(e:Entry):∀ x∈lz e,isByte x:=fun x hx=>by
 simp only[lz,aeI]at hx;rcases hx with(h|h)|h
 ·exact A2 _ x h
 ·exact ln _ x h
 ·exact gv _ x h
theorem It(e:c7):∀ x∈lA e,isByte x:=fun x hx=>by
 simp only[lA,aeI]at hx;rcases hx with((((h|h)|h)|h)|h)|h
 ·exact gv _ x h
 ·exact gv _ x h
 ·exact yj _ x h
 ·exact oI _ x h
 ·exact ln _ x h
 ·exact OO _ x h
theorem OQ(t:cO):fb (oJ t):=⟨by simp[oJ,jv,eX],fun x hx=>by
 simp only[oJ,aeI]at hx;rcases hx with(h|h)|h
 ·exact yj _ x h
 ·exact gv _ x h
 ·exact mW _ x h⟩
theorem Y'(v:l3):∀ x∈rZ v,isByte x:=fun x hx=>by
 simp only[rZ,aeI]at hx;rcases hx with(h|h)|h
 ·exact oI _ x h
 ·exact yj _ x h
 ·exact OO _ x h
theorem Za(t:cO):fb (qs t):=(((OQ t).more (lK DK)).more (mW _)).more (lK It) |>.more (Y' _)
structure cO.nS(t:cO):Prop where
 cl:t.cache.list.length<=maxLen
 ce:∀ e∈t.cache.list,e.signed.nS
 hl:t.heard.length<=maxLen
 he:∀ x∈t.heard,x.answer.ae.length<=maxLen/\∀ s∈x.answer.ae,s.nS
 rl:t.result.ae.length<=maxLen
 re:∀ s∈t.result.ae,s.nS
theorem Zb(t:cO)(hf:t.nS)(hl:(qs t).length<=140737488355328):aw E 121 [.cells [.d .aI,.d (.int .i64 0),.d (.int .i8 0)]] [.ptr 0 0,.d t.enc] (fun a b=>a=.aF []/\b=[.cells [.own 3 25,.d (.int .i64 0),.d (.int .i8 0)],.cells [.d (.str t.q.name),.d (.int .i64 t.q.type),.d (.int .i64 t.time),.d (.sl (t.cache.list.map Entry.enc)),.d (.sl (t.heard.map c7.enc)),.d (.int .i64 t.result.kind),.d (.str t.result.q.name),.d (.int .i64 t.result.q.type),.d (.sl (t.result.ae.map Signed.enc))],.cells [.d (.str t.q.name),.d (.int .i64 t.q.type)],.arr 25 (5,1) (qs t)]):=by
 have hlen:(qs t).length=(oJ t).length+(t.cache.list.flatMap lz).length+4+(t.heard.flatMap lA).length+(rZ t.result).length:=by simp only[qs,aey,gW]
 have hhd:(oJ t).length=(jv t.q).length+8+4:=by simp only[oJ,aey,gW,dz]
 have F1:(rZ t.result).length=1+(jv t.result.q).length+(ly t.result.ae).length:=by simp only[rZ,aey,agw]
 have v8:=OQ t;have wa:=(v8.more (lK (f:=lz) (l:=t.cache.list) DK)).more (mW t.heard.length);have gI:qs t=oJ t++t.cache.list.flatMap lz++iD t.heard.length++t.heard.flatMap lA++rZ t.result:=rfl;rw[gI];have hM1:jv t.q++fX t.time++iD t.cache.list.length=oJ t:=rfl;generalize Zc:oJ t=M1 at *;obtain⟨h1,h2,h3,h4,h5,h6⟩:=hf;have b1:fb (jv t.q):=⟨by simp[jv,eX],yj _⟩;have b2:=b1.more (gv t.time);clear gI;obtain⟨⟨qn,qt⟩,at_,⟨cl⟩,l,⟨rk,⟨rn,rt⟩,rl⟩⟩:=t;simp only at *;unfold maxLen at h1 h3;show aw E _ _ [_,.d (DV.agg [.str qn,.int .i64 qt,.int .i64 at_,.sl (cl.map Entry.enc),.sl (l.map c7.enc),.int .i64 rk,.str rn,.int .i64 rt,.sl (rl.map Signed.enc)])] _;refine aw.run ag (fn:=Tryz.f121) Tryz.func121 (body:=Tryz.f121.body.getD .skip) rfl (by decide) 2000 rfl ?_;conv=>whnf
 with_reducible refine aS (Y9 ⟨qn,qt⟩ (by omega)) ?_
 refine gO F121 ?_
 with_reducible refine aS (nR at_ _ b1 (by omega)) ?_
 refine gO F121 ?_
 with_reducible refine aS (A0 _ _ b2 (by simp only[aey,dz];omega)) ?_
 refine gO F121 ?_;refine J.loop (κ:=Nat) ([5]++rg 26 17) (fun k=>[(26,.d (.int .i64 k))]) (fun k=>[(0,.cells [.own 3 20,.d (.int .i64 0),.d (.int .i8 0)]),(3,.arr 20 (5,1) (M1++(cl.take k).flatMap lz))]) (fun k=>k<=cl.length) (fun k=>cl.length-k) 0 (afv _) ?_ ?_
 ·(conv=>whnf);repeat (first|exact trivial|(refine sI ?_;conv=>whnf))
  refine And.intro (by rw[<- Zc];simp[oJ]) ?_;exact sZ
 intro k hk IH;refine J.head ag F121 2000 ?_;(conv=>whnf);refine ai (fun h7=>?_) (fun h7=>?_)
 ·have ah:k<cl.length:=by simpa using h7
  obtain⟨x,hx⟩:=aH ah;have mu:=A3 (f:=lz) hx;have gS:(lz x).length=(iV x.signed).length+(eX x.au).length+8:=by simp only[lz,aey,dz]
  obtain⟨f1,f2,f3⟩:=h2 x (afh hx);have b0:=v8.more (lK (f:=lz) (l:=cl.take k) DK);refine gO F121 ?_;refine aD (e:=x.enc) (aO hx) rfl ?_;refine gO F121 ?_
  with_reducible refine aS (OM x.signed f1 f2 f3 _ b0 (by simp only[aey,agw,dz,gW];omega)) ?_
  refine gO F121 ?_
  with_reducible refine aS (yi x.au _ (b0.more (A2 _)) (by simp only[aey,agw,dz,gW];omega)) ?_
  refine gO F121 ?_
  with_reducible refine aS (nR x.upto _ ((b0.more (A2 _)).more (ln _)) (by simp only[aey,agw,dz,gW];omega)) ?_
  refine gO F121 ?_;refine J.back (IH (k+1) (by omega) (by omega)) ?_;(conv=>whnf);repeat (first|exact trivial|(refine sI ?_;conv=>whnf))
  refine And.intro (by rw[<- A4 hx];simp only[lz,afb]) ?_;exact sZ
 have aC:cl.length<=k:=by simpa using h7
 rw[afS aC];refine gO F121 ?_
 with_reducible refine aS (A0 _ _ (v8.more (lK DK)) (by simp only[aey,agw,dz,gW];omega)) ?_
 refine gO F121 ?_;refine J.loop (κ:=Nat) ([7]++rg 51 32) (fun k=>[(51,.d (.int .i64 k))]) (fun k=>[(0,.cells [.own 3 20,.d (.int .i64 0),.d (.int .i8 0)]),(3,.arr 20 (5,1) (M1++cl.flatMap lz++iD l.length++(l.take k).flatMap lA))]) (fun k=>k<=l.length) (fun k=>l.length-k) 0 (afv _) ?_ ?_
 ·(conv=>whnf);repeat (first|exact trivial|(refine sI ?_;conv=>whnf))
  refine And.intro (by simp) ?_;exact sZ
 intro k hk IH;refine J.head ag F121 2000 ?_;(conv=>whnf);refine ai (fun h8=>?_) (fun h8=>?_)
 ·have ah:k<l.length:=by simpa using h8
  obtain⟨x,hx⟩:=aH ah;have mu:=A3 (f:=lA) hx;have gS:(lA x).length=16+(jv x.q).length+1+(eX x.answer.cut).length+(ly x.answer.ae).length:=by simp only[lA,aey,agw,dz]
  obtain⟨f1,f2⟩:=h4 x (afh hx);have c0:=wa.more (lK (f:=lA) (l:=l.take k) It);have c1:=c0.more (gv x.time);have c2:=c1.more (gv x.addr);have c3:=c2.more (yj x.q);have c4:=c3.more (oI (IntKind.u8.wrap x.answer.kind));have c5:=c4.more (ln x.answer.cut);refine gO F121 ?_;refine aD (e:=x.enc) (aO hx) rfl ?_;refine gO F121 ?_
  with_reducible refine aS (nR x.time _ c0 (by simp only[aey,agw,dz,gW];omega)) ?_
  refine gO F121 ?_
  with_reducible refine aS (nR x.addr _ c1 (by simp only[aey,agw,dz,gW];omega)) ?_
  refine gO F121 ?_
  with_reducible refine aS (OJ x.q _ c2 (by simp only[aey,agw,dz,gW];omega)) ?_
  refine gO F121 ?_
  with_reducible refine aS (rY x.answer.kind _ c3 (by simp only[aey,agw,dz,gW];omega)) ?_
  refine gO F121 ?_
  with_reducible refine aS (yi x.answer.cut _ c4 (by simp only[aey,agw,dz,gW];omega)) ?_
  refine gO F121 ?_
  with_reducible refine aS (OP x.answer.ae f1 f2 _ c5 (by simp only[aey,agw,dz,gW];omega)) ?_
  refine gO F121 ?_;refine J.back (IH (k+1) (by omega) (by omega)) ?_;(conv=>whnf);repeat (first|exact trivial|(refine sI ?_;conv=>whnf))
  refine And.intro (by rw[<- A4 hx];simp only[lA,afb]) ?_;exact sZ
 have aC:l.length<=k:=by simpa using h8
 rw[afS aC];have d0:=wa.more (lK (f:=lA) (l:=l) It);have d1:=d0.more (oI (IntKind.u8.wrap rk));have d2:=d1.more (yj ⟨rn,rt⟩);refine gO F121 ?_
 with_reducible refine aS (rY rk _ d0 (by simp only[aey,agw,dz,gW];omega)) ?_
 refine gO F121 ?_
 with_reducible refine aS (OJ ⟨rn,rt⟩ _ d1 (by simp only[aey,agw,dz,gW];omega)) ?_
 refine gO F121 ?_
 with_reducible refine aS (OP rl h5 h6 _ d2 (by simp only[aey,agw,dz,gW];omega)) ?_
 refine gO F121 ?_;exact⟨rfl,by simp only[rZ,afb]⟩
theorem Zd{E:Env}(hE:E.OK){s:List AV}{h:List af}{t e b g:Nat}{ti ei:bu}{x y:Operand}{ts:Nat × Nat}{m:List DV}{j:IntKind}(hi:E.T[t]?=some ti)(hk:ti.k=.slice e)(bV:E.T[e]?=some ei)
  (hv:bh E.G s x (.own b g)) (hy:bh E.G s y (.d (.int j 0))) (hb:h[b]?=some (.arr g ts m)) (hm:m≠[]):bz E (.slice t x (some y) none none) s h (.own b g) h:=by
 refine .quiet fun o c ac e1 h2 h3 h4=>?_;subst h2;obtain⟨mz,d,g1,g2,g3,-⟩:=cC (hE.types t ti hi);obtain rfl:=lF (hk.symm.trans g3);rcases kW hb (hv c ac h3 h4)with⟨blk,cap,q1,q2⟩|⟨hn,-,-⟩
 case inr=>exact absurd hn hm
 have q4:m.length<=cap:=by
  obtain⟨-,-,q2⟩:=h3.box b _ hb;rcases q2 with⟨q2,-⟩|⟨iX,gZ,us,q2,q3,q4,q5,q6,q7⟩
  ·rw[q1]at q2;cases q2
  ·rw[q1]at q2;cases q2;exact q5
 have mw:=ef (hy c ac h3 h4);have cS:=List.length_pos_iff.2 hm;have kH:=EV (P:=E.P) (w:=c.w) (isSlice:=true) (len:=m.length) (cap:=cap) (lo:=some (.int j 0)) (hi:=none) (l:=some (0:Int)) (u:=none) ⟨j,rfl⟩ rfl (by simp) (by simp) (by simp) (by omega);simp only[aeB,Option.getD_none,Int.toNat_natCast]at kH;refine⟨_,?_,.own b g ts m blk cap hb q1⟩;simp only[execOp,e1,q2,mw,Instr.sliceAt,Instr.slice,Sem.run_bind,Sem.run_pure,Result.andThen_ok,run_underlying g2,Option.map_none,Option.map_some,kH,aA.run_sizeOf (hE.types e ei bV),na];split
 ·simp
 ·simp
theorem Ze(L:List DV):aw E 125 [.cells [.own 1 0,.d (.int .i64 0),.d (.int .i8 0)],.arr 0 (5,1) L] [.ptr 0 0] (fun a b=>a=.d (.int .i64 (IntKind.i64.wrap (L.length-0)))/\b=[.cells [.own 1 0,.d (.int .i64 0),.d (.int .i8 0)],.arr 0 (5,1) L]):=by
 refine aw.run ag (fn:=Tryz.f125) Tryz.func125 (body:=Tryz.f125.body.getD .skip) rfl (by decide) 2000 rfl ?_;(conv=>whnf);refine dU ?_;refine gO Tryz.func125 ?_;exact⟨rfl,rfl⟩
theorem OR(L:List DV)(hL:L≠[]):aw E 124 [.cells [.own 1 0,.d (.int .i64 0),.d (.int .i8 0)],.arr 0 (5,1) L] [.ptr 0 0] (fun a b=>a=.own 1 0/\b=[.cells [.own 1 0,.d (.int .i64 0),.d (.int .i8 0)],.arr 0 (5,1) L]):=by
 refine aw.run ag (fn:=Tryz.f124) Tryz.func124 (body:=Tryz.f124.body.getD .skip) rfl (by decide) 2000 rfl ?_;(conv=>whnf);refine dU ?_;refine bP.at rfl ?_;(conv=>whnf);refine lh.op (Zd ag (m:=L) rfl rfl rfl (aV rfl) (aV rfl) rfl hL) ?_;refine gD ?_;refine And.intro (by kernel_rfl) ?_;(conv=>whnf);refine gO Tryz.func124 ?_;exact⟨rfl,rfl⟩
end Go.Proofs.YtfmdaiojokniiaaGreatDoor.P
end
section
namespace Go.aA
open Go Go.RowKit
section
variable {E:Env} {s:List AV} {h:List af} {c:Cx} {G:List (Nat × DV)} {P:Program}
end
section
variable {E:Env} {aj:FuncId} {R:cF} {td:List aT} {s:List AV} {h:List af}
end
section
variable {E:Env} {s:List AV} {h:List af} {c:Cx} {G:List (Nat × DV)}
theorem aM.rest(h3:aM G c){b g:Nat}{ts:Nat × Nat}{l:List DV}(hb:c.heap[b]?=some (.arr g ts l)):∃ c':Cx,c'.heap=c.heap.set b .gone/\c'.w=c.w/\aM G c'/\Step c c'/\∀ v,VR c (.own b g) v->VR c' (.d (.sl l)) v:=by
 have eS:=aX hb
 let c':Cx:={ c with own:=fun i=>if i=b then none else c.own i,heap:=c.heap.set b .gone }
 have fh:c'.heap[b]?=some .gone:=by show(c.heap.set b .gone)[b]?=_;rw[List.getElem?_set_self eS]
 have ki:∀ i,i≠b->c'.heap[i]?=c.heap[i]? := fun i hi=>by show(c.heap.set b .gone)[i]?=_;rw[List.getElem?_set_ne (Ne.symm hi)]
 have bH:∀ i,i≠b->c'.own i=c.own i:=fun i hi=>by simp only[c',if_neg hi]
 have jH:∀ i p,c'.own i=some p->i≠b/\c.own i=some p:=fun i p hp=>by
  simp only[c']at hp;split at hp
  ·cases hp
  ·rename_i q;exact⟨q,hp⟩
 have bg:Step c c':=⟨rfl,h3.bS,rfl,rfl,rfl,Nat.le_refl _,fun _ _ _=>rfl,fun i x n hi _=>⟨n,(jH i _ hi).2⟩,fun i bx hi=>by
  by_cases bF:i=b
  ·subst bF;cases bx with
   |cells cs=>exact .inr fh
   |arr g sz l=>exact .inr fh
   |map es=>exact .inr fh
   |gone=>exact fh
   |hole=>exact⟨_,fh⟩
  ·exact ml hi (ki i bF) (bH i bF)⟩
 refine⟨c',rfl,rfl,?_,bg,fun v hv=>?_⟩
 ·refine h3.next bg (fun i x n hi=>?_) (fun i j x n m hi hj=>h3.inj i j x n m (jH i _ hi).2 (jH j _ hj).2) (fun i bx hi=>?_)
  ·have:=h3.bB i x n (jH i _ hi).2;refine⟨this.1,?_⟩;show i<(c.heap.set b .gone).length;rw[List.length_set];exact this.2
  ·by_cases bF:i=b
   ·subst bF;right;rw[fh]at hi;cases hi;show c'.own i=none;simp[c']
   ·rw[ki i bF]at hi;exact .inl ⟨hi,bH i bF,fun _ _ _=>rfl⟩
 ·obtain⟨q0,q1,q2⟩:=h3.box b _ hb;rcases kW hb hv with⟨blk,cap,r1,rfl⟩|⟨rfl,rfl,r1⟩
  ·rcases q2 with⟨q2,-⟩|⟨iX,gZ,vs,q2,q3,q4,q5,q6,q7⟩
   ·rw[r1]at q2;cases q2
   rw[r1]at q2;cases q2;refine .d _ _ (.sl l blk 0 cap ts.2 (fun i j=>(vs[i*ts.2+j]?).getD undef) (fun _ fo=>?_) q0 q5 (fun i e he=>q1 i e he) (fun i j e x he hx=>?_) (fun i j e x he hx=>?_) (fun i j e x he hx=>?_))
   ·rcases fo with fo|⟨i,n,hi⟩
    ·exact h3.sep b blk cap r1 fo
    ·obtain⟨k1,k2⟩:=jH i _ hi;exact k1 (h3.inj i b blk n cap k2 r1)
   ·obtain⟨v,p1,p2,p3⟩:=q7 i j e x he hx;rw[p1,aeB];exact mf q3 _ v (by simpa using p1)
   ·obtain⟨v,p1,p2,p3⟩:=q7 i j e x he hx;simp only[p1,aeB];exact bg.vd p3
   ·obtain⟨v,p1,p2,p3⟩:=q7 i j e x he hx;simp only[p1,aeB];exact p2
  ·exact .d _ _ .slnil
end
end Go.aA
end
