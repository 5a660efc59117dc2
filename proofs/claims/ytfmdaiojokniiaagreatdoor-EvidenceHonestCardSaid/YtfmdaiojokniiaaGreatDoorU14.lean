/- Lemmas of mine. Conditions: as stated. -/
import Derived.Test.YtfmdaiojokniiaaGreatDoorU9
import Derived.Test.YtfmdaiojokniiaaGreatDoorU13
set_option linter.unusedVariables false
set_option linter.unusedSimpArgs false
section
namespace Go.Proofs.YtfmdaiojokniiaaGreatDoor.P
open Go Go.ay
set_option maxRecDepth 100000
set_option maxHeartbeats 4000000
theorem L3{α:Type}{l:List α}{k:Nat}{x:α}{β:Type}{f:α->β}(h:((l.take k).map f).Nodup)(hx:l[k]?=some x)(hn:∀ j y,j<k->l[j]?=some y->f y≠f x):((l.take (k+1)).map f).Nodup:=by
 rw[cK hx,List.map_append,List.nodup_append];refine⟨h,by simp,fun a ha b hb e=>?_⟩;obtain⟨y,hy,rfl⟩:=List.mem_map.1 ha;obtain⟨j,hj⟩:=List.getElem?_of_mem hy;have rm:j<k:=by have:=aQ hj;simp at this;omega
 rw[List.getElem?_take,if_pos rm]at hj;simp at hb;exact hn j y rm hj (e.trans hb)
theorem L4{α:Type}{l:List α}{k j:Nat}{x y:α}{β:Type}{f:α->β}(hx:l[k]?=some x)(hy:l[j]?=some y)(hj:j<k)(e:f y=f x):¬ (l.map f).Nodup:=fun h=>by
 have h1:(l.map f)[k]?=some (f x):=by rw[List.getElem?_map,hx];rfl
 have h2:(l.map f)[j]?=some (f x):=by rw[List.getElem?_map,hy,<- e];rfl
 have:=(List.getElem?_inj (by simpa using aQ hy) h).1 (h2.trans h1.symm);omega
def xA(s:Signed):Bool := !(decide ((s.set.data.length:Int)>20)) && !(decide ((s.sigs.length:Int)>20)) && !(decide ((s.set.name.length:Int)>100))
def vg(l:List Signed):Bool:=(l.take 61).all xA&&decide (l.length<=60)
theorem L5(l:List Signed)(hl:l.length<=maxLen):aq E 12 [.sl (l.map Signed.enc)] (· = .bool (vg l)):=by
 unfold maxLen at hl;unfold vg;refine eP F12 ?_;refine I.loop (κ:=Nat) (rg 2 39) (fun k=>[(3,.d (.int .i64 k))]) (fun _=>[]) (fun k=>k<=l.length/\k<=61/\(l.take k).all xA=true) (fun k=>l.length-k) 0 ⟨Nat.zero_le _,by omega,rfl⟩ ?_ ?_
 ·exact sZ
 rintro k ⟨hk,fM,aJ⟩ IH;refine I.head ab F12 2000 ?_;(conv=>whnf);by_cases ah:k<l.length/\k<=60
 ·obtain⟨x,hx⟩:=aG ah.1;have no:=fun h=>di (l:=l.take 61) (k:=k) (p:=xA) (by rw[List.getElem?_take,if_pos (by omega)];exact hx) h;have back:=fun h=>IH (k+1) ⟨by omega,by omega,dw aJ hx h⟩ (by omega);have nk:xA x=(!(decide ((x.set.data.length:Int)>20)) && !(decide ((x.sigs.length:Int)>20)) && !(decide ((x.set.name.length:Int)>100))):=rfl;refine aU (by simp;omega) ?_;refine gO F12 ?_;refine aU (by simp;omega) ?_;refine gO F12 ?_;repeat' (first|with_reducible(first|refine aB (aN hx) rfl ?_|refine cY ?_|refine cN ?_|refine ai (fun _=>?_) (fun _=>?_))|refine gA F12 ?_|refine gB ?_|with_reducible rfl)
  all_goals try (rw[no (by rw[nk];simp_all)];rfl)
  refine gO F12 ?_;refine I.back (back (by rw[nk];simp_all)) ?_;exact sZ
 ·have e:(l.take 61).all xA=true:=by
   by_cases h:k=61
   ·rw[<- h];exact aJ
   ·rw[List.take_of_length_le (by omega)]at aJ ⊢;exact aJ
  rw[e];by_cases h:k<l.length
  ·refine aU (by simpa using h) ?_;refine gO F12 ?_;refine aW (by simp;omega) ?_;refine gO F12 ?_;rw[Bool.true_and];refine congrArg DV.bool (decide_eq_decide.2 ?_);simp;omega
  ·refine aW (by simpa using h) ?_;refine gO F12 ?_;refine aR ?_;refine gO F12 ?_;rw[Bool.true_and];refine congrArg DV.bool (decide_eq_decide.2 ?_);simp;omega
def xB(s z:Text):Bool:=Nm.valid s&&Nm.valid z && !lM z&&Nm.under s z
theorem UP(s z:Text)(hs:s.length<=maxLen)(hz:z.length<=maxLen):aq E 272 [.str s,.str z] (· = .bool (xB s z)):=by
 unfold xB;have c1:=eG s hs;have c2:=eG z hz;cases h1:Nm.valid s
 ·rw[h1]at c1;refine eP Tryz.func272 ?_;repeat' (first|with_reducible(first|refine ao (c1) ?_|refine au (c1) ?_|refine ao (c2) ?_|refine au (c2) ?_|refine cY ?_|refine cN ?_|refine ai (fun _=>?_) (fun _=>?_))|refine gA Tryz.func272 ?_|refine gB ?_|with_reducible rfl)
  all_goals simp_all
 cases h2:Nm.valid z
 ·rw[h1]at c1;rw[h2]at c2;refine eP Tryz.func272 ?_;repeat' (first|with_reducible(first|refine ao (c1) ?_|refine au (c1) ?_|refine ao (c2) ?_|refine au (c2) ?_|refine cY ?_|refine cN ?_|refine ai (fun _=>?_) (fun _=>?_))|refine gA Tryz.func272 ?_|refine gB ?_|with_reducible rfl)
  all_goals simp_all
 have l1:=dO h1;have l2:=dO h2;have c3:=CB z (by omega);have c4:=zI s z (by omega) (by omega);rw[h1]at c1;rw[h2]at c2;refine eP Tryz.func272 ?_;repeat' (first|with_reducible(first|refine ao (c1) ?_|refine au (c1) ?_|refine ao (c2) ?_|refine au (c2) ?_|refine ao (c3) ?_|refine au (c3) ?_|refine ao (c4) ?_|refine au (c4) ?_|refine cY ?_|refine cN ?_|refine ai (fun _=>?_) (fun _=>?_))|refine gA Tryz.func272 ?_|refine gB ?_|with_reducible rfl)
 all_goals simp_all
def zZ(s:cM):Bool:=(s.data.length:Int)==0
theorem UQ(e:Entry):aq E 273 [e.enc] (· = .bool (zZ e.signed.set)):=by
 unfold zZ;refine eP Tryz.func273 ?_;simp
def o0(e:Entry):Bool:=xB e.signed.set.name e.aw&&decide (1<=e.upto)&&decide (e.upto<=20100001) &&
 (if zZ e.signed.set then decide (1 <= e.signed.set.type) && decide (e.signed.set.type <= 8) && decide (0 <= e.signed.set.cy) && decide (e.signed.set.cy <= 100000) && ((e.signed.sigs.length : Int) == 0)
  else ef e.signed.set && jC e.signed.sigs e.aw)
def Entry.cT(e:Entry):Prop:=e.signed.cT/\e.aw.length<=maxLen
theorem UR(e:Entry)(hf:e.cT):aq E 204 [e.enc] (· = .bool (o0 e)):=by
 have c1:=UP e.signed.set.name e.aw hf.1.1.name hf.2;have c2:=UQ e;have c3:=xu e.signed.set hf.1.1;have c4:=Gw e.signed.sigs e.aw;obtain⟨⟨s,l⟩,z,u⟩:=e;unfold o0;simp only at c1 c2 c3 c4 ⊢;show aq E _ [DV.agg [.str s.name,.int .i64 s.type,.int .i64 s.cy,pE s.data,pF l,.str z,.int .i64 u]] _;refine eP Tryz.func204 ?_;repeat' (first|with_reducible(first|refine ao (c1) ?_|refine au (c1) ?_|refine ao (c2) ?_|refine au (c2) ?_|refine ao (c3) ?_|refine au (c3) ?_|refine ao (c4) ?_|refine au (c4) ?_|refine cY ?_|refine cN ?_|refine ai (fun _=>?_) (fun _=>?_))|refine gA Tryz.func204 ?_|refine gB ?_|with_reducible rfl)
 all_goals (refine congrArg DV.bool ?_;simp_all;try omega)
def jZ(e:Entry):Text × Int × Text:=(e.signed.set.name,e.signed.set.type,e.aw)
theorem US(a b:Entry):aq E 205 [a.enc,b.enc] (· = .bool (decide (jZ a=jZ b))):=by
 unfold jZ;refine eP Tryz.func205 ?_;repeat' (first|with_reducible(first|refine cY ?_|refine cN ?_|refine ai (fun _=>?_) (fun _=>?_))|refine gA Tryz.func205 ?_|refine gB ?_|with_reducible rfl)
 all_goals (refine congrArg DV.bool ?_;rw[Bool.eq_iff_iff];simp_all)
def xC(c:Cache):Bool:=c.list.all o0&&decide ((c.list.map jZ).Nodup)&&decide (c.list.length<=400)
theorem UT(c:Cache)(hl:c.list.length<=maxLen)(hf:∀ e∈c.list,e.cT):aq E 127 [c.enc] (· = .bool (xC c)):=by
 obtain⟨l⟩:=c;unfold xC;simp only at hl hf ⊢;unfold maxLen at hl;show aq E _ [DV.agg [.sl (l.map Entry.enc)]] _;refine eP F127 ?_;refine I.loop (κ:=Nat) (rg 2 33) (fun k=>[(3,.d (.int .i64 k))]) (fun _=>[]) (fun k=>k<=l.length/\(l.take k).all o0=true/\((l.take k).map jZ).Nodup) (fun k=>l.length-k) 0 ⟨Nat.zero_le _,rfl,by simp⟩ ?_ ?_
 ·exact sZ
 rintro k ⟨hk,aJ,cX⟩ IH;refine I.head ab F127 2000 ?_;(conv=>whnf);refine ai (fun h5=>?_) (fun h5=>?_)
 ·have ah:k<l.length:=by simpa using h5
  obtain⟨x,hx⟩:=aG ah;have c1:=UR x (hf x (List.mem_of_getElem? hx));refine gO F127 ?_;refine aB (e:=x.enc) (aN hx) rfl ?_;refine gO F127 ?_;refine ao (c1) ?_;refine gO F127 ?_;cases hp:o0 x
  ·refine bj ?_;refine gO F127 ?_;rw[di hx hp];rfl
  refine aR ?_;refine gO F127 ?_;refine I.loop (κ:=Nat) ([2,4]++rg 19 16) (fun j=>[(4,.d (.int .i64 j))]) (fun _=>[]) (fun j=>j<=k/\∀ i y,i<j->l[i]?=some y->jZ y≠jZ x) (fun j=>k-j) 0 ⟨Nat.zero_le _,by omega⟩ ?_ ?_
  ·exact sZ
  rintro j ⟨hj,bK⟩ JH;refine I.head ab F127 2000 ?_;(conv=>whnf);refine ai (fun h6=>?_) (fun h6=>?_)
  ·have rm:j<k:=by simpa using h6
   obtain⟨y,hy⟩:=aG (l:=l) (k:=j) (by omega);have c2:=US y x;refine gO F127 ?_;refine I.bJ ab bG 2000 (by kernel_rfl) ?_;(conv=>whnf);refine aB (e:=y.enc) (aN hy) rfl ?_;refine gD ?_;refine aB (e:=x.enc) (aN hx) rfl ?_;refine gD ?_;refine au (c2) ?_;refine gD ?_;refine gO F127 ?_;by_cases he:jZ y=jZ x
   ·refine aU (decide_eq_true he) ?_;refine gO F127 ?_;rw[decide_eq_false (L4 hx hy rm he),Bool.and_false];rfl
   ·refine aW (decide_eq_false he) ?_;refine gO F127 ?_;refine I.back (JH (j+1) ⟨by omega,fun i w hi hw=>(Nat.lt_succ_iff_lt_or_eq.1 hi).elim (fun h=>bK i w h hw) (fun h=>by subst h;rw[hy]at hw;cases hw;exact he)⟩ (by omega)) ?_;exact sZ
  ·have aA:j=k:=by simp at h6;omega
   subst aA;refine gO F127 ?_;refine I.back (IH (j+1) ⟨by omega,dw aJ hx hp,L3 cX hx bK⟩ (by omega)) ?_;exact sZ
 ·have aA:l.length<=k:=by simpa using h5
  rw[List.take_of_length_le aA]at aJ cX;rw[aJ,decide_eq_true cX];refine gO F127 ?_;refine congrArg DV.bool ?_;simp;omega
def z6(e:Entry):Bool := !(decide ((e.signed.set.data.length:Int)>20)) && !(decide ((e.signed.sigs.length:Int)>20)) && !(decide ((e.aw.length:Int)>100))
def CL(c:Cache):Bool:=(c.list.take 411).all z6&&decide (c.list.length<=410)
theorem z7{α:Type}{P:α->Bool}{l:List α}{k n:Nat}(h:(l.take k).all P=true)(hk:¬ (k<l.length/\k<n))(hn:k<=n):(l.take n).all P=true:=by
 by_cases e:k=n
 ·rw[<- e];exact h
 ·rw[List.take_of_length_le (by omega)]at h ⊢;exact h
theorem UU(c:Cache)(hl:c.list.length<=maxLen):aq E 93 [c.enc] (· = .bool (CL c)):=by
 obtain⟨l⟩:=c;unfold CL;simp only at hl ⊢;unfold maxLen at hl;show aq E _ [DV.agg [.sl (l.map Entry.enc)]] _;refine eP F93 ?_;refine I.loop (κ:=Nat) (rg 2 38) (fun k=>[(3,.d (.int .i64 k))]) (fun _=>[]) (fun k=>k<=l.length/\k<=411/\(l.take k).all z6=true) (fun k=>l.length-k) 0 ⟨Nat.zero_le _,by omega,rfl⟩ ?_ ?_
 ·exact sZ
 rintro k ⟨hk,fM,aJ⟩ IH;refine I.head ab F93 2000 ?_;(conv=>whnf);by_cases ah:k<l.length/\k<411
 ·obtain⟨x,hx⟩:=aG ah.1;have no:=fun h=>di (l:=l.take 411) (k:=k) (p:=z6) (by rw[List.getElem?_take,if_pos ah.2];exact hx) h;have back:=fun h=>IH (k+1) ⟨by omega,by omega,dw aJ hx h⟩ (by omega);have nk:z6 x=(!(decide ((x.signed.set.data.length:Int)>20)) && !(decide ((x.signed.sigs.length:Int)>20)) && !(decide ((x.aw.length:Int)>100))):=rfl;refine aU (by simp;omega) ?_;refine gO F93 ?_;refine aU (by simp;omega) ?_;refine gO F93 ?_;repeat' (first|with_reducible(first|refine aB (aN hx) rfl ?_|refine cY ?_|refine cN ?_|refine ai (fun _=>?_) (fun _=>?_))|refine gA F93 ?_|refine gB ?_|with_reducible rfl)
  all_goals try (rw[no (by rw[nk];simp_all)];rfl)
  refine gO F93 ?_;refine I.back (back (by rw[nk];simp_all)) ?_;exact sZ
 ·rw[z7 aJ ah fM];by_cases h:k<l.length
  ·refine aU (by simpa using h) ?_;refine gO F93 ?_;refine aW (by simp;omega) ?_;refine gO F93 ?_;rw[Bool.true_and];refine congrArg DV.bool (decide_eq_decide.2 ?_);simp;omega
  ·refine aW (by simpa using h) ?_;refine gO F93 ?_;refine aR ?_;refine gO F93 ?_;rw[Bool.true_and];refine congrArg DV.bool (decide_eq_decide.2 ?_);simp;omega
def nw(a:dR):Bool:=a.kind==0&&(a.ae.length:Int)==0&&a.cut==[]
theorem UW(a:dR):aq E 90 [a.enc] (· = .bool (nw a)):=by
 unfold nw;refine eP Tryz.func90 ?_;repeat' (first|with_reducible(first|refine cY ?_|refine cN ?_|refine ai (fun _=>?_) (fun _=>?_))|refine gA Tryz.func90 ?_|refine gB ?_|with_reducible rfl)
 all_goals (refine congrArg DV.bool ?_;simp_all)
def xD(v:lK):Bool:=decide (1<=v.kind)&&decide (v.kind<=3) && !(v.kind != 1&&decide ((v.ae.length:Int)>0)) &&
 (if v.kind=3 then fF v.q else decide (v.q=⟨[],0⟩)&&nt ⟨1,v.ae,[]⟩)
def lK.cT(v:lK):Prop:=v.q.name.length<=maxLen/\v.ae.length<=maxLen/\∀ s∈v.ae,s.cT
theorem UX(v:lK)(hf:v.cT):aq E 128 [v.enc] (· = .bool (xD v)):=by
 have c1:=Gr v.q hf.1;have c2:=LD ⟨1,v.ae,[]⟩ ⟨hf.2.1,hf.2.2,Nat.zero_le _⟩;obtain⟨kd,⟨qn,qt⟩,l⟩:=v;unfold xD;simp only at c1 c2 ⊢;show aq E _ [DV.agg [.int .i64 kd,.str qn,.int .i64 qt,.sl (l.map Signed.enc)]] _;refine eP Tryz.func128 ?_;repeat' (first|with_reducible(first|refine ao (c1) ?_|refine au (c1) ?_|refine ao (c2) ?_|refine au (c2) ?_|refine cY ?_|refine cN ?_|refine ai (fun _=>?_) (fun _=>?_))|refine gA Tryz.func128 ?_|refine gB ?_|with_reducible rfl)
 all_goals (refine congrArg DV.bool ?_;simp_all;try omega)
def mz(at_:Int)(x:cW):Bool:=fF x.q&&x.time==at_&&decide (1<=x.addr)&&decide (x.addr<=1000000)&&(nw x.answer||nt x.answer)
def ka(t:cP):Bool:=t.heard.all (mz t.time)&&fF t.q&&decide (0<=t.time)&&decide (t.time<=10000000)&&xC t.cache&&decide (t.heard.length<=40)&&xD t.result
def cW.cT(x:cW):Prop:=x.q.name.length<=maxLen/\x.answer.cT
def cP.cT(t:cP):Prop:=t.q.name.length<=maxLen/\(t.cache.list.length<=maxLen/\∀ e∈t.cache.list,e.cT)/\(t.heard.length<=maxLen/\∀ x∈t.heard,x.cT)/\t.result.cT
theorem UY(t:cP)(hf:t.cT):aq E 52 [t.enc] (· = .bool (ka t)):=by
 obtain⟨h1,⟨h2,h3⟩,⟨h4,h5⟩,h6⟩:=hf;have c1:=Gr t.q h1;have c2:=UT t.cache h2 h3;have c3:=UX t.result h6;obtain⟨⟨qn,qt⟩,at_,⟨cl⟩,l,⟨rk,⟨rn,rt⟩,rl⟩⟩:=t;unfold ka;simp only at c1 c2 c3 h4 h5 ⊢;unfold maxLen at h4;show aq E _ [DV.agg [.str qn,.int .i64 qt,.int .i64 at_,.sl (cl.map Entry.enc),.sl (l.map cW.enc),.int .i64 rk,.str rn,.int .i64 rt,.sl (rl.map Signed.enc)]] _;refine eP F52 ?_;refine I.loop (κ:=Nat) (rg 2 4++rg 7 46) (fun k=>[(3,.d (.int .i64 k))]) (fun _=>[]) (fun k=>k<=l.length/\(l.take k).all (mz at_)=true) (fun k=>l.length-k) 0 ⟨Nat.zero_le _,rfl⟩ ?_ ?_
 ·exact sZ
 rintro k ⟨hk,aJ⟩ IH;refine I.head ab F52 2000 ?_;(conv=>whnf);refine ai (fun h7=>?_) (fun h7=>?_)
 ·have ah:k<l.length:=by simpa using h7
  obtain⟨x,hx⟩:=aG ah;have og:=h5 x (List.mem_of_getElem? hx);have c4:=Gr x.q og.1;have c5:=UW x.answer;have c6:=LD x.answer og.2;have no:=fun h=>di hx (p:=mz at_) h;have back:=fun h=>IH (k+1) ⟨by omega,dw aJ hx h⟩ (by omega);have nk:mz at_ x=(fF x.q&&x.time==at_&&decide (1<=x.addr)&&decide (x.addr<=1000000)&&(nw x.answer||nt x.answer)):=rfl;refine gO F52 ?_;refine aB (e:=x.enc) (aN hx) rfl ?_;refine gO F52 ?_;repeat' (first|with_reducible(first|refine ao (c4) ?_|refine au (c4) ?_|refine ao (c5) ?_|refine au (c5) ?_|refine ao (c6) ?_|refine au (c6) ?_|refine cY ?_|refine cN ?_|refine ai (fun _=>?_) (fun _=>?_))|refine gA F52 ?_|refine gB ?_|with_reducible rfl)
  all_goals try (rw[no (by rw[nk];simp_all;try omega)];simp;done)
  all_goals
   refine gO F52 ?_;refine I.back (back (by rw[nk];simp_all;try omega)) ?_;exact sZ
 ·have aA:l.length<=k:=by simpa using h7
  rw[List.take_of_length_le aA]at aJ;rw[aJ];refine gO F52 ?_;repeat' (first|with_reducible(first|refine ao (c1) ?_|refine au (c1) ?_|refine ao (c2) ?_|refine au (c2) ?_|refine ao (c3) ?_|refine au (c3) ?_|refine cY ?_|refine cN ?_|refine ai (fun _=>?_) (fun _=>?_))|refine gA F52 ?_|refine gB ?_|with_reducible rfl)
  all_goals (refine congrArg DV.bool ?_;simp_all;try omega)
def z8(x:cW):Bool:=vg x.answer.ae && !(decide ((x.answer.ae.length:Int)>40)) && !(decide ((x.answer.cut.length:Int)>100)) && !(decide ((x.q.name.length:Int)>100))
def rp(t:cP):Bool:=(t.heard.take 43).all z8&&vg t.result.ae&&CL t.cache&&decide ((t.cache.list.length:Int)<=60)&&decide ((t.heard.length:Int)<=42)&&decide ((t.q.name.length:Int)<=100)&&decide ((t.result.q.name.length:Int)<=100)
theorem L6(t:cP)(h1:t.cache.list.length<=maxLen)(h2:t.heard.length<=maxLen)(h3:∀ x∈t.heard,x.answer.ae.length<=maxLen)(h4:t.result.ae.length<=maxLen):aq E 35 [t.enc] (· = .bool (rp t)):=by
 have c1:=UU t.cache h1;have c2:=L5 t.result.ae h4;obtain⟨⟨qn,qt⟩,at_,⟨cl⟩,l,⟨rk,⟨rn,rt⟩,rl⟩⟩:=t;unfold rp;simp only at c1 c2 h2 h3 ⊢;unfold maxLen at h2;show aq E _ [DV.agg [.str qn,.int .i64 qt,.int .i64 at_,.sl (cl.map Entry.enc),.sl (l.map cW.enc),.int .i64 rk,.str rn,.int .i64 rt,.sl (rl.map Signed.enc)]] _;refine eP F35 ?_;refine I.loop (κ:=Nat) ([2,3,4]++rg 6 54) (fun k=>[(3,.d (.int .i64 k))]) (fun _=>[]) (fun k=>k<=l.length/\k<=43/\(l.take k).all z8=true) (fun k=>l.length-k) 0 ⟨Nat.zero_le _,by omega,rfl⟩ ?_ ?_
 ·exact sZ
 rintro k ⟨hk,fM,aJ⟩ IH;refine I.head ab F35 2000 ?_;(conv=>whnf);by_cases ah:k<l.length/\k<43
 ·obtain⟨x,hx⟩:=aG ah.1;have no:=fun h=>di (l:=l.take 43) (k:=k) (p:=z8) (by rw[List.getElem?_take,if_pos ah.2];exact hx) h;have back:=fun h=>IH (k+1) ⟨by omega,by omega,dw aJ hx h⟩ (by omega);have nk:z8 x=(vg x.answer.ae && !(decide ((x.answer.ae.length:Int)>40)) && !(decide ((x.answer.cut.length:Int)>100)) && !(decide ((x.q.name.length:Int)>100))):=rfl;have c3:=L5 x.answer.ae (h3 x (List.mem_of_getElem? hx));refine aU (by simp;omega) ?_;refine gO F35 ?_;refine aU (by simp;omega) ?_;refine gO F35 ?_;repeat' (first|with_reducible(first|refine aB (aN hx) rfl ?_|refine ao (c3) ?_|refine au (c3) ?_|refine cY ?_|refine cN ?_|refine ai (fun _=>?_) (fun _=>?_))|refine gA F35 ?_|refine gB ?_|with_reducible rfl)
  all_goals try (rw[no (by rw[nk];simp_all)];simp;done)
  refine gO F35 ?_;refine I.back (back (by rw[nk];simp_all)) ?_;exact sZ
 ·rw[z7 aJ ah fM];by_cases h:k<l.length
  ·refine aU (by simpa using h) ?_;refine gO F35 ?_;refine aW (by simp;omega) ?_;refine gO F35 ?_;repeat' (first|with_reducible(first|refine ao (c1) ?_|refine au (c1) ?_|refine ao (c2) ?_|refine au (c2) ?_|refine cY ?_|refine cN ?_|refine ai (fun _=>?_) (fun _=>?_))|refine gA F35 ?_|refine gB ?_|with_reducible rfl)
   all_goals (refine congrArg DV.bool ?_;simp_all;try omega)
  ·refine aW (by simpa using h) ?_;refine gO F35 ?_;refine aR ?_;refine gO F35 ?_;repeat' (first|with_reducible(first|refine ao (c1) ?_|refine au (c1) ?_|refine ao (c2) ?_|refine au (c2) ?_|refine cY ?_|refine cN ?_|refine ai (fun _=>?_) (fun _=>?_))|refine gA F35 ?_|refine gB ?_|with_reducible rfl)
   all_goals (refine congrArg DV.bool ?_;simp_all;try omega)
end Go.Proofs.YtfmdaiojokniiaaGreatDoor.P
end
section
namespace Go.ay
open Go Go.RowKit
section
variable {E:Env} {s:List AV} {h:List af} {c:Cx} {G:List (Nat × DV)} {P:Program}
end
section
variable {E:Env} {ag:FuncId} {R:cF} {td:List aP} {s:List AV} {h:List af}
end
section
variable {E:Env} {s:List AV} {h:List af} {c:Cx} {G:List (Nat × DV)}
theorem aK.rest(h3:aK G c){b g:Nat}{ts:Nat × Nat}{l:List DV}(hb:c.heap[b]?=some (.arr g ts l)):∃ c':Cx,c'.heap=c.heap.set b .gone/\c'.w=c.w/\aK G c'/\Step c c'/\∀ v,VR c (.own b g) v->VR c' (.d (.sl l)) v:=by
 have eJ:=aQ hb
 let c':Cx:={ c with own:=fun i=>if i=b then none else c.own i,heap:=c.heap.set b .gone }
 have eW:c'.heap[b]?=some .gone:=by show(c.heap.set b .gone)[b]?=_;rw[List.getElem?_set_self eJ]
 have jN:∀ i,i≠b->c'.heap[i]?=c.heap[i]? := fun i hi=>by show(c.heap.set b .gone)[i]?=_;rw[List.getElem?_set_ne (Ne.symm hi)]
 have bF:∀ i,i≠b->c'.own i=c.own i:=fun i hi=>by simp only[c',if_neg hi]
 have js:∀ i p,c'.own i=some p->i≠b/\c.own i=some p:=fun i p hp=>by
  simp only[c']at hp;split at hp
  ·cases hp
  ·rename_i q;exact⟨q,hp⟩
 have bg:Step c c':=⟨rfl,h3.bQ,rfl,rfl,rfl,Nat.le_refl _,fun _ _ _=>rfl,fun i x n hi _=>⟨n,(js i _ hi).2⟩,fun i bx hi=>by
  by_cases bE:i=b
  ·subst bE;cases bx with
   |cells cs=>exact .inr eW
   |arr g sz l=>exact .inr eW
   |map es=>exact .inr eW
   |gone=>exact eW
   |hole=>exact⟨_,eW⟩
  ·exact l6 hi (jN i bE) (bF i bE)⟩
 refine⟨c',rfl,rfl,?_,bg,fun v hv=>?_⟩
 ·refine h3.next bg (fun i x n hi=>?_) (fun i j x n m hi hj=>h3.inj i j x n m (js i _ hi).2 (js j _ hj).2) (fun i bx hi=>?_)
  ·have:=h3.bA i x n (js i _ hi).2;refine⟨this.1,?_⟩;show i<(c.heap.set b .gone).length;rw[List.length_set];exact this.2
  ·by_cases bE:i=b
   ·subst bE;right;rw[eW]at hi;cases hi;show c'.own i=none;simp[c']
   ·rw[jN i bE]at hi;exact .inl ⟨hi,bF i bE,fun _ _ _=>rfl⟩
 ·obtain⟨q0,q1,q2⟩:=h3.box b _ hb;rcases kC hb hv with⟨blk,cap,r1,rfl⟩|⟨rfl,rfl,r1⟩
  ·rcases q2 with⟨q2,-⟩|⟨iM,gV,vs,q2,q3,q4,q5,q6,q7⟩
   ·rw[r1]at q2;cases q2
   rw[r1]at q2;cases q2;refine .d _ _ (.sl l blk 0 cap ts.2 (fun i j=>(vs[i*ts.2+j]?).getD undef) (fun _ fb=>?_) q0 q5 (fun i e he=>q1 i e he) (fun i j e x he hx=>?_) (fun i j e x he hx=>?_) (fun i j e x he hx=>?_))
   ·rcases fb with fb|⟨i,n,hi⟩
    ·exact h3.sep b blk cap r1 fb
    ·obtain⟨k1,k2⟩:=js i _ hi;exact k1 (h3.inj i b blk n cap k2 r1)
   ·obtain⟨v,p1,p2,p3⟩:=q7 i j e x he hx;rw[p1,Option.getD_some];exact lY q3 _ v (by simpa using p1)
   ·obtain⟨v,p1,p2,p3⟩:=q7 i j e x he hx;simp only[p1,Option.getD_some];exact bg.vd p3
   ·obtain⟨v,p1,p2,p3⟩:=q7 i j e x he hx;simp only[p1,Option.getD_some];exact p2
  ·exact .d _ _ .slnil
end
end Go.ay
end
