/- Several texts of mine, one behind the other. Conditions: as each says. -/
import Derived.Test.YtfmdaiojokniiaaGreatDoorV31
import Derived.Test.YtfmdaiojokniiaaGreatDoorV32
set_option linter.unusedVariables false
set_option linter.unusedSimpArgs false
section
namespace Go.Proofs.YtfmdaiojokniiaaGreatDoor.P
open Go Go.aw
set_option maxRecDepth 100000
set_option maxHeartbeats 4000000
structure qW.Fits (e:qW):Prop where
 before:e.before.Fits
 aB:e.before.aB.length≤1000000
 hints:e.before.hints.length≤1000000
 steps:Steps.Fits e.steps
 ib:pO.Fits e.ib
 Kj:e.uZ.length≤maxLen
 each:∀ t∈e.uZ,t.ep
def pO.EP (h:bJ) (l:List Claim):Prop:=l.length≤maxLen∧∀ (k:Nat) (c:Claim),l[k]? = some c→c.az.Fits∨¬ (0≤c.host∧c.host<h.aA.length∧ji l k≤c.time∧c.time<h.fin)
theorem pO.Fits.b {h:bJ} {l:List Claim} (hf:pO.Fits l):pO.EP h l:=⟨hf.1,fun k c hc => .inl (hf.2 c (List.mem_of_getElem? hc))⟩
theorem TC (h:bJ) (l:List Claim) (hf:pO.EP h l):aq E 48 [h.enc,.sl (l.map Claim.enc)] (· = .bool (vt h l)):=by
 obtain ⟨aA,aB,anchor,hints,bS,fin⟩:=h;obtain ⟨hl,hz⟩:=hf;unfold maxLen at hl;unfold vt;simp only;show aq E _ [DV.agg [.sl (aA.map Host.enc),.sl (aB.map aS.enc),.str anchor.name,.int .i64 anchor.type,.int .i64 anchor.cD,.sl (anchor.data.map Datum.enc),.sl (hints.map (.int .i64)),.int .i64 bS,.int .i64 fin],_] _;refine eP Tryz.func48 ?_;refine ai (fun h1=>?_) (fun h1=>?_)
 ·refine gO Tryz.func48 ?_;refine congrArg DV.bool ?_;simp_all;try omega
 have hlen:decide (l.length≤4000)=true:=by simp at h1 ⊢; omega
 rw [hlen,Bool.true_and];clear h1 hlen;refine gO Tryz.func48 ?_;refine gO Tryz.func48 ?_;refine I.loop (κ:=Nat) ([4,6,8,9]++rg 16 54) (fun k=>[(16,.d (.int .i64 k)),(4,.d (.bool false)),(5,.map 1),(6,.d (.int .i64 (ji l k)))]) (fun k=>[(1,.map (dO nF.en ((l.take k).map Claim.key)))]) (fun k=>k≤l.length∧ra aA.length fin 0 [] l=ra aA.length fin (ji l k) ((l.take k).map Claim.key) (l.drop k)∧0≤ji l k) (fun k=>l.length - k) 0 ⟨Nat.zero_le _,rfl,Int.le_refl 0⟩ ?_ ?_
 ·(conv=>whnf);repeat (first | exact trivial | (refine sI ?_; conv=>whnf))
  refine And.intro rfl ?_;(conv=>whnf);repeat (first | exact trivial | (refine sI ?_; conv=>whnf))
  refine And.intro rfl ?_;exact sZ
 rintro i ⟨hi,pM,cC⟩ IH;refine I.head af Tryz.func48 2000 ?_;(conv=>whnf);refine ai (fun h5=>?_) (fun h5=>?_)
 ·have aj:i<l.length:=by simpa using h5
  obtain ⟨x,hx⟩:=aL aj;have fH:=hz i x hx;simp only at fH;rw [TA hx] at pM;have fq:=(ny Kv ((l.take i).map Claim.key)).1;obtain ⟨fN,jg⟩:=ve Kv ((l.take i).map Claim.key) x.key;have tE:nF.en x.key = .agg [.int .i64 x.host,.int .i64 x.time,.str x.az.ah]:=rfl;have ER:yd aA.length fin (ji l i) ((l.take i).map Claim.key) x=(decide (0≤x.host)&&decide (x.host<aA.length)&&(ke x.az||dE x.az)&&decide (ji l i≤x.time)&&decide (x.time<fin)&&decide (x.key ∉ (l.take i).map Claim.key)):=rfl;have bad:yd aA.length fin (ji l i) ((l.take i).map Claim.key) x=false→DV.bool false=DV.bool (ra aA.length fin 0 [] l):=fun h=>by rw [pM,h]; rfl
  refine gO Tryz.func48 ?_;refine aE (e:=x.enc) (aX hx) rfl ?_;refine gO Tryz.func48 ?_;rcases fH with fH | fH
  case inr =>
   have hk:=bad (by
    rw [ER];cases q:ke x.az||dE x.az
    ·simp
    ·simp;intro q1 q2 q3 q4
     exact absurd ⟨q1,q2,q3,q4⟩ fH)
   repeat' (first | with_reducible refine cY ?_ | with_reducible refine cN ?_ | with_reducible refine ai (fun _=>?_) (fun _=>?_) | refine gA Tryz.func48 ?_ | refine gB ?_ | with_reducible rfl)
   all_goals first
    |exact hk
    |(rename_i a1 a2 a3 a4; exact absurd ⟨by simpa using a1,by simpa using a2,by simpa using a3,by simpa using a4⟩ fH)
  have c1:=sS x.az fH;have c2:=TB x.az fH;repeat' (first | with_reducible refine ao (c1) ?_ | with_reducible refine ay (c1) ?_ | with_reducible refine ao (c2) ?_ | with_reducible refine ay (c2) ?_ | with_reducible refine cY ?_ | with_reducible refine cN ?_ | with_reducible refine ai (fun _=>?_) (fun _=>?_) | refine gA Tryz.func48 ?_ | refine gB ?_ | with_reducible rfl)
  all_goals try (exact bad (by rw [ER]; simp_all; try omega))
  all_goals
   have hk:yd aA.length fin (ji l i) ((l.take i).map Claim.key) x=decide (x.key ∉ (l.take i).map Claim.key):=by
    rw [ER];have:(0≤x.host∧x.host<aA.length)∧(ke x.az||dE x.az)=true∧ji l i≤x.time∧x.time<fin:=by refine ⟨⟨?_,?_⟩,?_,?_,?_⟩ <;> simp_all <;> omega
    simp [this.1.1,this.1.2,this.2.1,this.2.2.1,this.2.2.2]
   have ht:0≤x.time:=by simp_all; omega
   refine n0 (.bool false) (.bool false) ⟨_,rfl,rfl,⟨_,rfl,_,rfl⟩,rfl,⟨_,rfl,_,rfl⟩,rfl,⟨_,rfl,_,rfl⟩,trivial⟩ (Kw fq) (fun w=>by kernel_rfl) (fun _ _ => .bool _) fN jg ?_;refine gO Tryz.func48 ?_;refine ai (fun h8=>?_) (fun h8=>?_)
   ·refine gO Tryz.func48 ?_;exact bad (by rw [hk]; simp_all)
   ·refine gO Tryz.func48 ?_;refine a8 ⟨⟨_,rfl,rfl,⟨_,rfl,_,rfl⟩,rfl,⟨_,rfl,_,rfl⟩,rfl,⟨_,rfl,_,rfl⟩,trivial⟩,Kw fq⟩ ?_;refine gO Tryz.func48 ?_;refine I.back (IH (i+1) ⟨by omega,by rw [pM,hk,show decide (x.key ∉ (l.take i).map Claim.key)=true by simp_all]; rfl,by simp [ji,bT,hx,ht]⟩ (by omega)) ?_;rw [cI hx,List.map_append,show [x].map Claim.key=[x.key] from rfl,s4,show ji l (i+1)=x.time by simp [ji,bT,hx],tE];exact sZ
 ·have aC:l.length≤i:=by simpa using h5
  rw [List.drop_eq_nil_of_le aC] at pM;refine gO Tryz.func48 ?_;rw [pM];rfl
theorem TD:au E 119 [] [.d (.sl []),.fn (.func 50) [] []] (fun a b=>a = .d (.int .i64 (-1))∧b=[]):=by
 refine au.run af (fn:=Tryz.f119) Tryz.func119 (body:=Tryz.f119.body.getD .skip) rfl (by decide) 2000 rfl ?_;(conv=>whnf);refine I.mw ?_;refine I.run af Tryz.func119 2000 ?_;(conv=>whnf);refine aZ rfl ?_;refine gO Tryz.func119 ?_;exact ⟨rfl,rfl⟩
theorem TE:au E 49 [] [.d (.sl []),.fn (.func 50) [] []] (fun a b=>a = .d (.bool false)∧b=[]):=by
 refine au.run af (fn:=Tryz.f49) Tryz.func49 (body:=Tryz.f49.body.getD .skip) rfl (by decide) 2000 rfl ?_;(conv=>whnf);refine jx TD ?_;rintro r b ⟨rfl,rfl⟩;refine gO Tryz.func49 ?_;exact ⟨rfl,rfl⟩
theorem TF (e:qW) (h1:e.before.Fits) (h2:e.before.aB.length≤1000000) (h3:Steps.Fits e.steps) (h4:pO.EP e.before e.ib) (ht:e.uZ=[]∨vt e.before e.ib=false):aq E 20 [e.enc] (· = .bool (nC e.before e.steps&&vt e.before e.ib)):=by
 have c1:=Km e.before e.steps h1 h2 h3;have c2:=TC e.before e.ib h4;obtain ⟨⟨aA,aB,anchor,hints,bS,fin⟩,sl,cl,tl⟩:=e;simp only at c1 c2 ht ⊢;show aq E _ [DV.agg [.sl (aA.map Host.enc),.sl (aB.map aS.enc),.str anchor.name,.int .i64 anchor.type,.int .i64 anchor.cD,.sl (anchor.data.map Datum.enc),.sl (hints.map (.int .i64)),.int .i64 bS,.int .i64 fin,.sl (sl.map Step.enc),.sl (cl.map Claim.enc),.sl (tl.map pI.enc)]] _;refine eP Tryz.func20 ?_;repeat' (first | with_reducible refine ao (c1) ?_ | with_reducible refine ay (c1) ?_ | with_reducible refine ao (c2) ?_ | with_reducible refine ay (c2) ?_ | with_reducible refine cY ?_ | with_reducible refine cN ?_ | with_reducible refine ai (fun _=>?_) (fun _=>?_) | refine gA Tryz.func20 ?_ | refine gB ?_ | with_reducible rfl)
 all_goals try (refine congrArg DV.bool ?_; simp_all; done)
 have:tl=[]:=ht.elim id fun h=>by simp_all
 subst this;refine jx TE ?_;rintro r b ⟨rfl,rfl⟩;refine gO Tryz.func20 ?_;refine congrArg DV.bool ?_;simp_all
end Go.Proofs.YtfmdaiojokniiaaGreatDoor.P
end
section
namespace Go.Proofs.YtfmdaiojokniiaaGreatDoor.P
open Go Go.aw
set_option maxRecDepth 100000
set_option maxHeartbeats 4000000
theorem TG (x y:Signed) (h1:x.set.data.length≤2147483648) (h2:x.sigs.length≤2147483648):aq E 112 [x.enc,y.enc] (· = .bool (decide (x=y))):=by
 obtain ⟨⟨a1,a2,a3,a4⟩,a5⟩:=x;obtain ⟨⟨b1,b2,b3,b4⟩,b5⟩:=y;simp only at h1 h2;have c1:=Tf a4 b4 h1;have c2:=Tg a5 b5 h2;show aq E _ [DV.agg [.str a1,.int .i64 a2,.int .i64 a3,.sl (a4.map Datum.enc),.sl (a5.map cX.enc)],DV.agg [.str b1,.int .i64 b2,.int .i64 b3,.sl (b4.map Datum.enc),.sl (b5.map cX.enc)]] _;refine eP Tryz.func112 ?_;repeat' (first | with_reducible refine ao (c1) ?_ | with_reducible refine ay (c1) ?_ | with_reducible refine ao (c2) ?_ | with_reducible refine ay (c2) ?_ | with_reducible refine cY ?_ | with_reducible refine cN ?_ | with_reducible refine ai (fun _=>?_) (fun _=>?_) | refine gA Tryz.func112 ?_ | refine gB ?_ | with_reducible rfl)
 all_goals
  refine congrArg DV.bool ?_;rw [Bool.eq_iff_iff];simp_all
theorem TH (a b:List Signed) (hl:a.length≤2147483648) (he:∀ s∈a,s.set.data.length≤2147483648∧s.sigs.length≤2147483648):au E 111 [] [.d (.sl (a.map Signed.enc)),.d (.sl (b.map Signed.enc)),.fn (.func 112) [] []] (fun x y=>x = .d (.bool (decide (a=b)))∧y=[]):=by
 apply au.kf
 case hk=>rfl
 refine au.run af (fn:=Tryz.f111) Tryz.func111 (body:=Tryz.f111.body.getD .skip) rfl (by decide) 2000 rfl ?_;(conv=>whnf);refine ai (fun h3=>?_) (fun h3=>?_)
 ·have aJ:a≠b:=by rintro rfl; simp at h3
  rw [decide_eq_false aJ];refine gO Tryz.func111 ?_;exact ⟨rfl,rfl⟩
 have nO:a.length=b.length:=by simp at h3; omega
 refine gO Tryz.func111 ?_;refine I.loop (κ:=Nat) (rg 6 4++rg 17 15) (fun k=>[(17,.d (.int .i64 k))]) (fun _=>[]) (fun k=>k≤a.length∧a.take k=b.take k) (fun k=>a.length - k) 0 ⟨Nat.zero_le _,rfl⟩ ?_ ?_
 ·exact sZ
 intro k hk IH;refine I.head af Tryz.func111 2000 ?_;(conv=>whnf);refine ai (fun h7=>?_) (fun h7=>?_)
 ·have aj:k<a.length:=by simpa using h7
  obtain ⟨u,hu⟩:=aL aj;obtain ⟨w,hw⟩:=aL (l:=b) (k:=k) (by omega);have ye:=he u (List.mem_of_getElem? hu);have c1:=TG u w ye.1 ye.2;refine gO Tryz.func111 ?_;refine aE (e:=u.enc) (aX hu) rfl ?_;refine gO Tryz.func111 ?_;refine aE (e:=w.enc) (aX hw) rfl ?_;refine gO Tryz.func111 ?_;refine ao (c1) ?_;refine gO Tryz.func111 ?_;by_cases h8:u=w
  ·rw [decide_eq_true h8];refine aQ ?_;refine gO Tryz.func111 ?_;refine I.back (IH (k+1) ⟨by omega,pv hk.2 hu hw h8⟩ (by omega)) ?_;exact sZ
  ·rw [decide_eq_false h8];refine aV ?_;refine gO Tryz.func111 ?_;rw [decide_eq_false (mH hu hw h8)];exact ⟨rfl,rfl⟩
 ·have aC:k=a.length:=by simp at h7; omega
  have s6:a=b:=pw hk.2 (by omega) (by omega);refine gO Tryz.func111 ?_;exact ⟨by simp [s6],rfl⟩
theorem TI (a b:dC) (hl:a.ab.length≤2147483648) (he:∀ s∈a.ab,s.set.data.length≤2147483648∧s.sigs.length≤2147483648):aq E 44 [a.enc,b.enc] (· = .bool (decide (a=b))):=by
 have c1:=TH a.ab b.ab hl he;obtain ⟨a1,a2,a3⟩:=a;obtain ⟨b1,b2,b3⟩:=b;simp only at c1;show aq E _ [DV.agg [.int .i64 a1,.sl (a2.map Signed.enc),.str a3],DV.agg [.int .i64 b1,.sl (b2.map Signed.enc),.str b3]] _;refine eP Tryz.func44 ?_;repeat' (first | with_reducible refine cY ?_ | with_reducible refine cN ?_ | with_reducible refine ai (fun _=>?_) (fun _=>?_) | refine gA Tryz.func44 ?_ | refine gB ?_ | with_reducible rfl)
 all_goals try (refine congrArg DV.bool ?_; simp_all; done)
 refine jx c1 ?_;rintro r b ⟨rfl,rfl⟩;refine gO Tryz.func44 ?_;refine congrArg DV.bool ?_;rw [Bool.eq_iff_iff];simp_all
theorem Kx (a:dC):aq E 42 [a.enc] (· = .bool (lX a)):=by
 obtain ⟨a1,a2,a3⟩:=a;show aq E _ [DV.agg [.int .i64 a1,.sl (a2.map Signed.enc),.str a3]] _;unfold lX;refine eP Tryz.func42 ?_;repeat' (first | with_reducible refine cY ?_ | with_reducible refine cN ?_ | with_reducible refine ai (fun _=>?_) (fun _=>?_) | refine gA Tryz.func42 ?_ | refine gB ?_ | with_reducible rfl)
 all_goals (refine congrArg DV.bool ?_; simp_all)
def jk (x:dF):Bool:=gr x.q&&(vp x.answer||lX x.answer)&&decide (0≤x.time)&&decide (x.time≤10000000)&&decide (1≤x.addr)&&decide (x.addr≤1000000)
theorem TJ (x:dF) (hf:x.ep):aq E 41 [x.enc] (· = .bool (jk x)):=by
 have c1:=gm x.q.name hf.1;have c2:=Kx x.answer;have c3:=Tt x.q x.answer hf.1 hf.2;obtain ⟨t,ad,⟨qn,qt⟩,⟨ak,al,ac⟩⟩:=x;unfold EM gr at c3;unfold jk gr;simp only at c1 c2 c3 ⊢;show aq E _ [DV.agg [.int .i64 t,.int .i64 ad,.str qn,.int .i64 qt,.int .i64 ak,.sl (al.map Signed.enc),.str ac]] _;refine eP Tryz.func41 ?_;repeat' (first | with_reducible refine ao (c1) ?_ | with_reducible refine ay (c1) ?_ | with_reducible refine ao (c2) ?_ | with_reducible refine ay (c2) ?_ | with_reducible refine ao (c3) ?_ | with_reducible refine ay (c3) ?_ | with_reducible refine cY ?_ | with_reducible refine cN ?_ | with_reducible refine ai (fun _=>?_) (fun _=>?_) | refine gA Tryz.func41 ?_ | refine gB ?_ | with_reducible rfl)
 all_goals (refine congrArg DV.bool ?_; simp_all; try omega)
theorem Ky (l:List Int) (n:Int) (hl:l.length≤maxLen):aq E 23 [.sl (l.map (.int .i64)),.int .i64 n] (· = .bool (decide (n∈l))):=by
 unfold maxLen at hl;refine eP Tryz.func23 ?_;refine I.loop (κ:=Nat) (rg 4 14) (fun k=>[(5,.d (.int .i64 k))]) (fun _=>[]) (fun k=>k≤l.length∧n ∉ l.take k) (fun k=>l.length - k) 0 ⟨Nat.zero_le _,by simp⟩ ?_ ?_
 ·exact sZ
 rintro k ⟨hk,bL⟩ IH;refine I.head af Tryz.func23 2000 ?_;(conv=>whnf);refine ai (fun h5=>?_) (fun h5=>?_)
 ·have aj:k<l.length:=by simpa using h5
  obtain ⟨x,hx⟩:=aL aj;refine gO Tryz.func23 ?_;refine aE (e := .int .i64 x) (aX hx) rfl ?_;refine gO Tryz.func23 ?_;refine ai (fun h8=>?_) (fun h8=>?_)
  ·have:n∈l:=by
    have e:x=n:=by simpa using h8
    exact e ▸ List.mem_of_getElem? hx
   refine gO Tryz.func23 ?_;simp [this]
  ·refine gO Tryz.func23 ?_;refine I.back (IH (k+1) ⟨by omega,by rw [cI hx]; exact fun hm=>(List.mem_append.1 hm).elim bL fun h=>by simp at h; simp [h] at h8⟩ (by omega)) ?_;exact sZ
 ·have aC:l.length≤k:=by simpa using h5
  rw [List.take_of_length_le aC] at bL;refine gO Tryz.func23 ?_;simp [bL]
end Go.Proofs.YtfmdaiojokniiaaGreatDoor.P
end
