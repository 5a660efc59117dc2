/- Several texts of mine, one behind the other. Conditions: as each says. -/
import Derived.Test.YtfmdaiojokniiaaGreatDoorW32
import Derived.Test.YtfmdaiojokniiaaGreatDoorW33
set_option linter.unusedVariables false
set_option linter.unusedSimpArgs false
section
namespace Go.Proofs.YtfmdaiojokniiaaGreatDoor.P
open Go Go.aw
set_option maxRecDepth 100000
set_option maxHeartbeats 4000000
structure p0.Fits (e:p0):Prop where
 before:e.before.Fits
 aG:e.before.aG.length≤1000000
 hints:e.before.hints.length≤1000000
 steps:Steps.Fits e.steps
 gL:oV.Fits e.gL
 I4:e.tY.length≤maxLen
 each:∀ t∈e.tY,t.eF
def oV.DK (h:bN) (l:List Claim):Prop:=l.length≤maxLen∧∀ (k:Nat) (c:Claim),l[k]? = some c→c.ay.Fits∨¬ (0≤c.host∧c.host<h.aB.length∧iJ l k≤c.time∧c.time<h.fin)
theorem oV.Fits.b {h:bN} {l:List Claim} (hf:oV.Fits l):oV.DK h l:=⟨hf.1,fun k c hc => .inl (hf.2 c (List.mem_of_getElem? hc))⟩
theorem RS (h:bN) (l:List Claim) (hf:oV.DK h l):au E 48 [h.enc,.sl (l.map Claim.enc)] (· = .bool (uj h l)):=by
 obtain ⟨aB,aG,anchor,hints,bM,fin⟩:=h;obtain ⟨hl,hz⟩:=hf;unfold maxLen at hl;unfold uj;simp only;show au E _ [DV.agg [.sl (aB.map Host.enc),.sl (aG.map aX.enc),.str anchor.name,.int .i64 anchor.type,.int .i64 anchor.cV,.sl (anchor.data.map Datum.enc),.sl (hints.map (.int .i64)),.int .i64 bM,.int .i64 fin],_] _;refine eP Tryz.func48 ?_;refine aj (fun h1=>?_) (fun h1=>?_)
 ·refine gO Tryz.func48 ?_;refine congrArg DV.bool ?_;simp_all;try omega
 have hlen:decide (l.length≤4000)=true:=by simp at h1 ⊢; omega
 rw [hlen,Bool.true_and];clear h1 hlen;refine gO Tryz.func48 ?_;refine gO Tryz.func48 ?_;refine I.loop (κ:=Nat) ([4,6,8,9]++rg 16 54) (fun k=>[(16,.d (.int .i64 k)),(4,.d (.bool false)),(5,.map 1),(6,.d (.int .i64 (iJ l k)))]) (fun k=>[(1,.map (dK mB.en ((l.take k).map Claim.key)))]) (fun k=>k≤l.length∧qf aB.length fin 0 [] l=qf aB.length fin (iJ l k) ((l.take k).map Claim.key) (l.drop k)∧0≤iJ l k) (fun k=>l.length - k) 0 ⟨Nat.zero_le _,rfl,Int.le_refl 0⟩ ?_ ?_
 ·(conv=>whnf);repeat (first | exact trivial | (refine sI ?_; conv=>whnf))
  refine And.intro rfl ?_;(conv=>whnf);repeat (first | exact trivial | (refine sI ?_; conv=>whnf))
  refine And.intro rfl ?_;exact sZ
 rintro i ⟨hi,oS,cB⟩ IH;refine I.head ag Tryz.func48 2000 ?_;(conv=>whnf);refine aj (fun h5=>?_) (fun h5=>?_)
 ·have ah:i<l.length:=by simpa using h5
  obtain ⟨x,hx⟩:=aU ah;have fq:=hz i x hx;simp only at fq;rw [RQ hx] at oS;have eX:=(mr Jf ((l.take i).map Claim.key)).1;obtain ⟨gY,iG⟩:=ua Jf ((l.take i).map Claim.key) x.key;have sF:mB.en x.key = .agg [.int .i64 x.host,.int .i64 x.time,.str x.ay.ai]:=rfl;have DL:xi aB.length fin (iJ l i) ((l.take i).map Claim.key) x=(decide (0≤x.host)&&decide (x.host<aB.length)&&(jC x.ay||ep x.ay)&&decide (iJ l i≤x.time)&&decide (x.time<fin)&&decide (x.key ∉ (l.take i).map Claim.key)):=rfl;have bad:xi aB.length fin (iJ l i) ((l.take i).map Claim.key) x=false→DV.bool false=DV.bool (qf aB.length fin 0 [] l):=fun h=>by rw [oS,h]; rfl
  refine gO Tryz.func48 ?_;refine aT (e:=x.enc) (bu hx) rfl ?_;refine gO Tryz.func48 ?_;rcases fq with fq | fq
  case inr =>
   have hk:=bad (by
    rw [DL];cases q:jC x.ay||ep x.ay
    ·simp
    ·simp;intro q1 q2 q3 q4
     exact absurd ⟨q1,q2,q3,q4⟩ fq)
   repeat' (first | with_reducible refine cY ?_ | with_reducible refine cN ?_ | with_reducible refine aj (fun _=>?_) (fun _=>?_) | refine gA Tryz.func48 ?_ | refine gB ?_ | with_reducible rfl)
   all_goals first
    |exact hk
    |(rename_i a1 a2 a3 a4; exact absurd ⟨by simpa using a1,by simpa using a2,by simpa using a3,by simpa using a4⟩ fq)
  have c1:=rQ x.ay fq;have c2:=RR x.ay fq;repeat' (first | with_reducible refine ar (c1) ?_ | with_reducible refine aR (c1) ?_ | with_reducible refine ar (c2) ?_ | with_reducible refine aR (c2) ?_ | with_reducible refine cY ?_ | with_reducible refine cN ?_ | with_reducible refine aj (fun _=>?_) (fun _=>?_) | refine gA Tryz.func48 ?_ | refine gB ?_ | with_reducible rfl)
  all_goals try (exact bad (by rw [DL]; simp_all; try omega))
  all_goals
   have hk:xi aB.length fin (iJ l i) ((l.take i).map Claim.key) x=decide (x.key ∉ (l.take i).map Claim.key):=by
    rw [DL];have:(0≤x.host∧x.host<aB.length)∧(jC x.ay||ep x.ay)=true∧iJ l i≤x.time∧x.time<fin:=by refine ⟨⟨?_,?_⟩,?_,?_,?_⟩ <;> simp_all <;> omega
    simp [this.1.1,this.1.2,this.2.1,this.2.2.1,this.2.2.2]
   have ht:0≤x.time:=by simp_all; omega
   refine mX (.bool false) (.bool false) ⟨_,rfl,rfl,⟨_,rfl,_,rfl⟩,rfl,⟨_,rfl,_,rfl⟩,rfl,⟨_,rfl,_,rfl⟩,trivial⟩ (Jg eX) (fun w=>by kernel_rfl) (fun _ _ => .bool _) gY iG ?_;refine gO Tryz.func48 ?_;refine aj (fun h8=>?_) (fun h8=>?_)
   ·refine gO Tryz.func48 ?_;exact bad (by rw [hk]; simp_all)
   ·refine gO Tryz.func48 ?_;refine bp ⟨⟨_,rfl,rfl,⟨_,rfl,_,rfl⟩,rfl,⟨_,rfl,_,rfl⟩,rfl,⟨_,rfl,_,rfl⟩,trivial⟩,Jg eX⟩ ?_;refine gO Tryz.func48 ?_;refine I.back (IH (i+1) ⟨by omega,by rw [oS,hk,show decide (x.key ∉ (l.take i).map Claim.key)=true by simp_all]; rfl,by simp [iJ,cJ,hx,ht]⟩ (by omega)) ?_;rw [dm hx,List.map_append,show [x].map Claim.key=[x.key] from rfl,rW,show iJ l (i+1)=x.time by simp [iJ,cJ,hx],sF];exact sZ
 ·have aK:l.length≤i:=by simpa using h5
  rw [List.drop_eq_nil_of_le aK] at oS;refine gO Tryz.func48 ?_;rw [oS];rfl
theorem RT:aq E 119 [] [.d (.sl []),.fn (.func 50) [] []] (fun a b=>a = .d (.int .i64 (-1))∧b=[]):=by
 refine aq.run ag (fn:=Tryz.f119) Tryz.func119 (body:=Tryz.f119.body.getD .skip) rfl (by decide) 2000 rfl ?_;(conv=>whnf);refine I.jV ?_;refine I.run ag Tryz.func119 2000 ?_;(conv=>whnf);refine aW rfl ?_;refine gO Tryz.func119 ?_;exact ⟨rfl,rfl⟩
theorem RU:aq E 49 [] [.d (.sl []),.fn (.func 50) [] []] (fun a b=>a = .d (.bool false)∧b=[]):=by
 refine aq.run ag (fn:=Tryz.f49) Tryz.func49 (body:=Tryz.f49.body.getD .skip) rfl (by decide) 2000 rfl ?_;(conv=>whnf);refine iT RT ?_;rintro r b ⟨rfl,rfl⟩;refine gO Tryz.func49 ?_;exact ⟨rfl,rfl⟩
theorem RV (e:p0) (h1:e.before.Fits) (h2:e.before.aG.length≤1000000) (h3:Steps.Fits e.steps) (h4:oV.DK e.before e.gL) (ht:e.tY=[]∨uj e.before e.gL=false):au E 20 [e.enc] (· = .bool (my e.before e.steps&&uj e.before e.gL)):=by
 have c1:=I7 e.before e.steps h1 h2 h3;have c2:=RS e.before e.gL h4;obtain ⟨⟨aB,aG,anchor,hints,bM,fin⟩,sl,cl,tl⟩:=e;simp only at c1 c2 ht ⊢;show au E _ [DV.agg [.sl (aB.map Host.enc),.sl (aG.map aX.enc),.str anchor.name,.int .i64 anchor.type,.int .i64 anchor.cV,.sl (anchor.data.map Datum.enc),.sl (hints.map (.int .i64)),.int .i64 bM,.int .i64 fin,.sl (sl.map Step.enc),.sl (cl.map Claim.enc),.sl (tl.map oP.enc)]] _;refine eP Tryz.func20 ?_;repeat' (first | with_reducible refine ar (c1) ?_ | with_reducible refine aR (c1) ?_ | with_reducible refine ar (c2) ?_ | with_reducible refine aR (c2) ?_ | with_reducible refine cY ?_ | with_reducible refine cN ?_ | with_reducible refine aj (fun _=>?_) (fun _=>?_) | refine gA Tryz.func20 ?_ | refine gB ?_ | with_reducible rfl)
 all_goals try (refine congrArg DV.bool ?_; simp_all; done)
 have:tl=[]:=ht.elim id fun h=>by simp_all
 subst this;refine iT RU ?_;rintro r b ⟨rfl,rfl⟩;refine gO Tryz.func20 ?_;refine congrArg DV.bool ?_;simp_all
end Go.Proofs.YtfmdaiojokniiaaGreatDoor.P
end
section
namespace Go.Proofs.YtfmdaiojokniiaaGreatDoor.P
open Go Go.aw
set_option maxRecDepth 100000
set_option maxHeartbeats 4000000
theorem RW (x y:Signed) (h1:x.set.data.length≤2147483648) (h2:x.sigs.length≤2147483648):au E 112 [x.enc,y.enc] (· = .bool (decide (x=y))):=by
 obtain ⟨⟨a1,a2,a3,a4⟩,a5⟩:=x;obtain ⟨⟨b1,b2,b3,b4⟩,b5⟩:=y;simp only at h1 h2;have c1:=Rx a4 b4 h1;have c2:=Ry a5 b5 h2;show au E _ [DV.agg [.str a1,.int .i64 a2,.int .i64 a3,.sl (a4.map Datum.enc),.sl (a5.map di.enc)],DV.agg [.str b1,.int .i64 b2,.int .i64 b3,.sl (b4.map Datum.enc),.sl (b5.map di.enc)]] _;refine eP Tryz.func112 ?_;repeat' (first | with_reducible refine ar (c1) ?_ | with_reducible refine aR (c1) ?_ | with_reducible refine ar (c2) ?_ | with_reducible refine aR (c2) ?_ | with_reducible refine cY ?_ | with_reducible refine cN ?_ | with_reducible refine aj (fun _=>?_) (fun _=>?_) | refine gA Tryz.func112 ?_ | refine gB ?_ | with_reducible rfl)
 all_goals
  refine congrArg DV.bool ?_;rw [Bool.eq_iff_iff];simp_all
theorem RX (a b:List Signed) (hl:a.length≤2147483648) (he:∀ s∈a,s.set.data.length≤2147483648∧s.sigs.length≤2147483648):aq E 111 [] [.d (.sl (a.map Signed.enc)),.d (.sl (b.map Signed.enc)),.fn (.func 112) [] []] (fun x y=>x = .d (.bool (decide (a=b)))∧y=[]):=by
 apply aq.jD
 case hk=>rfl
 refine aq.run ag (fn:=Tryz.f111) Tryz.func111 (body:=Tryz.f111.body.getD .skip) rfl (by decide) 2000 rfl ?_;(conv=>whnf);refine aj (fun h3=>?_) (fun h3=>?_)
 ·have aE:a≠b:=by rintro rfl; simp at h3
  rw [decide_eq_false aE];refine gO Tryz.func111 ?_;exact ⟨rfl,rfl⟩
 have mL:a.length=b.length:=by simp at h3; omega
 refine gO Tryz.func111 ?_;refine I.loop (κ:=Nat) (rg 6 4++rg 17 15) (fun k=>[(17,.d (.int .i64 k))]) (fun _=>[]) (fun k=>k≤a.length∧a.take k=b.take k) (fun k=>a.length - k) 0 ⟨Nat.zero_le _,rfl⟩ ?_ ?_
 ·exact sZ
 intro k hk IH;refine I.head ag Tryz.func111 2000 ?_;(conv=>whnf);refine aj (fun h7=>?_) (fun h7=>?_)
 ·have ah:k<a.length:=by simpa using h7
  obtain ⟨u,hu⟩:=aU ah;obtain ⟨w,hw⟩:=aU (l:=b) (k:=k) (by omega);have xj:=he u (List.mem_of_getElem? hu);have c1:=RW u w xj.1 xj.2;refine gO Tryz.func111 ?_;refine aT (e:=u.enc) (bu hu) rfl ?_;refine gO Tryz.func111 ?_;refine aT (e:=w.enc) (bu hw) rfl ?_;refine gO Tryz.func111 ?_;refine ar (c1) ?_;refine gO Tryz.func111 ?_;by_cases h8:u=w
  ·rw [decide_eq_true h8];refine aN ?_;refine gO Tryz.func111 ?_;refine I.back (IH (k+1) ⟨by omega,oB hk.2 hu hw h8⟩ (by omega)) ?_;exact sZ
  ·rw [decide_eq_false h8];refine aY ?_;refine gO Tryz.func111 ?_;rw [decide_eq_false (lO hu hw h8)];exact ⟨rfl,rfl⟩
 ·have aK:k=a.length:=by simp at h7; omega
  have rY:a=b:=oC hk.2 (by omega) (by omega);refine gO Tryz.func111 ?_;exact ⟨by simp [rY],rfl⟩
theorem RY (a b:dj) (hl:a.ae.length≤2147483648) (he:∀ s∈a.ae,s.set.data.length≤2147483648∧s.sigs.length≤2147483648):au E 44 [a.enc,b.enc] (· = .bool (decide (a=b))):=by
 have c1:=RX a.ae b.ae hl he;obtain ⟨a1,a2,a3⟩:=a;obtain ⟨b1,b2,b3⟩:=b;simp only at c1;show au E _ [DV.agg [.int .i64 a1,.sl (a2.map Signed.enc),.str a3],DV.agg [.int .i64 b1,.sl (b2.map Signed.enc),.str b3]] _;refine eP Tryz.func44 ?_;repeat' (first | with_reducible refine cY ?_ | with_reducible refine cN ?_ | with_reducible refine aj (fun _=>?_) (fun _=>?_) | refine gA Tryz.func44 ?_ | refine gB ?_ | with_reducible rfl)
 all_goals try (refine congrArg DV.bool ?_; simp_all; done)
 refine iT c1 ?_;rintro r b ⟨rfl,rfl⟩;refine gO Tryz.func44 ?_;refine congrArg DV.bool ?_;rw [Bool.eq_iff_iff];simp_all
theorem Jh (a:dj):au E 42 [a.enc] (· = .bool (qd a)):=by
 obtain ⟨a1,a2,a3⟩:=a;show au E _ [DV.agg [.int .i64 a1,.sl (a2.map Signed.enc),.str a3]] _;unfold qd;refine eP Tryz.func42 ?_;repeat' (first | with_reducible refine cY ?_ | with_reducible refine cN ?_ | with_reducible refine aj (fun _=>?_) (fun _=>?_) | refine gA Tryz.func42 ?_ | refine gB ?_ | with_reducible rfl)
 all_goals (refine congrArg DV.bool ?_; simp_all)
def iK (x:c9):Bool:=iI x.q&&(xe x.answer||qd x.answer)&&decide (0≤x.time)&&decide (x.time≤10000000)&&decide (1≤x.addr)&&decide (x.addr≤1000000)
theorem RZ (x:c9) (hf:x.eF):au E 41 [x.enc] (· = .bool (iK x)):=by
 have c1:=fQ x.q.name hf.1;have c2:=Jh x.answer;have c3:=RJ x.q x.answer hf.1 hf.2;obtain ⟨t,ad,⟨qn,qt⟩,⟨ak,al,ac⟩⟩:=x;unfold DH iI at c3;unfold iK iI;simp only at c1 c2 c3 ⊢;show au E _ [DV.agg [.int .i64 t,.int .i64 ad,.str qn,.int .i64 qt,.int .i64 ak,.sl (al.map Signed.enc),.str ac]] _;refine eP Tryz.func41 ?_;repeat' (first | with_reducible refine ar (c1) ?_ | with_reducible refine aR (c1) ?_ | with_reducible refine ar (c2) ?_ | with_reducible refine aR (c2) ?_ | with_reducible refine ar (c3) ?_ | with_reducible refine aR (c3) ?_ | with_reducible refine cY ?_ | with_reducible refine cN ?_ | with_reducible refine aj (fun _=>?_) (fun _=>?_) | refine gA Tryz.func41 ?_ | refine gB ?_ | with_reducible rfl)
 all_goals (refine congrArg DV.bool ?_; simp_all; try omega)
theorem Ji (l:List Int) (n:Int) (hl:l.length≤maxLen):au E 23 [.sl (l.map (.int .i64)),.int .i64 n] (· = .bool (decide (n∈l))):=by
 unfold maxLen at hl;refine eP Tryz.func23 ?_;refine I.loop (κ:=Nat) (rg 4 14) (fun k=>[(5,.d (.int .i64 k))]) (fun _=>[]) (fun k=>k≤l.length∧n ∉ l.take k) (fun k=>l.length - k) 0 ⟨Nat.zero_le _,by simp⟩ ?_ ?_
 ·exact sZ
 rintro k ⟨hk,cj⟩ IH;refine I.head ag Tryz.func23 2000 ?_;(conv=>whnf);refine aj (fun h5=>?_) (fun h5=>?_)
 ·have ah:k<l.length:=by simpa using h5
  obtain ⟨x,hx⟩:=aU ah;refine gO Tryz.func23 ?_;refine aT (e := .int .i64 x) (bu hx) rfl ?_;refine gO Tryz.func23 ?_;refine aj (fun h8=>?_) (fun h8=>?_)
  ·have:n∈l:=by
    have e:x=n:=by simpa using h8
    exact e ▸ List.mem_of_getElem? hx
   refine gO Tryz.func23 ?_;simp [this]
  ·refine gO Tryz.func23 ?_;refine I.back (IH (k+1) ⟨by omega,by rw [dm hx]; exact fun hm=>(List.mem_append.1 hm).elim cj fun h=>by simp at h; simp [h] at h8⟩ (by omega)) ?_;exact sZ
 ·have aK:l.length≤k:=by simpa using h5
  rw [List.take_of_length_le aK] at cj;refine gO Tryz.func23 ?_;simp [cj]
end Go.Proofs.YtfmdaiojokniiaaGreatDoor.P
end
section
namespace Go.Proofs.YtfmdaiojokniiaaGreatDoor.P
open Go Go.aw
set_option maxRecDepth 100000
set_option maxHeartbeats 4000000
def kh (f u:Int) (K:List Int) (t:Int):List Int:=if f≤t∧t<u then K++[t] else K
theorem DO (f u:Int) (K:List Int) (t:Int):aq E 106 [.cells [.d (.int .i64 f)],.cells [.d (.int .i64 u)],.cells [.map 3],.map (dK (DV.int .i64) K)] [.d (.int .i64 t),.ptr 0 0,.ptr 1 0,.ptr 2 0] (fun a b=>a = .az []∧b=[.cells [.d (.int .i64 f)],.cells [.d (.int .i64 u)],.cells [.map 3],.map (dK (DV.int .i64) (kh f u K t))]):=by
 have fV:=Sg (mr IN K).1;unfold kh;refine aq.run ag (fn:=Tryz.f106) Tryz.func106 (body:=Tryz.f106.body.getD .skip) rfl (by decide) 2000 rfl ?_;(conv=>whnf);repeat' (first | with_reducible refine cY ?_ | with_reducible refine cN ?_ | with_reducible refine aj (fun _=>?_) (fun _=>?_) | refine gA Tryz.func106 ?_ | refine gB ?_ | with_reducible rfl)
 all_goals try (refine ⟨rfl,?_⟩; rw [if_neg (by simp_all; try omega)]; done)
 refine bp ⟨⟨_,rfl⟩,fV⟩ ?_;refine gO Tryz.func106 ?_;refine ⟨rfl,?_⟩;rw [if_pos (by simp_all),rW]
theorem Si {α:Type} {f:α→DV} {l:List α} {i:Nat} {y:α} (h:l[i]? = some y) (z:DV):(((l.map f).take l.length).drop i).take 1++[z].drop (l.length - i)=[f y]:=by
 obtain ⟨hi,rfl⟩:=List.getElem?_eq_some_iff.1 h;rw [List.take_of_length_le (l:=l.map f) (i:=l.length) (by simp),List.drop_eq_getElem_cons (by simpa using hi),List.drop_of_length_le (l:=[z]) (by rw [List.length_singleton]; omega)];simp
def fj (i:Nat) (n:Text) (c:aX):Bool:=Nm.fZ n c.ay.ai&&(c.host==i)
def r8 (f u:Int) (K:List Int) (c:aX):List Int:=kh f u (kh f u K c.bQ) c.upto
def ki (f u:Int) (l:List aX):List Int:=l.foldl (r8 f u) (kh f u [] f)
theorem Sj (h:bN) (i:Nat) (x:c9) (y:Host) (hy:h.aB[i]? = some y) (hl:h.aG.length≤1000000) (hz:∀ c∈h.aG,c.ay.ai.length≤maxLen) (hn:x.q.name.length≤maxLen) (ht:0≤x.time∧x.time≤10000000) (hd:0≤h.bM∧h.bM≤1000) (f u:Int) (o7:max (x.time - h.bM) 0=f) (xj:min (x.time+h.bM+1) h.fin=u) :
  aq E 43 [] [.d h.enc,.d (.int .i64 i),.d x.enc] (fun a b=>a = .fn (.func 108) [] [.ptr 8 0,.ptr 5 0,.ptr 0 0,.ptr 6 0]∧b=[.cells [.d (.sl (h.aB.map Host.enc)),.d (.sl (h.aG.map aX.enc)),.d (.str h.anchor.name),.d (.int .i64 h.anchor.type),.d (.int .i64 h.anchor.cV),.d (.sl (h.anchor.data.map Datum.enc)),.d (.sl (h.hints.map (.int .i64))),.d (.int .i64 h.bM),.d (.int .i64 h.fin)],.cells [.d (.int .i64 x.time),.d (.int .i64 x.addr),.d (.str x.q.name),.d (.int .i64 x.q.type),.d (.int .i64 x.answer.kind),.d (.sl (x.answer.ae.map Signed.enc)),.d (.str x.answer.cut)],.cells [.d (.int .i64 f)],.cells [.d (.int .i64 u)],.gone,.cells [.d (.sl [y.enc])],.cells [.d (.sl ((h.aG.filter (fj i x.q.name)).map aX.enc))],.map (dK (DV.int .i64) (ki f u (h.aG.filter (fj i x.q.name)))),.cells [.map 7],.gone]):=by
 obtain ⟨aB,aG,anchor,hints,bM,fin⟩:=h;obtain ⟨t,ad,⟨qn,qt⟩,⟨ak,al,ac⟩⟩:=x;simp only at hy hl hz hn ht hd o7 xj;show aq E _ [] [.d (DV.agg [.sl (aB.map Host.enc),.sl (aG.map aX.enc),.str anchor.name,.int .i64 anchor.type,.int .i64 anchor.cV,.sl (anchor.data.map Datum.enc),.sl (hints.map (.int .i64)),.int .i64 bM,.int .i64 fin]),_,.d (DV.agg [.int .i64 t,.int .i64 ad,.str qn,.int .i64 qt,.int .i64 ak,.sl (al.map Signed.enc),.str ac])] _;refine aq.run ag (fn:=Tryz.f43) Tryz.func43 (body:=Tryz.f43.body.getD .skip) rfl (by decide) 2000 rfl ?_;(conv=>whnf);refine I.bU ag bV 2000 (by kernel_rfl) ?_;(conv=>whnf);rw [wrap64 (n:=t - bM) (by omega) (by omega)];refine bF.pure rfl (fun _=>R4 (aM rfl) G1) ?_;rw [o7];refine gD ?_;rw [wrap64 (n:=t+bM) (by omega) (by omega),wrap64 (n:=t+bM+1) (by omega) (by omega)];refine bF.pure rfl (fun _=>Jk (aM rfl) (aM rfl)) ?_;rw [xj];refine gD ?_;refine And.intro (by kernel_rfl) ?_;(conv=>whnf);refine gO Tryz.func43 ?_;refine bp ⟨by omega,by omega,by omega⟩ ?_;refine gO Tryz.func43 ?_;refine I.bU ag bV 2000 (by kernel_rfl) ?_;(conv=>whnf);refine bp ⟨by simp,by simp; exact Nat.le_of_lt (aP hy),by simp,by simp [DV.cells]⟩ ?_;refine gD ?_;refine gD ?_;refine bF.at rfl ?_;conv=>whnf
 refine jx.Ha ag [y.enc] rfl (aM rfl) (aM rfl) rfl rfl rfl rfl rfl (by simp) (fun z hz=>by
  obtain ⟨u,_,rfl⟩:=List.mem_map.1 (List.mem_of_mem_take (List.mem_of_mem_drop hz))
  rfl) ?_ ?_
 ·simpa using Si (f:=Host.enc) hy (.agg [.str [],.int .i64 0,.int .i64 0])
 refine gD ?_;refine And.intro (by kernel_rfl) ?_;(conv=>whnf);refine gO Tryz.func43 ?_;refine gO Tryz.func43 ?_;have c1:=DO f u [] f;rw [show dK (DV.int .i64) ([]:List Int)=[] from rfl] at c1
 with_reducible refine bC (c1) ?_
 refine gO Tryz.func43 ?_;refine I.freeze 4 ?_;(conv=>whnf);refine I.np 6 0 (68,5) (by decide) rfl rfl ?_;refine gO Tryz.func43 ?_;refine I.loop (κ:=Nat) ([14,15,16]++rg 47 34) (fun k=>[(47,.d (.int .i64 k))]) (fun k=>[(6,.cells [.own 9 1]),(7,.map (dK (DV.int .i64) (ki f u ((aG.take k).filter (fj i qn))))),(9,.arr 1 (68,5) (((aG.take k).filter (fj i qn)).map aX.enc))]) (fun k=>k≤aG.length) (fun k=>aG.length - k) 0 (Nat.zero_le _) ?_ ?_
 ·(conv=>whnf);repeat (first | exact trivial | (refine sI ?_; conv=>whnf))
  refine And.intro rfl ?_;(conv=>whnf);repeat (first | exact trivial | (refine sI ?_; conv=>whnf))
  refine And.intro rfl ?_;exact sZ
 intro k hk IH;refine I.head ag Tryz.func43 2000 ?_;(conv=>whnf);refine aj (fun h5=>?_) (fun h5=>?_)
 ·have ah:k<aG.length:=by simpa using h5
  obtain ⟨c,hc⟩:=aU ah;have c2:=tO qn c.ay.ai hn (hz c (List.mem_of_getElem? hc));have dJ:(aG.take (k+1)).filter (fj i qn)=(aG.take k).filter (fj i qn)++(if fj i qn c then [c] else []):=by
   rw [dm hc,List.filter_append];cases h:fj i qn c <;> simp [h]
  have VT:((aG.take k).filter (fj i qn)).length≤k:=Nat.le_trans (List.length_filter_le ..) (by simp; omega);generalize (aG.take k).filter (fj i qn)=L at *;have c3:=DO f u (ki f u L) c.bQ;have c4:=DO f u (kh f u (ki f u L) c.bQ) c.upto;refine gO Tryz.func43 ?_;refine aT (e:=c.enc) (bu hc) rfl ?_;refine gO Tryz.func43 ?_;refine ar (c2) ?_;refine gO Tryz.func43 ?_;cases hv:Nm.fZ qn c.ay.ai
  ·refine aN ?_;refine gO Tryz.func43 ?_;refine aN ?_;refine gO Tryz.func43 ?_;refine I.back (IH (k+1) (by omega) (by omega)) ?_;rw [dJ,show fj i qn c=false by simp [fj,hv]];simp only [Bool.false_eq_true,if_false,List.append_nil];exact sZ
  refine aY ?_;refine gO Tryz.func43 ?_;refine aj (fun h6=>?_) (fun h6=>?_)
  ·refine gO Tryz.func43 ?_;refine bp ⟨by simp; omega,by simp [DV.cells]⟩ ?_;refine gO Tryz.func43 ?_
   with_reducible refine bC (c3) ?_
   refine gO Tryz.func43 ?_
   with_reducible refine bC (c4) ?_
   refine gO Tryz.func43 ?_;refine I.back (IH (k+1) (by omega) (by omega)) ?_;rw [dJ,show fj i qn c=true by simp [fj,hv,h6],if_pos rfl,show ki f u (L++[c])=kh f u (kh f u (ki f u L) c.bQ) c.upto by simp [ki,r8],List.map_append];(conv=>whnf);repeat (first | exact trivial | (refine sI ?_; conv=>whnf))
   refine And.intro rfl ?_;exact sZ
  ·refine gO Tryz.func43 ?_;refine I.back (IH (k+1) (by omega) (by omega)) ?_;rw [dJ,show fj i qn c=false by simp [fj,h6]];simp only [Bool.false_eq_true,if_false,List.append_nil];exact sZ
 ·have aK:aG.length≤k:=by simpa using h5
  rw [List.take_of_length_le aK];refine I.freeze 9 ?_;(conv=>whnf);refine gO Tryz.func43 ?_;exact ⟨rfl,rfl⟩
end Go.Proofs.YtfmdaiojokniiaaGreatDoor.P
end
