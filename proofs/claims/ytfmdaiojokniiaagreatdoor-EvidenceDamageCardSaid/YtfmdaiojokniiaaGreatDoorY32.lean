/- Several texts of mine, one behind the other. Conditions: as each says. -/
import Derived.Test.YtfmdaiojokniiaaGreatDoorY29
import Derived.Test.YtfmdaiojokniiaaGreatDoorY31
set_option linter.unusedVariables false
set_option linter.unusedSimpArgs false
section
namespace Go.Proofs.YtfmdaiojokniiaaGreatDoor.P
open Go Go.ax
set_option maxRecDepth 100000
set_option maxHeartbeats 4000000
def xO (e:fL):Bool:=(e.cw.take 21).all (fun c=>jU c.az)&&(e.iW.take 11).all pk&&xM e.before&&xL e.steps&&decide ((e.cw.length:Int)≤20)&&decide ((e.iW.length:Int)≤10)
def fq.J8 (t:fq):Prop:=t.cache.list.length≤maxLen∧t.heard.length≤maxLen∧(∀ x∈t.heard,x.answer.ab.length≤maxLen)∧t.result.ab.length≤maxLen
theorem Th (e:fL) (h1:e.cw.length≤maxLen) (h2:e.iW.length≤maxLen) (h3:∀ t∈e.iW,t.J8):aq E 10 [e.enc] (· = .bool (xO e)):=by
 have c1:=S9 e.before;have c2:=S8 e.steps;obtain ⟨⟨aA,aI,anchor,hints,bT,fin⟩,sl,cl,tl⟩:=e;unfold xO;simp only at c1 c2 h1 h2 h3 ⊢;unfold maxLen at h1 h2;show aq E _ [DV.agg [.sl (aA.map Host.enc),.sl (aI.map a7.enc),.str anchor.name,.int .i64 anchor.type,.int .i64 anchor.cD,.sl (anchor.data.map Datum.enc),.sl (hints.map (.int .i64)),.int .i64 bT,.int .i64 fin,.sl (sl.map Step.enc),.sl (cl.map Claim.enc),.sl (tl.map fq.enc)]] _;refine eP Tryz.func10 ?_;refine I.loop (κ:=Nat) ([2,3,4]++rg 7 20) (fun k=>[(3,.d (.int .i64 k))]) (fun _=>[]) (fun k=>k≤cl.length∧k≤21∧(cl.take k).all (fun c=>jU c.az)=true) (fun k=>cl.length - k) 0 ⟨Nat.zero_le _,by omega,rfl⟩ ?_ ?_
 ·exact sZ
 rintro k ⟨hk,fp,aH⟩ IH;refine I.head af Tryz.func10 2000 ?_;(conv=>whnf);by_cases ai:k<cl.length∧k<21
 ·obtain ⟨x,hx⟩:=aD ai.1;have no:=fun h=>cX (l:=cl.take 21) (k:=k) (p:=fun c:Claim=>jU c.az) (by rw [List.getElem?_take,if_pos ai.2]; exact hx) h;have back:=fun h=>IH (k+1) ⟨by omega,by omega,dh aH hx h⟩ (by omega);have c3:=Di x.az;refine aV (by simp; omega) ?_;refine gO Tryz.func10 ?_;refine aV (by simp; omega) ?_;refine gO Tryz.func10 ?_;repeat' (first | with_reducible refine aB (aN hx) rfl ?_ | with_reducible refine ao (c3) ?_ | with_reducible refine au (c3) ?_ | with_reducible refine cY ?_ | with_reducible refine cN ?_ | with_reducible refine ah (fun _=>?_) (fun _=>?_) | refine gA Tryz.func10 ?_ | refine gB ?_ | with_reducible rfl)
  all_goals try (rw [no (by simp_all)]; simp; done)
  refine gO Tryz.func10 ?_;refine I.back (back (by simp_all)) ?_;exact sZ
 ·rw [xJ aH ai fp];by_cases h:k<cl.length
  case pos =>
   refine aV (by simpa using h) ?_;refine gO Tryz.func10 ?_;refine aW (by simp; omega) ?_;refine gO Tryz.func10 ?_;refine I.loop (κ:=Nat) ([2,5,6]++rg 27 19) (fun k=>[(5,.d (.int .i64 k))]) (fun _=>[]) (fun k=>k≤tl.length∧k≤11∧(tl.take k).all pk=true) (fun k=>tl.length - k) 0 ⟨Nat.zero_le _,by omega,rfl⟩ ?_ ?_
   ·exact sZ
   clear IH;rintro j ⟨hj,xN,sw⟩ JH;refine I.head af Tryz.func10 2000 ?_;(conv=>whnf);by_cases po:j<tl.length∧j<11
   ·obtain ⟨x,hx⟩:=aD po.1;have no:=fun h=>cX (l:=tl.take 11) (k:=j) (p:=pk) (by rw [List.getElem?_take,if_pos po.2]; exact hx) h;have back:=fun h=>JH (j+1) ⟨by omega,by omega,dh sw hx h⟩ (by omega);obtain ⟨g1,g2,g3,g4⟩:=h3 x (List.mem_of_getElem? hx);have c3:=J3 x g1 g2 g3 g4;refine aV (by simp; omega) ?_;refine gO Tryz.func10 ?_;refine aV (by simp; omega) ?_;refine gO Tryz.func10 ?_;repeat' (first | with_reducible refine aB (aN hx) rfl ?_ | with_reducible refine ao (c3) ?_ | with_reducible refine au (c3) ?_ | with_reducible refine cY ?_ | with_reducible refine cN ?_ | with_reducible refine ah (fun _=>?_) (fun _=>?_) | refine gA Tryz.func10 ?_ | refine gB ?_ | with_reducible rfl)
    all_goals try (rw [no (by simp_all)]; simp; done)
    refine gO Tryz.func10 ?_;refine I.back (back (by simp_all)) ?_;exact sZ
   ·rw [xJ sw po xN];by_cases h:j<tl.length
    ·refine aV (by simpa using h) ?_;refine gO Tryz.func10 ?_;refine aW (by simp; omega) ?_;refine gO Tryz.func10 ?_;repeat' (first | with_reducible refine ao (c1) ?_ | with_reducible refine au (c1) ?_ | with_reducible refine ao (c2) ?_ | with_reducible refine au (c2) ?_ | with_reducible refine cY ?_ | with_reducible refine cN ?_ | with_reducible refine ah (fun _=>?_) (fun _=>?_) | refine gA Tryz.func10 ?_ | refine gB ?_ | with_reducible rfl)
     all_goals (refine congrArg DV.bool ?_; simp_all; try omega)
    ·refine aW (by simpa using h) ?_;refine gO Tryz.func10 ?_;refine aQ ?_;refine gO Tryz.func10 ?_;repeat' (first | with_reducible refine ao (c1) ?_ | with_reducible refine au (c1) ?_ | with_reducible refine ao (c2) ?_ | with_reducible refine au (c2) ?_ | with_reducible refine cY ?_ | with_reducible refine cN ?_ | with_reducible refine ah (fun _=>?_) (fun _=>?_) | refine gA Tryz.func10 ?_ | refine gB ?_ | with_reducible rfl)
     all_goals (refine congrArg DV.bool ?_; simp_all; try omega)
  case neg =>
   refine aW (by simpa using h) ?_;refine gO Tryz.func10 ?_;refine aQ ?_;refine gO Tryz.func10 ?_;refine I.loop (κ:=Nat) ([2,5,6]++rg 27 19) (fun k=>[(5,.d (.int .i64 k))]) (fun _=>[]) (fun k=>k≤tl.length∧k≤11∧(tl.take k).all pk=true) (fun k=>tl.length - k) 0 ⟨Nat.zero_le _,by omega,rfl⟩ ?_ ?_
   ·exact sZ
   clear IH;rintro j ⟨hj,xN,sw⟩ JH;refine I.head af Tryz.func10 2000 ?_;(conv=>whnf);by_cases po:j<tl.length∧j<11
   ·obtain ⟨x,hx⟩:=aD po.1;have no:=fun h=>cX (l:=tl.take 11) (k:=j) (p:=pk) (by rw [List.getElem?_take,if_pos po.2]; exact hx) h;have back:=fun h=>JH (j+1) ⟨by omega,by omega,dh sw hx h⟩ (by omega);obtain ⟨g1,g2,g3,g4⟩:=h3 x (List.mem_of_getElem? hx);have c3:=J3 x g1 g2 g3 g4;refine aV (by simp; omega) ?_;refine gO Tryz.func10 ?_;refine aV (by simp; omega) ?_;refine gO Tryz.func10 ?_;repeat' (first | with_reducible refine aB (aN hx) rfl ?_ | with_reducible refine ao (c3) ?_ | with_reducible refine au (c3) ?_ | with_reducible refine cY ?_ | with_reducible refine cN ?_ | with_reducible refine ah (fun _=>?_) (fun _=>?_) | refine gA Tryz.func10 ?_ | refine gB ?_ | with_reducible rfl)
    all_goals try (rw [no (by simp_all)]; simp; done)
    refine gO Tryz.func10 ?_;refine I.back (back (by simp_all)) ?_;exact sZ
   ·rw [xJ sw po xN];by_cases h:j<tl.length
    ·refine aV (by simpa using h) ?_;refine gO Tryz.func10 ?_;refine aW (by simp; omega) ?_;refine gO Tryz.func10 ?_;repeat' (first | with_reducible refine ao (c1) ?_ | with_reducible refine au (c1) ?_ | with_reducible refine ao (c2) ?_ | with_reducible refine au (c2) ?_ | with_reducible refine cY ?_ | with_reducible refine cN ?_ | with_reducible refine ah (fun _=>?_) (fun _=>?_) | refine gA Tryz.func10 ?_ | refine gB ?_ | with_reducible rfl)
     all_goals (refine congrArg DV.bool ?_; simp_all; try omega)
    ·refine aW (by simpa using h) ?_;refine gO Tryz.func10 ?_;refine aQ ?_;refine gO Tryz.func10 ?_;repeat' (first | with_reducible refine ao (c1) ?_ | with_reducible refine au (c1) ?_ | with_reducible refine ao (c2) ?_ | with_reducible refine au (c2) ?_ | with_reducible refine cY ?_ | with_reducible refine cN ?_ | with_reducible refine ah (fun _=>?_) (fun _=>?_) | refine gA Tryz.func10 ?_ | refine gB ?_ | with_reducible rfl)
     all_goals (refine congrArg DV.bool ?_; simp_all; try omega)
def As (e:fL):Bool:=e.iW.all Ar&&kH e.before e.steps&&kI e.before e.cw&&decide ((e.iW.length:Int)≤100)
structure fL.Fits (e:fL):Prop where
 before:e.before.Fits
 aI:e.before.aI.length≤1000000
 hints:e.before.hints.length≤1000000
 steps:Steps.Fits e.steps
 cw:mZ.Fits e.cw
 Ec:e.iW.length≤maxLen
 each:∀ t∈e.iW,t.ea
theorem Ti (e:fL) (hf:e.Fits):aq E 21 [e.enc] (· = .bool (As e)):=by
 have c1:=Sg e.before e.steps hf.before hf.aI hf.hints hf.steps;have c2:=Tc e.before e.cw hf.cw;have hl:=hf.Ec;have he:=hf.each;obtain ⟨⟨aA,aI,anchor,hints,bT,fin⟩,sl,cl,tl⟩:=e;clear hf;unfold As;simp only at c1 c2 hl he ⊢;unfold maxLen at hl;show aq E _ [DV.agg [.sl (aA.map Host.enc),.sl (aI.map a7.enc),.str anchor.name,.int .i64 anchor.type,.int .i64 anchor.cD,.sl (anchor.data.map Datum.enc),.sl (hints.map (.int .i64)),.int .i64 bT,.int .i64 fin,.sl (sl.map Step.enc),.sl (cl.map Claim.enc),.sl (tl.map fq.enc)]] _;refine eP Tryz.func21 ?_;refine I.loop (κ:=Nat) ([2,3,4]++rg 6 15) (fun k=>[(3,.d (.int .i64 k))]) (fun _=>[]) (fun k=>k≤tl.length∧(tl.take k).all Ar=true) (fun k=>tl.length - k) 0 ⟨Nat.zero_le _,rfl⟩ ?_ ?_
 ·exact sZ
 rintro k ⟨hk,aH⟩ IH;refine I.head af Tryz.func21 2000 ?_;(conv=>whnf);refine ah (fun h5=>?_) (fun h5=>?_)
 ·have ai:k<tl.length:=by simpa using h5
  obtain ⟨x,hx⟩:=aD ai;have c3:=S6 x (he x (List.mem_of_getElem? hx));refine gO Tryz.func21 ?_;repeat' (first | with_reducible refine aB (aN hx) rfl ?_ | with_reducible refine ao (c3) ?_ | with_reducible refine au (c3) ?_ | with_reducible refine cY ?_ | with_reducible refine cN ?_ | with_reducible refine ah (fun _=>?_) (fun _=>?_) | refine gA Tryz.func21 ?_ | refine gB ?_ | with_reducible rfl)
  all_goals try (rw [cX hx (by simp_all)]; simp; done)
  refine gO Tryz.func21 ?_;refine I.back (IH (k+1) ⟨by omega,dh aH hx (by simp_all)⟩ (by omega)) ?_;exact sZ
 ·have aC:tl.length≤k:=by simpa using h5
  rw [jS aH aC];refine gO Tryz.func21 ?_;repeat' (first | with_reducible refine ao (c1) ?_ | with_reducible refine au (c1) ?_ | with_reducible refine ao (c2) ?_ | with_reducible refine au (c2) ?_ | with_reducible refine cY ?_ | with_reducible refine cN ?_ | with_reducible refine ah (fun _=>?_) (fun _=>?_) | refine gA Tryz.func21 ?_ | refine gB ?_ | with_reducible rfl)
  all_goals (refine congrArg DV.bool ?_; simp_all; try omega)
def mZ.Au (h:ca) (l:List Claim):Prop:=l.length≤maxLen∧∀ (k:Nat) (c:Claim),l[k]? = some c→c.az.Fits∨¬ (0≤c.host∧c.host<h.aA.length∧dU l k≤c.time∧c.time<h.fin)
theorem mZ.Fits.b {h:ca} {l:List Claim} (hf:mZ.Fits l):mZ.Au h l:=⟨hf.1,fun k c hc => .inl (hf.2 c (List.mem_of_getElem? hc))⟩
theorem Tj (h:ca) (l:List Claim) (hf:mZ.Au h l):aq E 48 [h.enc,.sl (l.map Claim.enc)] (· = .bool (kI h l)):=by
 obtain ⟨aA,aI,anchor,hints,bT,fin⟩:=h;obtain ⟨hl,hz⟩:=hf;unfold maxLen at hl;unfold kI;simp only;show aq E _ [DV.agg [.sl (aA.map Host.enc),.sl (aI.map a7.enc),.str anchor.name,.int .i64 anchor.type,.int .i64 anchor.cD,.sl (anchor.data.map Datum.enc),.sl (hints.map (.int .i64)),.int .i64 bT,.int .i64 fin],_] _;refine eP Tryz.func48 ?_;refine ah (fun h1=>?_) (fun h1=>?_)
 ·refine gO Tryz.func48 ?_;refine congrArg DV.bool ?_;simp_all;try omega
 have hlen:decide (l.length≤4000)=true:=by simp at h1 ⊢; omega
 rw [hlen,Bool.true_and];clear h1 hlen;refine gO Tryz.func48 ?_;refine gO Tryz.func48 ?_;refine I.loop (κ:=Nat) ([4,6,8,9]++rg 16 54) (fun k=>[(16,.d (.int .i64 k)),(4,.d (.bool false)),(5,.map 1),(6,.d (.int .i64 (dU l k)))]) (fun k=>[(1,.map (dJ ly.en ((l.take k).map Claim.key)))]) (fun k=>k≤l.length∧iu aA.length fin 0 [] l=iu aA.length fin (dU l k) ((l.take k).map Claim.key) (l.drop k)∧0≤dU l k) (fun k=>l.length - k) 0 ⟨Nat.zero_le _,rfl,Int.le_refl 0⟩ ?_ ?_
 ·(conv=>whnf);repeat (first | exact trivial | (refine sI ?_; conv=>whnf))
  refine And.intro rfl ?_;(conv=>whnf);repeat (first | exact trivial | (refine sI ?_; conv=>whnf))
  refine And.intro rfl ?_;exact sZ
 rintro i ⟨hi,gW,cA⟩ IH;refine I.head af Tryz.func48 2000 ?_;(conv=>whnf);refine ah (fun h5=>?_) (fun h5=>?_)
 ·have ai:i<l.length:=by simpa using h5
  obtain ⟨x,hx⟩:=aD ai;have eE:=hz i x hx;simp only at eE;rw [J6 hx] at gW;have fe:=(mU J4 ((l.take i).map Claim.key)).1;obtain ⟨fH,iZ⟩:=uE J4 ((l.take i).map Claim.key) x.key;have s5:ly.en x.key = .agg [.int .i64 x.host,.int .i64 x.time,.str x.az.aj]:=rfl;have uP:mr aA.length fin (dU l i) ((l.take i).map Claim.key) x=(decide (0≤x.host)&&decide (x.host<aA.length)&&(jz x.az||dI x.az)&&decide (dU l i≤x.time)&&decide (x.time<fin)&&decide (x.key ∉ (l.take i).map Claim.key)):=rfl;have bad:mr aA.length fin (dU l i) ((l.take i).map Claim.key) x=false→DV.bool false=DV.bool (iu aA.length fin 0 [] l):=fun h=>by rw [gW,h]; rfl
  refine gO Tryz.func48 ?_;refine aB (e:=x.enc) (aN hx) rfl ?_;refine gO Tryz.func48 ?_;rcases eE with eE | eE
  case inr =>
   have hk:=bad (by
    rw [uP];cases q:jz x.az||dI x.az
    ·simp
    ·simp;intro q1 q2 q3 q4
     exact absurd ⟨q1,q2,q3,q4⟩ eE)
   repeat' (first | with_reducible refine cY ?_ | with_reducible refine cN ?_ | with_reducible refine ah (fun _=>?_) (fun _=>?_) | refine gA Tryz.func48 ?_ | refine gB ?_ | with_reducible rfl)
   all_goals first
    |exact hk
    |(rename_i a1 a2 a3 a4; exact absurd ⟨by simpa using a1,by simpa using a2,by simpa using a3,by simpa using a4⟩ eE)
  have c1:=sk x.az eE;have c2:=Tb x.az eE;repeat' (first | with_reducible refine ao (c1) ?_ | with_reducible refine au (c1) ?_ | with_reducible refine ao (c2) ?_ | with_reducible refine au (c2) ?_ | with_reducible refine cY ?_ | with_reducible refine cN ?_ | with_reducible refine ah (fun _=>?_) (fun _=>?_) | refine gA Tryz.func48 ?_ | refine gB ?_ | with_reducible rfl)
  all_goals try (exact bad (by rw [uP]; simp_all; try omega))
  all_goals
   have hk:mr aA.length fin (dU l i) ((l.take i).map Claim.key) x=decide (x.key ∉ (l.take i).map Claim.key):=by
    rw [uP];have:(0≤x.host∧x.host<aA.length)∧(jz x.az||dI x.az)=true∧dU l i≤x.time∧x.time<fin:=by refine ⟨⟨?_,?_⟩,?_,?_,?_⟩ <;> simp_all <;> omega
    simp [this.1.1,this.1.2,this.2.1,this.2.2.1,this.2.2.2]
   have ht:0≤x.time:=by simp_all; omega
   refine ny (.bool false) (.bool false) ⟨_,rfl,rfl,⟨_,rfl,_,rfl⟩,rfl,⟨_,rfl,_,rfl⟩,rfl,⟨_,rfl,_,rfl⟩,trivial⟩ (J5 fe) (fun w=>by kernel_rfl) (fun _ _ => .bool _) fH iZ ?_;refine gO Tryz.func48 ?_;refine ah (fun h8=>?_) (fun h8=>?_)
   ·refine gO Tryz.func48 ?_;exact bad (by rw [hk]; simp_all)
   ·refine gO Tryz.func48 ?_;refine bc ⟨⟨_,rfl,rfl,⟨_,rfl,_,rfl⟩,rfl,⟨_,rfl,_,rfl⟩,rfl,⟨_,rfl,_,rfl⟩,trivial⟩,J5 fe⟩ ?_;refine gO Tryz.func48 ?_;refine I.back (IH (i+1) ⟨by omega,by rw [gW,hk,show decide (x.key ∉ (l.take i).map Claim.key)=true by simp_all]; rfl,by simp [dU,bK,hx,ht]⟩ (by omega)) ?_;rw [cQ hx,List.map_append,show [x].map Claim.key=[x.key] from rfl,ss,show dU l (i+1)=x.time by simp [dU,bK,hx],s5];exact sZ
 ·have aC:l.length≤i:=by simpa using h5
  rw [List.drop_eq_nil_of_le aC] at gW;refine gO Tryz.func48 ?_;rw [gW];rfl
theorem Tk:aw E 119 [] [.d (.sl []),.fn (.func 50) [] []] (fun a b=>a = .d (.int .i64 (-1))∧b=[]):=by
 refine aw.run af (fn:=Tryz.f119) Tryz.func119 (body:=Tryz.f119.body.getD .skip) rfl (by decide) 2000 rfl ?_;(conv=>whnf);refine I.l4 ?_;refine I.run af Tryz.func119 2000 ?_;(conv=>whnf);refine aW rfl ?_;refine gO Tryz.func119 ?_;exact ⟨rfl,rfl⟩
theorem Tl:aw E 49 [] [.d (.sl []),.fn (.func 50) [] []] (fun a b=>a = .d (.bool false)∧b=[]):=by
 refine aw.run af (fn:=Tryz.f49) Tryz.func49 (body:=Tryz.f49.body.getD .skip) rfl (by decide) 2000 rfl ?_;(conv=>whnf);refine jK Tk ?_;rintro r b ⟨rfl,rfl⟩;refine gO Tryz.func49 ?_;exact ⟨rfl,rfl⟩
theorem J9 (e:fL) (h1:e.before.Fits) (h2:e.before.aI.length≤1000000) (h3:Steps.Fits e.steps) (h4:mZ.Au e.before e.cw) (ht:e.iW=[]∨kI e.before e.cw=false):aq E 20 [e.enc] (· = .bool (kH e.before e.steps&&kI e.before e.cw)):=by
 have c1:=JQ e.before e.steps h1 h2 h3;have c2:=Tj e.before e.cw h4;obtain ⟨⟨aA,aI,anchor,hints,bT,fin⟩,sl,cl,tl⟩:=e;simp only at c1 c2 ht ⊢;show aq E _ [DV.agg [.sl (aA.map Host.enc),.sl (aI.map a7.enc),.str anchor.name,.int .i64 anchor.type,.int .i64 anchor.cD,.sl (anchor.data.map Datum.enc),.sl (hints.map (.int .i64)),.int .i64 bT,.int .i64 fin,.sl (sl.map Step.enc),.sl (cl.map Claim.enc),.sl (tl.map fq.enc)]] _;refine eP Tryz.func20 ?_;repeat' (first | with_reducible refine ao (c1) ?_ | with_reducible refine au (c1) ?_ | with_reducible refine ao (c2) ?_ | with_reducible refine au (c2) ?_ | with_reducible refine cY ?_ | with_reducible refine cN ?_ | with_reducible refine ah (fun _=>?_) (fun _=>?_) | refine gA Tryz.func20 ?_ | refine gB ?_ | with_reducible rfl)
 all_goals try (refine congrArg DV.bool ?_; simp_all; done)
 have:tl=[]:=ht.elim id fun h=>by simp_all
 subst this;refine jK Tl ?_;rintro r b ⟨rfl,rfl⟩;refine gO Tryz.func20 ?_;refine congrArg DV.bool ?_;simp_all
end Go.Proofs.YtfmdaiojokniiaaGreatDoor.P
end
section
namespace Go.Proofs.YtfmdaiojokniiaaGreatDoor.P
open Go Go.ax
set_option maxRecDepth 100000
set_option maxHeartbeats 4000000
theorem Tm (x y:Signed) (h1:x.set.data.length≤2147483648) (h2:x.sigs.length≤2147483648):aq E 112 [x.enc,y.enc] (· = .bool (decide (x=y))):=by
 obtain ⟨⟨a1,a2,a3,a4⟩,a5⟩:=x;obtain ⟨⟨b1,b2,b3,b4⟩,b5⟩:=y;simp only at h1 h2;have c1:=SG a4 b4 h1;have c2:=SH a5 b5 h2;show aq E _ [DV.agg [.str a1,.int .i64 a2,.int .i64 a3,.sl (a4.map Datum.enc),.sl (a5.map da.enc)],DV.agg [.str b1,.int .i64 b2,.int .i64 b3,.sl (b4.map Datum.enc),.sl (b5.map da.enc)]] _;refine eP Tryz.func112 ?_;repeat' (first | with_reducible refine ao (c1) ?_ | with_reducible refine au (c1) ?_ | with_reducible refine ao (c2) ?_ | with_reducible refine au (c2) ?_ | with_reducible refine cY ?_ | with_reducible refine cN ?_ | with_reducible refine ah (fun _=>?_) (fun _=>?_) | refine gA Tryz.func112 ?_ | refine gB ?_ | with_reducible rfl)
 all_goals
  refine congrArg DV.bool ?_;rw [Bool.eq_iff_iff];simp_all
theorem Tn (a b:List Signed) (hl:a.length≤2147483648) (he:∀ s∈a,s.set.data.length≤2147483648∧s.sigs.length≤2147483648):aw E 111 [] [.d (.sl (a.map Signed.enc)),.d (.sl (b.map Signed.enc)),.fn (.func 112) [] []] (fun x y=>x = .d (.bool (decide (a=b)))∧y=[]):=by
 apply aw.lz
 case hk=>rfl
 refine aw.run af (fn:=Tryz.f111) Tryz.func111 (body:=Tryz.f111.body.getD .skip) rfl (by decide) 2000 rfl ?_;(conv=>whnf);refine ah (fun h3=>?_) (fun h3=>?_)
 ·have aJ:a≠b:=by rintro rfl; simp at h3
  rw [decide_eq_false aJ];refine gO Tryz.func111 ?_;exact ⟨rfl,rfl⟩
 have nh:a.length=b.length:=by simp at h3; omega
 refine gO Tryz.func111 ?_;refine I.loop (κ:=Nat) (rg 6 4++rg 17 15) (fun k=>[(17,.d (.int .i64 k))]) (fun _=>[]) (fun k=>k≤a.length∧a.take k=b.take k) (fun k=>a.length - k) 0 ⟨Nat.zero_le _,rfl⟩ ?_ ?_
 ·exact sZ
 intro k hk IH;refine I.head af Tryz.func111 2000 ?_;(conv=>whnf);refine ah (fun h7=>?_) (fun h7=>?_)
 ·have ai:k<a.length:=by simpa using h7
  obtain ⟨u,hu⟩:=aD ai;obtain ⟨w,hw⟩:=aD (l:=b) (k:=k) (by omega);have xP:=he u (List.mem_of_getElem? hu);have c1:=Tm u w xP.1 xP.2;refine gO Tryz.func111 ?_;refine aB (e:=u.enc) (aN hu) rfl ?_;refine gO Tryz.func111 ?_;refine aB (e:=w.enc) (aN hw) rfl ?_;refine gO Tryz.func111 ?_;refine ao (c1) ?_;refine gO Tryz.func111 ?_;by_cases h8:u=w
  ·rw [decide_eq_true h8];refine aQ ?_;refine gO Tryz.func111 ?_;refine I.back (IH (k+1) ⟨by omega,oX hk.2 hu hw h8⟩ (by omega)) ?_;exact sZ
  ·rw [decide_eq_false h8];refine aY ?_;refine gO Tryz.func111 ?_;rw [decide_eq_false (me hu hw h8)];exact ⟨rfl,rfl⟩
 ·have aC:k=a.length:=by simp at h7; omega
  have sA:a=b:=oY hk.2 (by omega) (by omega);refine gO Tryz.func111 ?_;exact ⟨by simp [sA],rfl⟩
theorem To (a b:dP) (hl:a.ab.length≤2147483648) (he:∀ s∈a.ab,s.set.data.length≤2147483648∧s.sigs.length≤2147483648):aq E 44 [a.enc,b.enc] (· = .bool (decide (a=b))):=by
 have c1:=Tn a.ab b.ab hl he;obtain ⟨a1,a2,a3⟩:=a;obtain ⟨b1,b2,b3⟩:=b;simp only at c1;show aq E _ [DV.agg [.int .i64 a1,.sl (a2.map Signed.enc),.str a3],DV.agg [.int .i64 b1,.sl (b2.map Signed.enc),.str b3]] _;refine eP Tryz.func44 ?_;repeat' (first | with_reducible refine cY ?_ | with_reducible refine cN ?_ | with_reducible refine ah (fun _=>?_) (fun _=>?_) | refine gA Tryz.func44 ?_ | refine gB ?_ | with_reducible rfl)
 all_goals try (refine congrArg DV.bool ?_; simp_all; done)
 refine jK c1 ?_;rintro r b ⟨rfl,rfl⟩;refine gO Tryz.func44 ?_;refine congrArg DV.bool ?_;rw [Bool.eq_iff_iff];simp_all
theorem J' (a:dP):aq E 42 [a.enc] (· = .bool (nZ a)):=by
 obtain ⟨a1,a2,a3⟩:=a;show aq E _ [DV.agg [.int .i64 a1,.sl (a2.map Signed.enc),.str a3]] _;unfold nZ;refine eP Tryz.func42 ?_;repeat' (first | with_reducible refine cY ?_ | with_reducible refine cN ?_ | with_reducible refine ah (fun _=>?_) (fun _=>?_) | refine gA Tryz.func42 ?_ | refine gB ?_ | with_reducible rfl)
 all_goals (refine congrArg DV.bool ?_; simp_all)
def n0 (x:dS):Bool:=gg x.q&&(ph x.answer||nZ x.answer)&&decide (0≤x.time)&&decide (x.time≤10000000)&&decide (1≤x.addr)&&decide (x.addr≤1000000)
theorem Tp (x:dS) (hf:x.ea):aq E 41 [x.enc] (· = .bool (n0 x)):=by
 have c1:=fZ x.q.name hf.1;have c2:=J' x.answer;have c3:=SU x.q x.answer hf.1 hf.2;obtain ⟨t,ad,⟨qn,qt⟩,⟨ak,al,ac⟩⟩:=x;unfold Ej gg at c3;unfold n0 gg;simp only at c1 c2 c3 ⊢;show aq E _ [DV.agg [.int .i64 t,.int .i64 ad,.str qn,.int .i64 qt,.int .i64 ak,.sl (al.map Signed.enc),.str ac]] _;refine eP Tryz.func41 ?_;repeat' (first | with_reducible refine ao (c1) ?_ | with_reducible refine au (c1) ?_ | with_reducible refine ao (c2) ?_ | with_reducible refine au (c2) ?_ | with_reducible refine ao (c3) ?_ | with_reducible refine au (c3) ?_ | with_reducible refine cY ?_ | with_reducible refine cN ?_ | with_reducible refine ah (fun _=>?_) (fun _=>?_) | refine gA Tryz.func41 ?_ | refine gB ?_ | with_reducible rfl)
 all_goals (refine congrArg DV.bool ?_; simp_all; try omega)
theorem Tq (l:List Int) (n:Int) (hl:l.length≤maxLen):aq E 23 [.sl (l.map (.int .i64)),.int .i64 n] (· = .bool (decide (n∈l))):=by
 unfold maxLen at hl;refine eP Tryz.func23 ?_;refine I.loop (κ:=Nat) (rg 4 14) (fun k=>[(5,.d (.int .i64 k))]) (fun _=>[]) (fun k=>k≤l.length∧n ∉ l.take k) (fun k=>l.length - k) 0 ⟨Nat.zero_le _,by simp⟩ ?_ ?_
 ·exact sZ
 rintro k ⟨hk,bL⟩ IH;refine I.head af Tryz.func23 2000 ?_;(conv=>whnf);refine ah (fun h5=>?_) (fun h5=>?_)
 ·have ai:k<l.length:=by simpa using h5
  obtain ⟨x,hx⟩:=aD ai;refine gO Tryz.func23 ?_;refine aB (e := .int .i64 x) (aN hx) rfl ?_;refine gO Tryz.func23 ?_;refine ah (fun h8=>?_) (fun h8=>?_)
  ·have:n∈l:=by
    have e:x=n:=by simpa using h8
    exact e ▸ List.mem_of_getElem? hx
   refine gO Tryz.func23 ?_;simp [this]
  ·refine gO Tryz.func23 ?_;refine I.back (IH (k+1) ⟨by omega,by rw [cQ hx]; exact fun hm=>(List.mem_append.1 hm).elim bL fun h=>by simp at h; simp [h] at h8⟩ (by omega)) ?_;exact sZ
 ·have aC:l.length≤k:=by simpa using h5
  rw [List.take_of_length_le aC] at bL;refine gO Tryz.func23 ?_;simp [bL]
end Go.Proofs.YtfmdaiojokniiaaGreatDoor.P
end
