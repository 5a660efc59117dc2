/- Several texts of mine, one behind the other. Conditions: as each says. -/
import Derived.Test.YtfmdaiojokniiaaGreatDoorW31
set_option linter.unusedVariables false
set_option linter.unusedSimpArgs false
section
section
namespace Go.Proofs.YtfmdaiojokniiaaGreatDoor.P
open Go Go.aw
set_option maxRecDepth 100000
set_option maxHeartbeats 4000000
end Go.Proofs.YtfmdaiojokniiaaGreatDoor.P
end
section
namespace Go.Proofs.YtfmdaiojokniiaaGreatDoor.P
open Go Go.aw
set_option maxRecDepth 100000
set_option maxHeartbeats 4000000
def mA (c:aX):Bool:=tR c.ay && !(decide ((c.ay.ai.length:Int)>100))
def xg (h:bN):Bool:=(h.aG.take 21).all mA&&(h.aB.take 71).all jB&&ue h.aG.length h.aB.length h.hints.length h.anchor.data.length
theorem RM (h:bN):au E 11 [h.enc] (· = .bool (xg h)):=by
 obtain ⟨aB,aG,anchor,hints,bM,fin⟩:=h;unfold xg;simp only;show au E _ [DV.agg [.sl (aB.map Host.enc),.sl (aG.map aX.enc),.str anchor.name,.int .i64 anchor.type,.int .i64 anchor.cV,.sl (anchor.data.map Datum.enc),.sl (hints.map (.int .i64)),.int .i64 bM,.int .i64 fin]] _;refine eP Tryz.func11 ?_;refine I.loop (κ:=Nat) ([2,3]++rg 5 30) (fun k=>[(3,.d (.int .i64 k))]) (fun _=>[]) (fun k=>k≤aG.length∧k≤21∧(aG.take k).all mA=true) (fun k=>aG.length - k) 0 ⟨Nat.zero_le _,by omega,rfl⟩ ?_ ?_
 ·exact sZ
 intro k hk IH;refine I.head ag Tryz.func11 2000 ?_;(conv=>whnf);have wo:=hk.2.1;refine aj (fun h5=>?_) (fun h5=>?_)
 ·have ah:k<aG.length:=by simpa using h5
  refine gO Tryz.func11 ?_;refine aj (fun h6=>?_) (fun h6=>?_)
  ·have Pl:k≤20:=by have:=of_decide_eq_true h6; omega
   obtain ⟨x,hx⟩:=aU ah;refine gO Tryz.func11 ?_;refine aT (e:=x.enc) (bu hx) rfl ?_;refine gO Tryz.func11 ?_
   with_reducible refine ar (O2 x.ay) ?_
   refine gO Tryz.func11 ?_;cases hz:tR x.ay
   ·have jN:mA x=false:=by rw [mA,hz]; rfl
    refine aY ?_;refine gO Tryz.func11 ?_;refine aY ?_;refine gO Tryz.func11 ?_;rw [gG (k:=k) (by rw [List.getElem?_take,if_pos (by omega)]; exact hx) jN,Bool.false_and,Bool.false_and]
   ·refine aN ?_;refine gO Tryz.func11 ?_;refine aT (e:=x.enc) (bu hx) rfl ?_;refine gO Tryz.func11 ?_;refine aj (fun h7=>?_) (fun h7=>?_)
    ·have jN:mA x=false:=by rw [mA,hz,h7]; rfl
     refine gO Tryz.func11 ?_;rw [gG (k:=k) (by rw [List.getElem?_take,if_pos (by omega)]; exact hx) jN,Bool.false_and,Bool.false_and]
    ·have jN:mA x=true:=by rw [mA,hz,h7]; rfl
     refine gO Tryz.func11 ?_;refine I.back (IH (k+1) ⟨by omega,by omega,iD hk.2.2 hx jN⟩ (by omega)) ?_;exact sZ
  ·have RN:k=21:=by have:=of_decide_eq_false h6; omega
   have fB:(aG.take 21).all mA=true:=by rw [← RN]; exact hk.2.2
   rw [fB,Bool.true_and];refine gO Tryz.func11 ?_;refine I.loop (κ:=Nat) ([2,4]++rg 35 19) (fun k=>[(4,.d (.int .i64 k))]) (fun _=>[]) (fun k=>k≤aB.length∧k≤71∧(aB.take k).all jB=true) (fun k=>aB.length - k) 0 ⟨Nat.zero_le _,by omega,rfl⟩ ?_ ?_
   ·exact sZ
   intro j hj JH;refine I.head ag Tryz.func11 2000 ?_;(conv=>whnf);have RO:=hj.2.1;refine aj (fun g5=>?_) (fun g5=>?_)
   ·have ah:j<aB.length:=by simpa using g5
    refine gO Tryz.func11 ?_;refine aj (fun g6=>?_) (fun g6=>?_)
    ·have RP:j≤70:=by have:=of_decide_eq_true g6; omega
     obtain ⟨x,hx⟩:=aU ah;refine gO Tryz.func11 ?_;refine aT (e:=x.enc) (bu hx) rfl ?_;refine gO Tryz.func11 ?_;refine aj (fun g7=>?_) (fun g7=>?_)
     ·have hz:jB x=false:=by rw [jB,g7]; rfl
      refine gO Tryz.func11 ?_;rw [gG (k:=j) (by rw [List.getElem?_take,if_pos (by omega)]; exact hx) hz,Bool.false_and]
     ·have hz:jB x=true:=by rw [jB,g7]; rfl
      refine gO Tryz.func11 ?_;refine I.back (JH (j+1) ⟨by omega,by omega,iD hj.2.2 hx hz⟩ (by omega)) ?_;exact sZ
    ·have DJ:j=71:=by have:=of_decide_eq_false g6; omega
     have a7:(aB.take 71).all jB=true:=by rw [← DJ]; exact hj.2.2
     rw [a7];refine gO Tryz.func11 ?_;clear IH JH;repeat' (first | with_reducible refine cY ?_ | with_reducible refine cN ?_ | with_reducible refine aj (fun _=>?_) (fun _=>?_) | refine gA Tryz.func11 ?_ | refine gB ?_ | with_reducible rfl)
     all_goals
      clear a7 fB hk hj;simp_all [ue];try (first | omega | (rw [Bool.eq_iff_iff]; simp; omega))
   ·have aK:aB.length≤j:=by simpa using g5
    have a7:(aB.take 71).all jB=true:=by
     have h1:=pS hj.2.2 aK;rw [List.all_eq_true] at h1 ⊢;exact fun y hy=>h1 y (List.mem_of_mem_take hy)
    rw [a7];refine gO Tryz.func11 ?_;refine aN ?_;refine gO Tryz.func11 ?_;clear IH JH;repeat' (first | with_reducible refine cY ?_ | with_reducible refine cN ?_ | with_reducible refine aj (fun _=>?_) (fun _=>?_) | refine gA Tryz.func11 ?_ | refine gB ?_ | with_reducible rfl)
    all_goals
     clear a7 fB hk hj;simp_all [ue];try (first | omega | (rw [Bool.eq_iff_iff]; simp; omega))
 ·have aK:aG.length≤k:=by simpa using h5
  have fB:(aG.take 21).all mA=true:=by
   have h1:=pS hk.2.2 aK;rw [List.all_eq_true] at h1 ⊢;exact fun y hy=>h1 y (List.mem_of_mem_take hy)
  rw [fB,Bool.true_and];refine gO Tryz.func11 ?_;refine aN ?_;refine gO Tryz.func11 ?_;refine I.loop (κ:=Nat) ([2,4]++rg 35 19) (fun k=>[(4,.d (.int .i64 k))]) (fun _=>[]) (fun k=>k≤aB.length∧k≤71∧(aB.take k).all jB=true) (fun k=>aB.length - k) 0 ⟨Nat.zero_le _,by omega,rfl⟩ ?_ ?_
  ·exact sZ
  intro j hj JH;refine I.head ag Tryz.func11 2000 ?_;(conv=>whnf);have RO:=hj.2.1;refine aj (fun g5=>?_) (fun g5=>?_)
  ·have ah:j<aB.length:=by simpa using g5
   refine gO Tryz.func11 ?_;refine aj (fun g6=>?_) (fun g6=>?_)
   ·have RP:j≤70:=by have:=of_decide_eq_true g6; omega
    obtain ⟨x,hx⟩:=aU ah;refine gO Tryz.func11 ?_;refine aT (e:=x.enc) (bu hx) rfl ?_;refine gO Tryz.func11 ?_;refine aj (fun g7=>?_) (fun g7=>?_)
    ·have hz:jB x=false:=by rw [jB,g7]; rfl
     refine gO Tryz.func11 ?_;rw [gG (k:=j) (by rw [List.getElem?_take,if_pos (by omega)]; exact hx) hz,Bool.false_and]
    ·have hz:jB x=true:=by rw [jB,g7]; rfl
     refine gO Tryz.func11 ?_;refine I.back (JH (j+1) ⟨by omega,by omega,iD hj.2.2 hx hz⟩ (by omega)) ?_;exact sZ
   ·have DJ:j=71:=by have:=of_decide_eq_false g6; omega
    have a7:(aB.take 71).all jB=true:=by rw [← DJ]; exact hj.2.2
    rw [a7];refine gO Tryz.func11 ?_;clear IH JH;repeat' (first | with_reducible refine cY ?_ | with_reducible refine cN ?_ | with_reducible refine aj (fun _=>?_) (fun _=>?_) | refine gA Tryz.func11 ?_ | refine gB ?_ | with_reducible rfl)
    all_goals
     clear a7 fB hk hj;simp_all [ue];try (first | omega | (rw [Bool.eq_iff_iff]; simp; omega))
  ·have aK:aB.length≤j:=by simpa using g5
   have a7:(aB.take 71).all jB=true:=by
    have h1:=pS hj.2.2 aK;rw [List.all_eq_true] at h1 ⊢;exact fun y hy=>h1 y (List.mem_of_mem_take hy)
   rw [a7];refine gO Tryz.func11 ?_;refine aN ?_;refine gO Tryz.func11 ?_;clear IH JH;repeat' (first | with_reducible refine cY ?_ | with_reducible refine cN ?_ | with_reducible refine aj (fun _=>?_) (fun _=>?_) | refine gA Tryz.func11 ?_ | refine gB ?_ | with_reducible rfl)
   all_goals
    clear a7 fB hk hj;simp_all [ue];try (first | omega | (rw [Bool.eq_iff_iff]; simp; omega))
end Go.Proofs.YtfmdaiojokniiaaGreatDoor.P
end
end
section
namespace Go.Proofs.YtfmdaiojokniiaaGreatDoor.P
open Go Go.aw
set_option maxRecDepth 100000
set_option maxHeartbeats 4000000
abbrev mB:=Int × Int × Text
@[reducible] def mB.en (p : mB) : DV := .agg [.int .i64 p.1, .int .i64 p.2.1, .str p.2.2]
theorem Jf (a b:mB):dR (mB.en a) (mB.en b)=decide (a=b):=by
 show ((a.1==b.1)&&((a.2.1==b.2.1)&&((a.2.2==b.2.2)&&true)))=_;rw [Bool.eq_iff_iff];simp [Prod.ext_iff]
theorem Jg {es:List (DV × DV)} (h:kR mB.en es):∀ p∈es,cS E.T (TK.struct [(0,3),(1,3),(2,9)]) p.1:=fun p hp=>by
 obtain ⟨a,e⟩:=h p hp;rw [e];exact ⟨_,rfl,rfl,⟨_,rfl,_,rfl⟩,rfl,⟨_,rfl,_,rfl⟩,rfl,⟨_,rfl,_,rfl⟩,trivial⟩
def Claim.key (c:Claim):mB:=(c.host,c.time,c.ay.ai)
def xi (n:Nat) (fin t:Int) (S:List mB) (c:Claim):Bool:=nI n ⟨c.host,c.ay⟩&&decide (t≤c.time)&&decide (c.time<fin)&&decide (c.key ∉ S)
def qf (n:Nat) (fin:Int):Int→List mB→List Claim→Bool
 |_,_,[]=>true
 |t,S,c::l=>xi n fin t S c&&qf n fin c.time (S++[c.key]) l
def uj (h:bN) (l:List Claim):Bool:=decide (l.length≤4000)&&qf h.aB.length h.fin 0 [] l
def iJ (l:List Claim) (k:Nat):Int:=match cJ l k with
 |none=>0
 |some q=>q.time
theorem RQ {n:Nat} {fin:Int} {l:List Claim} {k:Nat} {x:Claim} (hx:l[k]? = some x):qf n fin (iJ l k) ((l.take k).map Claim.key) (l.drop k)=(xi n fin (iJ l k) ((l.take k).map Claim.key) x&&qf n fin (iJ l (k+1)) ((l.take (k+1)).map Claim.key) (l.drop (k+1))):=by
 obtain ⟨hk,e⟩:=List.getElem?_eq_some_iff.1 hx;have e2:iJ l (k+1)=x.time:=by simp [iJ,cJ,hx]
 rw [List.drop_eq_getElem_cons hk,e,qf,dm hx,List.map_append,e2];rfl
def oV.Fits (l:List Claim):Prop:=l.length≤maxLen∧∀ c∈l,c.ay.Fits
theorem RR (z:aF) (hf:z.Fits):au E 118 [z.enc] (· = .bool (jC z)):=by
 have c1:=fQ z.ai hf.ai;have e2:z.ae.isEmpty=(((z.ae.map Signed.enc).length:Int)==0):=by
  rw [Bool.eq_iff_iff];simp [List.isEmpty_iff]
 unfold jC;rw [e2];cases h1:Nm.valid z.ai
 ·rw [h1] at c1;refine eP Tryz.func118 ?_;repeat' (first | with_reducible refine ar (c1) ?_ | with_reducible refine aR (c1) ?_ | with_reducible refine cY ?_ | with_reducible refine cN ?_ | with_reducible refine aj (fun _=>?_) (fun _=>?_) | refine gA Tryz.func118 ?_ | refine gB ?_ | with_reducible rfl)
  all_goals simp_all
 rw [h1] at c1;rw [HQ h1];have h2:=Nm.Hh _ h1;obtain ⟨ai,l⟩:=z;simp only at c1 h2 ⊢;cases ai with
 |nil=>simp at h2
 |cons c r =>
  show au E _ [DV.agg [.str (c::r),.sl (l.map Signed.enc)]] _;have e:((c.toNat:Int) != 42) = !(c==42):=by
   rw [Bool.eq_iff_iff];simp only [bne_iff_ne,ne_eq,Bool.not_eq_true',beq_eq_false_iff_ne];exact not_congr ⟨fun h=>UInt8.toNat_inj.1 (Int.ofNat.inj h),fun h=>h ▸ rfl⟩
  refine eP Tryz.func118 ?_;repeat' (first | with_reducible refine ar (c1) ?_ | with_reducible refine aR (c1) ?_ | with_reducible refine cY ?_ | with_reducible refine cN ?_ | with_reducible refine aj (fun _=>?_) (fun _=>?_) | refine gA Tryz.func118 ?_ | refine gB ?_ | with_reducible rfl)
  all_goals try (simp_all; done)
  refine l8 c (by decide) rfl ?_;refine gO Tryz.func118 ?_;rw [e];refine congrArg DV.bool ?_;simp_all [Nm.iW]
end Go.Proofs.YtfmdaiojokniiaaGreatDoor.P
end
