/- Several texts of mine, one behind the other. Conditions: as each says. -/
import Derived.Test.YtfmdaiojokniiaaGreatDoorY28
import Derived.Test.YtfmdaiojokniiaaGreatDoorY30
set_option linter.unusedVariables false
set_option linter.unusedSimpArgs false
section
section
namespace Go.Proofs.YtfmdaiojokniiaaGreatDoor.P
open Go Go.ax
set_option maxRecDepth 100000
set_option maxHeartbeats 4000000
def pn (s:jv):Bool:=decide (s.di.length≤20)&&s.di.all fun p=>jU p.az
theorem S7 (s:jv):aq E 94 [s.enc] (· = .bool (pn s)):=by
 obtain ⟨l⟩:=s;unfold pn;simp only;show aq E _ [DV.agg [.sl (l.map bz.enc)]] _;refine eP Tryz.func94 ?_;refine I.loop (κ:=Nat) (rg 2 21) (fun k=>[(3,.d (.int .i64 k))]) (fun _=>[]) (fun k=>k≤l.length∧k≤20∧(l.take k).all (fun p=>jU p.az)=true) (fun k=>l.length - k) 0 ⟨Nat.zero_le _,by omega,rfl⟩ ?_ ?_
 ·exact sZ
 intro k hk IH;refine I.head af Tryz.func94 2000 ?_;(conv=>whnf);refine ah (fun h5=>?_) (fun h5=>?_)
 ·have ai:k<l.length:=by simpa using h5
  refine gO Tryz.func94 ?_;refine ah (fun h6=>?_) (fun h6=>?_)
  ·have ux:k<20:=by have:=of_decide_eq_true h6; omega
   obtain ⟨x,hx⟩:=aD ai;refine gO Tryz.func94 ?_;refine aB (e:=x.enc) (aN hx) rfl ?_;refine gO Tryz.func94 ?_
   with_reducible refine ao (Di x.az) ?_
   refine gO Tryz.func94 ?_;cases hz:jU x.az
   ·refine aY ?_;refine gO Tryz.func94 ?_;rw [cX (p:=fun p=>jU p.az) hx hz,Bool.and_false]
   ·refine aQ ?_;refine gO Tryz.func94 ?_;refine I.back (IH (k+1) ⟨by omega,by omega,dh (p:=fun p=>jU p.az) hk.2.2 hx hz⟩ (by omega)) ?_;exact sZ
  ·have ux:¬ k<20:=by have:=of_decide_eq_false h6; omega
   have fp:=hk.2.1;have hle:¬ l.length≤20:=by omega
   refine gO Tryz.func94 ?_;rw [decide_eq_false hle,Bool.false_and];simp;omega
 ·have aC:l.length≤k:=by simpa using h5
  have fp:=hk.2.1;have hle:l.length≤20:=by omega
  rw [jS (p:=fun p=>jU p.az) hk.2.2 aC,decide_eq_true hle];refine gO Tryz.func94 ?_;refine aQ ?_;refine gO Tryz.func94 ?_;have:decide (((l.map bz.enc).length:Int)≤20)=true:=by simp; omega
  rw [this];rfl
def xL (l:List Step):Bool:=decide (l.length≤20)&&l.all fun s=>pn s.cR
theorem S8 (l:List Step):aq E 36 [.sl (l.map Step.enc)] (· = .bool (xL l)):=by
 unfold xL;refine eP Tryz.func36 ?_;refine I.loop (κ:=Nat) (rg 2 19) (fun k=>[(3,.d (.int .i64 k))]) (fun _=>[]) (fun k=>k≤l.length∧k≤20∧(l.take k).all (fun p=>pn p.cR)=true) (fun k=>l.length - k) 0 ⟨Nat.zero_le _,by omega,rfl⟩ ?_ ?_
 ·exact sZ
 intro k hk IH;refine I.head af Tryz.func36 2000 ?_;(conv=>whnf);refine ah (fun h5=>?_) (fun h5=>?_)
 ·have ai:k<l.length:=by simpa using h5
  refine gO Tryz.func36 ?_;refine ah (fun h6=>?_) (fun h6=>?_)
  ·have ux:k<20:=by have:=of_decide_eq_true h6; omega
   obtain ⟨x,hx⟩:=aD ai;refine gO Tryz.func36 ?_;refine aB (e:=x.enc) (aN hx) rfl ?_;refine gO Tryz.func36 ?_
   with_reducible refine ao (S7 x.cR) ?_
   refine gO Tryz.func36 ?_;cases hz:pn x.cR
   ·refine aY ?_;refine gO Tryz.func36 ?_;rw [cX (p:=fun p=>pn p.cR) hx hz,Bool.and_false]
   ·refine aQ ?_;refine gO Tryz.func36 ?_;refine I.back (IH (k+1) ⟨by omega,by omega,dh (p:=fun p=>pn p.cR) hk.2.2 hx hz⟩ (by omega)) ?_;exact sZ
  ·have ux:¬ k<20:=by have:=of_decide_eq_false h6; omega
   have fp:=hk.2.1;have hle:¬ l.length≤20:=by omega
   refine gO Tryz.func36 ?_;rw [decide_eq_false hle,Bool.false_and];simp;omega
 ·have aC:l.length≤k:=by simpa using h5
  have fp:=hk.2.1;have hle:l.length≤20:=by omega
  rw [jS (p:=fun p=>pn p.cR) hk.2.2 aC,decide_eq_true hle];refine gO Tryz.func36 ?_;refine aQ ?_;refine gO Tryz.func36 ?_;have:decide (((l.map Step.enc).length:Int)≤20)=true:=by simp; omega
  rw [this];rfl
end Go.Proofs.YtfmdaiojokniiaaGreatDoor.P
end
section
namespace Go.Proofs.YtfmdaiojokniiaaGreatDoor.P
open Go Go.ax
set_option maxRecDepth 100000
set_option maxHeartbeats 4000000
def mY (c:a7):Bool:=jU c.az && !(decide ((c.az.aj.length:Int)>100))
def xM (h:ca):Bool:=(h.aI.take 21).all mY&&(h.aA.take 71).all jX&&uJ h.aI.length h.aA.length h.hints.length h.anchor.data.length
theorem S9 (h:ca):aq E 11 [h.enc] (· = .bool (xM h)):=by
 obtain ⟨aA,aI,anchor,hints,bT,fin⟩:=h;unfold xM;simp only;show aq E _ [DV.agg [.sl (aA.map Host.enc),.sl (aI.map a7.enc),.str anchor.name,.int .i64 anchor.type,.int .i64 anchor.cD,.sl (anchor.data.map Datum.enc),.sl (hints.map (.int .i64)),.int .i64 bT,.int .i64 fin]] _;refine eP Tryz.func11 ?_;refine I.loop (κ:=Nat) ([2,3]++rg 5 30) (fun k=>[(3,.d (.int .i64 k))]) (fun _=>[]) (fun k=>k≤aI.length∧k≤21∧(aI.take k).all mY=true) (fun k=>aI.length - k) 0 ⟨Nat.zero_le _,by omega,rfl⟩ ?_ ?_
 ·exact sZ
 intro k hk IH;refine I.head af Tryz.func11 2000 ?_;(conv=>whnf);have fp:=hk.2.1;refine ah (fun h5=>?_) (fun h5=>?_)
 ·have ai:k<aI.length:=by simpa using h5
  refine gO Tryz.func11 ?_;refine ah (fun h6=>?_) (fun h6=>?_)
  ·have ux:k≤20:=by have:=of_decide_eq_true h6; omega
   obtain ⟨x,hx⟩:=aD ai;refine gO Tryz.func11 ?_;refine aB (e:=x.enc) (aN hx) rfl ?_;refine gO Tryz.func11 ?_
   with_reducible refine ao (Di x.az) ?_
   refine gO Tryz.func11 ?_;cases hz:jU x.az
   ·have hX:mY x=false:=by rw [mY,hz]; rfl
    refine aY ?_;refine gO Tryz.func11 ?_;refine aY ?_;refine gO Tryz.func11 ?_;rw [cX (k:=k) (by rw [List.getElem?_take,if_pos (by omega)]; exact hx) hX,Bool.false_and,Bool.false_and]
   ·refine aQ ?_;refine gO Tryz.func11 ?_;refine aB (e:=x.enc) (aN hx) rfl ?_;refine gO Tryz.func11 ?_;refine ah (fun h7=>?_) (fun h7=>?_)
    ·have hX:mY x=false:=by rw [mY,hz,h7]; rfl
     refine gO Tryz.func11 ?_;rw [cX (k:=k) (by rw [List.getElem?_take,if_pos (by omega)]; exact hx) hX,Bool.false_and,Bool.false_and]
    ·have hX:mY x=true:=by rw [mY,hz,h7]; rfl
     refine gO Tryz.func11 ?_;refine I.back (IH (k+1) ⟨by omega,by omega,dh hk.2.2 hx hX⟩ (by omega)) ?_;exact sZ
  ·have S':k=21:=by have:=of_decide_eq_false h6; omega
   have gK:(aI.take 21).all mY=true:=by rw [← S']; exact hk.2.2
   rw [gK,Bool.true_and];refine gO Tryz.func11 ?_;refine I.loop (κ:=Nat) ([2,4]++rg 35 19) (fun k=>[(4,.d (.int .i64 k))]) (fun _=>[]) (fun k=>k≤aA.length∧k≤71∧(aA.take k).all jX=true) (fun k=>aA.length - k) 0 ⟨Nat.zero_le _,by omega,rfl⟩ ?_ ?_
   ·exact sZ
   intro j hj JH;refine I.head af Tryz.func11 2000 ?_;(conv=>whnf);have xN:=hj.2.1;refine ah (fun g5=>?_) (fun g5=>?_)
   ·have ai:j<aA.length:=by simpa using g5
    refine gO Tryz.func11 ?_;refine ah (fun g6=>?_) (fun g6=>?_)
    ·have Ta:j≤70:=by have:=of_decide_eq_true g6; omega
     obtain ⟨x,hx⟩:=aD ai;refine gO Tryz.func11 ?_;refine aB (e:=x.enc) (aN hx) rfl ?_;refine gO Tryz.func11 ?_;refine ah (fun g7=>?_) (fun g7=>?_)
     ·have hz:jX x=false:=by rw [jX,g7]; rfl
      refine gO Tryz.func11 ?_;rw [cX (k:=j) (by rw [List.getElem?_take,if_pos (by omega)]; exact hx) hz,Bool.false_and]
     ·have hz:jX x=true:=by rw [jX,g7]; rfl
      refine gO Tryz.func11 ?_;refine I.back (JH (j+1) ⟨by omega,by omega,dh hj.2.2 hx hz⟩ (by omega)) ?_;exact sZ
    ·have Ep:j=71:=by have:=of_decide_eq_false g6; omega
     have aH:(aA.take 71).all jX=true:=by rw [← Ep]; exact hj.2.2
     rw [aH];refine gO Tryz.func11 ?_;clear IH JH;repeat' (first | with_reducible refine cY ?_ | with_reducible refine cN ?_ | with_reducible refine ah (fun _=>?_) (fun _=>?_) | refine gA Tryz.func11 ?_ | refine gB ?_ | with_reducible rfl)
     all_goals
      clear aH gK hk hj;simp_all [uJ];try (first | omega | (rw [Bool.eq_iff_iff]; simp; omega))
   ·have aC:aA.length≤j:=by simpa using g5
    have aH:(aA.take 71).all jX=true:=by
     have h1:=jS hj.2.2 aC;rw [List.all_eq_true] at h1 ⊢;exact fun y hy=>h1 y (List.mem_of_mem_take hy)
    rw [aH];refine gO Tryz.func11 ?_;refine aQ ?_;refine gO Tryz.func11 ?_;clear IH JH;repeat' (first | with_reducible refine cY ?_ | with_reducible refine cN ?_ | with_reducible refine ah (fun _=>?_) (fun _=>?_) | refine gA Tryz.func11 ?_ | refine gB ?_ | with_reducible rfl)
    all_goals
     clear aH gK hk hj;simp_all [uJ];try (first | omega | (rw [Bool.eq_iff_iff]; simp; omega))
 ·have aC:aI.length≤k:=by simpa using h5
  have gK:(aI.take 21).all mY=true:=by
   have h1:=jS hk.2.2 aC;rw [List.all_eq_true] at h1 ⊢;exact fun y hy=>h1 y (List.mem_of_mem_take hy)
  rw [gK,Bool.true_and];refine gO Tryz.func11 ?_;refine aQ ?_;refine gO Tryz.func11 ?_;refine I.loop (κ:=Nat) ([2,4]++rg 35 19) (fun k=>[(4,.d (.int .i64 k))]) (fun _=>[]) (fun k=>k≤aA.length∧k≤71∧(aA.take k).all jX=true) (fun k=>aA.length - k) 0 ⟨Nat.zero_le _,by omega,rfl⟩ ?_ ?_
  ·exact sZ
  intro j hj JH;refine I.head af Tryz.func11 2000 ?_;(conv=>whnf);have xN:=hj.2.1;refine ah (fun g5=>?_) (fun g5=>?_)
  ·have ai:j<aA.length:=by simpa using g5
   refine gO Tryz.func11 ?_;refine ah (fun g6=>?_) (fun g6=>?_)
   ·have Ta:j≤70:=by have:=of_decide_eq_true g6; omega
    obtain ⟨x,hx⟩:=aD ai;refine gO Tryz.func11 ?_;refine aB (e:=x.enc) (aN hx) rfl ?_;refine gO Tryz.func11 ?_;refine ah (fun g7=>?_) (fun g7=>?_)
    ·have hz:jX x=false:=by rw [jX,g7]; rfl
     refine gO Tryz.func11 ?_;rw [cX (k:=j) (by rw [List.getElem?_take,if_pos (by omega)]; exact hx) hz,Bool.false_and]
    ·have hz:jX x=true:=by rw [jX,g7]; rfl
     refine gO Tryz.func11 ?_;refine I.back (JH (j+1) ⟨by omega,by omega,dh hj.2.2 hx hz⟩ (by omega)) ?_;exact sZ
   ·have Ep:j=71:=by have:=of_decide_eq_false g6; omega
    have aH:(aA.take 71).all jX=true:=by rw [← Ep]; exact hj.2.2
    rw [aH];refine gO Tryz.func11 ?_;clear IH JH;repeat' (first | with_reducible refine cY ?_ | with_reducible refine cN ?_ | with_reducible refine ah (fun _=>?_) (fun _=>?_) | refine gA Tryz.func11 ?_ | refine gB ?_ | with_reducible rfl)
    all_goals
     clear aH gK hk hj;simp_all [uJ];try (first | omega | (rw [Bool.eq_iff_iff]; simp; omega))
  ·have aC:aA.length≤j:=by simpa using g5
   have aH:(aA.take 71).all jX=true:=by
    have h1:=jS hj.2.2 aC;rw [List.all_eq_true] at h1 ⊢;exact fun y hy=>h1 y (List.mem_of_mem_take hy)
   rw [aH];refine gO Tryz.func11 ?_;refine aQ ?_;refine gO Tryz.func11 ?_;clear IH JH;repeat' (first | with_reducible refine cY ?_ | with_reducible refine cN ?_ | with_reducible refine ah (fun _=>?_) (fun _=>?_) | refine gA Tryz.func11 ?_ | refine gB ?_ | with_reducible rfl)
   all_goals
    clear aH gK hk hj;simp_all [uJ];try (first | omega | (rw [Bool.eq_iff_iff]; simp; omega))
end Go.Proofs.YtfmdaiojokniiaaGreatDoor.P
end
end
section
namespace Go.Proofs.YtfmdaiojokniiaaGreatDoor.P
open Go Go.ax
set_option maxRecDepth 100000
set_option maxHeartbeats 4000000
abbrev ly:=Int × Int × Text
@[reducible] def ly.en (p : ly) : DV := .agg [.int .i64 p.1, .int .i64 p.2.1, .str p.2.2]
theorem J4 (a b:ly):dY (ly.en a) (ly.en b)=decide (a=b):=by
 show ((a.1==b.1)&&((a.2.1==b.2.1)&&((a.2.2==b.2.2)&&true)))=_;rw [Bool.eq_iff_iff];simp [Prod.ext_iff]
theorem J5 {es:List (DV × DV)} (h:lr ly.en es):∀ p∈es,cW E.T (TK.struct [(0,3),(1,3),(2,9)]) p.1:=fun p hp=>by
 obtain ⟨a,e⟩:=h p hp;rw [e];exact ⟨_,rfl,rfl,⟨_,rfl,_,rfl⟩,rfl,⟨_,rfl,_,rfl⟩,rfl,⟨_,rfl,_,rfl⟩,trivial⟩
def Claim.key (c:Claim):ly:=(c.host,c.time,c.az.aj)
def mr (n:Nat) (fin t:Int) (S:List ly) (c:Claim):Bool:=gU n ⟨c.host,c.az⟩&&decide (t≤c.time)&&decide (c.time<fin)&&decide (c.key ∉ S)
def iu (n:Nat) (fin:Int):Int→List ly→List Claim→Bool
 |_,_,[]=>true
 |t,S,c::l=>mr n fin t S c&&iu n fin c.time (S++[c.key]) l
def kI (h:ca) (l:List Claim):Bool:=decide (l.length≤4000)&&iu h.aA.length h.fin 0 [] l
def dU (l:List Claim) (k:Nat):Int:=match bK l k with
 |none=>0
 |some q=>q.time
theorem J6 {n:Nat} {fin:Int} {l:List Claim} {k:Nat} {x:Claim} (hx:l[k]? = some x):iu n fin (dU l k) ((l.take k).map Claim.key) (l.drop k)=(mr n fin (dU l k) ((l.take k).map Claim.key) x&&iu n fin (dU l (k+1)) ((l.take (k+1)).map Claim.key) (l.drop (k+1))):=by
 obtain ⟨hk,e⟩:=List.getElem?_eq_some_iff.1 hx;have e2:dU l (k+1)=x.time:=by simp [dU,bK,hx]
 rw [List.drop_eq_getElem_cons hk,e,iu,cQ hx,List.map_append,e2];rfl
def mZ.Fits (l:List Claim):Prop:=l.length≤maxLen∧∀ c∈l,c.az.Fits
theorem Tb (z:aR) (hf:z.Fits):aq E 118 [z.enc] (· = .bool (jz z)):=by
 have c1:=fZ z.aj hf.aj;have e2:z.ab.isEmpty=(((z.ab.map Signed.enc).length:Int)==0):=by
  rw [Bool.eq_iff_iff];simp [List.isEmpty_iff]
 unfold jz;rw [e2];cases h1:Nm.valid z.aj
 ·rw [h1] at c1;refine eP Tryz.func118 ?_;repeat' (first | with_reducible refine ao (c1) ?_ | with_reducible refine au (c1) ?_ | with_reducible refine cY ?_ | with_reducible refine cN ?_ | with_reducible refine ah (fun _=>?_) (fun _=>?_) | refine gA Tryz.func118 ?_ | refine gB ?_ | with_reducible rfl)
  all_goals simp_all
 rw [h1] at c1;rw [Dz h1];have h2:=Nm.HH _ h1;obtain ⟨aj,l⟩:=z;simp only at c1 h2 ⊢;cases aj with
 |nil=>simp at h2
 |cons c r =>
  show aq E _ [DV.agg [.str (c::r),.sl (l.map Signed.enc)]] _;have e:((c.toNat:Int) != 42) = !(c==42):=by
   rw [Bool.eq_iff_iff];simp only [bne_iff_ne,ne_eq,Bool.not_eq_true',beq_eq_false_iff_ne];exact not_congr ⟨fun h=>UInt8.toNat_inj.1 (Int.ofNat.inj h),fun h=>h ▸ rfl⟩
  refine eP Tryz.func118 ?_;repeat' (first | with_reducible refine ao (c1) ?_ | with_reducible refine au (c1) ?_ | with_reducible refine cY ?_ | with_reducible refine cN ?_ | with_reducible refine ah (fun _=>?_) (fun _=>?_) | refine gA Tryz.func118 ?_ | refine gB ?_ | with_reducible rfl)
  all_goals try (simp_all; done)
  refine jl c (by decide) rfl ?_;refine gO Tryz.func118 ?_;rw [e];refine congrArg DV.bool ?_;simp_all [Nm.fX]
theorem Tc (h:ca) (l:List Claim) (hf:mZ.Fits l):aq E 54 [h.enc,.sl (l.map Claim.enc)] (· = .bool (kI h l)):=by
 obtain ⟨aA,aI,anchor,hints,bT,fin⟩:=h;obtain ⟨hl,hz⟩:=hf;unfold maxLen at hl;unfold kI;simp only;show aq E _ [DV.agg [.sl (aA.map Host.enc),.sl (aI.map a7.enc),.str anchor.name,.int .i64 anchor.type,.int .i64 anchor.cD,.sl (anchor.data.map Datum.enc),.sl (hints.map (.int .i64)),.int .i64 bT,.int .i64 fin],_] _;refine eP Tryz.func54 ?_;refine I.loop (κ:=Nat) (rg 4 90) (fun k=>[(5,.d (.int .i64 k))]) (fun _=>[]) (fun k=>k≤l.length∧iu aA.length fin 0 [] l=iu aA.length fin (dU l k) ((l.take k).map Claim.key) (l.drop k)∧0≤dU l k) (fun k=>l.length - k) 0 ⟨Nat.zero_le _,rfl,Int.le_refl 0⟩ ?_ ?_
 ·exact sZ
 rintro i ⟨hi,gW,cA⟩ IH;refine I.head af Tryz.func54 2000 ?_;(conv=>whnf);refine ah (fun h5=>?_) (fun h5=>?_)
 ·have ai:i<l.length:=by simpa using h5
  obtain ⟨x,hx⟩:=aD ai;have eE:=hz x (List.mem_of_getElem? hx);rw [J6 hx] at gW;have aX:aq E 130 [.int .i64 ((aA.map Host.enc).length:Nat),.agg [.sl [.agg [.int .i64 x.host,.str x.az.aj,.sl (x.az.ab.map Signed.enc)]]]] (· = .bool (gU aA.length ⟨x.host,x.az⟩)):=by
   have:=JR ⟨[⟨x.host,x.az⟩]⟩ (aA.map Host.enc).length ⟨fun p hp=>by simp at hp; subst hp; exact eE,by simp⟩
   rwa [show gV (aA.map Host.enc).length ⟨[⟨x.host,x.az⟩]⟩=gU aA.length ⟨x.host,x.az⟩ by simp [gV]] at this
  refine gO Tryz.func54 ?_;refine aB (e:=x.enc) (aN hx) rfl ?_;refine gO Tryz.func54 ?_;have Al:∀ b r,iu aA.length fin 0 [] l=(b&&r)→b=false→DV.bool false=DV.bool (decide (l.length≤4000)&&iu aA.length fin 0 [] l):=fun b r h1 h2=>by rw [h1,h2]; simp
  obtain ⟨q,hq⟩:∃ q,0<i→l[i - 1]? = some q∧dU l i=q.time:=by
   by_cases h0:0<i
   ·obtain ⟨q,h1,h2⟩:=qh h0 hi;exact ⟨q,fun _=>⟨h1,by rw [dU,h2]⟩⟩
   ·exact ⟨x,fun h=>absurd h h0⟩
  have Td:¬ 0<i→dU l i=0:=fun h=>by rw [show i=0 by omega]; rfl
  have bad:=fun h=>Al _ _ gW h;have pos:decide ((i:Int)>0)=true→0<i:=fun h=>by simpa using h
  have Te:decide ((i:Int)>0)=true→oO (l.map Claim.enc) (IntKind.i64.wrap ((i:Int) - 1)) q.enc:=fun h=>by
   have h0:=pos h;rw [wrap64 (by omega) (by omega),show (i:Int) - 1=((i - 1:Nat):Int) by omega];exact aN (hq h0).1
  have ma:decide ((i:Int)>0)=true→dU l i=q.time:=fun h=>(hq (pos h)).2;have IW:decide ((i:Int)>0)=false→dU l i=0:=fun h=>Td (by simpa using h);have uP:mr aA.length fin (dU l i) ((l.take i).map Claim.key) x=(gU aA.length ⟨x.host,x.az⟩&&decide (dU l i≤x.time)&&decide (x.time<fin)&&decide (x.key ∉ (l.take i).map Claim.key)):=rfl;refine I.bH af bI 2000 (by kernel_rfl) ?_;(conv=>whnf);repeat' (first | with_reducible refine ao (aX) ?_ | with_reducible refine au (aX) ?_ | with_reducible refine aB (Te (by assumption)) rfl ?_ | with_reducible refine cY ?_ | with_reducible refine cN ?_ | with_reducible refine ah (fun _=>?_) (fun _=>?_) | refine gA Tryz.func54 ?_ | refine gB ?_ | with_reducible rfl)
  all_goals try (exact bad (by rw [uP]; simp_all; try omega))
  all_goals
   have hk:mr aA.length fin (dU l i) ((l.take i).map Claim.key) x=decide (x.key ∉ (l.take i).map Claim.key):=by
    rw [uP];have:gU aA.length ⟨x.host,x.az⟩=true∧dU l i≤x.time∧x.time<fin:=by refine ⟨?_,?_,?_⟩ <;> simp_all <;> omega
    simp [this.1,this.2.1,this.2.2]
   have ht:0≤x.time:=by simp_all
   refine gO Tryz.func54 ?_;refine I.loop (κ:=Nat) ([4,8]++rg 59 35) (fun j=>[(8,.d (.int .i64 j))]) (fun _=>[]) (fun j=>j≤i∧∀ m y,m<j→l[m]? = some y→y.key≠x.key) (fun j=>i - j) 0 ⟨Nat.zero_le _,fun m y h=>by omega⟩ ?_ ?_
   ·exact sZ
   rintro j ⟨hj,bL⟩ JH;refine I.head af Tryz.func54 2000 ?_;(conv=>whnf);refine ah (fun h8=>?_) (fun h8=>?_)
   ·have jI:j<i:=by simpa using h8
    obtain ⟨y,hy⟩:=aD (l:=l) (k:=j) (by omega);have J7:y.key=x.key↔y.host=x.host∧y.time=x.time∧y.az.aj=x.az.aj:=by simp [Claim.key]
    have Tf:y.key=x.key→mr aA.length fin (dU l i) ((l.take i).map Claim.key) x=false:=fun e=>by
     rw [hk,decide_eq_false_iff_not,Classical.not_not,← e];exact List.mem_map.2 ⟨y,List.mem_of_getElem? (by rw [List.getElem?_take,if_pos jI]; exact hy),rfl⟩
    refine gO Tryz.func54 ?_;refine I.bH af bI 2000 (by kernel_rfl) ?_;(conv=>whnf);repeat' (first | with_reducible refine aB (aN hy) rfl ?_ | with_reducible refine cY ?_ | with_reducible refine cN ?_ | with_reducible refine ah (fun _=>?_) (fun _=>?_) | refine gA Tryz.func54 ?_ | refine gB ?_ | with_reducible rfl)
    all_goals try (exact bad (Tf (J7.2 ⟨by simp_all,by simp_all,by simp_all⟩)))
    all_goals
     have aJ:y.key≠x.key:=fun e=>by
      have:=J7.1 e;simp_all
     refine gO Tryz.func54 ?_;refine I.back (JH (j+1) ⟨by omega,fun m z hm hz=>(Nat.lt_succ_iff_lt_or_eq.1 hm).elim (bL m z · hz) (fun e=>by subst e; rw [hy] at hz; cases hz; exact aJ)⟩ (by omega)) ?_;exact sZ
   ·have aC:j=i:=by simp at h8; omega
    subst aC;have aM:mr aA.length fin (dU l j) ((l.take j).map Claim.key) x=true:=by
     rw [hk,decide_eq_true_eq];intro hm;obtain ⟨y,hy,e⟩:=List.mem_map.1 hm;obtain ⟨m,hm⟩:=List.getElem?_of_mem hy;have Tg:=aT hm;rw [List.length_take] at Tg;rw [List.getElem?_take,if_pos (by omega)] at hm;exact bL m y (by omega) hm e
    refine gO Tryz.func54 ?_;refine I.back (IH (j+1) ⟨by omega,by rw [gW,aM]; rfl,by simp [dU,bK,hx,ht]⟩ (by omega)) ?_;exact sZ
 ·have aC:l.length≤i:=by simpa using h5
  rw [List.drop_eq_nil_of_le aC] at gW;refine gO Tryz.func54 ?_;rw [gW];simp [iu];try omega
end Go.Proofs.YtfmdaiojokniiaaGreatDoor.P
end
