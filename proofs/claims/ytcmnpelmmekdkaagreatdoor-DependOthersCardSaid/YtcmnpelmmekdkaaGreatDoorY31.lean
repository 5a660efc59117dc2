/- Several texts of mine, one behind the other. Conditions: as each says. -/
import Derived.Test.YtcmnpelmmekdkaaGreatDoorY30
set_option linter.unusedVariables false
set_option linter.unusedSimpArgs false
section
namespace Go.Proofs.YtcmnpelmmekdkaaGreatDoor.P
open Go Go.ax
set_option maxRecDepth 100000
def dV (p q:aB):Bool:=decide (gZ q.ay<gZ p.ay)||(decide (gZ p.ay=gZ q.ay)&&decide (p.host<q.host))
theorem Pj (p:aB):dV p p=false:=by simp [dV]
theorem YF {p q r:aB} (h:dV p q=true) (k:dV q r=true):dV p r=true:=by
 simp only [dV,Bool.or_eq_true,Bool.and_eq_true,decide_eq_true_eq] at *;omega
theorem YG {p q:aB} (h:dV p q=false):dV q p=true∨(gZ p.ay=gZ q.ay∧p.host=q.host):=by
 simp only [dV,Bool.or_eq_true,Bool.and_eq_true,decide_eq_true_eq,Bool.or_eq_false_iff,Bool.and_eq_false_iff,decide_eq_false_iff_not] at *;omega
def xH (l:List aB) (ab:Text) (b:Int) (i:Nat):Int:=match l[i]? with
 |none=>b
 |some p=>if p.ay.ab=ab then (if b<0 then (i:Int) else match l[b.toNat]? with
  |some q=>if dV p q then (i:Int) else b
  |none=>b) else b
def dS (l:List aB) (ab:Text):Nat→Int
 | 0 => -1
 |n+1=>xH l ab (dS l ab n) n
def fh (l:List aB) (ab:Text):Int:=dS l ab l.length
structure xI (l:List aB) (ab:Text) (n:Nat) (k:Nat) (q:aB):Prop where
 lt:k<n
 at_:l[k]? = some q
 home:q.ay.ab=ab
 xJ:∀ j p,j<n→l[j]? = some p→p.ay.ab=ab→dV p q=false
theorem vj {l:List aB} {ab:Text}:∀ (n:Nat),(dS l ab n = -1∧∀ j p,j<n→l[j]? = some p→p.ay.ab≠ab)∨∃ k q,dS l ab n=(k:Nat)∧xI l ab n k q
 | 0 => .inl ⟨rfl,fun j p h=>by omega⟩
 |n+1=>by
  have ih:=vj (l:=l) (ab:=ab) n;rw [dS];unfold xH;cases hn:l[n]? with
  |none =>
   simp only;rcases ih with ⟨h1,h2⟩ | ⟨k,q,h1,h2⟩
   ·refine .inl ⟨h1,fun j p hj hp=>?_⟩;rcases Nat.lt_or_ge j n with h | h
    ·exact h2 j p h hp
    ·obtain rfl:j=n:=by omega
     rw [hn] at hp; cases hp
   ·refine .inr ⟨k,q,h1,⟨by have:=h2.lt; omega,h2.at_,h2.home,fun j p hj hp ha=>?_⟩⟩;rcases Nat.lt_or_ge j n with h | h
    ·exact h2.xJ j p h hp ha
    ·obtain rfl:j=n:=by omega
     rw [hn] at hp; cases hp
  |some x =>
   simp only;by_cases hx:x.ay.ab=ab
   case neg =>
    rw [if_neg hx];rcases ih with ⟨h1,h2⟩ | ⟨k,q,h1,h2⟩
    ·refine .inl ⟨h1,fun j p hj hp=>?_⟩;rcases Nat.lt_or_ge j n with h | h
     ·exact h2 j p h hp
     ·obtain rfl:j=n:=by omega
      rw [hn] at hp; cases hp; exact hx
    ·refine .inr ⟨k,q,h1,⟨by have:=h2.lt; omega,h2.at_,h2.home,fun j p hj hp ha=>?_⟩⟩;rcases Nat.lt_or_ge j n with h | h
     ·exact h2.xJ j p h hp ha
     ·obtain rfl:j=n:=by omega
      rw [hn] at hp; cases hp; exact absurd ha hx
   rw [if_pos hx];rcases ih with ⟨h1,h2⟩ | ⟨k,q,h1,h2⟩
   ·rw [h1,if_pos (by omega)];refine .inr ⟨n,x,rfl,⟨by omega,hn,hx,fun j p hj hp ha=>?_⟩⟩;rcases Nat.lt_or_ge j n with h | h
    ·exact absurd ha (h2 j p h hp)
    ·obtain rfl:j=n:=by omega
     rw [hn] at hp; cases hp; exact Pj _
   ·rw [h1,if_neg (by omega),Int.toNat_natCast,h2.at_];simp only;cases e:dV x q
    ·rw [if_neg (by decide)];refine .inr ⟨k,q,rfl,⟨by have:=h2.lt; omega,h2.at_,h2.home,fun j p hj hp ha=>?_⟩⟩;rcases Nat.lt_or_ge j n with h | h
     ·exact h2.xJ j p h hp ha
     ·obtain rfl:j=n:=by omega
      rw [hn] at hp; cases hp; exact e
    ·rw [if_pos rfl];refine .inr ⟨n,x,rfl,⟨by omega,hn,hx,fun j p hj hp ha=>?_⟩⟩;rcases Nat.lt_or_ge j n with h | h
     ·cases e2:dV p x
      ·rfl
      ·have:=h2.xJ j p h hp ha;rw [YF e2 e] at this; cases this
     ·obtain rfl:j=n:=by omega
      rw [hn] at hp; cases hp; exact Pj _
def dz (l:List aB) (ab:Text):Option aU:=match l[(fh l ab).toNat]? with
 |some p=>if 0≤fh l ab then some p.ay else none
 |none=>none
theorem Dv {l:List aB} {ab:Text}:dz l ab=none↔∀ p∈l,p.ay.ab≠ab:=by
 rcases vj (l:=l) (ab:=ab) l.length with ⟨h1,h2⟩ | ⟨k,q,h1,h2⟩
 ·constructor
  ·intro _ p hp;obtain ⟨j,hj⟩:=List.getElem?_of_mem hp;exact h2 j p (List.getElem?_eq_some_iff.1 hj).1 hj
  ·intro _;unfold dz fh;rw [h1];split
   ·rw [if_neg (by omega)]
   ·rfl
 ·constructor
  ·intro h;unfold dz fh at h;rw [h1,Int.toNat_natCast,h2.at_] at h;simp at h
  ·intro h;exact absurd h2.home (h q (List.mem_of_getElem? h2.at_))
theorem Dw {l:List aB} {ab:Text} {z:aU}:dz l ab=some z→∃ k q,fh l ab=(k:Nat)∧xI l ab l.length k q∧q.ay=z:=by
 rcases vj (l:=l) (ab:=ab) l.length with ⟨h1,h2⟩ | ⟨k,q,h1,h2⟩
 ·intro h;have:dz l ab=none:=Dv.2 fun p hp=>by
   obtain ⟨j,hj⟩:=List.getElem?_of_mem hp;exact h2 j p (List.getElem?_eq_some_iff.1 hj).1 hj
  rw [this] at h; cases h
 ·intro h;refine ⟨k,q,h1,h2,?_⟩;unfold dz fh at h;rw [h1,Int.toNat_natCast,h2.at_] at h;simp at h;exact h
theorem YH {l m:List aB} {ab:Text} (hd:∀ p∈l,∀ q∈l,p.ay.ab=ab→q.ay.ab=ab→p.host=q.host→p=q) (h:∀ p,p.ay.ab=ab→(p∈l↔p∈m)):dz m ab=dz l ab:=by
 cases e:dz l ab with
 |none=>exact Dv.2 fun p hp ha=>Dv.1 e p ((h p ha).2 hp) ha
 |some z =>
  cases e2:dz m ab with
  |none =>
   obtain ⟨k,q,_,h2,_⟩:=Dw e;exact absurd h2.home (Dv.1 e2 q ((h q h2.home).1 (List.mem_of_getElem? h2.at_)))
  |some y =>
   obtain ⟨k,q,_,h2,rfl⟩:=Dw e;obtain ⟨j,p,_,k2,rfl⟩:=Dw e2;have hp:=(h p k2.home).2 (List.mem_of_getElem? k2.at_);have hq:=(h q h2.home).1 (List.mem_of_getElem? h2.at_);obtain ⟨a,ha⟩:=List.getElem?_of_mem hp;obtain ⟨b,hb⟩:=List.getElem?_of_mem hq;have r1:=h2.xJ a p (List.getElem?_eq_some_iff.1 ha).1 ha k2.home;have r2:=k2.xJ b q (List.getElem?_eq_some_iff.1 hb).1 hb h2.home;have:p=q:=by
    rcases YG r1 with r | ⟨_,r⟩
    ·rw [r2] at r; cases r
    ·exact hd p hp q (List.mem_of_getElem? h2.at_) k2.home h2.home r
   rw [this]
def iw (a b:cu):Bool:=decide (bA a.bH.name b.bH.name<0)||(decide (a.bH.name=b.bH.name)&&(decide (a.bH.type<b.bH.type)||(decide (a.bH.type=b.bH.type)&&decide (bA a.other b.other<0))))
theorem Pk (a:cu):iw a a=false:=by simp [iw,mb]
theorem AA (a b c:cu) (h:iw a b=true) (k:iw b c=true):iw a c=true:=by
 obtain ⟨⟨an,at_⟩,ao⟩:=a;obtain ⟨⟨bn,bt⟩,bo⟩:=b;obtain ⟨⟨cn,ct⟩,co⟩:=c;simp only [iw,Bool.or_eq_true,Bool.and_eq_true,decide_eq_true_eq] at *;rcases h with h | ⟨rfl,h⟩
 ·rcases k with k | ⟨rfl,k⟩
  ·exact .inl (pJ h k)
  ·exact .inl h
 ·rcases k with k | ⟨rfl,k⟩
  ·exact .inl k
  ·refine .inr ⟨rfl,?_⟩;rcases h with h | ⟨rfl,h⟩
   ·rcases k with k | ⟨rfl,k⟩
    ·exact .inl (by omega)
    ·exact .inl h
   ·rcases k with k | ⟨rfl,k⟩
    ·exact .inl k
    ·exact .inr ⟨rfl,pJ h k⟩
theorem AB {a b:Text} (h:a≠b):bA a b<0∨bA b a<0:=by
 have h1:=uR a b;have h2:bA a b≠0:=fun e=>h (pI e);omega
theorem Dx (a b:cu) (aJ:a≠b) (h:iw a b=false):iw b a=true:=by
 obtain ⟨⟨an,at_⟩,ao⟩:=a;obtain ⟨⟨bn,bt⟩,bo⟩:=b;simp only [iw,Bool.or_eq_true,Bool.and_eq_true,decide_eq_true_eq,Bool.or_eq_false_iff,Bool.and_eq_false_iff,decide_eq_false_iff_not] at *;by_cases e1:an=bn
 ·subst e1;refine .inr ⟨rfl,?_⟩;by_cases e2:at_=bt
  ·subst e2;refine .inr ⟨rfl,?_⟩;have YI:ao≠bo:=fun e=>aJ (by rw [e]);rcases AB YI with h2 | h2
   ·exact absurd h2 (by
     rcases h.2 with h3 | h3
     ·exact absurd rfl h3
     ·rcases h3.2 with h4 | h4
      ·exact absurd rfl h4
      ·exact h4)
   ·exact h2
  ·rcases h.2 with h3 | h3
   ·exact absurd rfl h3
   ·exact .inl (by omega)
 ·rcases AB e1 with h2 | h2
  ·exact absurd h2 h.1
  ·exact .inl h2
def dZ (ab:Text) (l:List Signed):List cu:=l.flatMap fun x=>if x.set.name=ab∧x.set.type=2 then x.set.data.map fun d=>⟨⟨ab,2⟩,d.text⟩ else []
def vk (a:ia):Text:=match a.af with
 |s::_=>match s.set.data with
  |d::_=>d.text
  | []=>[]
 | []=>[]
def rG (s:Text) (a:ia):List cu:=if a.kind=3 then [⟨⟨s,3⟩,vk a⟩] else []
def cJ (l:List aB) (s:Text):Nat→Text→List Text × List cu
 | 0,ab=>([ab],[])
 |n+1,ab=>match dz l ab with
  |none=>([ab],[])
  |some z =>
   if (bO z ⟨s,1⟩).kind=4 then
    (ab::(cJ l s n (bO z ⟨s,1⟩).cut).1,dZ ab z.af++(dZ (bO z ⟨s,1⟩).cut (bO z ⟨s,1⟩).af++(cJ l s n (bO z ⟨s,1⟩).cut).2))
   else ([ab],dZ ab z.af++rG s (bO z ⟨s,1⟩))
def nW (l:List aB) (s:Text):List cu:=(cJ l s 64 [46]).2
def gz (l:List aB):ka:=fun s=>((cJ l s 64 [46]).1,nV (lt:=iw) [] (nW l s))
theorem vp {l:List aB} {s:Text} {x:cu}:x∈(gz l s).2↔x∈nW l s:=by
 show x∈nV (lt:=iw) [] (nW l s)↔_;rw [Dr]; simp
theorem YJ {l:List aB} {s:Text}:(gz l s).2.Pairwise fun a b=>iw a b=true:=Ds AA Dx List.Pairwise.nil
theorem AD {ab:Text} {l:List Signed} {x:cu}:x∈dZ ab l↔x.bH=⟨ab,2⟩∧∃ s∈l,s.set.name=ab∧s.set.type=2∧∃ d∈s.set.data,d.text=x.other:=by
 rw [dZ,List.mem_flatMap];constructor
 ·rintro ⟨s,hs,h⟩;split at h
  ·rename_i e;obtain ⟨d,hd,rfl⟩:=List.mem_map.1 h;exact ⟨rfl,s,hs,e.1,e.2,d,hd,rfl⟩
  ·simp at h
 ·rintro ⟨h1,s,hs,e1,e2,d,hd,e3⟩;refine ⟨s,hs,?_⟩;rw [if_pos ⟨e1,e2⟩];refine List.mem_map.2 ⟨d,hd,?_⟩;obtain ⟨bH,other⟩:=x;simp only at h1 e3;rw [h1,e3]
end Go.Proofs.YtcmnpelmmekdkaaGreatDoor.P
end
section
namespace Go.Proofs.YtcmnpelmmekdkaaGreatDoor.P
open Go Go.ax
set_option maxRecDepth 100000
set_option maxHeartbeats 4000000
def oX (c:aB):Bool:=xa c.ay && !(decide ((c.ay.ab.length:Int)>100))
def p7 (w:ca):Bool:=(w.aq.take 21).all oX&&(w.cd.take 71).all lD&&xN w.aq.length w.cd.length w.hints.length w.anchor.data.length
theorem aba (w:ca):aA E 10 [w.enc] (· = .bool (p7 w)):=by
 obtain ⟨cd,aq,anchor,hints⟩:=w;unfold p7;simp only;show aA E _ [DV.agg [.sl (cd.map Host.enc),.sl (aq.map aB.enc),.str anchor.name,.int .i64 anchor.type,.int .i64 anchor.gy,.sl (anchor.data.map Datum.enc),.sl (hints.map (.int .i64))]] _;refine eP Tryz.func10 ?_;refine aa.loop (κ:=Nat) ([2,3,4]++rg 6 31) (fun k=>[(3,.d (.int .i64 k))]) (fun _=>[]) (fun k=>k≤aq.length∧k≤21∧(aq.take k).all oX=true) (fun k=>aq.length - k) 0 ⟨Nat.zero_le _,by omega,rfl⟩ ?_ ?_
 ·exact sZ
 intro k hk IH;refine aa.head aj Tryz.func10 2000 ?_;(conv=>whnf);have lj:=hk.2.1;refine aw (fun h5=>?_) (fun h5=>?_)
 ·have ai:k<aq.length:=by simpa using h5
  refine gO Tryz.func10 ?_;refine aw (fun h6=>?_) (fun h6=>?_)
  ·have M3:k≤20:=by have:=of_decide_eq_true h6; omega
   obtain ⟨x,hx⟩:=aY ai;refine gO Tryz.func10 ?_;refine aF (e:=x.enc) (a7 hx) rfl ?_;refine gO Tryz.func10 ?_
   with_reducible refine ar (VA x.ay) ?_
   refine gO Tryz.func10 ?_;cases hz:xa x.ay
   ·have gg:oX x=false:=by rw [oX,hz]; rfl
    refine bq ?_;refine gO Tryz.func10 ?_;refine bq ?_;refine gO Tryz.func10 ?_;rw [iI (k:=k) (by rw [List.getElem?_take,if_pos (by omega)]; exact hx) gg,Bool.false_and,Bool.false_and]
   ·refine ba ?_;refine gO Tryz.func10 ?_;refine aF (e:=x.enc) (a7 hx) rfl ?_;refine gO Tryz.func10 ?_;refine aw (fun h7=>?_) (fun h7=>?_)
    ·have gg:oX x=false:=by rw [oX,hz,h7]; rfl
     refine gO Tryz.func10 ?_;rw [iI (k:=k) (by rw [List.getElem?_take,if_pos (by omega)]; exact hx) gg,Bool.false_and,Bool.false_and]
    ·have gg:oX x=true:=by rw [oX,hz,h7]; rfl
     refine gO Tryz.func10 ?_;refine aa.back (IH (k+1) ⟨by omega,by omega,jx hk.2.2 hx gg⟩ (by omega)) ?_;exact sZ
  ·have h21:k=21:=by have:=of_decide_eq_false h6; omega
   have iS:(aq.take 21).all oX=true:=by rw [← h21]; exact hk.2.2
   rw [iS,Bool.true_and];refine gO Tryz.func10 ?_;refine aa.loop (κ:=Nat) ([2,5]++rg 37 19) (fun k=>[(5,.d (.int .i64 k))]) (fun _=>[]) (fun k=>k≤cd.length∧k≤71∧(cd.take k).all lD=true) (fun k=>cd.length - k) 0 ⟨Nat.zero_le _,by omega,rfl⟩ ?_ ?_
   ·exact sZ
   intro j hj JH;refine aa.head aj Tryz.func10 2000 ?_;(conv=>whnf);have fa:=hj.2.1;refine aw (fun g5=>?_) (fun g5=>?_)
   ·have ai:j<cd.length:=by simpa using g5
    refine gO Tryz.func10 ?_;refine aw (fun g6=>?_) (fun g6=>?_)
    ·have h70:j≤70:=by have:=of_decide_eq_true g6; omega
     obtain ⟨x,hx⟩:=aY ai;refine gO Tryz.func10 ?_;refine aF (e:=x.enc) (a7 hx) rfl ?_;refine gO Tryz.func10 ?_;refine aw (fun g7=>?_) (fun g7=>?_)
     ·have hz:lD x=false:=by rw [lD,g7]; rfl
      refine gO Tryz.func10 ?_;rw [iI (k:=j) (by rw [List.getElem?_take,if_pos (by omega)]; exact hx) hz,Bool.false_and]
     ·have hz:lD x=true:=by rw [lD,g7]; rfl
      refine gO Tryz.func10 ?_;refine aa.back (JH (j+1) ⟨by omega,by omega,jx hj.2.2 hx hz⟩ (by omega)) ?_;exact sZ
    ·have Jc:j=71:=by have:=of_decide_eq_false g6; omega
     have aT:(cd.take 71).all lD=true:=by rw [← Jc]; exact hj.2.2
     rw [aT];refine gO Tryz.func10 ?_;clear IH JH;repeat' (first | with_reducible refine cY ?_ | with_reducible refine cN ?_ | with_reducible refine aw (fun _=>?_) (fun _=>?_) | refine gA Tryz.func10 ?_ | refine gB ?_ | refine gC ?_ | with_reducible rfl)
     all_goals
      clear aT iS hk hj;simp_all [xN];try (first | omega | (rw [Bool.eq_iff_iff]; simp; omega))
   ·have aP:cd.length≤j:=by simpa using g5
    have aT:(cd.take 71).all lD=true:=by
     have h1:=nI hj.2.2 aP;rw [List.all_eq_true] at h1 ⊢;exact fun y hy=>h1 y (List.mem_of_mem_take hy)
    rw [aT];refine gO Tryz.func10 ?_;refine ba ?_;refine gO Tryz.func10 ?_;clear IH JH;repeat' (first | with_reducible refine cY ?_ | with_reducible refine cN ?_ | with_reducible refine aw (fun _=>?_) (fun _=>?_) | refine gA Tryz.func10 ?_ | refine gB ?_ | refine gC ?_ | with_reducible rfl)
    all_goals
     clear aT iS hk hj;simp_all [xN];try (first | omega | (rw [Bool.eq_iff_iff]; simp; omega))
 ·have aP:aq.length≤k:=by simpa using h5
  have iS:(aq.take 21).all oX=true:=by
   have h1:=nI hk.2.2 aP;rw [List.all_eq_true] at h1 ⊢;exact fun y hy=>h1 y (List.mem_of_mem_take hy)
  rw [iS,Bool.true_and];refine gO Tryz.func10 ?_;refine ba ?_;refine gO Tryz.func10 ?_;refine aa.loop (κ:=Nat) ([2,5]++rg 37 19) (fun k=>[(5,.d (.int .i64 k))]) (fun _=>[]) (fun k=>k≤cd.length∧k≤71∧(cd.take k).all lD=true) (fun k=>cd.length - k) 0 ⟨Nat.zero_le _,by omega,rfl⟩ ?_ ?_
  ·exact sZ
  intro j hj JH;refine aa.head aj Tryz.func10 2000 ?_;(conv=>whnf);have fa:=hj.2.1;refine aw (fun g5=>?_) (fun g5=>?_)
  ·have ai:j<cd.length:=by simpa using g5
   refine gO Tryz.func10 ?_;refine aw (fun g6=>?_) (fun g6=>?_)
   ·have h70:j≤70:=by have:=of_decide_eq_true g6; omega
    obtain ⟨x,hx⟩:=aY ai;refine gO Tryz.func10 ?_;refine aF (e:=x.enc) (a7 hx) rfl ?_;refine gO Tryz.func10 ?_;refine aw (fun g7=>?_) (fun g7=>?_)
    ·have hz:lD x=false:=by rw [lD,g7]; rfl
     refine gO Tryz.func10 ?_;rw [iI (k:=j) (by rw [List.getElem?_take,if_pos (by omega)]; exact hx) hz,Bool.false_and]
    ·have hz:lD x=true:=by rw [lD,g7]; rfl
     refine gO Tryz.func10 ?_;refine aa.back (JH (j+1) ⟨by omega,by omega,jx hj.2.2 hx hz⟩ (by omega)) ?_;exact sZ
   ·have Jc:j=71:=by have:=of_decide_eq_false g6; omega
    have aT:(cd.take 71).all lD=true:=by rw [← Jc]; exact hj.2.2
    rw [aT];refine gO Tryz.func10 ?_;clear IH JH;repeat' (first | with_reducible refine cY ?_ | with_reducible refine cN ?_ | with_reducible refine aw (fun _=>?_) (fun _=>?_) | refine gA Tryz.func10 ?_ | refine gB ?_ | refine gC ?_ | with_reducible rfl)
    all_goals
     clear aT iS hk hj;simp_all [xN];try (first | omega | (rw [Bool.eq_iff_iff]; simp; omega))
  ·have aP:cd.length≤j:=by simpa using g5
   have aT:(cd.take 71).all lD=true:=by
    have h1:=nI hj.2.2 aP;rw [List.all_eq_true] at h1 ⊢;exact fun y hy=>h1 y (List.mem_of_mem_take hy)
   rw [aT];refine gO Tryz.func10 ?_;refine ba ?_;refine gO Tryz.func10 ?_;clear IH JH;repeat' (first | with_reducible refine cY ?_ | with_reducible refine cN ?_ | with_reducible refine aw (fun _=>?_) (fun _=>?_) | refine gA Tryz.func10 ?_ | refine gB ?_ | refine gC ?_ | with_reducible rfl)
   all_goals
    clear aT iS hk hj;simp_all [xN];try (first | omega | (rw [Bool.eq_iff_iff]; simp; omega))
end Go.Proofs.YtcmnpelmmekdkaaGreatDoor.P
end
