/- Several texts of mine, one behind the other. Conditions: as each says. -/
import Derived.Test.YtcmnpelmmekdkaaGreatDoorY17
import Derived.Test.YtcmnpelmmekdkaaGreatDoorY20
import Derived.Test.YtcmnpelmmekdkaaGreatDoorY21
import Derived.Test.YtcmnpelmmekdkaaGreatDoorY28
set_option linter.unusedVariables false
set_option linter.unusedSimpArgs false
section
namespace Go.Proofs.YtcmnpelmmekdkaaGreatDoor.P
open Go Go.ax
set_option maxRecDepth 100000
set_option maxHeartbeats 4000000
theorem Iu {α:Type} {l:List α} (hn:l.Nodup) {i j:Nat} {a:α} (hi:l[i]? = some a) (hj:l[j]? = some a):i=j:=by
 obtain ⟨p1,e1⟩:=List.getElem?_eq_some_iff.1 hi;obtain ⟨p2,e2⟩:=List.getElem?_eq_some_iff.1 hj;have h:=List.pairwise_iff_getElem.1 (List.nodup_iff_pairwise_ne.1 hn);rcases Nat.lt_trichotomy i j with dA | dA | dA
 ·exact absurd (e1.trans e2.symm) (h i j p1 p2 dA)
 ·exact dA
 ·exact absurd (e2.trans e1.symm) (h j i p2 p1 dA)
theorem Y8 (p:pS):ef E.T (TK.struct [(0,3),(1,9)]) (pS.en p):=⟨_,rfl,rfl,⟨_,rfl,_,rfl⟩,rfl,⟨_,rfl,_,rfl⟩,trivial⟩
def aB.spot (p:aB):pS:=(p.host,p.ay.ab)
theorem PE {l:List aB} {k:Nat} {x:aB} (h:l[k]? = some x):(l.take (k+1)).map aB.spot=(l.take k).map aB.spot++[x.spot]:=by
 rw [eI h,List.map_append]; rfl
theorem PF {l:List aB} {i:Nat} {x:aB} (hx:l[i]? = some x) (h:x.spot∈(l.take i).map aB.spot):¬ (l.map aB.spot).Nodup:=fun hn=>by
 obtain ⟨y,hy,e⟩:=List.mem_map.1 h;obtain ⟨m,hm⟩:=List.getElem?_of_mem hy;rw [List.getElem?_take] at hm;split at hm
 ·rename_i yP;have h1:(l.map aB.spot)[i]? = some x.spot:=by simp [hx]
  have h2:(l.map aB.spot)[m]? = some x.spot:=by simp [hm,e]
  have:=Iu hn h1 h2;omega
 ·cases hm
theorem PG {l:List aB} {i:Nat} {x:aB} (hx:l[i]? = some x) (h:((l.take i).map aB.spot).Nodup) (hn:x.spot ∉ (l.take i).map aB.spot):((l.take (i+1)).map aB.spot).Nodup:=by
 rw [PE hx,List.nodup_append];exact ⟨h,by simp,fun a ha b hb e=>by simp at hb; subst hb; subst e; exact hn ha⟩
theorem PH {es:List (DV × DV)} (h:lA pS.en es):∀ p∈es,ef E.T (TK.struct [(0,3),(1,9)]) p.1:=fun p hp=>by
 obtain ⟨a,e⟩:=h p hp;rw [e];exact Y8 a
theorem PI {α:Type} [DecidableEq α] {en:α→DV} (hk:∀ a b,eS (en a) (en b)=decide (a=b)) {b:α} {v:DV}:∀ {es:List (DV × DV)},lA en es→(cD (en b) v es).length=es.length+(if (findD (en b) es).isSome then 0 else 1)
 | [],_=>by simp [cD,findD]
 |q::es,h=>by
  obtain ⟨s,hs⟩:=h q (List.mem_cons_self ..);obtain ⟨q1,q2⟩:=q;simp only at hs;subst hs;unfold cD;simp only [hk];by_cases e:b=s
  ·subst e;simp [findD,hk]
  ·have ih:=PI hk (b:=b) (v:=v) (es:=es) (fun r hr=>h r (List.mem_cons_of_mem _ hr));simp only [e,decide_false,Bool.false_eq_true,if_false,findD,hk,List.length_cons,ih];omega
theorem PJ {α:Type} [DecidableEq α] {en:α→DV} (hk:∀ a b,eS (en a) (en b)=decide (a=b)) (l:List α):∀ k,k≤l.length→(fq en (l.take k)).length=(fu [] (l.take k)).length
 | 0,_=>rfl
 |k+1,h=>by
  obtain ⟨x,hx⟩:=aY (l:=l) (k:=k) (by omega);have ih:=PJ hk l k (by omega);rw [OH hx,OJ hx,PI hk (pR hk _).1,(Ar hk _ x).2,ih];by_cases hm:x∈l.take k
  ·simp [hm]
  ·simp [hm]
theorem Y9 {l:List Host} {i k:Nat} {x y:Host} (hx:l[i]? = some x) (hy:l[k]? = some y) (hk:k<i) (e:y.addr=x.addr):jb l=false:=by
 have:¬ (l.map (·.addr)).Nodup:=fun hn=>by
  have h1:(l.map (·.addr))[i]? = some x.addr:=by simp [hx]
  have h2:(l.map (·.addr))[k]? = some x.addr:=by simp [hy,e]
  have:=Iu hn h1 h2;omega
 simp [jb,this]
theorem Y' {l:List Int} {i:Nat} {x:Int} (h:(l.take i).Nodup) (hx:l[i]? = some x) (hn:∀ m y,m<i→l[m]? = some y→y≠x):(l.take (i+1)).Nodup:=by
 rw [eI hx,List.nodup_append];refine ⟨h,by simp,fun a ha b hb e=>?_⟩;simp at hb;subst hb; subst e;obtain ⟨m,hm⟩:=List.getElem?_of_mem ha;rw [List.getElem?_take] at hm;split at hm
 ·rename_i yP; exact hn m _ yP hm rfl
 ·cases hm
theorem Za (l:List Host) (hn:∀ x∈l,x.name.length≤maxLen):aA E 77 [.sl (l.map Host.enc)] (· = .bool (jb l)):=by
 refine eP Tryz.func77 ?_;refine aw (fun h1=>?_) (fun h1=>?_)
 ·refine gO Tryz.func77 ?_;have:jb l=false:=by simp [jb]; simp at h1; omega
  rw [this]
 ·have hlen:l.length≤64:=by simp at h1; omega
  refine gO Tryz.func77 ?_;refine aa.loop (κ:=Nat) (rg 2 5++rg 10 53) (fun k=>[(3,.d (.int .i64 k)),(2,.d (.bool false))]) (fun _=>[]) (fun k=>k≤l.length∧(l.take k).all mf=true∧((l.map (·.addr)).take k).Nodup) (fun k=>l.length - k) 0 ⟨Nat.zero_le _,rfl,by simp⟩ ?_ ?_
  ·exact sZ
  rintro i ⟨hi,aT,fm⟩ IH;refine aa.head aj Tryz.func77 2000 ?_;(conv=>whnf);refine aw (fun h5=>?_) (fun h5=>?_)
  ·have ai:i<l.length:=by simpa using h5
   obtain ⟨x,hx⟩:=aY ai;have bS:=hn x (List.mem_of_getElem? hx);refine gO Tryz.func77 ?_;refine aF (e:=x.enc) (a7 hx) rfl ?_;refine gO Tryz.func77 ?_
   with_reducible refine ar (fY x.name bS) ?_
   refine gO Tryz.func77 ?_;cases hv:Nm.valid x.name
   ·repeat' (first | with_reducible refine cY ?_ | with_reducible refine cN ?_ | with_reducible refine aw (fun _=>?_) (fun _=>?_) | refine gA Tryz.func77 ?_ | refine gB ?_ | refine gC ?_ | with_reducible rfl)
    all_goals (rw [Hz hx (by simp [mf,hv])])
   ·have gT:x.name.length≤1000:=by have:=fF hv; omega
    repeat' (first | with_reducible refine ar (GK x.name gT) ?_ | with_reducible refine bg (GK x.name gT) ?_ | with_reducible refine cY ?_ | with_reducible refine cN ?_ | with_reducible refine aw (fun _=>?_) (fun _=>?_) | refine gA Tryz.func77 ?_ | refine gB ?_ | refine gC ?_ | with_reducible rfl)
    all_goals try (rw [Hz hx (by (simp_all [mf,ve,jX] <;> omega))]; done)
    have hb:mf x=true:=by (simp_all [mf,ve,jX] <;> omega)
    refine gO Tryz.func77 ?_;refine aa.loop (κ:=Nat) ([2,6]++rg 50 13) (fun k=>[(6,.d (.int .i64 k)),(2,.d (.bool false))]) (fun _=>[]) (fun k=>k≤i∧∀ m y,m<k→l[m]? = some y→y.addr≠x.addr) (fun k=>i - k) 0 ⟨Nat.zero_le _,fun m y h=>by omega⟩ ?_ ?_
    ·exact sZ
    rintro k ⟨hk,aJ⟩ xc;refine aa.head aj Tryz.func77 2000 ?_;(conv=>whnf);refine aw (fun h6=>?_) (fun h6=>?_)
    ·have gX:k<i:=by simpa using h6
     obtain ⟨y,hy⟩:=aY (l:=l) (k:=k) (by omega);refine gO Tryz.func77 ?_;refine aa.draw aj bW 8 2000 (by kernel_rfl) ?_;(conv=>whnf);refine aF (e:=y.enc) (a7 hy) rfl ?_;refine gD ?_;refine gS ?_;refine gO Tryz.func77 ?_;refine aw (fun h7=>?_) (fun h7=>?_)
     ·refine gO Tryz.func77 ?_;rw [Y9 hx hy gX (by simpa using h7)]
     ·refine gO Tryz.func77 ?_;refine aa.back (xc (k+1) ⟨by omega,fun m z hm hz=>?_⟩ (by omega)) ?_
      ·by_cases sX:m=k
       ·subst sX; rw [hy] at hz; cases hz; simpa using h7
       ·exact aJ m z (by omega) hz
      ·exact sZ
    ·have Iv:i≤k:=by simpa using h6
     refine gO Tryz.func77 ?_;refine aa.back (IH (i+1) ⟨by omega,jx aT hx hb,Y' (x:=x.addr) fm (by simp [hx]) (fun m z hm hz=>?_)⟩ (by omega)) ?_
     ·simp only [List.getElem?_map,Option.map_eq_some_iff] at hz;obtain ⟨y,hy,rfl⟩:=hz;exact aJ m y (by omega) hy
     ·exact sZ
  ·have aP:l.length≤i:=by simpa using h5
   rw [List.take_of_length_le aP] at aT;rw [List.take_of_length_le (by simpa using aP)] at fm;refine gO Tryz.func77 ?_;simp [jb,aT,fm,hlen]
theorem Zb (a:eu) (l:List Int) (hf:a.Fits) (hl:l.length≤1000000):aA E 78 [a.enc,.sl (l.map (.int .i64))] (· = .bool (nS a l)):=by
 refine eP Tryz.func78 ?_;refine aa.loop (κ:=Nat) ([4,5]++rg 7 18) (fun k=>[(5,.d (.int .i64 k)),(4,.d (.bool false))]) (fun _=>[]) (fun k=>k≤l.length∧(l.take k).all jX=true) (fun k=>l.length - k) 0 ⟨Nat.zero_le _,rfl⟩ ?_ ?_
 ·exact sZ
 rintro i ⟨hi,aT⟩ IH;refine aa.head aj Tryz.func78 2000 ?_;(conv=>whnf);refine aw (fun h5=>?_) (fun h5=>?_)
 ·have ai:i<l.length:=by simpa using h5
  obtain ⟨x,hx⟩:=aY ai;refine gO Tryz.func78 ?_;repeat' (first | with_reducible refine aF (a7 hx) rfl ?_ | with_reducible refine cY ?_ | with_reducible refine cN ?_ | with_reducible refine aw (fun _=>?_) (fun _=>?_) | refine gA Tryz.func78 ?_ | refine gB ?_ | refine gC ?_ | with_reducible rfl)
  all_goals try (have dQ:l.all jX=false:=iI hx (by (simp_all [jX] <;> omega)); simp [nS,dQ]; done)
  refine gO Tryz.func78 ?_;refine aa.back (IH (i+1) ⟨by omega,jx aT hx (by (simp_all [jX] <;> omega))⟩ (by omega)) ?_;exact sZ
 ·have aP:l.length≤i:=by simpa using h5
  rw [List.take_of_length_le aP] at aT;refine gO Tryz.func78 ?_;repeat' (first | with_reducible refine ar (CH a hf) ?_ | with_reducible refine bg (CH a hf) ?_ | with_reducible refine cY ?_ | with_reducible refine cN ?_ | with_reducible refine aw (fun _=>?_) (fun _=>?_) | refine gA Tryz.func78 ?_ | refine gB ?_ | refine gC ?_ | with_reducible rfl)
  all_goals try (simp_all [nS]; done)
  all_goals
   rename_i e1 e2 e3 e4;have Zc:a.type=6:=by simpa using e2
   have Zd:a.name=[46]:=by simpa using e3
   by_cases hz:1≤l.length
   ·simp [nS,e1,Zc,Zd,aT,hz];try (simp at e4; omega)
    try omega
   ·first
     |(simp [nS,hz]; done)
     |(exfalso; simp at e4; omega)
def s7 (out:List Text) (a:Text):List Text:=if a∈out then out else out.takeWhile (fun x=>decide (bA x a<0))++a::out.dropWhile (fun x=>decide (bA x a<0))
def xM (out:List Text):Prop:=out.Pairwise fun x y=>bA x y<0
def AJ (l:List Text):List Text:=l.foldl s7 []
theorem Ze {out:List Text} (a:Text) (h:xM out):xM (s7 out a):=by
 unfold s7;split
 ·exact h
 ·rename_i dQ;have hs:=h;unfold xM at h ⊢;rw [← List.takeWhile_append_dropWhile (p:=fun x=>decide (bA x a<0)) (l:=out)] at h;rw [List.pairwise_append] at h;obtain ⟨h1,h2,h3⟩:=h;rw [List.pairwise_append];have uU:∀ x∈out.takeWhile (fun x=>decide (bA x a<0)),bA x a<0:=fun x hx=>by simpa using G8 _ _ x hx
  have Zf:∀ x∈out.dropWhile (fun x=>decide (bA x a<0)),bA a x<0:=fun x hx=>by
   cases hd:out.dropWhile (fun x=>decide (bA x a<0)) with
   |nil=>rw [hd] at hx; simp at hx
   |cons y r =>
    rw [hd] at hx h2;have hy:¬ bA y a<0:=by
     have:=List.head?_dropWhile_not (p:=fun x=>decide (bA x a<0)) out;rw [hd] at this
     simpa using this
    have PK:bA a y<0:=by
     have e:=uR a y;rcases Int.lt_trichotomy (bA a y) 0 with q | q | q
     ·exact q
     ·have:=pI q;subst this;have fX:a∈out:=by
       rw [← List.takeWhile_append_dropWhile (p:=fun x=>decide (bA x a<0)) (l:=out),hd];simp
      exact absurd fX dQ
     ·omega
    rcases List.mem_cons.1 hx with rfl | hx
    ·exact PK
    ·exact pJ PK ((List.pairwise_cons.1 h2).1 x hx)
  refine ⟨h1,List.pairwise_cons.2 ⟨Zf,h2⟩,fun x hx y hy=>?_⟩;rcases List.mem_cons.1 hy with rfl | hy
  ·exact uU x hx
  ·exact h3 x hx y hy
theorem Zg {out:List Text} {a x:Text}:x∈s7 out a↔x∈out∨x=a:=by
 unfold s7;split
 ·rename_i h;constructor
  ·exact .inl
  ·rintro (h1 | rfl)
   ·exact h1
   ·exact h
 ·have e:=List.takeWhile_append_dropWhile (p:=fun x=>decide (bA x a<0)) (l:=out);constructor
  ·intro hx;rw [← e];simp only [List.mem_append,List.mem_cons] at hx ⊢;rcases hx with h | rfl | h
   ·exact .inl (.inl h)
   ·exact .inr rfl
   ·exact .inl (.inr h)
  ·intro hx;rw [← e] at hx;simp only [List.mem_append,List.mem_cons] at hx ⊢;rcases hx with (h | h) | rfl
   ·exact .inl h
   ·exact .inr (.inr h)
   ·exact .inr (.inl rfl)
theorem PL (l:List Text):xM (AJ l)∧∀ x,x∈AJ l↔x∈l:=by
 have main:∀ (l out:List Text),xM out→xM (l.foldl s7 out)∧∀ x,x∈l.foldl s7 out↔x∈out∨x∈l:=by
  intro l
  induction l with
  |nil=>intro out h; exact ⟨h,by simp⟩
  |cons a l ih =>
   intro out h;have:=ih (s7 out a) (Ze a h);refine ⟨this.1,fun x=>?_⟩;rw [List.foldl_cons,this.2,Zg];simp [or_assoc]
 have:=main l [] List.Pairwise.nil;exact ⟨this.1,fun x=>by rw [AJ,this.2]; simp⟩
theorem Zh (l:List aB) (hl:l.length≤1000000):aA E 80 [.sl (l.map aB.enc)] (· = .sl ((fu [] (l.map (·.ay.ab))).map .str)):=by
 refine eP Tryz.func80 ?_;refine aa.rY 3 (9,1) (by decide) rfl ?_;(conv=>whnf);refine aa.loop (κ:=Nat) (rg 3 41) (fun k=>[(4,.d (.int .i64 k)),(3,.own 0 1)]) (fun k=>[(0,.arr 1 (9,1) ((fu [] ((l.map (·.ay.ab)).take k)).map .str))]) (fun k=>k≤l.length) (fun k=>l.length - k) 0 (Nat.zero_le _) ?_ ?_
 ·(conv=>whnf);repeat (first | exact trivial | (refine sI ?_; conv=>whnf))
  refine And.intro rfl ?_;exact sZ
 intro k hk IH;refine aa.head aj Tryz.func80 2000 ?_;(conv=>whnf);refine aw (fun h5=>?_) (fun h5=>?_)
 ·have ai:k<l.length:=by simpa using h5
  obtain ⟨c,hc⟩:=aY ai;have Zi:(l.map (·.ay.ab))[k]? = some c.ay.ab:=by simp [hc]
  have bS:=OJ Zi;have Zj:=HE (l:=(l.map (·.ay.ab)).take k) (acc:=[]);have kV:c.ay.ab∈fu [] ((l.map (·.ay.ab)).take k)↔c.ay.ab∈(l.map (·.ay.ab)).take k:=by rw [vg]; simp
  rw [List.length_take,List.length_map,List.length_nil] at Zj;generalize fu [] ((l.map (·.ay.ab)).take k)=C at *;refine gO Tryz.func80 ?_;refine aa.loop (κ:=Nat) ([5,6]++rg 13 20) (fun j=>[(6,.d (.int .i64 j)),(5,.d (.bool (decide (c.ay.ab∈C.take j))))]) (fun j=>[]) (fun j=>j≤C.length) (fun j=>C.length - j) 0 (Nat.zero_le _) ?_ ?_
  ·(conv=>whnf);repeat (first | exact trivial | (refine sI ?_; conv=>whnf))
   refine And.intro (by simp) ?_;exact sZ
  intro j hj JH;refine aa.head aj Tryz.func80 2000 ?_;(conv=>whnf);refine aw (fun h6=>?_) (fun h6=>?_)
  ·have Iw:j<C.length:=by simpa using h6
   obtain ⟨t,ht⟩:=aY Iw;have hb:0≤(j:Int)∧(j:Int)<((C.map DV.str).length:Int):=⟨by omega,by simp; omega⟩;have fX:(c.ay.ab∈C.take (j+1))↔(c.ay.ab∈C.take j∨t=c.ay.ab):=by rw [eI ht,List.mem_append]; simp [eq_comm]
   refine gO Tryz.func80 ?_;refine aa.draw aj bW 15 2000 (by kernel_rfl) ?_;(conv=>whnf);by_cases hm:c.ay.ab∈C.take j
   ·refine aM (decide_eq_true hm) ?_;have e1:decide (c.ay.ab∈C.take (j+1))=true:=by simp [fX,hm]
    refine gD ?_;refine gS ?_;refine gO Tryz.func80 ?_;refine aa.back (JH (j+1) (by omega) (by omega)) ?_;rw [e1];exact sZ
   ·refine aI (decide_eq_false hm) ?_;have e1:decide (c.ay.ab∈C.take (j+1))=(t==c.ay.ab):=by rw [Bool.eq_iff_iff]; simp [fX,hm]
    refine gD ?_;refine bQ hb ?_;refine gD ?_;refine aF (e := .str t) (a7 ht) rfl ?_;refine gD ?_;refine aF (e:=c.enc) (a7 hc) rfl ?_;refine gD ?_;refine gS ?_;refine gO Tryz.func80 ?_;refine aa.back (JH (j+1) (by omega) (by omega)) ?_;rw [e1];exact sZ
  ·have aP:C.length≤j:=by simpa using h6
   rw [List.take_of_length_le aP];refine gO Tryz.func80 ?_;by_cases hm:c.ay.ab∈C
   ·refine aI (by simp [hm]) ?_;refine gO Tryz.func80 ?_;refine aa.back (IH (k+1) (by omega) (by omega)) ?_;rw [bS,if_pos (kV.1 hm)];exact sZ
   ·refine aM (by simp [hm]) ?_;refine gO Tryz.func80 ?_;refine aF (e:=c.enc) (a7 hc) rfl ?_;refine gO Tryz.func80 ?_;refine bQ ⟨by simp; omega,by simp [DV.cells]⟩ ?_;refine gO Tryz.func80 ?_;refine aa.back (IH (k+1) (by omega) (by omega)) ?_;rw [bS,if_neg (fun e=>hm (kV.2 e))];(conv=>whnf);repeat (first | exact trivial | (refine sI ?_; conv=>whnf))
    refine And.intro (by simp) ?_;exact sZ
 ·have aP:l.length≤k:=by simpa using h5
  rw [List.take_of_length_le (by simpa using aP)];refine gO Tryz.func80 ?_
  with_reducible rfl
def kb (n:Nat) (p:aB):Bool:=decide (0≤p.host)&&decide (p.host<n)&&eV p.ay
def DD (l:List aB):Nat:=(fu [] (l.map (·.ay.ab))).length
def kJ (n:Nat) (l:List aB):Bool:=decide (l.length≤4000)&&l.all (kb n)&&decide ((l.map aB.spot).Nodup)&&decide (DD l≤500)
def dn (w:ca):Bool:=jb w.cd&&kJ w.cd.length w.aq&&nS w.anchor w.hints
theorem AK {n:Nat} {l:List aB}:kJ n l=true↔l.length≤4000∧(∀ p∈l,kb n p=true)∧(l.map aB.spot).Nodup∧DD l≤500:=by
 simp only [kJ,Bool.and_eq_true,decide_eq_true_eq,List.all_eq_true,and_assoc]
theorem AL {w:ca}:dn w=true↔jb w.cd=true∧kJ w.cd.length w.aq=true∧nS w.anchor w.hints=true:=by
 simp only [dn,Bool.and_eq_true,and_assoc]
def lD (x:Host):Bool := !(decide ((x.name.length:Int)>100))
def xN (a b c d:Nat):Bool:=decide (a≤20)&&decide (b≤70)&&decide (c≤20)&&decide (d≤20)
end Go.Proofs.YtcmnpelmmekdkaaGreatDoor.P
end
section
namespace Go.Proofs.YtcmnpelmmekdkaaGreatDoor.P
open Go Go.ax Go.Sort Go.RowKit
theorem grown_of {w w':World} (hx:Ext w w') (hd:w.drawn≤w'.drawn):∃ q vA,w'=grow (w.drewN q) vA:=by
 refine ⟨w'.drawn - w.drawn,w'.heap.extract w.heap.size w'.heap.size,?_⟩;obtain ⟨h1,h2,h3,h4,h5⟩:=hx;cases w with | mk a b c d e=>cases w' with | mk a' b' c' d' e' =>
 simp only at h1 h2 h3 h4 h5 hd;subst h1; subst h2; subst h3;simp only [grow,World.drewN,World.mk.injEq,true_and,and_true];refine ⟨?_,by omega⟩;apply Array.ext_getElem?;intro k;rw [Array.getElem?_append];split
 ·rename_i hk; exact h5 k hk
 ·rw [Array.getElem?_extract];split
  ·congr 1; omega
  ·rw [Array.getElem?_eq_none]; omega
theorem aai {E:Env} {c:Cx} {W:World} {g:FuncId} {xs:List DV} {r0:DV} {v0:Value} {vs:List Value} (xe:aE E.G c) (bP:c.w.heap.size≤W.heap.size) (og:∀ b,b<c.w.heap.size→¬ c.bad b→W.heap[b]? = c.w.heap[b]?)
  (hp:aA E g xs (· = r0)) (hv:lO c.bad W xs vs) (hr:∀ w v,VD c.bad w r0 v→v=v0) :
  Calls E.P g vs.toArray W fun e w'=>e = .returned v0∧∃ q vA,w'=grow (W.drewN q) vA:=by
 unfold aA at hp;have eG:∀ b,c.bad b→b<W.heap.size:=fun b hb=>Nat.lt_of_lt_of_le (hb.elim (xe.bD b) fun ⟨j,n,hj⟩=>(xe.bI j b n hj).1) bP;have Hk:∀ b,b<c.w.heap.size→¬ c.bad b→¬ c.bad b∧W.heap[b]? = c.w.heap[b]? := fun b hb hn=>⟨hn,og b hb hn⟩;have yz:vV E.G c.bad W:=fun g e hg=>by
  have h:=xe.fO g e hg;generalize hq:(Value.pointer (some ⟨g,0,none⟩))=p at h ⊢;cases h with
  |b8 _ _ blk o' fv k1 k2 k3 k4 =>
   have ai:blk<c.w.heap.size:=by
    obtain ⟨x,r,hx⟩:=List.exists_cons_of_ne_nil k2;exact World.block_lt_of_cell? _ _ (k3 0 x (by rw [hx]; rfl))
   refine .b8 _ _ blk o' fv (fun hb=>k1 (yw.1 hb)) k2 (fun j x hx=>?_) (fun j x hx=>yx ((k4 j x hx).mono Hk));have:=k3 j x hx;simp only [World.cell?] at this ⊢;rw [og blk ai k1];exact this
 refine (Calls.drawn (hp.2 c.bad W vs eG yz hv) fun e w' ⟨v,r,h,_⟩=>⟨v,h⟩).mono fun e w' ⟨⟨v,r,e1,e2,e3,e4⟩,hd⟩=>?_;subst e2;refine ⟨?_,grown_of e4 hd⟩;rw [e1,hr _ _ e3]
def I0 (P:Program) (f g K:Nat) (mk:List Value→Value):Prop:=∀ (n:Nat) (enc:Fin (n+1)→List Value) (cf:Fin (n+1)→Fin (n+1)→Int),(∀ i,(enc i).length=K)→(∀ i,∀ v∈enc i,v.oneCell'=true)→SWO (ltOf cf) →
 ∀ (blk cap:Nat) (d:Array (Fin (n+1))) (w:World),
 (∀ (m:Nat) (os:Array Obj) (dk:Array (Fin (n+1))),dk.size=d.size→∀ i j,Calls P g #[mk (enc i),mk (enc j)] (sortWorldK enc K w blk 0 m dk os) fun e w'=>e = .returned (.int .i64 (cf i j))∧∃ q vA,w'=grow ((sortWorldK enc K w blk 0 m dk os).drewN q) vA) →
 HoldsK enc K w blk 0 d→blk<w.heap.size→d.size<4611686018427387904 →
 Calls P f #[.slice (some ⟨blk,0,none⟩) d.size cap,.func (.func g) #[] #[]] w fun e w'=>e = .returned (.tuple #[])∧∃ d' m os,PermIn 0 d.size d d'∧SortedIn (ltOf cf) 0 d.size d'∧w'=sortWorldK enc K w blk 0 m d' os
def I1 (mk:List Value→Value) (x:DV):Prop:=∀ (bad:Nat→Prop) (w:World) (vs:List Value),x.cells.length=vs.length→(∀ (j:Nat) (c:DV) (v:Value),x.cells[j]? = some c→vs[j]? = some v→VD bad w c v)→VD bad w x (mk vs)
def Qs (vs:List Value):Value := .agg vs.toArray
def mkOne (vs:List Value):Value:=vs[0]!
theorem aaj (c:List DV):I1 Qs (.agg c):=fun bad w vs h k => .agg c _ (by have h:c.length=vs.length:=h; simpa using h) fun j x v hx hv=>k j x v hx (by simpa using hv)
theorem aak (x:DV) (hx:x.cells=[x]):I1 mkOne x:=fun bad w vs h k=>by
 rw [hx] at h k
 match vs,h with
 | [v],_=>exact k 0 x v rfl rfl
theorem BH {α:Type} [Inhabited α] (enc:α→Value) (d:Array α):putCells id 0 (flatK (fun i=>[enc i]) 1 d)=putCells enc 0 d:=by
 funext c;unfold putCells
 congr 1
 funext k x;simp only [Nat.sub_zero,size_flatK,Nat.mul_one,id];split
 ·rename_i h;rw [get_flatK _ _ _ _ (by omega)];simp [Nat.mod_one]
 ·rfl
theorem Qt {α:Type} [Inhabited α] (enc:α→Value) (w:World) (blk n:Nat) (d:Array α) (os:Array Obj):sortWorldK (fun i=>[enc i]) 1 w blk 0 n d os=sortWorld enc w blk 0 n d os:=by
 unfold sortWorldK sortWorld putRowK putRow;rw [BH]
theorem holds_one {α:Type} [Inhabited α] (enc:α→Value) (w:World) (blk:Nat) (d:Array α) (h:HoldsK (fun i=>[enc i]) 1 w blk 0 d):Holds enc w blk 0 d:=fun j hj=>by
 have:=h j (by rw [size_flatK]; omega);rw [get_flatK _ _ _ _ (by omega)] at this
 simpa [Nat.mod_one] using this
def I2 (P:Program) (f g:Nat):Prop:=∀ (n:Nat) (enc:Fin (n+1)→Value) (cf:Fin (n+1)→Fin (n+1)→Int),(∀ i,(enc i).oneCell'=true)→SWO (ltOf cf) →
 ∀ (blk cap:Nat) (d:Array (Fin (n+1))) (w:World),
 (∀ (m:Nat) (os:Array Obj) (dk:Array (Fin (n+1))),dk.size=d.size→∀ i j,Calls P g #[enc i,enc j] (sortWorld enc w blk 0 m dk os) fun e w'=>e = .returned (.int .i64 (cf i j))∧∃ q vA,w'=grow ((sortWorld enc w blk 0 m dk os).drewN q) vA) →
 Holds enc w blk 0 d→blk<w.heap.size→d.size<4611686018427387904 →
 Calls P f #[.slice (some ⟨blk,0,none⟩) d.size cap,.func (.func g) #[] #[]] w fun e w'=>e = .returned (.tuple #[])∧∃ d' m os,PermIn 0 d.size d d'∧SortedIn (ltOf cf) 0 d.size d'∧w'=sortWorld enc w blk 0 m d' os
theorem I2.w {P:Program} {f g:Nat} (h:I2 P f g):I0 P f g 1 mkOne:=fun n enc cf h1 h2 h3 blk cap d w h4 h5 h6 h7=>by
 obtain ⟨e1,rfl⟩:∃ e1:Fin (n+1)→Value,enc=fun i=>[e1 i]:=⟨fun i=>(enc i)[0]!,by
  funext i;have:=h1 i;show enc i=[(enc i)[0]!];generalize enc i=e at this ⊢
  match e,this with
  | [v],_=>rfl⟩
 have hc:=h n e1 cf (fun i=>h2 i _ (List.mem_singleton.2 rfl)) h3 blk cap d w (fun m os dk hs i j=>by
  have:=h4 m os dk hs i j;rw [Qt] at this
  exact this) (holds_one _ _ _ _ h5) h6 h7
 refine hc.mono fun e w' ⟨a,d',m,os,b1,b2,b3⟩=>⟨a,d',m,os,b1,b2,?_⟩;rw [Qt]; exact b3
theorem Qu {E:Env} {f g:FuncId} {t K:Nat} {mk:List Value→Value} {α:Type} (en:α→DV) (cmp:DV→DV→Int) (hS:I0 E.P f g K mk) (im:qu E.P f) (l:List α) (hl:l≠[]) (hlen:l.length<4611686018427387904) (hK:∀ x∈l,(en x).cells.length=K) (ho:ZU cmp (l.map en))
  (hA:∀ x∈l,I1 mk (en x)) (hc:∀ x∈l,∀ y∈l,aA E g [en x,en y] (· = .int .i64 (cmp (en x) (en y)))) :
  aC E f [.arr 0 (t,K) (l.map en)] [.own 0 0,.fn (.func g) [] []] (fun a b=>a = .aL []∧∃ l':List α,l'.Perm l∧l'.Pairwise (fun x y=>¬ cmp (en y) (en x)<0)∧b=[.arr 0 (t,K) (l'.map en)]):=by
 unfold aC;refine ⟨im,sk rfl,fun c vs h1 h2 h3=>?_⟩;obtain ⟨v1,v2,rfl⟩:∃ v1 v2,vs=[v1,v2]:=by
  have:=h3.1
  match vs,this with
  | [a,b],_=>exact ⟨a,b,rfl⟩
 have xT:=h3.2 0 _ v1 rfl rfl;have Qv:=h3.2 1 _ v2 rfl rfl;have dX:c.heap[0]? = some (.arr 0 (t,K) (l.map en)):=by rw [h1]; rfl
 obtain ⟨u1,u2,rfl,e2,e3⟩:=lP Qv;obtain rfl:u1=[]:=List.eq_nil_of_length_eq_zero (by have:=e2.1; simpa using this.symm);obtain rfl:u2=[]:=List.eq_nil_of_length_eq_zero (by have:=e3.1; simpa using this.symm);rcases oh dX xT with ⟨blk,cap,r1,rfl⟩ | ⟨sr,-,-⟩
 case inr=>exact absurd (List.map_eq_nil_iff.1 sr) hl
 obtain ⟨q0,q1,q2⟩:=h2.box 0 _ dX;rcases q2 with ⟨q2,-⟩ | ⟨lI,ki,cX,q2,q3,q4,q5,q6,q7⟩
 ·rw [r1] at q2; cases q2
 rw [r1] at q2;cases q2;simp only at q3 q4 q7;obtain ⟨n,hn⟩:∃ n,l.length=n+1:=⟨l.length - 1,by have:=List.length_pos_iff.2 hl; omega⟩
 let at_:Fin (n+1)→α:=fun i=>l[i.1]'(by have:=i.2; omega)
 have dH:∀ i:Fin (n+1),l[i.1]? = some (at_ i):=fun i=>List.getElem?_eq_getElem _;have fX:∀ i,at_ i∈l:=fun i=>List.mem_of_getElem? (dH i)
 let enc:Fin (n+1)→List Value:=fun i=>(List.range K).map fun j=>cX[i.1*K+j]!
 have I3:∀ i,(enc i).length=K:=fun i=>by simp [enc]
 have dP:∀ (i:Fin (n+1)) (j:Nat),j<K→∃ x v,(en (at_ i)).cells[j]? = some x∧cX[i.1*K+j]? = some v∧(enc i)[j]? = some v∧v.oneCell'=true∧VD c.bad c.w x v:=fun i j hj=>by
  obtain ⟨x,hx⟩:∃ x,(en (at_ i)).cells[j]? = some x:=⟨(en (at_ i)).cells[j]'(by rw [hK _ (fX i)]; exact hj),List.getElem?_eq_getElem _⟩;obtain ⟨v,a1,a2,a3⟩:=q7 i.1 j (en (at_ i)) x (by rw [List.getElem?_map,dH i]; rfl) hx;refine ⟨x,v,hx,a1,?_,a2,a3⟩;simp only [enc,List.getElem?_map,List.getElem?_range hj,Option.map_some];rw [getElem!_def,a1]
 let cf:Fin (n+1)→Fin (n+1)→Int:=fun i j=>cmp (en (at_ i)) (en (at_ j))
 have hO:SWO (ltOf cf):={
  irrefl:=fun x=>by simpa [ltOf,cf] using ho.irrefl _ (List.mem_map_of_mem (fX x))
  trans:=fun x y z h1 h2=>by
   simp only [ltOf,cf,decide_eq_true_eq] at h1 h2 ⊢;exact ho.trans _ (List.mem_map_of_mem (fX x)) _ (List.mem_map_of_mem (fX y)) _ (List.mem_map_of_mem (fX z)) h1 h2
  ntrans:=fun x y z h1 h2=>by
   simp only [ltOf,cf,decide_eq_false_iff_not] at h1 h2 ⊢
   exact ho.ntrans _ (List.mem_map_of_mem (fX x)) _ (List.mem_map_of_mem (fX y)) _ (List.mem_map_of_mem (fX z)) h1 h2 }
 let d:Array (Fin (n+1)):=(List.finRange (n+1)).toArray
 have gr:d.size=l.length:=by simp [d,hn]
 have hd:∀ i:Fin (n+1),d[i.1]? = some i:=fun i=>by simp [d]
 have Qw:∀ (i:Fin (n+1)) (j:Nat) (v:Value),(enc i)[j]? = some v→(enc i)[j]! = v:=fun i j v h=>by rw [getElem!_def,h]
 have hH:HoldsK enc K c.w blk 0 d:=by
  intro j hj;simp only [size_flatK,gr] at hj;have aal:0<K:=Nat.pos_of_ne_zero fun h=>by subst h; simp at hj
  have hi:j / K<n+1:=by rw [← hn]; exact Nat.div_lt_of_lt_mul (by rw [Nat.mul_comm]; exact hj)
  have hm:j % K<K:=Nat.mod_lt _ aal;have ej:j / K*K+j % K=j:=by rw [Nat.mul_comm]; exact Nat.div_add_mod j K
  have f1:=gv (K:=K) enc d (j / K) (j % K) hm ⟨j / K,hi⟩ (hd ⟨j / K,hi⟩);obtain ⟨x,v,b1,b2,b3,b4,b5⟩:=dP ⟨j / K,hi⟩ (j % K) hm;rw [ej,Qw _ _ _ b3] at f1;simp only [ej] at b2;refine ⟨?_,by simp [World.frozen?,q3]⟩;show _=some ((flatK enc K d)[j]!);rw [f1];exact ng q3 _ _ (by simpa using b2)
 have hblk:=(h2.bI 0 blk cap r1).1
 have iS:=hS n enc cf I3 (fun i v hv=>by
  obtain ⟨j,hj⟩:=List.getElem?_of_mem hv;have DQ:j<K:=by have:=aZ hj; rwa [I3] at this
  obtain ⟨x',v',b1,b2,b3,b4,b5⟩:=dP i j DQ;rw [b3] at hj; cases hj; exact b4) hO blk cap d c.w (fun m os dk hs i j=>by
   obtain ⟨a1,a2,a3,a4,a5,a6⟩:=Qh (enc:=enc) (K:=K) (n:=m) (d:=dk) (os:=os) q3;generalize sortWorldK enc K c.w blk 0 m dk os=W at a1 a2 a3 a4 a5 a6 ⊢;have og:∀ b,b<c.w.heap.size→¬ c.bad b→W.heap[b]? = c.w.heap[b]? := fun b hb hn=>a5 b hb (fun e=>hn (e ▸ .inr ⟨0,cap,r1⟩))
   have eZ:∀ i,VD c.bad W (en (at_ i)) (mk (enc i)):=fun i=>hA _ (fX i) c.bad W (enc i) (by rw [hK _ (fX i),I3]) (fun j x v hx hv=>by
    have hj:j<K:=by have:=aZ hx; rwa [hK _ (fX i)] at this
    obtain ⟨x',v',b1,b2,b3,b4,b5⟩:=dP i j hj;rw [b1] at hx; cases hx;rw [b3] at hv; cases hv
    exact b5.mono fun b hb hn=>⟨hn,og b hb hn⟩)
   exact aai (vs:=[mk (enc i),mk (enc j)]) h2 a4 og (hc _ (fX i) _ (fX j)) ⟨rfl,fun k x v hx hv=>by
    match k,hx,hv with
    | 0,hx,hv=>cases hx; cases hv; exact eZ i
    | 1,hx,hv=>cases hx; cases hv; exact eZ j⟩ (fun w v hv=>by cases hv; rfl)) hH hblk (by rw [gr]; exact hlen)
 rw [gr] at iS;have jK:([Value.slice (some ⟨blk,0,none⟩) (l.map en).length cap,.func (.func g) ([]:List Value).toArray ([]:List Value).toArray]:List Value).toArray = #[.slice (some ⟨blk,0,none⟩) l.length cap,.func (.func g) #[] #[]]:=by simp
 rw [jK];refine iS.mono fun e w' ⟨he,d',m,os,hp,hs,hw⟩=>?_;subst he;obtain ⟨p1,-,p3⟩:=hp;have fE:d'.size=l.length:=by rw [p1,gr]
 have aam:d'.toList.Perm (List.finRange (n+1)):=by
  have ex:∀ (a:Array (Fin (n+1))),a.size=l.length→(a.extract 0 l.length).toList=a.toList:=fun a ha=>by rw [← ha,Array.extract_size]
  rw [ex d' fE,ex d gr] at p3
  simpa [d] using p3
 have jq:(List.finRange (n+1)).map at_=l:=by
  apply List.ext_getElem?;intro i;rw [List.getElem?_map];rcases Nat.lt_or_ge i (n+1) with hi | hi
  ·have:=dH ⟨i,hi⟩;simp only at this;rw [this,List.getElem?_eq_getElem (by simpa using hi)];simp
  ·rw [List.getElem?_eq_none (by simpa using hi),List.getElem?_eq_none (by omega)]; rfl
 have nb:(d'.toList.map at_).Perm l:=by
  have:=aam.map at_
  rwa [jq] at this
 have aan:(d'.toList.map at_).Pairwise (fun x y=>¬ cmp (en y) (en x)<0):=by
  rw [List.pairwise_map];refine List.pairwise_iff_getElem.2 fun i j hi hj dA=>?_;have cO:i<d'.size:=by simpa using hi
  have dK:j<d'.size:=by simpa using hj
  have:=hs i j (Nat.zero_le _) dA (by omega);rw [getElem!_pos d' j dK,getElem!_pos d' i cO] at this
  simpa [ltOf,cf] using this
 obtain ⟨a1,a2,a3,a4,a5,a6⟩:=Qh (enc:=enc) (K:=K) (n:=m) (d:=d') (os:=os) q3;rw [← hw] at a1 a2 a3 a4 a5 a6
 let c':Cx:={ c with heap:=[.arr 0 (t,K) ((d'.toList.map at_).map en)],w:=w' }
 have cg:∀ i bx,c.heap[i]? = some bx→i=0∧bx = .arr 0 (t,K) (l.map en):=fun i bx hi=>by
  rw [h1] at hi;cases i with
  |zero=>simp at hi; exact ⟨rfl,hi.symm⟩
  |succ i=>simp at hi
 have kU:((d'.toList.map at_).map en).length=(l.map en).length:=by simp [fE]
 have aR:Step c c':=⟨rfl,h2.bD,a1,a2,a3,a4,fun b hb hn=>a5 b hb (fun e=>by subst e; exact hn 0 cap r1),fun i b n hi _=>⟨n,hi⟩,fun i bx hi=>by
  obtain ⟨rfl,rfl⟩:=cg i bx hi
  exact .inl ⟨0,_,rfl,.inr ⟨rfl,kU,rfl⟩⟩⟩
 have aK:aE E.G c':=h2.next aR (fun i b n hi=>by
   have:=h2.bI i b n hi;refine ⟨Nat.lt_of_lt_of_le this.1 a4,?_⟩;have h0:c.heap.length=1:=by rw [h1]; rfl
   show i<1;omega) h2.inj (fun i bx hi=>by
  right;cases i with
  |succ i=>simp [c'] at hi
  |zero =>
   simp [c'] at hi;subst hi;refine ⟨q0,fun i e he=>?_,.inr ⟨blk,cap,_,r1,a6,?_,?_,q6,fun i j e x he hx=>?_⟩⟩
   ·rw [← List.map_map] at he;have:=(nb.map en).mem_iff.1 (List.mem_of_getElem? he);obtain ⟨i2,pB⟩:=List.getElem?_of_mem this;exact q1 i2 e pB
   ·simp [putCells,q4]
   ·rw [← List.map_map,kU]; exact q5
   ·simp only [List.getElem?_map] at he;cases hq:d'.toList[i]? with
    |none=>rw [hq] at he; cases he
    |some y =>
     rw [hq] at he;cases he;have hi:i<l.length:=by have:=aZ hq; simpa [fE] using this
     have pa:d'[i]? = some y:=by simpa using hq
     have hx:(en (at_ y)).cells[j]? = some x:=hx;have DQ:j<K:=by have:=aZ hx; rwa [hK _ (fX y)] at this
     have f1:=gv (K:=K) enc d' i j DQ y pa;obtain ⟨x',v,b1,b2,b3,b4,b5⟩:=dP y j DQ;rw [b1] at hx; cases hx;rw [Qw _ _ _ b3] at f1;have gh:cX.size=cap*K:=q4;have sW:l.length≤cap:=by have:=q5; rwa [List.length_map] at this
     have h5:i*K+j<cX.size:=by
      have h6:(i+1)*K≤cap*K:=Nat.mul_le_mul_right K (by omega);rw [Nat.succ_mul] at h6;omega
     have h7:i*K+j<l.length*K:=by
      have h6:(i+1)*K≤l.length*K:=Nat.mul_le_mul_right K (by omega);rw [Nat.succ_mul] at h6;omega
     refine ⟨v,?_,b4,aR.vd b5⟩;simp only [putCells,Array.getElem?_mapIdx,Array.getElem?_eq_getElem h5,Option.map_some];rw [if_pos ⟨Nat.zero_le _,by rw [size_flatK,fE]; omega⟩]
     exact congrArg some f1)
 refine ⟨c',.aL [],.tuple #[],rfl,rfl,⟨rfl,_,nb,aan,rfl⟩,.aL [] #[] rfl (fun j x v hx=>by simp at hx),aK,?_⟩
 exact ⟨rfl,a1,a2,a3,a4,fun b hb hn=>a5 b hb (fun e=>by subst e; exact hn 0 cap r1),fun i b n hi _=>⟨n,hi⟩,fun i bx hi=>by
  obtain ⟨rfl,rfl⟩:=cg i bx hi
  exact .inl ⟨0,_,rfl,.inr ⟨rfl,kU,rfl⟩⟩⟩
end Go.Proofs.YtcmnpelmmekdkaaGreatDoor.P
end
