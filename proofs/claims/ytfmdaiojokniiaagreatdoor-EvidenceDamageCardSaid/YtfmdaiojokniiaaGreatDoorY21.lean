/- Several texts of mine, one behind the other. Conditions: as each says. -/
import Derived.Test.YtfmdaiojokniiaaGreatDoorY19
import Derived.Test.YtfmdaiojokniiaaGreatDoorY20
set_option linter.unusedVariables false
set_option linter.unusedSimpArgs false
namespace Go.Proofs.YtfmdaiojokniiaaGreatDoor.P
open Go Go.ax
set_option maxRecDepth 100000
set_option maxHeartbeats 4000000
theorem D2 {α:Type} {l:List α} (hn:l.Nodup) {i j:Nat} {a:α} (hi:l[i]? = some a) (hj:l[j]? = some a):i=j:=by
 obtain ⟨p1,e1⟩:=List.getElem?_eq_some_iff.1 hi;obtain ⟨p2,e2⟩:=List.getElem?_eq_some_iff.1 hj;have h:=List.pairwise_iff_getElem.1 (List.nodup_iff_pairwise_ne.1 hn);rcases Nat.lt_trichotomy i j with dm | dm | dm
 ·exact absurd (e1.trans e2.symm) (h i j p1 p2 dm)
 ·exact dm
 ·exact absurd (e2.trans e1.symm) (h j i p2 p1 dm)
theorem Af (p:cS):cW E.T (TK.struct [(0,3),(1,9)]) (cS.en p):=⟨_,rfl,rfl,⟨_,rfl,_,rfl⟩,rfl,⟨_,rfl,_,rfl⟩,trivial⟩
def bz.spot (p:bz):cS:=(p.host,p.az.aj)
theorem Rn {z:aR} (h:dI z=true):z.ab≠[]:=fun e=>by
 simp only [dI,oZ,Bool.and_eq_true] at h;simp [e,aU] at h
theorem Ag {l:List bz} {k:Nat} {x:bz} (h:l[k]? = some x):(l.take (k+1)).map bz.spot=(l.take k).map bz.spot++[x.spot]:=by
 rw [cQ h,List.map_append]; rfl
theorem D3 {l:List bz} {i:Nat} {x:bz} (hx:l[i]? = some x) (h:x.spot∈(l.take i).map bz.spot):¬ (l.map bz.spot).Nodup:=fun hn=>by
 obtain ⟨y,hy,e⟩:=List.mem_map.1 h;obtain ⟨m,hm⟩:=List.getElem?_of_mem hy;rw [List.getElem?_take] at hm;split at hm
 ·rename_i jm;have h1:(l.map bz.spot)[i]? = some x.spot:=by simp [hx]
  have h2:(l.map bz.spot)[m]? = some x.spot:=by simp [hm,e]
  have:=D2 hn h1 h2;omega
 ·cases hm
theorem D4 {l:List bz} {i:Nat} {x:bz} (hx:l[i]? = some x) (h:((l.take i).map bz.spot).Nodup) (hn:x.spot ∉ (l.take i).map bz.spot):((l.take (i+1)).map bz.spot).Nodup:=by
 rw [Ag hx,List.nodup_append];exact ⟨h,by simp,fun a ha b hb e=>by simp at hb; subst hb; subst e; exact hn ha⟩
theorem uG {es:List (DV × DV)} (h:lr cS.en es):∀ p∈es,cW E.T (TK.struct [(0,3),(1,9)]) p.1:=fun p hp=>by
 obtain ⟨a,e⟩:=h p hp;rw [e];exact Af a
theorem Jx {α:Type} [DecidableEq α] {en:α→DV} (hk:∀ a b,dY (en a) (en b)=decide (a=b)) {b:α} {v:DV}:∀ {es:List (DV × DV)},lr en es→(bM (en b) v es).length=es.length+(if (findD (en b) es).isSome then 0 else 1)
 | [],_=>by simp [bM,findD]
 |q::es,h=>by
  obtain ⟨s,hs⟩:=h q (List.mem_cons_self ..);obtain ⟨q1,q2⟩:=q;simp only at hs;subst hs;unfold bM;simp only [hk];by_cases e:b=s
  ·subst e;simp [findD,hk]
  ·have ih:=Jx hk (b:=b) (v:=v) (es:=es) (fun r hr=>h r (List.mem_cons_of_mem _ hr));simp only [e,decide_false,Bool.false_eq_true,if_false,findD,hk,List.length_cons,ih];omega
theorem D5 {α:Type} [DecidableEq α] {en:α→DV} (hk:∀ a b,dY (en a) (en b)=decide (a=b)) (l:List α):∀ k,k≤l.length→(dJ en (l.take k)).length=(dK [] (l.take k)).length
 | 0,_=>rfl
 |k+1,h=>by
  obtain ⟨x,hx⟩:=aD (l:=l) (k:=k) (by omega);have ih:=D5 hk l k (by omega);rw [DY hx,Jv hx,Jx hk (mU hk _).1,(uE hk _ x).2,ih];by_cases hm:x∈l.take k
  ·simp [hm]
  ·simp [hm]
theorem Ro {l:List Host} {i k:Nat} {x y:Host} (hx:l[i]? = some x) (hy:l[k]? = some y) (hk:k<i) (e:y.addr=x.addr):fu l=false:=by
 have:¬ (l.map (·.addr)).Nodup:=fun hn=>by
  have h1:(l.map (·.addr))[i]? = some x.addr:=by simp [hx]
  have h2:(l.map (·.addr))[k]? = some x.addr:=by simp [hy,e]
  have:=D2 hn h1 h2;omega
 simp [fu,this]
theorem Rp {l:List Int} {i:Nat} {x:Int} (h:(l.take i).Nodup) (hx:l[i]? = some x) (hn:∀ m y,m<i→l[m]? = some y→y≠x):(l.take (i+1)).Nodup:=by
 rw [cQ hx,List.nodup_append];refine ⟨h,by simp,fun a ha b hb e=>?_⟩;simp at hb;subst hb; subst e;obtain ⟨m,hm⟩:=List.getElem?_of_mem ha;rw [List.getElem?_take] at hm;split at hm
 ·rename_i jm; exact hn m _ jm hm rfl
 ·cases hm
theorem Jy (l:List Host) (hn:∀ x∈l,x.name.length≤maxLen):aq E 73 [.sl (l.map Host.enc)] (· = .bool (fu l)):=by
 refine eP Tryz.func73 ?_;refine ah (fun h1=>?_) (fun h1=>?_)
 ·refine gO Tryz.func73 ?_;have:fu l=false:=by simp [fu]; simp at h1; omega
  rw [this]
 ·have hlen:l.length≤64:=by simp at h1; omega
  refine gO Tryz.func73 ?_;refine I.loop (κ:=Nat) (rg 2 5++rg 10 53) (fun k=>[(3,.d (.int .i64 k)),(2,.d (.bool false))]) (fun _=>[]) (fun k=>k≤l.length∧(l.take k).all lq=true∧((l.map (·.addr)).take k).Nodup) (fun k=>l.length - k) 0 ⟨Nat.zero_le _,rfl,by simp⟩ ?_ ?_
  ·exact sZ
  rintro i ⟨hi,aH,dg⟩ IH;refine I.head af Tryz.func73 2000 ?_;(conv=>whnf);refine ah (fun h5=>?_) (fun h5=>?_)
  ·have ai:i<l.length:=by simpa using h5
   obtain ⟨x,hx⟩:=aD ai;have fM:=hn x (List.mem_of_getElem? hx);refine gO Tryz.func73 ?_;refine aB (e:=x.enc) (aN hx) rfl ?_;refine gO Tryz.func73 ?_
   with_reducible refine ao (dR x.name fM) ?_
   refine gO Tryz.func73 ?_;cases hv:Nm.valid x.name
   ·repeat' (first | with_reducible refine cY ?_ | with_reducible refine cN ?_ | with_reducible refine ah (fun _=>?_) (fun _=>?_) | refine gA Tryz.func73 ?_ | refine gB ?_ | with_reducible rfl)
    all_goals (rw [DU hx (by simp [lq,hv])])
   ·have gm:x.name.length≤1000:=by have:=eB hv; omega
    repeat' (first | with_reducible refine ao (zG x.name gm) ?_ | with_reducible refine au (zG x.name gm) ?_ | with_reducible refine cY ?_ | with_reducible refine cN ?_ | with_reducible refine ah (fun _=>?_) (fun _=>?_) | refine gA Tryz.func73 ?_ | refine gB ?_ | with_reducible rfl)
    all_goals try (rw [DU hx (by (simp_all [lq,sq,iX] <;> omega))]; done)
    have hb:lq x=true:=by (simp_all [lq,sq,iX] <;> omega)
    refine gO Tryz.func73 ?_;refine I.loop (κ:=Nat) ([2,6]++rg 50 13) (fun k=>[(6,.d (.int .i64 k)),(2,.d (.bool false))]) (fun _=>[]) (fun k=>k≤i∧∀ m y,m<k→l[m]? = some y→y.addr≠x.addr) (fun k=>i - k) 0 ⟨Nat.zero_le _,fun m y h=>by omega⟩ ?_ ?_
    ·exact sZ
    rintro k ⟨hk,aJ⟩ mQ;refine I.head af Tryz.func73 2000 ?_;(conv=>whnf);refine ah (fun h6=>?_) (fun h6=>?_)
    ·have jV:k<i:=by simpa using h6
     obtain ⟨y,hy⟩:=aD (l:=l) (k:=k) (by omega);refine gO Tryz.func73 ?_;refine I.bH af bI 2000 (by kernel_rfl) ?_;(conv=>whnf);refine aB (e:=y.enc) (aN hy) rfl ?_;refine gD ?_;refine gO Tryz.func73 ?_;refine ah (fun h7=>?_) (fun h7=>?_)
     ·refine gO Tryz.func73 ?_;rw [Ro hx hy jV (by simpa using h7)]
     ·refine gO Tryz.func73 ?_;refine I.back (mQ (k+1) ⟨by omega,fun m z hm hz=>?_⟩ (by omega)) ?_
      ·by_cases kC:m=k
       ·subst kC; rw [hy] at hz; cases hz; simpa using h7
       ·exact aJ m z (by omega) hz
      ·exact sZ
    ·have uH:i≤k:=by simpa using h6
     refine gO Tryz.func73 ?_;refine I.back (IH (i+1) ⟨by omega,dh aH hx hb,Rp (x:=x.addr) dg (by simp [hx]) (fun m z hm hz=>?_)⟩ (by omega)) ?_
     ·simp only [List.getElem?_map,Option.map_eq_some_iff] at hz;obtain ⟨y,hy,rfl⟩:=hz;exact aJ m y (by omega) hy
     ·exact sZ
  ·have aC:l.length≤i:=by simpa using h5
   rw [List.take_of_length_le aC] at aH;rw [List.take_of_length_le (by simpa using aC)] at dg;refine gO Tryz.func73 ?_;simp [fu,aH,dg,hlen]
theorem Jz (a:cP) (l:List Int) (hf:a.Fits) (hl:l.length≤1000000):aq E 74 [a.enc,.sl (l.map (.int .i64))] (· = .bool (iY a l)):=by
 refine eP Tryz.func74 ?_;refine I.loop (κ:=Nat) ([4,5]++rg 7 18) (fun k=>[(5,.d (.int .i64 k)),(4,.d (.bool false))]) (fun _=>[]) (fun k=>k≤l.length∧(l.take k).all iX=true) (fun k=>l.length - k) 0 ⟨Nat.zero_le _,rfl⟩ ?_ ?_
 ·exact sZ
 rintro i ⟨hi,aH⟩ IH;refine I.head af Tryz.func74 2000 ?_;(conv=>whnf);refine ah (fun h5=>?_) (fun h5=>?_)
 ·have ai:i<l.length:=by simpa using h5
  obtain ⟨x,hx⟩:=aD ai;refine gO Tryz.func74 ?_;repeat' (first | with_reducible refine aB (aN hx) rfl ?_ | with_reducible refine cY ?_ | with_reducible refine cN ?_ | with_reducible refine ah (fun _=>?_) (fun _=>?_) | refine gA Tryz.func74 ?_ | refine gB ?_ | with_reducible rfl)
  all_goals try (have bL:l.all iX=false:=cX hx (by (simp_all [iX] <;> omega)); simp [iY,bL]; done)
  refine gO Tryz.func74 ?_;refine I.back (IH (i+1) ⟨by omega,dh aH hx (by (simp_all [iX] <;> omega))⟩ (by omega)) ?_;exact sZ
 ·have aC:l.length≤i:=by simpa using h5
  rw [List.take_of_length_le aC] at aH;refine gO Tryz.func74 ?_;repeat' (first | with_reducible refine ao (uq a hf) ?_ | with_reducible refine au (uq a hf) ?_ | with_reducible refine cY ?_ | with_reducible refine cN ?_ | with_reducible refine ah (fun _=>?_) (fun _=>?_) | refine gA Tryz.func74 ?_ | refine gB ?_ | with_reducible rfl)
  all_goals try (simp_all [iY]; done)
  all_goals
   rename_i e1 e2 e3 e4;have Rq:a.type=6:=by simpa using e2
   have Rr:a.name=[46]:=by simpa using e3
   by_cases hz:1≤l.length
   ·simp [iY,e1,Rq,Rr,aH,hz];try (simp at e4; omega)
    try omega
   ·first
     |(simp [iY,hz]; done)
     |(exfalso; simp at e4; omega)
def kD (out:List Text) (a:Text):List Text:=if a∈out then out else out.takeWhile (fun x=>decide (bp x a<0))++a::out.dropWhile (fun x=>decide (bp x a<0))
def qv (out:List Text):Prop:=out.Pairwise fun x y=>bp x y<0
def kE (l:List Text):List Text:=l.foldl kD []
theorem Rs {p:Text→Bool} {out:List Text} {k:Nat} (hk:k≤out.length) (iV:∀ m x,m<k→out[m]? = some x→p x=true) (oR:∀ x,out[k]? = some x→p x=false):out.takeWhile p=out.take k∧out.dropWhile p=out.drop k:=by
 induction out generalizing k with
 |nil=>simp
 |cons y out ih =>
  cases k with
  |zero=>have:=oR y rfl; simp [this]
  |succ k =>
   have h0:=iV 0 y (by omega) rfl;have:=ih (k:=k) (by simpa using hk) (fun m x hm hx=>iV (m+1) x (by omega) (by simpa using hx)) (fun x hx=>oR x (by simpa using hx));simp [h0,this]
theorem Rt {out:List Text} (h:qv out) {i j:Nat} {x y:Text} (dm:i<j) (hx:out[i]? = some x) (hy:out[j]? = some y):bp x y<0:=by
 obtain ⟨p1,e1⟩:=List.getElem?_eq_some_iff.1 hx;obtain ⟨p2,e2⟩:=List.getElem?_eq_some_iff.1 hy;have:=List.pairwise_iff_getElem.1 h i j p1 p2 dm
 rwa [e1,e2] at this
theorem JA {out:List Text} {a:Text} {k:Nat} (h:qv out) (hk:k≤out.length) (iV:∀ m x,m<k→out[m]? = some x→bp x a<0) (oR:∀ x,out[k]? = some x→¬ bp x a<0) (aJ:out[k]? ≠ some a):a ∉ out∧kD out a=out.take k++a::out.drop k:=by
 have bL:a ∉ out:=fun hm=>by
  obtain ⟨m,hm⟩:=List.getElem?_of_mem hm;rcases Nat.lt_trichotomy m k with kC | rfl | kC
  ·have:=iV m a kC hm;rw [mR] at this;omega
  ·exact aJ hm
  ·obtain ⟨x,hx⟩:=aD (l:=out) (k:=k) (by have:=aT hm; omega);exact oR x hx (Rt h kC hx hm)
 refine ⟨bL,?_⟩;obtain ⟨h1,h2⟩:=Rs (p:=fun x=>decide (bp x a<0)) hk (fun m x hm hx=>by simpa using iV m x hm hx) (fun x hx=>by simpa using oR x hx);rw [kD,if_neg bL,h1,h2]
theorem Ru {out:List Text} (a:Text) (h:qv out):qv (kD out a):=by
 unfold kD;split
 ·exact h
 ·rename_i bL;have hs:=h;unfold qv at h ⊢;rw [← List.takeWhile_append_dropWhile (p:=fun x=>decide (bp x a<0)) (l:=out)] at h;rw [List.pairwise_append] at h;obtain ⟨h1,h2,h3⟩:=h;rw [List.pairwise_append];have iV:∀ x∈out.takeWhile (fun x=>decide (bp x a<0)),bp x a<0:=fun x hx=>by simpa using DB _ _ x hx
  have Rv:∀ x∈out.dropWhile (fun x=>decide (bp x a<0)),bp a x<0:=fun x hx=>by
   cases hd:out.dropWhile (fun x=>decide (bp x a<0)) with
   |nil=>rw [hd] at hx; simp at hx
   |cons y r =>
    rw [hd] at hx h2;have hy:¬ bp y a<0:=by
     have:=List.head?_dropWhile_not (p:=fun x=>decide (bp x a<0)) out;rw [hd] at this
     simpa using this
    have uI:bp a y<0:=by
     have e:=xh a y;rcases Int.lt_trichotomy (bp a y) 0 with q | q | q
     ·exact q
     ·have:=nT q;subst this;have CQ:a∈out:=by
       rw [← List.takeWhile_append_dropWhile (p:=fun x=>decide (bp x a<0)) (l:=out),hd];simp
      exact absurd CQ bL
     ·omega
    rcases List.mem_cons.1 hx with rfl | hx
    ·exact uI
    ·exact xi uI ((List.pairwise_cons.1 h2).1 x hx)
  refine ⟨h1,List.pairwise_cons.2 ⟨Rv,h2⟩,fun x hx y hy=>?_⟩;rcases List.mem_cons.1 hy with rfl | hy
  ·exact iV x hx
  ·exact h3 x hx y hy
theorem Rw {out:List Text} {a x:Text}:x∈kD out a↔x∈out∨x=a:=by
 unfold kD;split
 ·rename_i h;constructor
  ·exact .inl
  ·rintro (h1 | rfl)
   ·exact h1
   ·exact h
 ·have e:=List.takeWhile_append_dropWhile (p:=fun x=>decide (bp x a<0)) (l:=out);constructor
  ·intro hx;rw [← e];simp only [List.mem_append,List.mem_cons] at hx ⊢;rcases hx with h | rfl | h
   ·exact .inl (.inl h)
   ·exact .inr rfl
   ·exact .inl (.inr h)
  ·intro hx;rw [← e] at hx;simp only [List.mem_append,List.mem_cons] at hx ⊢;rcases hx with (h | h) | rfl
   ·exact .inl h
   ·exact .inr (.inr h)
   ·exact .inr (.inl rfl)
theorem JB (l:List Text):qv (kE l)∧∀ x,x∈kE l↔x∈l:=by
 have main:∀ (l out:List Text),qv out→qv (l.foldl kD out)∧∀ x,x∈l.foldl kD out↔x∈out∨x∈l:=by
  intro l
  induction l with
  |nil=>intro out h; exact ⟨h,by simp⟩
  |cons a l ih =>
   intro out h;have:=ih (kD out a) (Ru a h);refine ⟨this.1,fun x=>?_⟩;rw [List.foldl_cons,this.2,Rw];simp [or_assoc]
 have:=main l [] List.Pairwise.nil;exact ⟨this.1,fun x=>by rw [kE,this.2]; simp⟩
theorem Rx {l:List Text} {k:Nat} {x:Text} (h:l[k]? = some x):kE (l.take (k+1))=kD (kE (l.take k)) x:=by
 rw [cQ h,kE,List.foldl_append];rfl
theorem JC (l:List Text):(kE l).length=(dK [] l).length:=by
 obtain ⟨h1,h2⟩:=JB l;refine Rj ?_ (DZ List.nodup_nil) fun x=>by rw [h2,xu]; simp
 rw [List.nodup_iff_pairwise_ne];refine h1.imp fun {a b} tq e=>?_;subst e;rw [mR] at tq;omega
theorem D6 {A:List Text} {n:Nat} {y a:Text} (hn:n≤A.length):((A.take n++y::A.drop n).map DV.str).set ((n:Int)).toNat (.str a)=(A.take n++a::A.drop n).map DV.str:=by
 rw [Int.toNat_natCast,← List.map_set]
 congr 1
 rw [List.set_append_right _ _ (by simp; omega)];simp [Nat.min_eq_left hn]
theorem JD {A:List Text} {n:Nat} {y z:Text} (hz:A[n - 1]? = some z) (h0:0<n):((A.take n++y::A.drop n).map DV.str).set ((n:Int)).toNat (.str z)=(A.take (n - 1)++z::A.drop (n - 1)).map DV.str:=by
 have hl:=aT hz;rw [D6 (by omega)]
 congr 1
 obtain ⟨m,rfl⟩:∃ m,n=m+1:=⟨n - 1,by omega⟩;simp only [Nat.add_sub_cancel] at hz hl ⊢;rw [cQ hz];obtain ⟨p,e⟩:=List.getElem?_eq_some_iff.1 hz;rw [List.drop_eq_getElem_cons p,e];simp
def qw (n:Nat) (p:bz):Bool:=decide (0≤p.host)&&decide (p.host<n)&&dI p.az
def JE (l:List bz):Nat:=(dK [] (l.map (·.az.aj))).length
def qx (n:Nat) (l:List bz):Bool:=decide (l.length≤4000)&&l.all (qw n)&&decide ((l.map bz.spot).Nodup)&&decide (JE l≤500)
def Ah (w:mT):Bool:=fu w.aA&&qx w.aA.length w.jw&&iY w.anchor w.hints
def jX (x:Host):Bool := !(decide ((x.name.length:Int)>100))
def uJ (a b c d:Nat):Bool:=decide (a≤20)&&decide (b≤70)&&decide (c≤20)&&decide (d≤20)
end Go.Proofs.YtfmdaiojokniiaaGreatDoor.P
