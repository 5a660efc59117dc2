/- Several texts of mine, one behind the other. Conditions: as each says. -/
import Derived.Test.YtfmdaiojokniiaaGreatDoorV19
import Derived.Test.YtfmdaiojokniiaaGreatDoorV20
set_option linter.unusedVariables false
set_option linter.unusedSimpArgs false
namespace Go.Proofs.YtfmdaiojokniiaaGreatDoor.P
open Go Go.aw
set_option maxRecDepth 100000
set_option maxHeartbeats 4000000
theorem Er {α:Type} {l:List α} (hn:l.Nodup) {i j:Nat} {a:α} (hi:l[i]? = some a) (hj:l[j]? = some a):i=j:=by
 obtain ⟨p1,e1⟩:=List.getElem?_eq_some_iff.1 hi;obtain ⟨p2,e2⟩:=List.getElem?_eq_some_iff.1 hj;have h:=List.pairwise_iff_getElem.1 (List.nodup_iff_pairwise_ne.1 hn);rcases Nat.lt_trichotomy i j with dj | dj | dj
 ·exact absurd (e1.trans e2.symm) (h i j p1 p2 dj)
 ·exact dj
 ·exact absurd (e2.trans e1.symm) (h j i p2 p1 dj)
theorem AD (p:cP):cW E.T (TK.struct [(0,3),(1,9)]) (cP.en p):=⟨_,rfl,rfl,⟨_,rfl,_,rfl⟩,rfl,⟨_,rfl,_,rfl⟩,trivial⟩
def bo.spot (p:bo):cP:=(p.host,p.az.ah)
theorem AE {l:List bo} {k:Nat} {x:bo} (h:l[k]? = some x):(l.take (k+1)).map bo.spot=(l.take k).map bo.spot++[x.spot]:=by
 rw [cI h,List.map_append]; rfl
theorem J1 {l:List bo} {i:Nat} {x:bo} (hx:l[i]? = some x) (h:x.spot∈(l.take i).map bo.spot):¬ (l.map bo.spot).Nodup:=fun hn=>by
 obtain ⟨y,hy,e⟩:=List.mem_map.1 h;obtain ⟨m,hm⟩:=List.getElem?_of_mem hy;rw [List.getElem?_take] at hm;split at hm
 ·rename_i ju;have h1:(l.map bo.spot)[i]? = some x.spot:=by simp [hx]
  have h2:(l.map bo.spot)[m]? = some x.spot:=by simp [hm,e]
  have:=Er hn h1 h2;omega
 ·cases hm
theorem J2 {l:List bo} {i:Nat} {x:bo} (hx:l[i]? = some x) (h:((l.take i).map bo.spot).Nodup) (hn:x.spot ∉ (l.take i).map bo.spot):((l.take (i+1)).map bo.spot).Nodup:=by
 rw [AE hx,List.nodup_append];exact ⟨h,by simp,fun a ha b hb e=>by simp at hb; subst hb; subst e; exact hn ha⟩
theorem vg {es:List (DV × DV)} (h:lR cP.en es):∀ p∈es,cW E.T (TK.struct [(0,3),(1,9)]) p.1:=fun p hp=>by
 obtain ⟨a,e⟩:=h p hp;rw [e];exact AD a
theorem J3 {α:Type} [DecidableEq α] {en:α→DV} (hk:∀ a b,dY (en a) (en b)=decide (a=b)) {b:α} {v:DV}:∀ {es:List (DV × DV)},lR en es→(bO (en b) v es).length=es.length+(if (findD (en b) es).isSome then 0 else 1)
 | [],_=>by simp [bO,findD]
 |q::es,h=>by
  obtain ⟨s,hs⟩:=h q (List.mem_cons_self ..);obtain ⟨q1,q2⟩:=q;simp only at hs;subst hs;unfold bO;simp only [hk];by_cases e:b=s
  ·subst e;simp [findD,hk]
  ·have ih:=J3 hk (b:=b) (v:=v) (es:=es) (fun r hr=>h r (List.mem_cons_of_mem _ hr));simp only [e,decide_false,Bool.false_eq_true,if_false,findD,hk,List.length_cons,ih];omega
theorem Es {α:Type} [DecidableEq α] {en:α→DV} (hk:∀ a b,dY (en a) (en b)=decide (a=b)) (l:List α):∀ k,k≤l.length→(dO en (l.take k)).length=(dv [] (l.take k)).length
 | 0,_=>rfl
 |k+1,h=>by
  obtain ⟨x,hx⟩:=aL (l:=l) (k:=k) (by omega);have ih:=Es hk l k (by omega);rw [En hx,JZ hx,J3 hk (ny hk _).1,(ve hk _ x).2,ih];by_cases hm:x∈l.take k
  ·simp [hm]
  ·simp [hm]
theorem R6 {l:List Host} {i k:Nat} {x y:Host} (hx:l[i]? = some x) (hy:l[k]? = some y) (hk:k<i) (e:y.addr=x.addr):dW l=false:=by
 have:¬ (l.map (·.addr)).Nodup:=fun hn=>by
  have h1:(l.map (·.addr))[i]? = some x.addr:=by simp [hx]
  have h2:(l.map (·.addr))[k]? = some x.addr:=by simp [hy,e]
  have:=Er hn h1 h2;omega
 simp [dW,this]
theorem R7 {l:List Int} {i:Nat} {x:Int} (h:(l.take i).Nodup) (hx:l[i]? = some x) (hn:∀ m y,m<i→l[m]? = some y→y≠x):(l.take (i+1)).Nodup:=by
 rw [cI hx,List.nodup_append];refine ⟨h,by simp,fun a ha b hb e=>?_⟩;simp at hb;subst hb; subst e;obtain ⟨m,hm⟩:=List.getElem?_of_mem ha;rw [List.getElem?_take] at hm;split at hm
 ·rename_i ju; exact hn m _ ju hm rfl
 ·cases hm
theorem J4 (l:List Host) (hn:∀ x∈l,x.name.length≤maxLen):aq E 73 [.sl (l.map Host.enc)] (· = .bool (dW l)):=by
 refine eP Tryz.func73 ?_;refine ai (fun h1=>?_) (fun h1=>?_)
 ·refine gO Tryz.func73 ?_;have:dW l=false:=by simp [dW]; simp at h1; omega
  rw [this]
 ·have hlen:l.length≤64:=by simp at h1; omega
  refine gO Tryz.func73 ?_;refine I.loop (κ:=Nat) (rg 2 5++rg 10 53) (fun k=>[(3,.d (.int .i64 k)),(2,.d (.bool false))]) (fun _=>[]) (fun k=>k≤l.length∧(l.take k).all lP=true∧((l.map (·.addr)).take k).Nodup) (fun k=>l.length - k) 0 ⟨Nat.zero_le _,rfl,by simp⟩ ?_ ?_
  ·exact sZ
  rintro i ⟨hi,aW,ew⟩ IH;refine I.head af Tryz.func73 2000 ?_;(conv=>whnf);refine ai (fun h5=>?_) (fun h5=>?_)
  ·have aj:i<l.length:=by simpa using h5
   obtain ⟨x,hx⟩:=aL aj;have eC:=hn x (List.mem_of_getElem? hx);refine gO Tryz.func73 ?_;refine aE (e:=x.enc) (aX hx) rfl ?_;refine gO Tryz.func73 ?_
   with_reducible refine ao (ey x.name eC) ?_
   refine gO Tryz.func73 ?_;cases hv:Nm.valid x.name
   ·repeat' (first | with_reducible refine cY ?_ | with_reducible refine cN ?_ | with_reducible refine ai (fun _=>?_) (fun _=>?_) | refine gA Tryz.func73 ?_ | refine gB ?_ | with_reducible rfl)
    all_goals (rw [Ek hx (by simp [lP,hv])])
   ·have gC:x.name.length≤1000:=by have:=eJ hv; omega
    repeat' (first | with_reducible refine ao (DI x.name gC) ?_ | with_reducible refine ay (DI x.name gC) ?_ | with_reducible refine cY ?_ | with_reducible refine cN ?_ | with_reducible refine ai (fun _=>?_) (fun _=>?_) | refine gA Tryz.func73 ?_ | refine gB ?_ | with_reducible rfl)
    all_goals try (rw [Ek hx (by (simp_all [lP,sX,jf] <;> omega))]; done)
    have hb:lP x=true:=by (simp_all [lP,sX,jf] <;> omega)
    refine gO Tryz.func73 ?_;refine I.loop (κ:=Nat) ([2,6]++rg 50 13) (fun k=>[(6,.d (.int .i64 k)),(2,.d (.bool false))]) (fun _=>[]) (fun k=>k≤i∧∀ m y,m<k→l[m]? = some y→y.addr≠x.addr) (fun k=>i - k) 0 ⟨Nat.zero_le _,fun m y h=>by omega⟩ ?_ ?_
    ·exact sZ
    rintro k ⟨hk,aJ⟩ py;refine I.head af Tryz.func73 2000 ?_;(conv=>whnf);refine ai (fun h6=>?_) (fun h6=>?_)
    ·have lN:k<i:=by simpa using h6
     obtain ⟨y,hy⟩:=aL (l:=l) (k:=k) (by omega);refine gO Tryz.func73 ?_;refine I.bH af bI 2000 (by kernel_rfl) ?_;(conv=>whnf);refine aE (e:=y.enc) (aX hy) rfl ?_;refine gD ?_;refine gO Tryz.func73 ?_;refine ai (fun h7=>?_) (fun h7=>?_)
     ·refine gO Tryz.func73 ?_;rw [R6 hx hy lN (by simpa using h7)]
     ·refine gO Tryz.func73 ?_;refine I.back (py (k+1) ⟨by omega,fun m z hm hz=>?_⟩ (by omega)) ?_
      ·by_cases mL:m=k
       ·subst mL; rw [hy] at hz; cases hz; simpa using h7
       ·exact aJ m z (by omega) hz
      ·exact sZ
    ·have xV:i≤k:=by simpa using h6
     refine gO Tryz.func73 ?_;refine I.back (IH (i+1) ⟨by omega,fm aW hx hb,R7 (x:=x.addr) ew (by simp [hx]) (fun m z hm hz=>?_)⟩ (by omega)) ?_
     ·simp only [List.getElem?_map,Option.map_eq_some_iff] at hz;obtain ⟨y,hy,rfl⟩:=hz;exact aJ m y (by omega) hy
     ·exact sZ
  ·have aC:l.length≤i:=by simpa using h5
   rw [List.take_of_length_le aC] at aW;rw [List.take_of_length_le (by simpa using aC)] at ew;refine gO Tryz.func73 ?_;simp [dW,aW,ew,hlen]
theorem J5 (a:cS) (l:List Int) (hf:a.Fits) (hl:l.length≤1000000):aq E 74 [a.enc,.sl (l.map (.int .i64))] (· = .bool (gJ a l)):=by
 refine eP Tryz.func74 ?_;refine I.loop (κ:=Nat) ([4,5]++rg 7 18) (fun k=>[(5,.d (.int .i64 k)),(4,.d (.bool false))]) (fun _=>[]) (fun k=>k≤l.length∧(l.take k).all jf=true) (fun k=>l.length - k) 0 ⟨Nat.zero_le _,rfl⟩ ?_ ?_
 ·exact sZ
 rintro i ⟨hi,aW⟩ IH;refine I.head af Tryz.func74 2000 ?_;(conv=>whnf);refine ai (fun h5=>?_) (fun h5=>?_)
 ·have aj:i<l.length:=by simpa using h5
  obtain ⟨x,hx⟩:=aL aj;refine gO Tryz.func74 ?_;repeat' (first | with_reducible refine aE (aX hx) rfl ?_ | with_reducible refine cY ?_ | with_reducible refine cN ?_ | with_reducible refine ai (fun _=>?_) (fun _=>?_) | refine gA Tryz.func74 ?_ | refine gB ?_ | with_reducible rfl)
  all_goals try (have bL:l.all jf=false:=eX hx (by (simp_all [jf] <;> omega)); simp [gJ,bL]; done)
  refine gO Tryz.func74 ?_;refine I.back (IH (i+1) ⟨by omega,fm aW hx (by (simp_all [jf] <;> omega))⟩ (by omega)) ?_;exact sZ
 ·have aC:l.length≤i:=by simpa using h5
  rw [List.take_of_length_le aC] at aW;refine gO Tryz.func74 ?_;repeat' (first | with_reducible refine ao (xB a hf) ?_ | with_reducible refine ay (xB a hf) ?_ | with_reducible refine cY ?_ | with_reducible refine cN ?_ | with_reducible refine ai (fun _=>?_) (fun _=>?_) | refine gA Tryz.func74 ?_ | refine gB ?_ | with_reducible rfl)
  all_goals try (simp_all [gJ]; done)
  all_goals
   rename_i e1 e2 e3 e4;have R8:a.type=6:=by simpa using e2
   have R9:a.name=[46]:=by simpa using e3
   by_cases hz:1≤l.length
   ·simp [gJ,e1,R8,R9,aW,hz];try (simp at e4; omega)
    try omega
   ·first
     |(simp [gJ,hz]; done)
     |(exfalso; simp at e4; omega)
def kO (out:List Text) (a:Text):List Text:=if a∈out then out else out.takeWhile (fun x=>decide (bu x a<0))++a::out.dropWhile (fun x=>decide (bu x a<0))
def qY (out:List Text):Prop:=out.Pairwise fun x y=>bu x y<0
def kP (l:List Text):List Text:=l.foldl kO []
theorem Sa {p:Text→Bool} {out:List Text} {k:Nat} (hk:k≤out.length) (je:∀ m x,m<k→out[m]? = some x→p x=true) (pk:∀ x,out[k]? = some x→p x=false):out.takeWhile p=out.take k∧out.dropWhile p=out.drop k:=by
 induction out generalizing k with
 |nil=>simp
 |cons y out ih =>
  cases k with
  |zero=>have:=pk y rfl; simp [this]
  |succ k =>
   have h0:=je 0 y (by omega) rfl;have:=ih (k:=k) (by simpa using hk) (fun m x hm hx=>je (m+1) x (by omega) (by simpa using hx)) (fun x hx=>pk x (by simpa using hx));simp [h0,this]
theorem Sb {out:List Text} (h:qY out) {i j:Nat} {x y:Text} (dj:i<j) (hx:out[i]? = some x) (hy:out[j]? = some y):bu x y<0:=by
 obtain ⟨p1,e1⟩:=List.getElem?_eq_some_iff.1 hx;obtain ⟨p2,e2⟩:=List.getElem?_eq_some_iff.1 hy;have:=List.pairwise_iff_getElem.1 h i j p1 p2 dj
 rwa [e1,e2] at this
theorem J6 {out:List Text} {a:Text} {k:Nat} (h:qY out) (hk:k≤out.length) (je:∀ m x,m<k→out[m]? = some x→bu x a<0) (pk:∀ x,out[k]? = some x→¬ bu x a<0) (aJ:out[k]? ≠ some a):a ∉ out∧kO out a=out.take k++a::out.drop k:=by
 have bL:a ∉ out:=fun hm=>by
  obtain ⟨m,hm⟩:=List.getElem?_of_mem hm;rcases Nat.lt_trichotomy m k with mL | rfl | mL
  ·have:=je m a mL hm;rw [nw] at this;omega
  ·exact aJ hm
  ·obtain ⟨x,hx⟩:=aL (l:=out) (k:=k) (by have:=aR hm; omega);exact pk x hx (Sb h mL hx hm)
 refine ⟨bL,?_⟩;obtain ⟨h1,h2⟩:=Sa (p:=fun x=>decide (bu x a<0)) hk (fun m x hm hx=>by simpa using je m x hm hx) (fun x hx=>by simpa using pk x hx);rw [kO,if_neg bL,h1,h2]
theorem Sc {out:List Text} (a:Text) (h:qY out):qY (kO out a):=by
 unfold kO;split
 ·exact h
 ·rename_i bL;have hs:=h;unfold qY at h ⊢;rw [← List.takeWhile_append_dropWhile (p:=fun x=>decide (bu x a<0)) (l:=out)] at h;rw [List.pairwise_append] at h;obtain ⟨h1,h2,h3⟩:=h;rw [List.pairwise_append];have je:∀ x∈out.takeWhile (fun x=>decide (bu x a<0)),bu x a<0:=fun x hx=>by simpa using D3 _ _ x hx
  have Sd:∀ x∈out.dropWhile (fun x=>decide (bu x a<0)),bu a x<0:=fun x hx=>by
   cases hd:out.dropWhile (fun x=>decide (bu x a<0)) with
   |nil=>rw [hd] at hx; simp at hx
   |cons y r =>
    rw [hd] at hx h2;have hy:¬ bu y a<0:=by
     have:=List.head?_dropWhile_not (p:=fun x=>decide (bu x a<0)) out;rw [hd] at this
     simpa using this
    have vh:bu a y<0:=by
     have e:=xI a y;rcases Int.lt_trichotomy (bu a y) 0 with q | q | q
     ·exact q
     ·have:=ow q;subst this;have iz:a∈out:=by
       rw [← List.takeWhile_append_dropWhile (p:=fun x=>decide (bu x a<0)) (l:=out),hd];simp
      exact absurd iz bL
     ·omega
    rcases List.mem_cons.1 hx with rfl | hx
    ·exact vh
    ·exact xJ vh ((List.pairwise_cons.1 h2).1 x hx)
  refine ⟨h1,List.pairwise_cons.2 ⟨Sd,h2⟩,fun x hx y hy=>?_⟩;rcases List.mem_cons.1 hy with rfl | hy
  ·exact je x hx
  ·exact h3 x hx y hy
theorem Se {out:List Text} {a x:Text}:x∈kO out a↔x∈out∨x=a:=by
 unfold kO;split
 ·rename_i h;constructor
  ·exact .inl
  ·rintro (h1 | rfl)
   ·exact h1
   ·exact h
 ·have e:=List.takeWhile_append_dropWhile (p:=fun x=>decide (bu x a<0)) (l:=out);constructor
  ·intro hx;rw [← e];simp only [List.mem_append,List.mem_cons] at hx ⊢;rcases hx with h | rfl | h
   ·exact .inl (.inl h)
   ·exact .inr rfl
   ·exact .inl (.inr h)
  ·intro hx;rw [← e] at hx;simp only [List.mem_append,List.mem_cons] at hx ⊢;rcases hx with (h | h) | rfl
   ·exact .inl h
   ·exact .inr (.inr h)
   ·exact .inr (.inl rfl)
theorem J7 (l:List Text):qY (kP l)∧∀ x,x∈kP l↔x∈l:=by
 have main:∀ (l out:List Text),qY out→qY (l.foldl kO out)∧∀ x,x∈l.foldl kO out↔x∈out∨x∈l:=by
  intro l
  induction l with
  |nil=>intro out h; exact ⟨h,by simp⟩
  |cons a l ih =>
   intro out h;have:=ih (kO out a) (Sc a h);refine ⟨this.1,fun x=>?_⟩;rw [List.foldl_cons,this.2,Se];simp [or_assoc]
 have:=main l [] List.Pairwise.nil;exact ⟨this.1,fun x=>by rw [kP,this.2]; simp⟩
theorem Sf {l:List Text} {k:Nat} {x:Text} (h:l[k]? = some x):kP (l.take (k+1))=kO (kP (l.take k)) x:=by
 rw [cI h,kP,List.foldl_append];rfl
theorem J8 (l:List Text):(kP l).length=(dv [] l).length:=by
 obtain ⟨h1,h2⟩:=J7 l;refine R2 ?_ (xU List.nodup_nil) fun x=>by rw [h2,qX]; simp
 rw [List.nodup_iff_pairwise_ne];refine h1.imp fun {a b} nZ e=>?_;subst e;rw [nw] at nZ;omega
theorem Et {A:List Text} {n:Nat} {y a:Text} (hn:n≤A.length):((A.take n++y::A.drop n).map DV.str).set ((n:Int)).toNat (.str a)=(A.take n++a::A.drop n).map DV.str:=by
 rw [Int.toNat_natCast,← List.map_set]
 congr 1
 rw [List.set_append_right _ _ (by simp; omega)];simp [Nat.min_eq_left hn]
theorem J9 {A:List Text} {n:Nat} {y z:Text} (hz:A[n - 1]? = some z) (h0:0<n):((A.take n++y::A.drop n).map DV.str).set ((n:Int)).toNat (.str z)=(A.take (n - 1)++z::A.drop (n - 1)).map DV.str:=by
 have hl:=aR hz;rw [Et (by omega)]
 congr 1
 obtain ⟨m,rfl⟩:∃ m,n=m+1:=⟨n - 1,by omega⟩;simp only [Nat.add_sub_cancel] at hz hl ⊢;rw [cI hz];obtain ⟨p,e⟩:=List.getElem?_eq_some_iff.1 hz;rw [List.drop_eq_getElem_cons p,e];simp
def lS (n:Nat) (p:bo):Bool:=decide (0≤p.host)&&decide (p.host<n)&&dE p.az
def AF (l:List bo):Nat:=(dv [] (l.map (·.az.ah))).length
def lT (n:Nat) (l:List bo):Bool:=decide (l.length≤4000)&&l.all (lS n)&&decide ((l.map bo.spot).Nodup)&&decide (AF l≤500)
def nz (w:jE):Bool:=dW w.aA&&lT w.aA.length w.da&&gJ w.anchor w.hints
theorem AG {n:Nat} {l:List bo}:lT n l=true↔l.length≤4000∧(∀ p∈l,lS n p=true)∧(l.map bo.spot).Nodup∧AF l≤500:=by
 simp only [lT,Bool.and_eq_true,decide_eq_true_eq,List.all_eq_true,and_assoc]
theorem Eu {w:jE}:nz w=true↔dW w.aA=true∧lT w.aA.length w.da=true∧gJ w.anchor w.hints=true:=by
 simp only [nz,Bool.and_eq_true,and_assoc]
def kc (x:Host):Bool := !(decide ((x.name.length:Int)>100))
def vi (a b c d:Nat):Bool:=decide (a≤20)&&decide (b≤70)&&decide (c≤20)&&decide (d≤20)
end Go.Proofs.YtfmdaiojokniiaaGreatDoor.P
