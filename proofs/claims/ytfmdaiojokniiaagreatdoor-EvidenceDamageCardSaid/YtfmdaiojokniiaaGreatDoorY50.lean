/- Several texts of mine, one behind the other. Conditions: as each says. -/
import Derived.Test.YtfmdaiojokniiaaGreatDoorY49
set_option linter.unusedVariables false
set_option linter.unusedSimpArgs false
section
namespace Go.Proofs.YtfmdaiojokniiaaGreatDoor.P
open Go Go.ax
set_option maxRecDepth 100000
set_option maxHeartbeats 4000000
def my (h:ca) (x:dS) (i:Nat) (t:Int):dP × Int:=match jZ (lB h x i) t with
 | []=>(⟨7,[],[]⟩,0)
 |p::_=>(nb p.az x.q,pr p.az x.q)
def cU (a:Int):dS:=⟨12,a,⟨[120],4⟩,uY⟩
def dB (d:Int):ca:={ gZ with bT:=d }
theorem K9 (d:Int):(dB d).Fits:=EN fun c hc=>by
 simp [gZ,cK] at hc;rcases hc with rfl | rfl
 ·exact ⟨1,rfl⟩
 ·exact ⟨2,rfl⟩
theorem La (y:Host) (l:List bz) (hy:y.name.length≤maxLen) (hl:∀ p∈l,∃ n,p.az=fD n):(⟨[y],l,cK.anchor,[1]⟩:mT).Fits:=⟨fun x hx=>by simp at hx; subst hx; exact hy,K6,by simp [maxLen],fun p hp=>by
 obtain ⟨n,e⟩:=hl p hp;rw [e]
 exact xZ n⟩
theorem Lb (a:Int):(cU a).ea:=⟨by simp [cU,maxLen],by simp [cU,uY,maxLen],fun s hs=>by
 simp [cU,uY] at hs;subst hs
 exact ⟨EM _ _ (by simp [maxLen]),by simp [mw,maxLen],by simp [mw]⟩,by simp [cU,uY,maxLen]⟩
theorem Vv {l:List Int} (h:l.Pairwise (· ≤ ·)):fh l=l:=(uQ l).eq_of_pairwise (fun _ _ _ _ p q=>Int.le_antisymm p q) (Es l) h
theorem AG (d:Int) (i:Nat) {l:List Int} (h:dK [] (lA (uR (dB d) (cU 2)) (uS (dB d) (cU 2)) (lB (dB d) (cU 2) i))=l) (hl:l.Pairwise (· ≤ ·)):lC (dB d) (cU 2) i=l:=by
 unfold lC;rw [h,Vv hl]
theorem t1:lC (dB 2) (cU 2) 0=[10]:=AG _ _ (by decide +kernel) (by decide)
theorem t2:lC (dB 2) (cU 2) 1=[10]:=AG _ _ (by decide +kernel) (by decide)
theorem t3:lC (dB 3) (cU 2) 0=[9]:=AG _ _ (by decide +kernel) (by decide)
theorem t4:lC (dB 3) (cU 2) 1=[9,10]:=AG _ _ (by decide +kernel) (by decide)
theorem Lc {ask:Nat→Int→dP × Int} {h:ca} {x:dS} {a b:Bool} (hl:h.aA.length=2) (hv:(gd h&&n0 x && !nZ x.answer)=true) (h0:gX ask h x 0=a) (h1:gX ask h x 1=b):qz ask h x=(if a then [0] else [])++if b then [1] else []:=by
 unfold qz;rw [hv,if_pos rfl,hl,show List.range 2=[0,1] from rfl];subst h0;subst h1;simp only [List.filter];cases gX ask h x 0 <;> cases gX ask h x 1 <;> rfl
theorem t5:qz (my (dB 2) (cU 2)) (dB 2) (cU 2)=[]:=Lc (a:=false) (b:=false) rfl (by decide +kernel) (by unfold gX; rw [t1]; decide +kernel) (by unfold gX; rw [t2]; decide +kernel)
theorem t6:qz (my (dB 3) (cU 2)) (dB 3) (cU 2)=[1]:=Lc (a:=false) (b:=true) rfl (by decide +kernel) (by unfold gX; rw [t3]; decide +kernel) (by unfold gX; rw [t4]; decide +kernel)
theorem t7:uT (dB 2) (cU 2)=0∧uT (dB 3) (cU 2)=0∧n0 (cU 0)=false:=by decide +kernel
theorem Vw (d:Int) (i:Nat) (y:Host) (t:Int) (hy:y=⟨[97],1,0⟩∨y=⟨[98],2,0⟩) (hz:jZ (lB (dB d) (cU 2) i) t=[]∨∃ n,(n=1∨n=2)∧jZ (lB (dB d) (cU 2) i) t=[⟨0,fD n⟩]):aq E 31 [.agg [.sl [y.enc],.sl ((jZ (lB (dB d) (cU 2) i) t).map bz.enc),.str cK.anchor.name,.int .i64 cK.anchor.type,.int .i64 cK.anchor.cD,.sl (cK.anchor.data.map Datum.enc),.sl ([1].map (.int .i64))],.int .i64 y.addr,.agg [.str [120],.int .i64 4]] (· = .aF [.agg [.int .i64 (my (dB d) (cU 2) i t).1.kind,.sl ((my (dB d) (cU 2) i t).1.ab.map Signed.enc),.str (my (dB d) (cU 2) i t).1.cut],.int .i64 (my (dB d) (cU 2) i t).2])∧(my (dB d) (cU 2) i t).1.ab.length≤2147483648∧∀ s∈(my (dB d) (cU 2) i t).1.ab,s.set.data.length≤2147483648∧s.sigs.length≤2147483648:=by
 have hn:y.name.length≤maxLen:=by rcases hy with rfl | rfl <;> simp [maxLen]
 unfold my;rcases hz with e | ⟨n,gS,e⟩
 ·rw [e];refine ⟨Vl y cK.anchor [1] ⟨[120],4⟩ (La y [] hn (by simp)) ?_ (by decide +kernel) (by simp [maxLen]),by simp,by simp⟩;rcases hy with rfl | rfl <;> decide +kernel
 ·rw [e];refine ⟨Vm y (fD n) cK.anchor [1] ⟨[120],4⟩ (La y [⟨0,fD n⟩] hn (fun p hp=>⟨n,by simp at hp; subst hp; rfl⟩)) ?_ (by decide +kernel) (by simp [maxLen]) (by rcases gS with rfl | rfl <;> decide +kernel),?_⟩
  ·rcases hy with rfl | rfl <;> rcases gS with rfl | rfl <;> decide +kernel
  ·rcases gS with rfl | rfl <;> decide +kernel
theorem Vx (d:Int) (hd:d=2∨d=3) (i:Nat) (y:Host) (t:Int) (hy:cK.aA[i]? = some y) (ht:t∈lC (dB d) (cU 2) i):(y=⟨[97],1,0⟩∨y=⟨[98],2,0⟩)∧(jZ (lB (dB d) (cU 2) i) t=[]∨∃ n,(n=1∨n=2)∧jZ (lB (dB d) (cU 2) i) t=[⟨0,fD n⟩]):=by
 rcases i with _ | _ | i
 ·refine ⟨.inl (by simpa [cK] using hy.symm),.inl ?_⟩;rcases hd with rfl | rfl
  ·rw [t1] at ht; simp at ht; subst ht; decide +kernel
  ·rw [t3] at ht; simp at ht; subst ht; decide +kernel
 ·refine ⟨.inr (by simpa [cK] using hy.symm),.inr ?_⟩;rcases hd with rfl | rfl
  ·rw [t2] at ht; simp at ht; subst ht; exact ⟨2,by decide +kernel⟩
  ·rw [t4] at ht;simp at ht;rcases ht with rfl | rfl
   ·exact ⟨1,by decide +kernel⟩
   ·exact ⟨2,by decide +kernel⟩
 ·simp [cK] at hy
theorem Ld (d:Int) (hd:d=2∨d=3):aq E 17 [(dB d).enc,(cU 2).enc] (· = .aF [.sl ((qz (my (dB d) (cU 2)) (dB d) (cU 2)).map (.int .i64)),.int .i64 (uT (dB d) (cU 2))]) :=
 Ko (dB d) (cU 2) (my (dB d) (cU 2)) (K9 d) (by simp [dB,gZ]) (Lb 2) fun i y t hy _ _ ht=>by
  obtain ⟨h1,h2⟩:=Vx d hd i y t hy ht;exact Vw d i y t h1 h2
theorem Vy:aq E 17 [gZ.enc,(cU 0).enc] (· = .aF [.sl [],.int .i64 1]):=by
 have c:=Ko gZ (cU 0) (my gZ (cU 0)) (K9 2) (by simp [gZ]) (Lb 0) fun i y t _ _ hr _=>by rw [t7.2.2] at hr; cases hr
 unfold qz uT at c
 simpa [t7.2.2] using c
theorem Le (n:Int):(fD n).mf:=⟨by simp [fD],fun s hs=>by
 simp [fD] at hs
 rcases hs with rfl | rfl <;> exact ⟨by simp [mw],by simp [mw]⟩⟩
theorem Vz:gZ.mf:=⟨by simp [gZ,cK],by simp [gZ],by simp [gZ,cK],by simp [gZ,cK],fun c hc=>by
 simp [gZ] at hc;rcases hc with rfl | rfl
 ·exact Le 1
 ·exact Le 2⟩
theorem ER:aq E 9 [] (· = .bool true):=by
 have c1:=Vp;have c2:=Ld 2 (.inl rfl);have c3:=Ld 3 (.inr rfl);have c4:=Vy;have c5:=SD gZ gZ Vz;rw [decide_eq_true rfl] at c5;have c6:=Tq [1] 1 (by simp [maxLen]);rw [t5,t7.1] at c2;rw [t6,t7.2.1] at c3;refine eP Tryz.func9 ?_;refine wm (c1) rfl ?_;refine gO Tryz.func9 ?_;refine bF Vs ?_;refine gO Tryz.func9 ?_;refine bF Vu ?_;refine gO Tryz.func9 ?_;refine ao c2 ?_;refine gO Tryz.func9 ?_;refine ao c3 ?_;refine gO Tryz.func9 ?_;refine ao c4 ?_;refine gO Tryz.func9 ?_;refine aV (by decide) ?_;refine gO Tryz.func9 ?_;refine aV (by decide) ?_;refine gO Tryz.func9 ?_;refine aV (by decide) ?_;refine gO Tryz.func9 ?_;refine aV (by decide) ?_;refine gO Tryz.func9 ?_;refine aV (by decide) ?_;refine gO Tryz.func9 ?_;refine ao c5 ?_;refine gO Tryz.func9 ?_;refine aV rfl ?_;refine gO Tryz.func9 ?_;refine aV rfl ?_;refine gO Tryz.func9 ?_;refine aV rfl ?_;refine gO Tryz.func9 ?_;refine aV rfl ?_;refine gO Tryz.func9 ?_;refine ao c6 ?_;refine gO Tryz.func9 ?_;refine aV rfl ?_;refine gO Tryz.func9 ?_;refine bF (AF eM.cw true EP EO) ?_;refine gO Tryz.func9 ?_;refine bc (of_decide_eq_true rfl) ?_;refine gO Tryz.func9 ?_;refine aB (e:=Claim.enc ⟨1,10,fD 2⟩) ⟨of_decide_eq_true rfl,rfl⟩ rfl ?_;refine gO Tryz.func9 ?_;refine aY ?_;refine gO Tryz.func9 ?_;refine bF (AF [⟨2,10,fD 2⟩] false ⟨by simp [maxLen],fun c hc=>by simp at hc; subst hc; exact xZ 2⟩ (by decide +kernel)) ?_;refine gO Tryz.func9 ?_;rfl
end Go.Proofs.YtfmdaiojokniiaaGreatDoor.P
end
section
namespace Go.Proofs.YtfmdaiojokniiaaGreatDoor.P
open Go Go.ax
set_option maxRecDepth 100000
set_option maxHeartbeats 4000000
def kb (e:fL) (cl:DV):List DV:=[.sl (e.before.aA.map Host.enc),.sl (e.before.aI.map a7.enc),.str e.before.anchor.name,.int .i64 e.before.anchor.type,.int .i64 e.before.anchor.cD,.sl (e.before.anchor.data.map Datum.enc),.sl (e.before.hints.map (.int .i64)),.int .i64 e.before.bT,.int .i64 e.before.fin,.sl (e.steps.map Step.enc),cl,.sl (e.iW.map fq.enc)]
theorem VH (e:fL) (c1:aq E 20 [.agg (kb e (.sl (e.cw.map Claim.enc)))] (· = .bool false)):aq E 15 [.agg (kb e (.sl (e.cw.map Claim.enc)))] (· = .aF [xD.enc,.int .i64 1]):=by
 refine aq.norm ?_;unfold kb at *;refine eP Tryz.func15 ?_;refine ao (c1) ?_;refine gO Tryz.func15 ?_;refine aY ?_;refine gO Tryz.func15 ?_;rfl
theorem VI (e:fL) (c1:aq E 20 [.agg (kb e (.sl (e.cw.map Claim.enc)))] (· = .bool false)):aq E 13 [.agg (kb e (.sl (e.cw.map Claim.enc)))] (· = .aF [xD.enc,.int .i64 1]):=by
 refine aq.norm ?_;unfold kb at *;refine eP Tryz.func13 ?_;refine ao (c1) ?_;refine gO Tryz.func13 ?_;refine aY ?_;refine gO Tryz.func13 ?_;rfl
theorem AH (x:fL) (E1:x.Fits) (hl:x.cw.length≤20) (c:Claim) (hc:c.host=x.before.aA.length∨c.time=x.before.fin∨(∃ q,x.cw.getLast? = some q∧(c=q∨c.time<q.time))) :
  aq E 20 [.agg (kb x (.sl ([]++x.cw.map Claim.enc++[c.enc])))] (· = .bool false)∧aq E 15 [.agg (kb x (.sl ([]++x.cw.map Claim.enc++[c.enc])))] (· = .aF [xD.enc,.int .i64 1])∧aq E 13 [.agg (kb x (.sl ([]++x.cw.map Claim.enc++[c.enc])))] (· = .aF [xD.enc,.int .i64 1]):=by
 have hb:=VG hc;have fE:mZ.Au x.before (x.cw++[c]):=by
  refine ⟨by simp [maxLen]; omega,fun k a ha=>?_⟩;rcases Nat.lt_or_ge k x.cw.length with hk | hk
  ·rw [List.getElem?_append_left hk] at ha;exact .inl (E1.cw.2 a (List.mem_of_getElem? ha))
  ·have vL:k=x.cw.length:=by have:=aT ha; simp at this; omega
   subst vL;simp at ha;subst ha;rcases hc with h | h | ⟨q,hq,rfl | h⟩
   ·exact .inr fun h1=>by omega
   ·exact .inr fun h1=>by omega
   ·exact .inl (E1.cw.2 _ (List.mem_of_getLast? hq))
   ·refine .inr fun h1=>?_;have:dU (x.cw++[c]) x.cw.length=q.time:=by
     cases cH:x.cw with
     |nil=>rw [cH] at hq; simp at hq
     |cons a l =>
      rw [cH,List.getLast?_eq_getElem?] at hq;have:(a::l++[c])[l.length]? = some q:=by rw [List.getElem?_append_left (by simp)]; simpa using hq
      show (match (if l.length+1=0 then none else (a::l++[c])[l.length+1 - 1]?) with | none=>0 | some q=>q.time)=q.time;rw [if_neg (by omega),Nat.add_sub_cancel,this]
    omega
 have c1:=J9 ⟨x.before,x.steps,x.cw++[c],x.iW⟩ E1.before E1.aI E1.steps fE (.inr hb);simp only [hb,Bool.and_false] at c1;rw [show []++x.cw.map Claim.enc++[c.enc]=(x.cw++[c]).map Claim.enc by simp];exact ⟨c1,VH ⟨x.before,x.steps,x.cw++[c],x.iW⟩ c1,VI ⟨x.before,x.steps,x.cw++[c],x.iW⟩ c1⟩
theorem Lj {l:List Claim} (h:((l.map Claim.enc).length:Int)≠0) (hl:l.length≤20):∃ q,l.getLast? = some q∧q∈l∧oO (l.map Claim.enc) (IntKind.i64.wrap (((l.map Claim.enc).length:Int) - 1)) q.enc:=by
 obtain ⟨q,hq⟩:=aD (l:=l) (k:=l.length - 1) (by simp at h; have:l.length≠0:=fun e=>h (List.eq_nil_of_length_eq_zero e); omega);refine ⟨q,by rw [List.getLast?_eq_getElem?]; exact hq,List.mem_of_getElem? hq,?_⟩;rw [List.length_map,wrap64 (by omega) (by omega),show (l.length:Int) - 1=((l.length - 1:Nat):Int) by have:=aT hq; omega];exact aN hq
theorem VJ (x:fL) (c:Claim) (kp:Int) (hx:x.Good):aq E 6 [x.enc,c.enc,.int .u8 kp] (· = .bool true):=by
 have cf:=Th x hx.2.2.1.1 hx.2.2.2.1 (VF hx);cases hf:xO x
 ·rw [hf] at cf;show aq E _ [.agg (kb x (.sl (x.cw.map Claim.enc))),_,_] _;unfold kb;refine eP Tryz.func6 ?_;refine ao (ER) ?_;refine gO Tryz.func6 ?_;refine ao (cf) ?_;refine gO Tryz.func6 ?_;refine aY ?_;refine gO Tryz.func6 ?_;refine aY ?_;refine gO Tryz.func6 ?_
  with_reducible rfl
 obtain ⟨E1,cH⟩:=VE hx hf;have cv:=Ti x E1;rw [hf] at cf;cases hv:As x
 ·rw [hv] at cv;show aq E _ [.agg (kb x (.sl (x.cw.map Claim.enc))),_,_] _;unfold kb;refine eP Tryz.func6 ?_;refine ao (ER) ?_;refine gO Tryz.func6 ?_;refine ao (cf) ?_;refine gO Tryz.func6 ?_;refine aQ ?_;refine gO Tryz.func6 ?_;refine ao (cv) ?_;refine gO Tryz.func6 ?_;refine aY ?_;refine gO Tryz.func6 ?_
  with_reducible rfl
 rw [hv] at cv;have zo:kI x.before x.cw=true:=by simp [As] at hv; exact hv.1.2
 show aq E _ [.agg (kb x (.sl (x.cw.map Claim.enc))),_,_] _;unfold kb;refine eP Tryz.func6 ?_;refine ao (ER) ?_;refine gO Tryz.func6 ?_;refine ao (cf) ?_;refine gO Tryz.func6 ?_;refine aQ ?_;refine gO Tryz.func6 ?_;refine ao (cv) ?_;refine gO Tryz.func6 ?_;refine aQ ?_;refine gO Tryz.func6 ?_;refine ah (fun w0=>?a0) (fun w0=>?b0)
 case' a0 =>
  have T:=AH x E1 cH ⟨x.before.aA.length,c.time,c.az⟩ (.inl rfl);rw [← List.length_map (f:=Host.enc)] at T;refine gO Tryz.func6 ?_
 case' b0 =>
  refine gO Tryz.func6 ?_;refine ah (fun w1=>?a1) (fun w1=>?b1)
 case' a1 =>
  have T:=AH x E1 cH ⟨c.host,x.before.fin,c.az⟩ (.inr (.inl rfl));refine gO Tryz.func6 ?_
 case' b1 =>
  refine gO Tryz.func6 ?_;refine ah (fun w2=>?a2) (fun w2=>?b2)
 case' a2 =>
  refine gO Tryz.func6 ?_;refine ah (fun w3=>?_) (fun w3=>?_)
  ·refine gO Tryz.func6 ?_
   with_reducible rfl
  obtain ⟨q,q1,q2,q3⟩:=Lj (by simpa using w3) cH;have T:=AH x E1 cH q (.inr (.inr ⟨q,q1,.inl rfl⟩));refine gO Tryz.func6 ?_;refine aB (e:=q.enc) q3 rfl ?_;refine gO Tryz.func6 ?_
 case' b2 =>
  refine gO Tryz.func6 ?_;refine ah (fun w3=>?_) (fun w3=>?_)
  ·refine gO Tryz.func6 ?_;refine aY ?_;refine gO Tryz.func6 ?_
   with_reducible rfl
  obtain ⟨q,q1,q2,q3⟩:=Lj (by simpa using w3) cH;refine gO Tryz.func6 ?_;refine aB (e:=q.enc) q3 rfl ?_;refine gO Tryz.func6 ?_;refine ah (fun w4=>?_) (fun w4=>?_)
  ·refine gO Tryz.func6 ?_
   with_reducible rfl
  have q4:0≤q.time:=by
   simp only [kI,Bool.and_eq_true] at zo;exact Li zo.2 q q2
  have q5:=(hx.2.2.1.2 q q2).2.1;have w4:q.time≠0:=by simpa using w4
  have T:=AH x E1 cH ⟨c.host,q.time - 1,c.az⟩ (.inr (.inr ⟨q,q1,.inr (by simp; omega)⟩));refine gO Tryz.func6 ?_;refine aB (e:=q.enc) q3 rfl ?_;refine gO Tryz.func6 ?_;rw [wrap64 (n:=q.time - 1) (by omega) (by unfold dQ at q5; omega)]
 all_goals
  clear w0;refine I.bH af bI 2000 (by kernel_rfl) ?_;(conv=>whnf);refine gD ?_;refine bc ⟨by simp; omega,by simp [DV.cells]⟩ ?_;refine gD ?_;refine bc ⟨by simp; omega,by simp [DV.cells]⟩ ?_;refine gD ?_;refine And.intro (by kernel_rfl) ?_;(conv=>whnf);refine I.freeze 2 ?_;(conv=>whnf);refine gO Tryz.func6 ?_;refine ao T.2.2 ?_;refine gO Tryz.func6 ?_;refine ao T.2.1 ?_;refine gO Tryz.func6 ?_;refine aY ?_;refine gO Tryz.func6 ?_;refine ao T.1 ?_;refine gO Tryz.func6 ?_;refine aV rfl ?_;refine gO Tryz.func6 ?_;refine aV rfl ?_;refine gO Tryz.func6 ?_;rfl
theorem VK (x:fL) (c:Claim) (kp:Int) (g0:x.Good) (g1:c.Good) (g2:U8 kp):aq E 6 [x.enc,c.enc,.int .u8 kp] (· = .bool true):=VJ x c kp g0
end Go.Proofs.YtfmdaiojokniiaaGreatDoor.P
end
