/- Several texts of mine, one behind the other. Conditions: as each says. -/
import Derived.Test.YtfmdaiojokniiaaGreatDoorV42
set_option linter.unusedVariables false
set_option linter.unusedSimpArgs false
namespace Go.Proofs.YtfmdaiojokniiaaGreatDoor.P
open Go Go.aw Go.Sort
set_option maxRecDepth 100000
set_option maxHeartbeats 400000
def kV (t:Int) (c:aS):Bool:=decide (c.bM≤t)&&decide (t<c.upto)
def eD (l:List aS) (t:Int):List bo:=(l.filter (kV t)).map fun c=>⟨0,c.az⟩
def kh (h:bJ) (x:dF):Int:=max (x.time - h.bS) 0
def pP (h:bJ) (x:dF):Int:=min (x.time+h.bS+1) h.fin
def eS (h:bJ) (x:dF) (i:Nat):List aS:=h.aB.filter (fC i x.q.name)
def jl (h:bJ) (x:dF) (i:Nat):List Int:=fu (dv [] (kU (kh h x) (pP h x) (eS h x i)))
def gu (ask:Nat→Int→dC × Int) (h:bJ) (x:dF) (i:Nat):Bool:=(jl h x i).any fun t=>(ask i t).2==0&&decide ((ask i t).1=x.answer)
def nG (h:bJ) (x:dF):Int:=if dg h&&jk x then 0 else 1
def kW (ask:Nat→Int→dC × Int) (h:bJ) (x:dF):List Int:=if dg h&&jk x && !lX x.answer then ((List.range h.aA.length).filter (gu ask h x)).map fun (i:Nat)=>(i:Int) else []
theorem T5 {h:bJ} {x:dF} {i:Nat}:(eS h x i).length≤h.aB.length:=List.length_filter_le ..
theorem EV {f u t:Int} {K:List Int}:(kT f u K t).length≤K.length+1:=by
 unfold kT;split <;> simp
theorem KK {f u:Int}:∀ {l:List aS} {K:List Int},(l.foldl (s8 f u) K).length≤K.length+2*l.length
 | [],_=>by simp
 |c::l,K=>by
  rw [List.foldl_cons,List.length_cons];have h1:=KK (f:=f) (u:=u) (l:=l) (K:=s8 f u K c);have h2:=EV (f:=f) (u:=u) (t:=c.upto) (K:=kT f u K c.bM);have h3:=EV (f:=f) (u:=u) (t:=c.bM) (K:=K);unfold s8 at h1 ⊢;omega
theorem T6 {f u:Int} {l:List aS}:(kU f u l).length≤1+2*l.length:=by
 have h1:=KK (f:=f) (u:=u) (l:=l) (K:=kT f u [] f);have h2:=EV (f:=f) (u:=u) (t:=f) (K:=[]);unfold kU;simp at h2;omega
theorem T7 {a b:List Int} (h:a.Perm b):fu a=fu b:=by
 have h1:=ET a;have h2:=ET b;have h3:(fu a).Perm (fu b):=(s7 a).trans (h.trans (s7 b).symm);exact h3.eq_of_pairwise (fun x y _ _ p q=>Int.le_antisymm p q) h1 h2
theorem T8 {t:Int} {L:List aS} {m:Nat} {c:aS} (h:L[m]? = some c):eD (L.take (m+1)) t=eD (L.take m) t++(if kV t c then [⟨0,c.az⟩] else []):=by
 rw [eD,cI h,List.filter_append,List.map_append];cases e:kV t c <;> simp [e,eD]
theorem EW (h:bJ) (x:dF) (ask:Nat→Int→dC × Int) (hf:h.Fits) (cR:h.aB.length≤1000000) (jC:x.ep)
  (T9:∀ (i:Nat) (y:Host) (t:Int),h.aA[i]? = some y→dg h=true→jk x=true→t∈jl h x i→aq E 31 [.agg [.sl [y.enc],.sl ((eD (eS h x i) t).map bo.enc),.str h.anchor.name,.int .i64 h.anchor.type,.int .i64 h.anchor.cD,.sl (h.anchor.data.map Datum.enc),.sl (h.hints.map (.int .i64))],.int .i64 y.addr,.agg [.str x.q.name,.int .i64 x.q.type]] (· = .aD [.agg [.int .i64 (ask i t).1.kind,.sl ((ask i t).1.ab.map Signed.enc),.str (ask i t).1.cut],.int .i64 (ask i t).2])∧(ask i t).1.ab.length≤2147483648∧∀ s∈(ask i t).1.ab,s.set.data.length≤2147483648∧s.sigs.length≤2147483648) :
  aq E 17 [h.enc,x.enc] (· = .aD [.sl ((kW ask h x).map (.int .i64)),.int .i64 (nG h x)]):=by
 refine aq.norm ?_;have c1:=Ex h hf cR;have c2:=TJ x jC;have c3:=Kx x.answer;unfold kW nG;cases ob:dg h
 ·rw [ob] at c1;refine eP Tryz.func17 ?_;refine ao (c1) ?_;refine gO Tryz.func17 ?_;refine aV ?_;refine gO Tryz.func17 ?_;refine aV ?_;refine gO Tryz.func17 ?_;rfl
 cases lQ:jk x
 ·rw [ob] at c1;rw [lQ] at c2;refine eP Tryz.func17 ?_;refine ao (c1) ?_;refine gO Tryz.func17 ?_;refine aQ ?_;refine gO Tryz.func17 ?_;refine ao (c2) ?_;refine gO Tryz.func17 ?_;refine aV ?_;refine gO Tryz.func17 ?_;rfl
 rw [ob] at c1;rw [lQ] at c2;cases KL:lX x.answer
 case true =>
  rw [KL] at c3;refine eP Tryz.func17 ?_;refine ao (c1) ?_;refine gO Tryz.func17 ?_;refine aQ ?_;refine gO Tryz.func17 ?_;refine ao (c2) ?_;refine gO Tryz.func17 ?_;refine aQ ?_;refine gO Tryz.func17 ?_;refine ao (c3) ?_;refine gO Tryz.func17 ?_;refine aV ?_;refine gO Tryz.func17 ?_;rfl
 rw [KL] at c3;have ht:0≤x.time∧x.time≤10000000:=by simp [jk] at lQ; omega
 have hd:0≤h.bS∧h.bS≤1000:=by simp [dg] at ob; omega
 have xE:h.aA.length≤1000000:=by simp [dg,dW] at ob; omega
 have hq:gr x.q=true:=by simp [jk] at lQ; exact lQ.1.1.1.1.1
 have T':∀ c∈h.aB,c.az.ah.length≤maxLen:=fun c hc=>(hf.da c hc).ah;rw [if_pos (by rfl),if_pos (by rfl)];refine eP Tryz.func17 ?_;refine ao (c1) ?_;refine gO Tryz.func17 ?_;refine aQ ?_;refine gO Tryz.func17 ?_;refine ao (c2) ?_;refine gO Tryz.func17 ?_;refine aQ ?_;refine gO Tryz.func17 ?_;refine ao (c3) ?_;refine gO Tryz.func17 ?_;refine aQ ?_;refine gO Tryz.func17 ?_;refine I.mB 2 0 (3,1) (by decide) rfl rfl ?_;generalize hQ:(tL fun r=>norm r=DV.aD [DV.sl ((((List.range h.aA.length).filter (gu ask h x)).map fun (i:Nat)=>(i:Int)).map (DV.int .i64)),DV.int .i64 0])=Q;refine gO Tryz.func17 ?_;refine I.TQ (R:=⟨0,Q,[],⟨17,none,[],[],[],[]⟩⟩) (κ:=Nat) [7,8,9,10,25,26,27,28,29,30,31,33,34,35,36,37,38,39,40,41,42,43,44,45,46,47,48,49,50,51,52,53,54,55,56,57,58] (fun k=>[(25,.d (.int .i64 k))]) (fun k=>[(2,.cells [.own 3 1]),(3,.arr 1 (3,1) ((((List.range k).filter (gu ask h x)).map fun (i:Nat)=>(i:Int)).map (.int .i64)))]) (fun k=>k≤h.aA.length) (fun k=>h.aA.length - k) 0 [] [] (Nat.zero_le _) ?_ ?_
 ·(conv=>whnf);repeat (first | exact trivial | (refine sI ?_; conv=>whnf))
  refine And.intro rfl ?_;exact sZ
 intro k ds hk IH;refine I.head af Tryz.func17 2000 ?_;(conv=>whnf);refine ai (fun h5=>?_) (fun h5=>?_)
 ·have aj:k<h.aA.length:=by simpa using h5
  obtain ⟨y,hy⟩:=aL aj;have c4:=T4 h k x y hy cR T' jC.1 ht hd (kh h x) (pP h x) rfl rfl;obtain ⟨Z,hZ⟩:∃ Z,dv [] (kU (kh h x) (pP h x) (h.aB.filter (fC k x.q.name)))=Z:=⟨_,rfl⟩;have hT:jl h x k=fu Z:=by rw [jl,eS,hZ]
  have XK:Z.Nodup:=by rw [← hZ]; exact xU List.nodup_nil
  have gP:Z.length≤2000000000:=by
   have h1:=AA (acc:=[]) (l:=kU (kh h x) (pP h x) (h.aB.filter (fC k x.q.name)));have h2:=T6 (f:=kh h x) (u:=pP h x) (l:=h.aB.filter (fC k x.q.name));have h3:(h.aB.filter (fC k x.q.name)).length≤h.aB.length:=List.length_filter_le ..;rw [hZ] at h1;simp at h1;omega
  have hL:eS h x k=h.aB.filter (fC k x.q.name):=rfl;obtain ⟨es,EX⟩:∃ es,(Z.map fun a=>(DV.int .i64 a,DV.bool true))=es:=⟨_,rfl⟩;rw [TR J0,hZ,EX,← hL] at c4;have XL:=T5 (h:=h) (x:=x) (i:=k);have Ua:=fun t=>T9 k y t hy ob lQ;generalize eS h x k=L at *;refine gO Tryz.func17 ?_;refine GS (ds:=[h.enc,.int .i64 k,x.enc]) c4 ?_;rintro r b ⟨rfl,rfl⟩;refine gO Tryz.func17 ?_;refine I.rangeFunc (aP rfl) Tryz.func108 rfl (by decide) rfl (fun ll d t=>?_);refine gO Tryz.func108 ?_
  with_reducible refine bD (T2 es) ?_
  (conv=>whnf);repeat ((fail_if_success (first | (refine I.kJ (fn:=Tryz.f109) rfl rfl kG (lG (aP rfl)) Tryz.func109 rfl (by decide) ?_) | fail)); (refine I.run af Tryz.func108 1 ?_); (conv=>whnf))
  refine I.kJ (fn:=Tryz.f109) rfl rfl kG (lG (aP rfl)) Tryz.func109 rfl (by decide) ?_;(conv=>whnf);conv =>
   arg 3
   try whnf
   try conv=>arg 1; whnf
   try conv=>arg 2; whnf
   try conv=>arg 3; whnf
   try conv=>arg 3; arg 2; whnf
   try conv=>arg 4; whnf
   try conv=>arg 4; arg 1; whnf
   try conv=>arg 4; arg 2; whnf
   try conv=>arg 4; arg 3; whnf
   try conv=>arg 4; arg 4; whnf
   try conv=>arg 4; arg 4; arg 2; whnf
   try conv=>arg 4; arg 4; arg 1; arg 1; whnf
   try conv=>arg 4; arg 4; arg 1; arg 1; arg 2; whnf
   try conv=>arg 4; arg 4; arg 1; arg 1; arg 3; whnf
   try conv=>arg 4; arg 4; arg 1; arg 1; arg 3; arg 2; whnf
   try conv=>arg 4; arg 5; whnf
   try conv=>arg 4; arg 5; arg 2; whnf
   try conv=>arg 4; arg 6; whnf
  (conv=>whnf);repeat ((fail_if_success (first | (refine I.kJ (fn:=Tryz.f181) rfl rfl kG (lG (aP rfl)) Tryz.func181 rfl (by decide) ?_) | fail)); (refine I.run af Tryz.func109 1 ?_); (conv=>whnf))
  refine I.kJ (fn:=Tryz.f181) rfl rfl kG (lG (aP rfl)) Tryz.func181 rfl (by decide) ?_;(conv=>whnf);conv =>
   arg 3
   try whnf
   try conv=>arg 1; whnf
   try conv=>arg 2; whnf
   try conv=>arg 3; whnf
   try conv=>arg 3; arg 2; whnf
   try conv=>arg 4; whnf
   try conv=>arg 4; arg 1; whnf
   try conv=>arg 4; arg 2; whnf
   try conv=>arg 4; arg 3; whnf
   try conv=>arg 4; arg 4; whnf
   try conv=>arg 4; arg 4; arg 2; whnf
   try conv=>arg 4; arg 4; arg 1; arg 1; whnf
   try conv=>arg 4; arg 4; arg 1; arg 1; arg 2; whnf
   try conv=>arg 4; arg 4; arg 1; arg 1; arg 3; whnf
   try conv=>arg 4; arg 4; arg 1; arg 1; arg 3; arg 2; whnf
   try conv=>arg 4; arg 5; whnf
   try conv=>arg 4; arg 5; arg 2; whnf
   try conv=>arg 4; arg 6; whnf
  (conv=>whnf);repeat ((fail_if_success (first | (refine I.kJ (fn:=Tryz.f260) rfl rfl kG (kH KI (aP rfl)) Tryz.func260 rfl (by decide) ?_) | fail)); (refine I.run af Tryz.func181 1 ?_); (conv=>whnf))
  refine I.kJ (fn:=Tryz.f260) rfl rfl kG (kH KI (aP rfl)) Tryz.func260 rfl (by decide) ?_;(conv=>whnf);conv =>
   arg 3
   try whnf
   try conv=>arg 1; whnf
   try conv=>arg 2; whnf
   try conv=>arg 3; whnf
   try conv=>arg 3; arg 2; whnf
   try conv=>arg 4; whnf
   try conv=>arg 4; arg 1; whnf
   try conv=>arg 4; arg 2; whnf
   try conv=>arg 4; arg 3; whnf
   try conv=>arg 4; arg 4; whnf
   try conv=>arg 4; arg 4; arg 2; whnf
   try conv=>arg 4; arg 4; arg 1; arg 1; whnf
   try conv=>arg 4; arg 4; arg 1; arg 1; arg 2; whnf
   try conv=>arg 4; arg 4; arg 1; arg 1; arg 3; whnf
   try conv=>arg 4; arg 4; arg 1; arg 1; arg 3; arg 2; whnf
   try conv=>arg 4; arg 5; whnf
   try conv=>arg 4; arg 5; arg 2; whnf
   try conv=>arg 4; arg 6; whnf
  (conv=>whnf);(conv=>whnf);repeat ((fail_if_success (first | (refine I.mB 16 0 (3,1) (by decide) rfl rfl ?_) | fail)); (refine I.run af Tryz.func260 1 ?_); (conv=>whnf))
  refine I.mB 16 0 (3,1) (by decide) rfl rfl ?_;(conv=>whnf);(conv=>whnf);repeat ((fail_if_success (first | (refine I.rangeFunc (aP rfl) Tryz.func183 rfl (by decide) rfl (fun ll d t=>?_)) | fail)); (refine I.run af Tryz.func260 1 ?_); (conv=>whnf))
  refine I.rangeFunc (aP rfl) Tryz.func183 rfl (by decide) rfl (fun ll d t=>?_);(conv=>whnf);conv =>
   arg 3
   try whnf
   try conv=>arg 1; whnf
   try conv=>arg 2; whnf
   try conv=>arg 3; whnf
   try conv=>arg 3; arg 2; whnf
   try conv=>arg 4; whnf
   try conv=>arg 4; arg 1; whnf
   try conv=>arg 4; arg 2; whnf
   try conv=>arg 4; arg 3; whnf
   try conv=>arg 4; arg 4; whnf
   try conv=>arg 4; arg 4; arg 2; whnf
   try conv=>arg 4; arg 4; arg 1; arg 1; whnf
   try conv=>arg 4; arg 4; arg 1; arg 1; arg 2; whnf
   try conv=>arg 4; arg 4; arg 1; arg 1; arg 3; whnf
   try conv=>arg 4; arg 4; arg 1; arg 1; arg 3; arg 2; whnf
   try conv=>arg 4; arg 5; whnf
   try conv=>arg 4; arg 5; arg 2; whnf
   try conv=>arg 4; arg 6; whnf
  (conv=>whnf);repeat ((fail_if_success (first | (refine I.range af rfl rfl rfl rfl (aP rfl) rfl (Nat.zero_le _) (fun it qB kx qI=>?_)) | fail)); (refine I.run af Tryz.func183 1 ?_); (conv=>whnf))
  refine I.range af rfl rfl rfl rfl (aP rfl) rfl (Nat.zero_le _) (fun it qB kx qI=>?_);(conv=>whnf);obtain ⟨bm,r,en,ck,since,seen,db⟩:=it;simp only at qB kx qI;subst qB; subst kx;conv =>
   arg 3
   try whnf
   try conv=>arg 1; whnf
   try conv=>arg 2; whnf
   try conv=>arg 3; whnf
   try conv=>arg 3; arg 2; whnf
   try conv=>arg 4; whnf
   try conv=>arg 4; arg 1; whnf
   try conv=>arg 4; arg 2; whnf
   try conv=>arg 4; arg 3; whnf
   try conv=>arg 4; arg 4; whnf
   try conv=>arg 4; arg 4; arg 2; whnf
   try conv=>arg 4; arg 4; arg 1; arg 1; whnf
   try conv=>arg 4; arg 4; arg 1; arg 1; arg 2; whnf
   try conv=>arg 4; arg 4; arg 1; arg 1; arg 3; whnf
   try conv=>arg 4; arg 4; arg 1; arg 1; arg 3; arg 2; whnf
   try conv=>arg 4; arg 5; whnf
   try conv=>arg 4; arg 5; arg 2; whnf
   try conv=>arg 4; arg 6; whnf
  refine gO Tryz.func183 ?_;refine I.Dz (κ:=List Nat) ([1,4]++[3,6,7,8,9,10,11,12,13]) (fun _=>[]) (fun x=>[(13,.gone),(15,.gone),(16,.cells [.own 17 1]),(17,.arr 1 (3,1) ((kg Z x).map (.int .i64)))]) (fun x=>[.iter ⟨bm,r,en,ck,since,x,db⟩]) (fun x=>x.Nodup∧∀ j∈x,j<Z.length) (fun x=>Z.length - x.length) [] ⟨List.nodup_nil,fun j hj=>by cases hj⟩ rfl ?_ ?_
  ·(conv=>whnf);repeat (first | exact trivial | (rw [fW]; conv=>whnf) | (refine sI ?_; conv=>whnf))
   refine And.intro rfl ?_;(conv=>whnf);repeat (first | exact trivial | (rw [fW]; conv=>whnf) | (refine sI ?_; conv=>whnf))
  rintro seen ⟨sR,EY⟩ JH;have oF:=TS (xs:=Z) (seen:=seen);have XM:=KF sR EY;refine I.head af Tryz.func183 2000 ?_;(conv=>whnf);refine I.next (it:=⟨bm,r,en,ck,since,seen,db⟩) (g1:=[]) (g2:=[]) rfl rfl qI rfl (aP rfl) (fun aW=>?_) (fun j kk y hj jw=>?_)
  ·refine gO Tryz.func183 ?_;refine aQ ?_;refine gO Tryz.func183 ?_;refine I.iD af Tryz.func183 rfl rfl rfl rfl (fun e=>nomatch e) ?_;(conv=>whnf);conv =>
    arg 3
    try whnf
    try conv=>arg 1; whnf
    try conv=>arg 2; whnf
    try conv=>arg 3; whnf
    try conv=>arg 3; arg 2; whnf
    try conv=>arg 4; whnf
    try conv=>arg 4; arg 1; whnf
    try conv=>arg 4; arg 2; whnf
    try conv=>arg 4; arg 3; whnf
    try conv=>arg 4; arg 4; whnf
    try conv=>arg 4; arg 4; arg 2; whnf
    try conv=>arg 4; arg 4; arg 1; arg 1; whnf
    try conv=>arg 4; arg 4; arg 1; arg 1; arg 2; whnf
    try conv=>arg 4; arg 4; arg 1; arg 1; arg 3; whnf
    try conv=>arg 4; arg 4; arg 1; arg 1; arg 3; arg 2; whnf
    try conv=>arg 4; arg 5; whnf
    try conv=>arg 4; arg 5; arg 2; whnf
    try conv=>arg 4; arg 6; whnf
   have mM:(kg Z seen).Perm Z:=TU sR EY fun j hj=>aW j (by rw [← EX]; simpa using hj);have Ez:fu (kg Z seen)=fu Z:=T7 mM;have XN:(kg Z seen).length≤2000000000:=by rw [mM.length_eq]; exact gP
   have c5:=T0 (kg Z seen) (by omega);rw [Ez,← hT] at c5;have AB:(jl h x k).length≤2000000000:=by rw [hT,(s7 Z).length_eq]; exact gP
   (conv=>whnf);repeat ((fail_if_success (first | (refine I.lI af Tryz.func260 rfl rfl rfl rfl ?_) | fail)); (refine I.run af Tryz.func260 1 ?_); (conv=>whnf))
   refine I.lI af Tryz.func260 rfl rfl rfl rfl ?_;(conv=>whnf);(conv=>whnf);conv =>
    arg 3
    try whnf
    try conv=>arg 1; whnf
    try conv=>arg 2; whnf
    try conv=>arg 3; whnf
    try conv=>arg 3; arg 2; whnf
    try conv=>arg 4; whnf
    try conv=>arg 4; arg 1; whnf
    try conv=>arg 4; arg 2; whnf
    try conv=>arg 4; arg 3; whnf
    try conv=>arg 4; arg 4; whnf
    try conv=>arg 4; arg 4; arg 2; whnf
    try conv=>arg 4; arg 4; arg 1; arg 1; whnf
    try conv=>arg 4; arg 4; arg 1; arg 1; arg 2; whnf
    try conv=>arg 4; arg 4; arg 1; arg 1; arg 3; whnf
    try conv=>arg 4; arg 4; arg 1; arg 1; arg 3; arg 2; whnf
    try conv=>arg 4; arg 5; whnf
    try conv=>arg 4; arg 5; arg 2; whnf
    try conv=>arg 4; arg 6; whnf
   (conv=>whnf);repeat ((fail_if_success (first | (refine I.lI af Tryz.func181 rfl rfl rfl rfl ?_) | fail)); (refine I.run af Tryz.func181 1 ?_); (conv=>whnf))
   refine I.lI af Tryz.func181 rfl rfl rfl rfl ?_;(conv=>whnf);(conv=>whnf);conv =>
    arg 3
    try whnf
    try conv=>arg 1; whnf
    try conv=>arg 2; whnf
    try conv=>arg 3; whnf
    try conv=>arg 3; arg 2; whnf
    try conv=>arg 4; whnf
    try conv=>arg 4; arg 1; whnf
    try conv=>arg 4; arg 2; whnf
    try conv=>arg 4; arg 3; whnf
    try conv=>arg 4; arg 4; whnf
    try conv=>arg 4; arg 4; arg 2; whnf
    try conv=>arg 4; arg 4; arg 1; arg 1; whnf
    try conv=>arg 4; arg 4; arg 1; arg 1; arg 2; whnf
    try conv=>arg 4; arg 4; arg 1; arg 1; arg 3; whnf
    try conv=>arg 4; arg 4; arg 1; arg 1; arg 3; arg 2; whnf
    try conv=>arg 4; arg 5; whnf
    try conv=>arg 4; arg 5; arg 2; whnf
    try conv=>arg 4; arg 6; whnf
   refine gO Tryz.func109 ?_
   with_reducible refine bD c5 ?_
   (conv=>whnf);(conv=>whnf);repeat ((fail_if_success (first | (refine I.lI af Tryz.func109 rfl rfl rfl rfl ?_) | fail)); (refine I.run af Tryz.func109 1 ?_); (conv=>whnf))
   refine I.lI af Tryz.func109 rfl rfl rfl rfl ?_;(conv=>whnf);(conv=>whnf);conv =>
    arg 3
    try whnf
    try conv=>arg 1; whnf
    try conv=>arg 2; whnf
    try conv=>arg 3; whnf
    try conv=>arg 3; arg 2; whnf
    try conv=>arg 4; whnf
    try conv=>arg 4; arg 1; whnf
    try conv=>arg 4; arg 2; whnf
    try conv=>arg 4; arg 3; whnf
    try conv=>arg 4; arg 4; whnf
    try conv=>arg 4; arg 4; arg 2; whnf
    try conv=>arg 4; arg 4; arg 1; arg 1; whnf
    try conv=>arg 4; arg 4; arg 1; arg 1; arg 2; whnf
    try conv=>arg 4; arg 4; arg 1; arg 1; arg 3; whnf
    try conv=>arg 4; arg 4; arg 1; arg 1; arg 3; arg 2; whnf
    try conv=>arg 4; arg 5; whnf
    try conv=>arg 4; arg 5; arg 2; whnf
    try conv=>arg 4; arg 6; whnf
   refine I.freeze 17 ?_;(conv=>whnf);conv =>
    arg 3
    try whnf
    try conv=>arg 1; whnf
    try conv=>arg 2; whnf
    try conv=>arg 3; whnf
    try conv=>arg 3; arg 2; whnf
    try conv=>arg 4; whnf
    try conv=>arg 4; arg 1; whnf
    try conv=>arg 4; arg 2; whnf
    try conv=>arg 4; arg 3; whnf
    try conv=>arg 4; arg 4; whnf
    try conv=>arg 4; arg 4; arg 2; whnf
    try conv=>arg 4; arg 4; arg 1; arg 1; whnf
    try conv=>arg 4; arg 4; arg 1; arg 1; arg 2; whnf
    try conv=>arg 4; arg 4; arg 1; arg 1; arg 3; whnf
    try conv=>arg 4; arg 4; arg 1; arg 1; arg 3; arg 2; whnf
    try conv=>arg 4; arg 5; whnf
    try conv=>arg 4; arg 5; arg 2; whnf
    try conv=>arg 4; arg 6; whnf
   refine gO Tryz.func108 ?_;obtain ⟨T,AM⟩:∃ T,jl h x k=T:=⟨_,rfl⟩;rw [AM] at AB;rw [AM];have eC:(List.range (k+1)).filter (gu ask h x)=(List.range k).filter (gu ask h x)++(if gu ask h x k then [k] else []):=by
    rw [List.range_succ,List.filter_append];cases h:gu ask h x k <;> simp [h]
   have EJ:gu ask h x k=T.any fun t=>(ask k t).2==0&&decide ((ask k t).1=x.answer):=by rw [← AM]; rfl
   refine I.loop (κ:=Nat) ([1,11,12]++[7,8,10,15,16,17,18,19,20,21,22,23,24,25,26,27,28,29,30,31,32,33,34,35,36,37,38,39,40,41,42,43,44,45,46,47,48,49,50,51,52,53,54]) (fun j=>[(15,.d (.int .i64 j))]) (fun _=>[]) (fun j=>j≤T.length∧∀ t∈T.take j,((ask k t).2==0&&decide ((ask k t).1=x.answer))=false) (fun j=>T.length - j) 0 ⟨Nat.zero_le _,fun t h=>by simp at h⟩ ?_ ?_
   ·(conv=>whnf);repeat (first | exact trivial | (rw [fW]; conv=>whnf) | (refine sI ?_; conv=>whnf))
   rintro j ⟨hj,bL⟩ KH;refine I.head af Tryz.func108 2000 ?_;(conv=>whnf);refine ai (fun h8=>?_) (fun h8=>?_)
   ·have Ub:j<T.length:=by simpa using h8
    obtain ⟨t,AN⟩:=aL Ub;obtain ⟨uI,DM,xx⟩:=Ua t (by rw [AM]; exact List.mem_of_getElem? AN);refine gO Tryz.func108 ?_;refine aE (e := .int .i64 t) (aX AN) rfl ?_;refine gO Tryz.func108 ?_;refine I.mB 18 1 (61,3) (by decide) rfl rfl ?_;refine gO Tryz.func108 ?_;refine I.loop (κ:=Nat) ([10]++rg 27 23) (fun m=>[(27,.d (.int .i64 m))]) (fun m=>[(18,.cells [.d (.sl [y.enc]),.own 19 1,.d (.str h.anchor.name),.d (.int .i64 h.anchor.type),.d (.int .i64 h.anchor.cD),.d (.sl (h.anchor.data.map Datum.enc)),.d (.sl (h.hints.map (.int .i64)))]),(19,.arr 1 (61,3) ((eD (L.take m) t).map bo.enc))]) (fun m=>m≤L.length) (fun m=>L.length - m) 0 (Nat.zero_le _) ?_ ?_
    ·(conv=>whnf);repeat (first | exact trivial | (rw [fW]; conv=>whnf) | (refine sI ?_; conv=>whnf))
     refine And.intro rfl ?_;(conv=>whnf);repeat (first | exact trivial | (rw [fW]; conv=>whnf) | (refine sI ?_; conv=>whnf))
    intro m hm MH;refine I.head af Tryz.func108 2000 ?_;(conv=>whnf);refine ai (fun h9=>?_) (fun h9=>?_)
    ·have H8:m<L.length:=by simpa using h9
     obtain ⟨c,hc⟩:=aL H8;have rf:=T8 (t:=t) hc;have XO:(eD (L.take m) t).length≤m:=by rw [eD,List.length_map]; exact Nat.le_trans (List.length_filter_le ..) (by simp; omega)
     generalize eD (L.take m) t=Y at *;refine gO Tryz.func108 ?_;refine aE (e:=c.enc) (aX hc) rfl ?_;refine gO Tryz.func108 ?_;refine ai (fun g1=>?_) (fun g1=>?_)
     ·refine gO Tryz.func108 ?_;refine ai (fun g2=>?_) (fun g2=>?_)
      ·refine gO Tryz.func108 ?_;refine a8 ⟨by simp only [List.length_map,List.length_cons,List.length_nil]; omega,by simp [DV.cells]⟩ ?_;have ha:kV t c=true:=by simp_all [kV]
       rw [ha,if_pos rfl] at rf;refine gO Tryz.func108 ?_;refine I.back (MH (m+1) (by omega) (by omega)) ?_;rw [rf,List.map_append];(conv=>whnf);repeat (first | exact trivial | (rw [fW]; conv=>whnf) | (refine sI ?_; conv=>whnf))
       refine And.intro rfl ?_;(conv=>whnf);repeat (first | exact trivial | (rw [fW]; conv=>whnf) | (refine sI ?_; conv=>whnf))
      ·have ha:kV t c=false:=by rw [kV,g2,Bool.and_false]
       rw [ha] at rf;simp only [Bool.false_eq_true,if_false,List.append_nil] at rf;refine gO Tryz.func108 ?_;refine I.back (MH (m+1) (by omega) (by omega)) ?_;rw [rf];(conv=>whnf);repeat (first | exact trivial | (rw [fW]; conv=>whnf) | (refine sI ?_; conv=>whnf))
     ·have ha:kV t c=false:=by rw [kV,g1,Bool.false_and]
      rw [ha] at rf;simp only [Bool.false_eq_true,if_false,List.append_nil] at rf;refine gO Tryz.func108 ?_;refine aQ ?_;refine gO Tryz.func108 ?_;refine I.back (MH (m+1) (by omega) (by omega)) ?_;rw [rf];(conv=>whnf);repeat (first | exact trivial | (rw [fW]; conv=>whnf) | (refine sI ?_; conv=>whnf))
    ·have aC:m=L.length:=by simp at h9; omega
     subst aC;refine I.freeze 19 ?_;(conv=>whnf);conv =>
      arg 3
      try whnf
      try conv=>arg 1; whnf
      try conv=>arg 2; whnf
      try conv=>arg 3; whnf
      try conv=>arg 3; arg 2; whnf
      try conv=>arg 4; whnf
      try conv=>arg 4; arg 1; whnf
      try conv=>arg 4; arg 2; whnf
      try conv=>arg 4; arg 3; whnf
      try conv=>arg 4; arg 4; whnf
      try conv=>arg 4; arg 4; arg 2; whnf
      try conv=>arg 4; arg 4; arg 1; arg 1; whnf
      try conv=>arg 4; arg 4; arg 1; arg 1; arg 2; whnf
      try conv=>arg 4; arg 4; arg 1; arg 1; arg 3; whnf
      try conv=>arg 4; arg 4; arg 1; arg 1; arg 3; arg 2; whnf
      try conv=>arg 4; arg 5; whnf
      try conv=>arg 4; arg 5; arg 2; whnf
      try conv=>arg 4; arg 6; whnf
     rw [List.take_length];refine gO Tryz.func108 ?_;refine I.yield 0 rfl rfl rfl (aP rfl) (lG (aP rfl)) rfl ?_;(conv=>whnf);conv =>
      arg 3
      try whnf
      try conv=>arg 1; whnf
      try conv=>arg 2; whnf
      try conv=>arg 3; whnf
      try conv=>arg 3; arg 2; whnf
      try conv=>arg 4; whnf
      try conv=>arg 4; arg 1; whnf
      try conv=>arg 4; arg 2; whnf
      try conv=>arg 4; arg 3; whnf
      try conv=>arg 4; arg 4; whnf
      try conv=>arg 4; arg 4; arg 2; whnf
      try conv=>arg 4; arg 4; arg 1; arg 1; whnf
      try conv=>arg 4; arg 4; arg 1; arg 1; arg 2; whnf
      try conv=>arg 4; arg 4; arg 1; arg 1; arg 3; whnf
      try conv=>arg 4; arg 4; arg 1; arg 1; arg 3; arg 2; whnf
      try conv=>arg 4; arg 5; whnf
      try conv=>arg 4; arg 5; arg 2; whnf
      try conv=>arg 4; arg 6; whnf
     refine gO Tryz.func17 ?_;refine I.begin 0 rfl rfl rfl ?_;(conv=>whnf);conv =>
      arg 3
      try whnf
      try conv=>arg 1; whnf
      try conv=>arg 2; whnf
      try conv=>arg 3; whnf
      try conv=>arg 3; arg 2; whnf
      try conv=>arg 4; whnf
      try conv=>arg 4; arg 1; whnf
      try conv=>arg 4; arg 2; whnf
      try conv=>arg 4; arg 3; whnf
      try conv=>arg 4; arg 4; whnf
      try conv=>arg 4; arg 4; arg 2; whnf
      try conv=>arg 4; arg 4; arg 1; arg 1; whnf
      try conv=>arg 4; arg 4; arg 1; arg 1; arg 2; whnf
      try conv=>arg 4; arg 4; arg 1; arg 1; arg 3; whnf
      try conv=>arg 4; arg 4; arg 1; arg 1; arg 3; arg 2; whnf
      try conv=>arg 4; arg 5; whnf
      try conv=>arg 4; arg 5; arg 2; whnf
      try conv=>arg 4; arg 6; whnf
     refine gO Tryz.func17 ?_;have c6:=TI (ask k t).1 x.answer DM xx;refine I.bH af bI 2000 (by kernel_rfl) ?_;(conv=>whnf);refine aE (e:=y.enc) (aX hy) rfl ?_;refine gD ?_;refine ay (uI) ?_;refine gD ?_;refine And.intro (by kernel_rfl) ?_;(conv=>whnf);refine gO Tryz.func17 ?_;have aF:((ask k t).2==0&&decide ((ask k t).1=x.answer))=false→∀ t'∈T.take (j+1),((ask k t').2==0&&decide ((ask k t').1=x.answer))=false:=fun e t' me=>by
      rw [cI AN] at me;rcases List.mem_append.1 me with h | h
      ·exact bL t' h
      ·rw [List.mem_singleton.1 h]; exact e
     refine ai (fun g3=>?_) (fun g3=>?_)
     ·refine gO Tryz.func17 ?_;refine ao (c6) ?_;refine gO Tryz.func17 ?_;cases AO:decide ((ask k t).1=x.answer)
      ·refine aQ ?_;refine gO Tryz.func17 ?_;refine I.mC 0 rfl rfl rfl ?_;(conv=>whnf);conv =>
        arg 3
        try whnf
        try conv=>arg 1; whnf
        try conv=>arg 2; whnf
        try conv=>arg 3; whnf
        try conv=>arg 3; arg 2; whnf
        try conv=>arg 4; whnf
        try conv=>arg 4; arg 1; whnf
        try conv=>arg 4; arg 2; whnf
        try conv=>arg 4; arg 3; whnf
        try conv=>arg 4; arg 4; whnf
        try conv=>arg 4; arg 4; arg 2; whnf
        try conv=>arg 4; arg 4; arg 1; arg 1; whnf
        try conv=>arg 4; arg 4; arg 1; arg 1; arg 2; whnf
        try conv=>arg 4; arg 4; arg 1; arg 1; arg 3; whnf
        try conv=>arg 4; arg 4; arg 1; arg 1; arg 3; arg 2; whnf
        try conv=>arg 4; arg 5; whnf
        try conv=>arg 4; arg 5; arg 2; whnf
        try conv=>arg 4; arg 6; whnf
       refine gO Tryz.func108 ?_;refine aQ ?_;refine gO Tryz.func108 ?_;refine I.back (KH (j+1) ⟨by omega,aF (by rw [AO,Bool.and_false])⟩ (by omega)) ?_;(conv=>whnf);repeat (first | exact trivial | (rw [fW]; conv=>whnf) | (refine sI ?_; conv=>whnf))
      ·refine aV ?_;have Uc:gu ask h x k=true:=by rw [EJ,List.any_eq_true]; exact ⟨t,List.mem_of_getElem? AN,by rw [g3,AO]; rfl⟩
       refine gO Tryz.func17 ?_;refine a8 ⟨by have:=List.length_filter_le (gu ask h x) (List.range k); simp at this; simp; omega,by simp [DV.cells]⟩ ?_;refine gO Tryz.func17 ?_;refine I.Pw 0 rfl rfl rfl rfl ?_;(conv=>whnf);conv =>
        arg 3
        try whnf
        try conv=>arg 1; whnf
        try conv=>arg 2; whnf
        try conv=>arg 3; whnf
        try conv=>arg 3; arg 2; whnf
        try conv=>arg 4; whnf
        try conv=>arg 4; arg 1; whnf
        try conv=>arg 4; arg 2; whnf
        try conv=>arg 4; arg 3; whnf
        try conv=>arg 4; arg 4; whnf
        try conv=>arg 4; arg 4; arg 2; whnf
        try conv=>arg 4; arg 4; arg 1; arg 1; whnf
        try conv=>arg 4; arg 4; arg 1; arg 1; arg 2; whnf
        try conv=>arg 4; arg 4; arg 1; arg 1; arg 3; whnf
        try conv=>arg 4; arg 4; arg 1; arg 1; arg 3; arg 2; whnf
        try conv=>arg 4; arg 5; whnf
        try conv=>arg 4; arg 5; arg 2; whnf
        try conv=>arg 4; arg 6; whnf
       refine gO Tryz.func108 ?_;refine aV ?_;refine gO Tryz.func108 ?_;refine I.iD af Tryz.func108 rfl rfl rfl rfl (fun e=>nomatch e) ?_;(conv=>whnf);refine I.KA (rows:=[]) rfl ?_;conv =>
        arg 3
        try whnf
        try conv=>arg 1; whnf
        try conv=>arg 2; whnf
        try conv=>arg 3; whnf
        try conv=>arg 3; arg 2; whnf
        try conv=>arg 4; whnf
        try conv=>arg 4; arg 1; whnf
        try conv=>arg 4; arg 2; whnf
        try conv=>arg 4; arg 3; whnf
        try conv=>arg 4; arg 4; whnf
        try conv=>arg 4; arg 4; arg 2; whnf
        try conv=>arg 4; arg 4; arg 1; arg 1; whnf
        try conv=>arg 4; arg 4; arg 1; arg 1; arg 2; whnf
        try conv=>arg 4; arg 4; arg 1; arg 1; arg 3; whnf
        try conv=>arg 4; arg 4; arg 1; arg 1; arg 3; arg 2; whnf
        try conv=>arg 4; arg 5; whnf
        try conv=>arg 4; arg 5; arg 2; whnf
        try conv=>arg 4; arg 6; whnf
       refine gO Tryz.func17 ?_;refine I.back (IH (k+1) _ (by omega) (by omega)) ?_;rw [eC,Uc,if_pos rfl,List.map_append,List.map_append];(conv=>whnf);repeat (first | exact trivial | (rw [fW]; conv=>whnf) | (refine sI ?_; conv=>whnf))
       refine And.intro rfl ?_;(conv=>whnf);repeat (first | exact trivial | (rw [fW]; conv=>whnf) | (refine sI ?_; conv=>whnf))
     ·refine gO Tryz.func17 ?_;refine aQ ?_;refine gO Tryz.func17 ?_;refine I.mC 0 rfl rfl rfl ?_;(conv=>whnf);conv =>
       arg 3
       try whnf
       try conv=>arg 1; whnf
       try conv=>arg 2; whnf
       try conv=>arg 3; whnf
       try conv=>arg 3; arg 2; whnf
       try conv=>arg 4; whnf
       try conv=>arg 4; arg 1; whnf
       try conv=>arg 4; arg 2; whnf
       try conv=>arg 4; arg 3; whnf
       try conv=>arg 4; arg 4; whnf
       try conv=>arg 4; arg 4; arg 2; whnf
       try conv=>arg 4; arg 4; arg 1; arg 1; whnf
       try conv=>arg 4; arg 4; arg 1; arg 1; arg 2; whnf
       try conv=>arg 4; arg 4; arg 1; arg 1; arg 3; whnf
       try conv=>arg 4; arg 4; arg 1; arg 1; arg 3; arg 2; whnf
       try conv=>arg 4; arg 5; whnf
       try conv=>arg 4; arg 5; arg 2; whnf
       try conv=>arg 4; arg 6; whnf
      refine gO Tryz.func108 ?_;refine aQ ?_;refine gO Tryz.func108 ?_;refine I.back (KH (j+1) ⟨by omega,aF (by rw [g3,Bool.false_and])⟩ (by omega)) ?_;(conv=>whnf);repeat (first | exact trivial | (rw [fW]; conv=>whnf) | (refine sI ?_; conv=>whnf))
   ·have aC:j=T.length:=by simp at h8; omega
    subst aC;rw [List.take_length] at bL;have lE:gu ask h x k=false:=by rw [EJ,List.any_eq_false]; exact fun t ht=>by rw [bL t ht]; simp
    refine gO Tryz.func108 ?_;refine I.iD af Tryz.func108 rfl rfl rfl rfl (fun e=>nomatch e) ?_;(conv=>whnf);refine I.KA (rows:=[]) rfl ?_;conv =>
     arg 3
     try whnf
     try conv=>arg 1; whnf
     try conv=>arg 2; whnf
     try conv=>arg 3; whnf
     try conv=>arg 3; arg 2; whnf
     try conv=>arg 4; whnf
     try conv=>arg 4; arg 1; whnf
     try conv=>arg 4; arg 2; whnf
     try conv=>arg 4; arg 3; whnf
     try conv=>arg 4; arg 4; whnf
     try conv=>arg 4; arg 4; arg 2; whnf
     try conv=>arg 4; arg 4; arg 1; arg 1; whnf
     try conv=>arg 4; arg 4; arg 1; arg 1; arg 2; whnf
     try conv=>arg 4; arg 4; arg 1; arg 1; arg 3; whnf
     try conv=>arg 4; arg 4; arg 1; arg 1; arg 3; arg 2; whnf
     try conv=>arg 4; arg 5; whnf
     try conv=>arg 4; arg 5; arg 2; whnf
     try conv=>arg 4; arg 6; whnf
    refine gO Tryz.func17 ?_;refine I.back (IH (k+1) _ (by omega) (by omega)) ?_;rw [eC,lE];simp only [Bool.false_eq_true,if_false,List.append_nil];(conv=>whnf);repeat (first | exact trivial | (rw [fW]; conv=>whnf) | (refine sI ?_; conv=>whnf))
  ·obtain ⟨z,hz,e⟩:∃ z,Z[j]? = some z∧(DV.int .i64 z,DV.bool true)=(kk,y):=by rw [← EX] at hj; simpa using hj
   cases e;have mX:=aR hz;have Ud:=KE (seen:=seen) hz;have ew:(seen++[j]).Nodup:=by
    rw [List.nodup_append];exact ⟨sR,by simp,fun a ha b hb e=>by simp at hb; subst hb; subst e; exact jw ha⟩
   have KM:∀ i∈seen++[j],i<Z.length:=fun i hi=>by rcases List.mem_append.1 hi with h | h; exact EY i h; simp at h; omega
   have Ue:=KF ew KM;rw [List.length_append,List.length_singleton] at Ue;conv =>
    arg 3
    try whnf
    try conv=>arg 1; whnf
    try conv=>arg 2; whnf
    try conv=>arg 3; whnf
    try conv=>arg 3; arg 2; whnf
    try conv=>arg 4; whnf
    try conv=>arg 4; arg 1; whnf
    try conv=>arg 4; arg 2; whnf
    try conv=>arg 4; arg 3; whnf
    try conv=>arg 4; arg 4; whnf
    try conv=>arg 4; arg 4; arg 2; whnf
    try conv=>arg 4; arg 4; arg 1; arg 1; whnf
    try conv=>arg 4; arg 4; arg 1; arg 1; arg 2; whnf
    try conv=>arg 4; arg 4; arg 1; arg 1; arg 3; whnf
    try conv=>arg 4; arg 4; arg 1; arg 1; arg 3; arg 2; whnf
    try conv=>arg 4; arg 5; whnf
    try conv=>arg 4; arg 5; arg 2; whnf
    try conv=>arg 4; arg 6; whnf
   refine gO Tryz.func183 ?_;refine aV ?_;refine gO Tryz.func183 ?_;refine I.entry (it:=⟨bm,r,en,ck,since,seen++[j],db⟩) (g1:=[]) (g2:=[]) (pre:=seen) (j:=j) rfl rfl rfl rfl hj (aP rfl) ?_;conv =>
    arg 3
    try whnf
    try conv=>arg 1; whnf
    try conv=>arg 2; whnf
    try conv=>arg 3; whnf
    try conv=>arg 3; arg 2; whnf
    try conv=>arg 4; whnf
    try conv=>arg 4; arg 1; whnf
    try conv=>arg 4; arg 2; whnf
    try conv=>arg 4; arg 3; whnf
    try conv=>arg 4; arg 4; whnf
    try conv=>arg 4; arg 4; arg 2; whnf
    try conv=>arg 4; arg 4; arg 1; arg 1; whnf
    try conv=>arg 4; arg 4; arg 1; arg 1; arg 2; whnf
    try conv=>arg 4; arg 4; arg 1; arg 1; arg 3; whnf
    try conv=>arg 4; arg 4; arg 1; arg 1; arg 3; arg 2; whnf
    try conv=>arg 4; arg 5; whnf
    try conv=>arg 4; arg 5; arg 2; whnf
    try conv=>arg 4; arg 6; whnf
   (conv=>whnf);repeat ((fail_if_success (first | (refine I.yield 0 rfl rfl rfl (aP rfl) (lG (aP rfl)) rfl ?_) | fail)); (refine I.run af Tryz.func183 1 ?_); (conv=>whnf))
   refine I.yield 0 rfl rfl rfl (aP rfl) (lG (aP rfl)) rfl ?_;(conv=>whnf);conv =>
    arg 3
    try whnf
    try conv=>arg 1; whnf
    try conv=>arg 2; whnf
    try conv=>arg 3; whnf
    try conv=>arg 3; arg 2; whnf
    try conv=>arg 4; whnf
    try conv=>arg 4; arg 1; whnf
    try conv=>arg 4; arg 2; whnf
    try conv=>arg 4; arg 3; whnf
    try conv=>arg 4; arg 4; whnf
    try conv=>arg 4; arg 4; arg 2; whnf
    try conv=>arg 4; arg 4; arg 1; arg 1; whnf
    try conv=>arg 4; arg 4; arg 1; arg 1; arg 2; whnf
    try conv=>arg 4; arg 4; arg 1; arg 1; arg 3; whnf
    try conv=>arg 4; arg 4; arg 1; arg 1; arg 3; arg 2; whnf
    try conv=>arg 4; arg 5; whnf
    try conv=>arg 4; arg 5; arg 2; whnf
    try conv=>arg 4; arg 6; whnf
   (conv=>whnf);repeat ((fail_if_success (first | (refine I.begin 0 rfl rfl rfl ?_) | fail)); (refine I.run af Tryz.func260 1 ?_); (conv=>whnf))
   refine I.begin 0 rfl rfl rfl ?_;(conv=>whnf);conv =>
    arg 3
    try whnf
    try conv=>arg 1; whnf
    try conv=>arg 2; whnf
    try conv=>arg 3; whnf
    try conv=>arg 3; arg 2; whnf
    try conv=>arg 4; whnf
    try conv=>arg 4; arg 1; whnf
    try conv=>arg 4; arg 2; whnf
    try conv=>arg 4; arg 3; whnf
    try conv=>arg 4; arg 4; whnf
    try conv=>arg 4; arg 4; arg 2; whnf
    try conv=>arg 4; arg 4; arg 1; arg 1; whnf
    try conv=>arg 4; arg 4; arg 1; arg 1; arg 2; whnf
    try conv=>arg 4; arg 4; arg 1; arg 1; arg 3; whnf
    try conv=>arg 4; arg 4; arg 1; arg 1; arg 3; arg 2; whnf
    try conv=>arg 4; arg 5; whnf
    try conv=>arg 4; arg 5; arg 2; whnf
    try conv=>arg 4; arg 6; whnf
   refine gO Tryz.func260 ?_;refine a8 ⟨by simp; omega,by simp [DV.cells]⟩ ?_;refine gO Tryz.func260 ?_;refine I.mC 0 rfl rfl rfl ?_;(conv=>whnf);conv =>
    arg 3
    try whnf
    try conv=>arg 1; whnf
    try conv=>arg 2; whnf
    try conv=>arg 3; whnf
    try conv=>arg 3; arg 2; whnf
    try conv=>arg 4; whnf
    try conv=>arg 4; arg 1; whnf
    try conv=>arg 4; arg 2; whnf
    try conv=>arg 4; arg 3; whnf
    try conv=>arg 4; arg 4; whnf
    try conv=>arg 4; arg 4; arg 2; whnf
    try conv=>arg 4; arg 4; arg 1; arg 1; whnf
    try conv=>arg 4; arg 4; arg 1; arg 1; arg 2; whnf
    try conv=>arg 4; arg 4; arg 1; arg 1; arg 3; whnf
    try conv=>arg 4; arg 4; arg 1; arg 1; arg 3; arg 2; whnf
    try conv=>arg 4; arg 5; whnf
    try conv=>arg 4; arg 5; arg 2; whnf
    try conv=>arg 4; arg 6; whnf
   refine gO Tryz.func183 ?_;refine aZ (by decide) ?_;refine gO Tryz.func183 ?_;refine I.back (JH (seen++[j]) ⟨ew,KM⟩ (by simp; omega)) ?_;(conv=>whnf);repeat (first | exact trivial | (rw [fW]; conv=>whnf) | (refine sI ?_; conv=>whnf))
   refine And.intro (by rw [Ud]; simp) ?_;(conv=>whnf);repeat (first | exact trivial | (rw [fW]; conv=>whnf) | (refine sI ?_; conv=>whnf))
 ·have aC:k=h.aA.length:=by simp at h5; omega
  subst aC;refine I.freeze 3 ?_;(conv=>whnf);conv =>
   arg 3
   try whnf
   try conv=>arg 1; whnf
   try conv=>arg 2; whnf
   try conv=>arg 3; whnf
   try conv=>arg 3; arg 2; whnf
   try conv=>arg 4; whnf
   try conv=>arg 4; arg 1; whnf
   try conv=>arg 4; arg 2; whnf
   try conv=>arg 4; arg 3; whnf
   try conv=>arg 4; arg 4; whnf
   try conv=>arg 4; arg 4; arg 2; whnf
   try conv=>arg 4; arg 4; arg 1; arg 1; whnf
   try conv=>arg 4; arg 4; arg 1; arg 1; arg 2; whnf
   try conv=>arg 4; arg 4; arg 1; arg 1; arg 3; whnf
   try conv=>arg 4; arg 4; arg 1; arg 1; arg 3; arg 2; whnf
   try conv=>arg 4; arg 5; whnf
   try conv=>arg 4; arg 5; arg 2; whnf
   try conv=>arg 4; arg 6; whnf
  cases ds with
  |nil =>
   refine gO Tryz.func17 ?_;rw [← hQ];rfl
  |cons d ds =>
   refine gO Tryz.func17 ?_;refine I.fS af Tryz.func17 rfl rfl rfl rfl (L:=[]) ?hm ?hr
   case hm=>exact KB (ds:=d::ds)
   case hr =>
    (conv=>whnf);rw [← hQ];rfl
end Go.Proofs.YtfmdaiojokniiaaGreatDoor.P
