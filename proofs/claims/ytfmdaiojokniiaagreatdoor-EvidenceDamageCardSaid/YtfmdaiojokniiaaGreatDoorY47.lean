/- Several texts of mine, one behind the other. Conditions: as each says. -/
import Derived.Test.YtfmdaiojokniiaaGreatDoorY46
set_option linter.unusedVariables false
set_option linter.unusedSimpArgs false
namespace Go.Proofs.YtfmdaiojokniiaaGreatDoor.P
open Go Go.ax Go.Sort
set_option maxRecDepth 100000
set_option maxHeartbeats 400000
def pq (t:Int) (c:a7):Bool:=decide (c.cj≤t)&&decide (t<c.upto)
def jZ (l:List a7) (t:Int):List bz:=(l.filter (pq t)).map fun c=>⟨0,c.az⟩
def uR (h:ca) (x:dS):Int:=max (x.time - h.bT) 0
def uS (h:ca) (x:dS):Int:=min (x.time+h.bT+1) h.fin
def lB (h:ca) (x:dS) (i:Nat):List a7:=h.aI.filter (fO i x.q.name)
def lC (h:ca) (x:dS) (i:Nat):List Int:=fh (dK [] (lA (uR h x) (uS h x) (lB h x i)))
def gX (ask:Nat→Int→dP × Int) (h:ca) (x:dS) (i:Nat):Bool:=(lC h x i).any fun t=>(ask i t).2==0&&decide ((ask i t).1=x.answer)
def uT (h:ca) (x:dS):Int:=if gd h&&n0 x then 0 else 1
def qz (ask:Nat→Int→dP × Int) (h:ca) (x:dS):List Int:=if gd h&&n0 x && !nZ x.answer then ((List.range h.aA.length).filter (gX ask h x)).map fun (i:Nat)=>(i:Int) else []
theorem TN {h:ca} {x:dS} {i:Nat}:(lB h x i).length≤h.aI.length:=List.length_filter_le ..
theorem Eu {f u t:Int} {K:List Int}:(mu f u K t).length≤K.length+1:=by
 unfold mu;split <;> simp
theorem Kn {f u:Int}:∀ {l:List a7} {K:List Int},(l.foldl (xS f u) K).length≤K.length+2*l.length
 | [],_=>by simp
 |c::l,K=>by
  rw [List.foldl_cons,List.length_cons];have h1:=Kn (f:=f) (u:=u) (l:=l) (K:=xS f u K c);have h2:=Eu (f:=f) (u:=u) (t:=c.upto) (K:=mu f u K c.cj);have h3:=Eu (f:=f) (u:=u) (t:=c.cj) (K:=K);unfold xS at h1 ⊢;omega
theorem TO {f u:Int} {l:List a7}:(lA f u l).length≤1+2*l.length:=by
 have h1:=Kn (f:=f) (u:=u) (l:=l) (K:=mu f u [] f);have h2:=Eu (f:=f) (u:=u) (t:=f) (K:=[]);unfold lA;simp at h2;omega
theorem TP {a b:List Int} (h:a.Perm b):fh a=fh b:=by
 have h1:=Es a;have h2:=Es b;have h3:(fh a).Perm (fh b):=(uQ a).trans (h.trans (uQ b).symm);exact h3.eq_of_pairwise (fun x y _ _ p q=>Int.le_antisymm p q) h1 h2
theorem TQ {t:Int} {L:List a7} {m:Nat} {c:a7} (h:L[m]? = some c):jZ (L.take (m+1)) t=jZ (L.take m) t++(if pq t c then [⟨0,c.az⟩] else []):=by
 rw [jZ,cQ h,List.filter_append,List.map_append];cases e:pq t c <;> simp [e,jZ]
theorem Ko (h:ca) (x:dS) (ask:Nat→Int→dP × Int) (hf:h.Fits) (cZ:h.aI.length≤1000000) (mh:x.ea)
  (TR:∀ (i:Nat) (y:Host) (t:Int),h.aA[i]? = some y→gd h=true→n0 x=true→t∈lC h x i→aq E 31 [.agg [.sl [y.enc],.sl ((jZ (lB h x i) t).map bz.enc),.str h.anchor.name,.int .i64 h.anchor.type,.int .i64 h.anchor.cD,.sl (h.anchor.data.map Datum.enc),.sl (h.hints.map (.int .i64))],.int .i64 y.addr,.agg [.str x.q.name,.int .i64 x.q.type]] (· = .aF [.agg [.int .i64 (ask i t).1.kind,.sl ((ask i t).1.ab.map Signed.enc),.str (ask i t).1.cut],.int .i64 (ask i t).2])∧(ask i t).1.ab.length≤2147483648∧∀ s∈(ask i t).1.ab,s.set.data.length≤2147483648∧s.sigs.length≤2147483648) :
  aq E 17 [h.enc,x.enc] (· = .aF [.sl ((qz ask h x).map (.int .i64)),.int .i64 (uT h x)]):=by
 refine aq.norm ?_;have c1:=JL h hf cZ;have c2:=Tp x mh;have c3:=J' x.answer;unfold qz uT;cases nC:gd h
 ·rw [nC] at c1;refine eP Tryz.func17 ?_;refine ao (c1) ?_;refine gO Tryz.func17 ?_;refine aY ?_;refine gO Tryz.func17 ?_;refine aY ?_;refine gO Tryz.func17 ?_;rfl
 cases mn:n0 x
 ·rw [nC] at c1;rw [mn] at c2;refine eP Tryz.func17 ?_;refine ao (c1) ?_;refine gO Tryz.func17 ?_;refine aQ ?_;refine gO Tryz.func17 ?_;refine ao (c2) ?_;refine gO Tryz.func17 ?_;refine aY ?_;refine gO Tryz.func17 ?_;rfl
 rw [nC] at c1;rw [mn] at c2;cases Kp:nZ x.answer
 case true =>
  rw [Kp] at c3;refine eP Tryz.func17 ?_;refine ao (c1) ?_;refine gO Tryz.func17 ?_;refine aQ ?_;refine gO Tryz.func17 ?_;refine ao (c2) ?_;refine gO Tryz.func17 ?_;refine aQ ?_;refine gO Tryz.func17 ?_;refine ao (c3) ?_;refine gO Tryz.func17 ?_;refine aY ?_;refine gO Tryz.func17 ?_;rfl
 rw [Kp] at c3;have ht:0≤x.time∧x.time≤10000000:=by simp [n0] at mn; omega
 have hd:0≤h.bT∧h.bT≤1000:=by simp [gd] at nC; omega
 have zK:h.aA.length≤1000000:=by simp [gd,fu] at nC; omega
 have hq:gg x.q=true:=by simp [n0] at mn; exact mn.1.1.1.1.1
 have TS:∀ c∈h.aI,c.az.aj.length≤maxLen:=fun c hc=>(hf.jw c hc).aj;rw [if_pos (by rfl),if_pos (by rfl)];refine eP Tryz.func17 ?_;refine ao (c1) ?_;refine gO Tryz.func17 ?_;refine aQ ?_;refine gO Tryz.func17 ?_;refine ao (c2) ?_;refine gO Tryz.func17 ?_;refine aQ ?_;refine gO Tryz.func17 ?_;refine ao (c3) ?_;refine gO Tryz.func17 ?_;refine aQ ?_;refine gO Tryz.func17 ?_;refine I.qa 2 0 (3,1) (by decide) rfl rfl ?_;generalize hQ:(tg fun r=>norm r=DV.aF [DV.sl ((((List.range h.aA.length).filter (gX ask h x)).map fun (i:Nat)=>(i:Int)).map (DV.int .i64)),DV.int .i64 0])=Q;refine gO Tryz.func17 ?_;refine I.Tx (R:=⟨0,Q,[],⟨17,none,[],[],[],[]⟩⟩) (κ:=Nat) [7,8,9,10,25,26,27,28,29,30,31,33,34,35,36,37,38,39,40,41,42,43,44,45,46,47,48,49,50,51,52,53,54,55,56,57,58] (fun k=>[(25,.d (.int .i64 k))]) (fun k=>[(2,.cells [.own 3 1]),(3,.arr 1 (3,1) ((((List.range k).filter (gX ask h x)).map fun (i:Nat)=>(i:Int)).map (.int .i64)))]) (fun k=>k≤h.aA.length) (fun k=>h.aA.length - k) 0 [] [] (Nat.zero_le _) ?_ ?_
 ·(conv=>whnf);repeat (first | exact trivial | (refine sI ?_; conv=>whnf))
  refine And.intro rfl ?_;exact sZ
 intro k ds hk IH;refine I.head af Tryz.func17 2000 ?_;(conv=>whnf);refine ah (fun h5=>?_) (fun h5=>?_)
 ·have ai:k<h.aA.length:=by simpa using h5
  obtain ⟨y,hy⟩:=aD ai;have c4:=TM h k x y hy cZ TS mh.1 ht hd (uR h x) (uS h x) rfl rfl;obtain ⟨Z,hZ⟩:∃ Z,dK [] (lA (uR h x) (uS h x) (h.aI.filter (fO k x.q.name)))=Z:=⟨_,rfl⟩;have hT:lC h x k=fh Z:=by rw [lC,lB,hZ]
  have Wl:Z.Nodup:=by rw [← hZ]; exact DZ List.nodup_nil
  have jg:Z.length≤2000000000:=by
   have h1:=Ad (acc:=[]) (l:=lA (uR h x) (uS h x) (h.aI.filter (fO k x.q.name)));have h2:=TO (f:=uR h x) (u:=uS h x) (l:=h.aI.filter (fO k x.q.name));have h3:(h.aI.filter (fO k x.q.name)).length≤h.aI.length:=List.length_filter_le ..;rw [hZ] at h1;simp at h1;omega
  have hL:lB h x k=h.aI.filter (fO k x.q.name):=rfl;obtain ⟨es,Ev⟩:∃ es,(Z.map fun a=>(DV.int .i64 a,DV.bool true))=es:=⟨_,rfl⟩;rw [Ty Jw,hZ,Ev,← hL] at c4;have Wm:=TN (h:=h) (x:=x) (i:=k);have TT:=fun t=>TR k y t hy nC mn;generalize lB h x k=L at *;refine gO Tryz.func17 ?_;refine Gi (ds:=[h.enc,.int .i64 k,x.enc]) c4 ?_;rintro r b ⟨rfl,rfl⟩;refine gO Tryz.func17 ?_;refine I.rangeFunc (bg rfl) Tryz.func108 rfl (by decide) rfl (fun ll d t=>?_);refine gO Tryz.func108 ?_
  with_reducible refine bF (TJ es) ?_
  (conv=>whnf);repeat ((fail_if_success (first | (refine I.nO (fn:=Tryz.f109) rfl rfl nL (l8 (bg rfl)) Tryz.func109 rfl (by decide) ?_) | fail)); (refine I.run af Tryz.func108 1 ?_); (conv=>whnf))
  refine I.nO (fn:=Tryz.f109) rfl rfl nL (l8 (bg rfl)) Tryz.func109 rfl (by decide) ?_;(conv=>whnf);conv =>
   arg 3
   try whnf
   try conv=>arg 1; whnf
   try conv=>arg 2; whnf
   try conv=>arg 3; whnf
   try conv=>arg 3; arg 2; whnf
   try conv=>arg 4; whnf
   try conv=>arg 4; arg 1; whnf
   try conv=>arg 4; arg 2; whnf
   try conv=>arg 4; arg 3; whnf
   try conv=>arg 4; arg 4; whnf
   try conv=>arg 4; arg 4; arg 2; whnf
   try conv=>arg 4; arg 4; arg 1; arg 1; whnf
   try conv=>arg 4; arg 4; arg 1; arg 1; arg 2; whnf
   try conv=>arg 4; arg 4; arg 1; arg 1; arg 3; whnf
   try conv=>arg 4; arg 4; arg 1; arg 1; arg 3; arg 2; whnf
   try conv=>arg 4; arg 5; whnf
   try conv=>arg 4; arg 5; arg 2; whnf
   try conv=>arg 4; arg 6; whnf
  (conv=>whnf);repeat ((fail_if_success (first | (refine I.nO (fn:=Tryz.f181) rfl rfl nL (l8 (bg rfl)) Tryz.func181 rfl (by decide) ?_) | fail)); (refine I.run af Tryz.func109 1 ?_); (conv=>whnf))
  refine I.nO (fn:=Tryz.f181) rfl rfl nL (l8 (bg rfl)) Tryz.func181 rfl (by decide) ?_;(conv=>whnf);conv =>
   arg 3
   try whnf
   try conv=>arg 1; whnf
   try conv=>arg 2; whnf
   try conv=>arg 3; whnf
   try conv=>arg 3; arg 2; whnf
   try conv=>arg 4; whnf
   try conv=>arg 4; arg 1; whnf
   try conv=>arg 4; arg 2; whnf
   try conv=>arg 4; arg 3; whnf
   try conv=>arg 4; arg 4; whnf
   try conv=>arg 4; arg 4; arg 2; whnf
   try conv=>arg 4; arg 4; arg 1; arg 1; whnf
   try conv=>arg 4; arg 4; arg 1; arg 1; arg 2; whnf
   try conv=>arg 4; arg 4; arg 1; arg 1; arg 3; whnf
   try conv=>arg 4; arg 4; arg 1; arg 1; arg 3; arg 2; whnf
   try conv=>arg 4; arg 5; whnf
   try conv=>arg 4; arg 5; arg 2; whnf
   try conv=>arg 4; arg 6; whnf
  (conv=>whnf);repeat ((fail_if_success (first | (refine I.nO (fn:=Tryz.f260) rfl rfl nL (qb Kl (bg rfl)) Tryz.func260 rfl (by decide) ?_) | fail)); (refine I.run af Tryz.func181 1 ?_); (conv=>whnf))
  refine I.nO (fn:=Tryz.f260) rfl rfl nL (qb Kl (bg rfl)) Tryz.func260 rfl (by decide) ?_;(conv=>whnf);conv =>
   arg 3
   try whnf
   try conv=>arg 1; whnf
   try conv=>arg 2; whnf
   try conv=>arg 3; whnf
   try conv=>arg 3; arg 2; whnf
   try conv=>arg 4; whnf
   try conv=>arg 4; arg 1; whnf
   try conv=>arg 4; arg 2; whnf
   try conv=>arg 4; arg 3; whnf
   try conv=>arg 4; arg 4; whnf
   try conv=>arg 4; arg 4; arg 2; whnf
   try conv=>arg 4; arg 4; arg 1; arg 1; whnf
   try conv=>arg 4; arg 4; arg 1; arg 1; arg 2; whnf
   try conv=>arg 4; arg 4; arg 1; arg 1; arg 3; whnf
   try conv=>arg 4; arg 4; arg 1; arg 1; arg 3; arg 2; whnf
   try conv=>arg 4; arg 5; whnf
   try conv=>arg 4; arg 5; arg 2; whnf
   try conv=>arg 4; arg 6; whnf
  (conv=>whnf);(conv=>whnf);repeat ((fail_if_success (first | (refine I.qa 16 0 (3,1) (by decide) rfl rfl ?_) | fail)); (refine I.run af Tryz.func260 1 ?_); (conv=>whnf))
  refine I.qa 16 0 (3,1) (by decide) rfl rfl ?_;(conv=>whnf);(conv=>whnf);repeat ((fail_if_success (first | (refine I.rangeFunc (bg rfl) Tryz.func183 rfl (by decide) rfl (fun ll d t=>?_)) | fail)); (refine I.run af Tryz.func260 1 ?_); (conv=>whnf))
  refine I.rangeFunc (bg rfl) Tryz.func183 rfl (by decide) rfl (fun ll d t=>?_);(conv=>whnf);conv =>
   arg 3
   try whnf
   try conv=>arg 1; whnf
   try conv=>arg 2; whnf
   try conv=>arg 3; whnf
   try conv=>arg 3; arg 2; whnf
   try conv=>arg 4; whnf
   try conv=>arg 4; arg 1; whnf
   try conv=>arg 4; arg 2; whnf
   try conv=>arg 4; arg 3; whnf
   try conv=>arg 4; arg 4; whnf
   try conv=>arg 4; arg 4; arg 2; whnf
   try conv=>arg 4; arg 4; arg 1; arg 1; whnf
   try conv=>arg 4; arg 4; arg 1; arg 1; arg 2; whnf
   try conv=>arg 4; arg 4; arg 1; arg 1; arg 3; whnf
   try conv=>arg 4; arg 4; arg 1; arg 1; arg 3; arg 2; whnf
   try conv=>arg 4; arg 5; whnf
   try conv=>arg 4; arg 5; arg 2; whnf
   try conv=>arg 4; arg 6; whnf
  (conv=>whnf);repeat ((fail_if_success (first | (refine I.range af rfl rfl rfl rfl (bg rfl) rfl (Nat.zero_le _) (fun it pU kh p9=>?_)) | fail)); (refine I.run af Tryz.func183 1 ?_); (conv=>whnf))
  refine I.range af rfl rfl rfl rfl (bg rfl) rfl (Nat.zero_le _) (fun it pU kh p9=>?_);(conv=>whnf);obtain ⟨bm,r,en,ck,since,seen,du⟩:=it;simp only at pU kh p9;subst pU; subst kh;conv =>
   arg 3
   try whnf
   try conv=>arg 1; whnf
   try conv=>arg 2; whnf
   try conv=>arg 3; whnf
   try conv=>arg 3; arg 2; whnf
   try conv=>arg 4; whnf
   try conv=>arg 4; arg 1; whnf
   try conv=>arg 4; arg 2; whnf
   try conv=>arg 4; arg 3; whnf
   try conv=>arg 4; arg 4; whnf
   try conv=>arg 4; arg 4; arg 2; whnf
   try conv=>arg 4; arg 4; arg 1; arg 1; whnf
   try conv=>arg 4; arg 4; arg 1; arg 1; arg 2; whnf
   try conv=>arg 4; arg 4; arg 1; arg 1; arg 3; whnf
   try conv=>arg 4; arg 4; arg 1; arg 1; arg 3; arg 2; whnf
   try conv=>arg 4; arg 5; whnf
   try conv=>arg 4; arg 5; arg 2; whnf
   try conv=>arg 4; arg 6; whnf
  refine gO Tryz.func183 ?_;refine I.C8 (κ:=List Nat) ([1,4]++[3,6,7,8,9,10,11,12,13]) (fun _=>[]) (fun x=>[(13,.gone),(15,.gone),(16,.cells [.own 17 1]),(17,.arr 1 (3,1) ((jY Z x).map (.int .i64)))]) (fun x=>[.iter ⟨bm,r,en,ck,since,x,du⟩]) (fun x=>x.Nodup∧∀ j∈x,j<Z.length) (fun x=>Z.length - x.length) [] ⟨List.nodup_nil,fun j hj=>by cases hj⟩ rfl ?_ ?_
  ·(conv=>whnf);repeat (first | exact trivial | (rw [jb]; conv=>whnf) | (refine sI ?_; conv=>whnf))
   refine And.intro rfl ?_;(conv=>whnf);repeat (first | exact trivial | (rw [jb]; conv=>whnf) | (refine sI ?_; conv=>whnf))
  rintro seen ⟨sj,Ew⟩ JH;have sD:=Tz (xs:=Z) (seen:=seen);have Wn:=Kj sj Ew;refine I.head af Tryz.func183 2000 ?_;(conv=>whnf);refine I.next (it:=⟨bm,r,en,ck,since,seen,du⟩) (g1:=[]) (g2:=[]) rfl rfl p9 rfl (bg rfl) (fun aH=>?_) (fun j kk y hj jo=>?_)
  ·refine gO Tryz.func183 ?_;refine aQ ?_;refine gO Tryz.func183 ?_;refine I.jr af Tryz.func183 rfl rfl rfl rfl (fun e=>nomatch e) ?_;(conv=>whnf);conv =>
    arg 3
    try whnf
    try conv=>arg 1; whnf
    try conv=>arg 2; whnf
    try conv=>arg 3; whnf
    try conv=>arg 3; arg 2; whnf
    try conv=>arg 4; whnf
    try conv=>arg 4; arg 1; whnf
    try conv=>arg 4; arg 2; whnf
    try conv=>arg 4; arg 3; whnf
    try conv=>arg 4; arg 4; whnf
    try conv=>arg 4; arg 4; arg 2; whnf
    try conv=>arg 4; arg 4; arg 1; arg 1; whnf
    try conv=>arg 4; arg 4; arg 1; arg 1; arg 2; whnf
    try conv=>arg 4; arg 4; arg 1; arg 1; arg 3; whnf
    try conv=>arg 4; arg 4; arg 1; arg 1; arg 3; arg 2; whnf
    try conv=>arg 4; arg 5; whnf
    try conv=>arg 4; arg 5; arg 2; whnf
    try conv=>arg 4; arg 6; whnf
   have pc:(jY Z seen).Perm Z:=TB sj Ew fun j hj=>aH j (by rw [← Ev]; simpa using hj);have D9:fh (jY Z seen)=fh Z:=TP pc;have Wo:(jY Z seen).length≤2000000000:=by rw [pc.length_eq]; exact jg
   have c5:=TH (jY Z seen) (by omega);rw [D9,← hT] at c5;have Ae:(lC h x k).length≤2000000000:=by rw [hT,(uQ Z).length_eq]; exact jg
   (conv=>whnf);repeat ((fail_if_success (first | (refine I.nP af Tryz.func260 rfl rfl rfl rfl ?_) | fail)); (refine I.run af Tryz.func260 1 ?_); (conv=>whnf))
   refine I.nP af Tryz.func260 rfl rfl rfl rfl ?_;(conv=>whnf);(conv=>whnf);conv =>
    arg 3
    try whnf
    try conv=>arg 1; whnf
    try conv=>arg 2; whnf
    try conv=>arg 3; whnf
    try conv=>arg 3; arg 2; whnf
    try conv=>arg 4; whnf
    try conv=>arg 4; arg 1; whnf
    try conv=>arg 4; arg 2; whnf
    try conv=>arg 4; arg 3; whnf
    try conv=>arg 4; arg 4; whnf
    try conv=>arg 4; arg 4; arg 2; whnf
    try conv=>arg 4; arg 4; arg 1; arg 1; whnf
    try conv=>arg 4; arg 4; arg 1; arg 1; arg 2; whnf
    try conv=>arg 4; arg 4; arg 1; arg 1; arg 3; whnf
    try conv=>arg 4; arg 4; arg 1; arg 1; arg 3; arg 2; whnf
    try conv=>arg 4; arg 5; whnf
    try conv=>arg 4; arg 5; arg 2; whnf
    try conv=>arg 4; arg 6; whnf
   (conv=>whnf);repeat ((fail_if_success (first | (refine I.nP af Tryz.func181 rfl rfl rfl rfl ?_) | fail)); (refine I.run af Tryz.func181 1 ?_); (conv=>whnf))
   refine I.nP af Tryz.func181 rfl rfl rfl rfl ?_;(conv=>whnf);(conv=>whnf);conv =>
    arg 3
    try whnf
    try conv=>arg 1; whnf
    try conv=>arg 2; whnf
    try conv=>arg 3; whnf
    try conv=>arg 3; arg 2; whnf
    try conv=>arg 4; whnf
    try conv=>arg 4; arg 1; whnf
    try conv=>arg 4; arg 2; whnf
    try conv=>arg 4; arg 3; whnf
    try conv=>arg 4; arg 4; whnf
    try conv=>arg 4; arg 4; arg 2; whnf
    try conv=>arg 4; arg 4; arg 1; arg 1; whnf
    try conv=>arg 4; arg 4; arg 1; arg 1; arg 2; whnf
    try conv=>arg 4; arg 4; arg 1; arg 1; arg 3; whnf
    try conv=>arg 4; arg 4; arg 1; arg 1; arg 3; arg 2; whnf
    try conv=>arg 4; arg 5; whnf
    try conv=>arg 4; arg 5; arg 2; whnf
    try conv=>arg 4; arg 6; whnf
   refine gO Tryz.func109 ?_
   with_reducible refine bF c5 ?_
   (conv=>whnf);(conv=>whnf);repeat ((fail_if_success (first | (refine I.nP af Tryz.func109 rfl rfl rfl rfl ?_) | fail)); (refine I.run af Tryz.func109 1 ?_); (conv=>whnf))
   refine I.nP af Tryz.func109 rfl rfl rfl rfl ?_;(conv=>whnf);(conv=>whnf);conv =>
    arg 3
    try whnf
    try conv=>arg 1; whnf
    try conv=>arg 2; whnf
    try conv=>arg 3; whnf
    try conv=>arg 3; arg 2; whnf
    try conv=>arg 4; whnf
    try conv=>arg 4; arg 1; whnf
    try conv=>arg 4; arg 2; whnf
    try conv=>arg 4; arg 3; whnf
    try conv=>arg 4; arg 4; whnf
    try conv=>arg 4; arg 4; arg 2; whnf
    try conv=>arg 4; arg 4; arg 1; arg 1; whnf
    try conv=>arg 4; arg 4; arg 1; arg 1; arg 2; whnf
    try conv=>arg 4; arg 4; arg 1; arg 1; arg 3; whnf
    try conv=>arg 4; arg 4; arg 1; arg 1; arg 3; arg 2; whnf
    try conv=>arg 4; arg 5; whnf
    try conv=>arg 4; arg 5; arg 2; whnf
    try conv=>arg 4; arg 6; whnf
   refine I.freeze 17 ?_;(conv=>whnf);conv =>
    arg 3
    try whnf
    try conv=>arg 1; whnf
    try conv=>arg 2; whnf
    try conv=>arg 3; whnf
    try conv=>arg 3; arg 2; whnf
    try conv=>arg 4; whnf
    try conv=>arg 4; arg 1; whnf
    try conv=>arg 4; arg 2; whnf
    try conv=>arg 4; arg 3; whnf
    try conv=>arg 4; arg 4; whnf
    try conv=>arg 4; arg 4; arg 2; whnf
    try conv=>arg 4; arg 4; arg 1; arg 1; whnf
    try conv=>arg 4; arg 4; arg 1; arg 1; arg 2; whnf
    try conv=>arg 4; arg 4; arg 1; arg 1; arg 3; whnf
    try conv=>arg 4; arg 4; arg 1; arg 1; arg 3; arg 2; whnf
    try conv=>arg 4; arg 5; whnf
    try conv=>arg 4; arg 5; arg 2; whnf
    try conv=>arg 4; arg 6; whnf
   refine gO Tryz.func108 ?_;obtain ⟨T,Aw⟩:∃ T,lC h x k=T:=⟨_,rfl⟩;rw [Aw] at Ae;rw [Aw];have fM:(List.range (k+1)).filter (gX ask h x)=(List.range k).filter (gX ask h x)++(if gX ask h x k then [k] else []):=by
    rw [List.range_succ,List.filter_append];cases h:gX ask h x k <;> simp [h]
   have Eh:gX ask h x k=T.any fun t=>(ask k t).2==0&&decide ((ask k t).1=x.answer):=by rw [← Aw]; rfl
   refine I.loop (κ:=Nat) ([1,11,12]++[7,8,10,15,16,17,18,19,20,21,22,23,24,25,26,27,28,29,30,31,32,33,34,35,36,37,38,39,40,41,42,43,44,45,46,47,48,49,50,51,52,53,54]) (fun j=>[(15,.d (.int .i64 j))]) (fun _=>[]) (fun j=>j≤T.length∧∀ t∈T.take j,((ask k t).2==0&&decide ((ask k t).1=x.answer))=false) (fun j=>T.length - j) 0 ⟨Nat.zero_le _,fun t h=>by simp at h⟩ ?_ ?_
   ·(conv=>whnf);repeat (first | exact trivial | (rw [jb]; conv=>whnf) | (refine sI ?_; conv=>whnf))
   rintro j ⟨hj,bL⟩ KH;refine I.head af Tryz.func108 2000 ?_;(conv=>whnf);refine ah (fun h8=>?_) (fun h8=>?_)
   ·have po:j<T.length:=by simpa using h8
    obtain ⟨t,Ax⟩:=aD po;obtain ⟨ug,Dg,xb⟩:=TT t (by rw [Aw]; exact List.mem_of_getElem? Ax);refine gO Tryz.func108 ?_;refine aB (e := .int .i64 t) (aN Ax) rfl ?_;refine gO Tryz.func108 ?_;refine I.qa 18 1 (61,3) (by decide) rfl rfl ?_;refine gO Tryz.func108 ?_;refine I.loop (κ:=Nat) ([10]++rg 27 23) (fun m=>[(27,.d (.int .i64 m))]) (fun m=>[(18,.cells [.d (.sl [y.enc]),.own 19 1,.d (.str h.anchor.name),.d (.int .i64 h.anchor.type),.d (.int .i64 h.anchor.cD),.d (.sl (h.anchor.data.map Datum.enc)),.d (.sl (h.hints.map (.int .i64)))]),(19,.arr 1 (61,3) ((jZ (L.take m) t).map bz.enc))]) (fun m=>m≤L.length) (fun m=>L.length - m) 0 (Nat.zero_le _) ?_ ?_
    ·(conv=>whnf);repeat (first | exact trivial | (rw [jb]; conv=>whnf) | (refine sI ?_; conv=>whnf))
     refine And.intro rfl ?_;(conv=>whnf);repeat (first | exact trivial | (rw [jb]; conv=>whnf) | (refine sI ?_; conv=>whnf))
    intro m hm MH;refine I.head af Tryz.func108 2000 ?_;(conv=>whnf);refine ah (fun h9=>?_) (fun h9=>?_)
    ·have Hy:m<L.length:=by simpa using h9
     obtain ⟨c,hc⟩:=aD Hy;have qA:=TQ (t:=t) hc;have Wp:(jZ (L.take m) t).length≤m:=by rw [jZ,List.length_map]; exact Nat.le_trans (List.length_filter_le ..) (by simp; omega)
     generalize jZ (L.take m) t=Y at *;refine gO Tryz.func108 ?_;refine aB (e:=c.enc) (aN hc) rfl ?_;refine gO Tryz.func108 ?_;refine ah (fun g1=>?_) (fun g1=>?_)
     ·refine gO Tryz.func108 ?_;refine ah (fun g2=>?_) (fun g2=>?_)
      ·refine gO Tryz.func108 ?_;refine bc ⟨by simp only [List.length_map,List.length_cons,List.length_nil]; omega,by simp [DV.cells]⟩ ?_;have ha:pq t c=true:=by simp_all [pq]
       rw [ha,if_pos rfl] at qA;refine gO Tryz.func108 ?_;refine I.back (MH (m+1) (by omega) (by omega)) ?_;rw [qA,List.map_append];(conv=>whnf);repeat (first | exact trivial | (rw [jb]; conv=>whnf) | (refine sI ?_; conv=>whnf))
       refine And.intro rfl ?_;(conv=>whnf);repeat (first | exact trivial | (rw [jb]; conv=>whnf) | (refine sI ?_; conv=>whnf))
      ·have ha:pq t c=false:=by rw [pq,g2,Bool.and_false]
       rw [ha] at qA;simp only [Bool.false_eq_true,if_false,List.append_nil] at qA;refine gO Tryz.func108 ?_;refine I.back (MH (m+1) (by omega) (by omega)) ?_;rw [qA];(conv=>whnf);repeat (first | exact trivial | (rw [jb]; conv=>whnf) | (refine sI ?_; conv=>whnf))
     ·have ha:pq t c=false:=by rw [pq,g1,Bool.false_and]
      rw [ha] at qA;simp only [Bool.false_eq_true,if_false,List.append_nil] at qA;refine gO Tryz.func108 ?_;refine aQ ?_;refine gO Tryz.func108 ?_;refine I.back (MH (m+1) (by omega) (by omega)) ?_;rw [qA];(conv=>whnf);repeat (first | exact trivial | (rw [jb]; conv=>whnf) | (refine sI ?_; conv=>whnf))
    ·have aC:m=L.length:=by simp at h9; omega
     subst aC;refine I.freeze 19 ?_;(conv=>whnf);conv =>
      arg 3
      try whnf
      try conv=>arg 1; whnf
      try conv=>arg 2; whnf
      try conv=>arg 3; whnf
      try conv=>arg 3; arg 2; whnf
      try conv=>arg 4; whnf
      try conv=>arg 4; arg 1; whnf
      try conv=>arg 4; arg 2; whnf
      try conv=>arg 4; arg 3; whnf
      try conv=>arg 4; arg 4; whnf
      try conv=>arg 4; arg 4; arg 2; whnf
      try conv=>arg 4; arg 4; arg 1; arg 1; whnf
      try conv=>arg 4; arg 4; arg 1; arg 1; arg 2; whnf
      try conv=>arg 4; arg 4; arg 1; arg 1; arg 3; whnf
      try conv=>arg 4; arg 4; arg 1; arg 1; arg 3; arg 2; whnf
      try conv=>arg 4; arg 5; whnf
      try conv=>arg 4; arg 5; arg 2; whnf
      try conv=>arg 4; arg 6; whnf
     rw [List.take_length];refine gO Tryz.func108 ?_;refine I.yield 0 rfl rfl rfl (bg rfl) (l8 (bg rfl)) rfl ?_;(conv=>whnf);conv =>
      arg 3
      try whnf
      try conv=>arg 1; whnf
      try conv=>arg 2; whnf
      try conv=>arg 3; whnf
      try conv=>arg 3; arg 2; whnf
      try conv=>arg 4; whnf
      try conv=>arg 4; arg 1; whnf
      try conv=>arg 4; arg 2; whnf
      try conv=>arg 4; arg 3; whnf
      try conv=>arg 4; arg 4; whnf
      try conv=>arg 4; arg 4; arg 2; whnf
      try conv=>arg 4; arg 4; arg 1; arg 1; whnf
      try conv=>arg 4; arg 4; arg 1; arg 1; arg 2; whnf
      try conv=>arg 4; arg 4; arg 1; arg 1; arg 3; whnf
      try conv=>arg 4; arg 4; arg 1; arg 1; arg 3; arg 2; whnf
      try conv=>arg 4; arg 5; whnf
      try conv=>arg 4; arg 5; arg 2; whnf
      try conv=>arg 4; arg 6; whnf
     refine gO Tryz.func17 ?_;refine I.begin 0 rfl rfl rfl ?_;(conv=>whnf);conv =>
      arg 3
      try whnf
      try conv=>arg 1; whnf
      try conv=>arg 2; whnf
      try conv=>arg 3; whnf
      try conv=>arg 3; arg 2; whnf
      try conv=>arg 4; whnf
      try conv=>arg 4; arg 1; whnf
      try conv=>arg 4; arg 2; whnf
      try conv=>arg 4; arg 3; whnf
      try conv=>arg 4; arg 4; whnf
      try conv=>arg 4; arg 4; arg 2; whnf
      try conv=>arg 4; arg 4; arg 1; arg 1; whnf
      try conv=>arg 4; arg 4; arg 1; arg 1; arg 2; whnf
      try conv=>arg 4; arg 4; arg 1; arg 1; arg 3; whnf
      try conv=>arg 4; arg 4; arg 1; arg 1; arg 3; arg 2; whnf
      try conv=>arg 4; arg 5; whnf
      try conv=>arg 4; arg 5; arg 2; whnf
      try conv=>arg 4; arg 6; whnf
     refine gO Tryz.func17 ?_;have c6:=To (ask k t).1 x.answer Dg xb;refine I.bH af bI 2000 (by kernel_rfl) ?_;(conv=>whnf);refine aB (e:=y.enc) (aN hy) rfl ?_;refine gD ?_;refine au (ug) ?_;refine gD ?_;refine And.intro (by kernel_rfl) ?_;(conv=>whnf);refine gO Tryz.func17 ?_;have aE:((ask k t).2==0&&decide ((ask k t).1=x.answer))=false→∀ t'∈T.take (j+1),((ask k t').2==0&&decide ((ask k t').1=x.answer))=false:=fun e t' lM=>by
      rw [cQ Ax] at lM;rcases List.mem_append.1 lM with h | h
      ·exact bL t' h
      ·rw [List.mem_singleton.1 h]; exact e
     refine ah (fun g3=>?_) (fun g3=>?_)
     ·refine gO Tryz.func17 ?_;refine ao (c6) ?_;refine gO Tryz.func17 ?_;cases Ay:decide ((ask k t).1=x.answer)
      ·refine aQ ?_;refine gO Tryz.func17 ?_;refine I.nN 0 rfl rfl rfl ?_;(conv=>whnf);conv =>
        arg 3
        try whnf
        try conv=>arg 1; whnf
        try conv=>arg 2; whnf
        try conv=>arg 3; whnf
        try conv=>arg 3; arg 2; whnf
        try conv=>arg 4; whnf
        try conv=>arg 4; arg 1; whnf
        try conv=>arg 4; arg 2; whnf
        try conv=>arg 4; arg 3; whnf
        try conv=>arg 4; arg 4; whnf
        try conv=>arg 4; arg 4; arg 2; whnf
        try conv=>arg 4; arg 4; arg 1; arg 1; whnf
        try conv=>arg 4; arg 4; arg 1; arg 1; arg 2; whnf
        try conv=>arg 4; arg 4; arg 1; arg 1; arg 3; whnf
        try conv=>arg 4; arg 4; arg 1; arg 1; arg 3; arg 2; whnf
        try conv=>arg 4; arg 5; whnf
        try conv=>arg 4; arg 5; arg 2; whnf
        try conv=>arg 4; arg 6; whnf
       refine gO Tryz.func108 ?_;refine aQ ?_;refine gO Tryz.func108 ?_;refine I.back (KH (j+1) ⟨by omega,aE (by rw [Ay,Bool.and_false])⟩ (by omega)) ?_;(conv=>whnf);repeat (first | exact trivial | (rw [jb]; conv=>whnf) | (refine sI ?_; conv=>whnf))
      ·refine aY ?_;have TU:gX ask h x k=true:=by rw [Eh,List.any_eq_true]; exact ⟨t,List.mem_of_getElem? Ax,by rw [g3,Ay]; rfl⟩
       refine gO Tryz.func17 ?_;refine bc ⟨by have:=List.length_filter_le (gX ask h x) (List.range k); simp at this; simp; omega,by simp [DV.cells]⟩ ?_;refine gO Tryz.func17 ?_;refine I.OF 0 rfl rfl rfl rfl ?_;(conv=>whnf);conv =>
        arg 3
        try whnf
        try conv=>arg 1; whnf
        try conv=>arg 2; whnf
        try conv=>arg 3; whnf
        try conv=>arg 3; arg 2; whnf
        try conv=>arg 4; whnf
        try conv=>arg 4; arg 1; whnf
        try conv=>arg 4; arg 2; whnf
        try conv=>arg 4; arg 3; whnf
        try conv=>arg 4; arg 4; whnf
        try conv=>arg 4; arg 4; arg 2; whnf
        try conv=>arg 4; arg 4; arg 1; arg 1; whnf
        try conv=>arg 4; arg 4; arg 1; arg 1; arg 2; whnf
        try conv=>arg 4; arg 4; arg 1; arg 1; arg 3; whnf
        try conv=>arg 4; arg 4; arg 1; arg 1; arg 3; arg 2; whnf
        try conv=>arg 4; arg 5; whnf
        try conv=>arg 4; arg 5; arg 2; whnf
        try conv=>arg 4; arg 6; whnf
       refine gO Tryz.func108 ?_;refine aY ?_;refine gO Tryz.func108 ?_;refine I.jr af Tryz.func108 rfl rfl rfl rfl (fun e=>nomatch e) ?_;(conv=>whnf);refine I.Kd (rows:=[]) rfl ?_;conv =>
        arg 3
        try whnf
        try conv=>arg 1; whnf
        try conv=>arg 2; whnf
        try conv=>arg 3; whnf
        try conv=>arg 3; arg 2; whnf
        try conv=>arg 4; whnf
        try conv=>arg 4; arg 1; whnf
        try conv=>arg 4; arg 2; whnf
        try conv=>arg 4; arg 3; whnf
        try conv=>arg 4; arg 4; whnf
        try conv=>arg 4; arg 4; arg 2; whnf
        try conv=>arg 4; arg 4; arg 1; arg 1; whnf
        try conv=>arg 4; arg 4; arg 1; arg 1; arg 2; whnf
        try conv=>arg 4; arg 4; arg 1; arg 1; arg 3; whnf
        try conv=>arg 4; arg 4; arg 1; arg 1; arg 3; arg 2; whnf
        try conv=>arg 4; arg 5; whnf
        try conv=>arg 4; arg 5; arg 2; whnf
        try conv=>arg 4; arg 6; whnf
       refine gO Tryz.func17 ?_;refine I.back (IH (k+1) _ (by omega) (by omega)) ?_;rw [fM,TU,if_pos rfl,List.map_append,List.map_append];(conv=>whnf);repeat (first | exact trivial | (rw [jb]; conv=>whnf) | (refine sI ?_; conv=>whnf))
       refine And.intro rfl ?_;(conv=>whnf);repeat (first | exact trivial | (rw [jb]; conv=>whnf) | (refine sI ?_; conv=>whnf))
     ·refine gO Tryz.func17 ?_;refine aQ ?_;refine gO Tryz.func17 ?_;refine I.nN 0 rfl rfl rfl ?_;(conv=>whnf);conv =>
       arg 3
       try whnf
       try conv=>arg 1; whnf
       try conv=>arg 2; whnf
       try conv=>arg 3; whnf
       try conv=>arg 3; arg 2; whnf
       try conv=>arg 4; whnf
       try conv=>arg 4; arg 1; whnf
       try conv=>arg 4; arg 2; whnf
       try conv=>arg 4; arg 3; whnf
       try conv=>arg 4; arg 4; whnf
       try conv=>arg 4; arg 4; arg 2; whnf
       try conv=>arg 4; arg 4; arg 1; arg 1; whnf
       try conv=>arg 4; arg 4; arg 1; arg 1; arg 2; whnf
       try conv=>arg 4; arg 4; arg 1; arg 1; arg 3; whnf
       try conv=>arg 4; arg 4; arg 1; arg 1; arg 3; arg 2; whnf
       try conv=>arg 4; arg 5; whnf
       try conv=>arg 4; arg 5; arg 2; whnf
       try conv=>arg 4; arg 6; whnf
      refine gO Tryz.func108 ?_;refine aQ ?_;refine gO Tryz.func108 ?_;refine I.back (KH (j+1) ⟨by omega,aE (by rw [g3,Bool.false_and])⟩ (by omega)) ?_;(conv=>whnf);repeat (first | exact trivial | (rw [jb]; conv=>whnf) | (refine sI ?_; conv=>whnf))
   ·have aC:j=T.length:=by simp at h8; omega
    subst aC;rw [List.take_length] at bL;have la:gX ask h x k=false:=by rw [Eh,List.any_eq_false]; exact fun t ht=>by rw [bL t ht]; simp
    refine gO Tryz.func108 ?_;refine I.jr af Tryz.func108 rfl rfl rfl rfl (fun e=>nomatch e) ?_;(conv=>whnf);refine I.Kd (rows:=[]) rfl ?_;conv =>
     arg 3
     try whnf
     try conv=>arg 1; whnf
     try conv=>arg 2; whnf
     try conv=>arg 3; whnf
     try conv=>arg 3; arg 2; whnf
     try conv=>arg 4; whnf
     try conv=>arg 4; arg 1; whnf
     try conv=>arg 4; arg 2; whnf
     try conv=>arg 4; arg 3; whnf
     try conv=>arg 4; arg 4; whnf
     try conv=>arg 4; arg 4; arg 2; whnf
     try conv=>arg 4; arg 4; arg 1; arg 1; whnf
     try conv=>arg 4; arg 4; arg 1; arg 1; arg 2; whnf
     try conv=>arg 4; arg 4; arg 1; arg 1; arg 3; whnf
     try conv=>arg 4; arg 4; arg 1; arg 1; arg 3; arg 2; whnf
     try conv=>arg 4; arg 5; whnf
     try conv=>arg 4; arg 5; arg 2; whnf
     try conv=>arg 4; arg 6; whnf
    refine gO Tryz.func17 ?_;refine I.back (IH (k+1) _ (by omega) (by omega)) ?_;rw [fM,la];simp only [Bool.false_eq_true,if_false,List.append_nil];(conv=>whnf);repeat (first | exact trivial | (rw [jb]; conv=>whnf) | (refine sI ?_; conv=>whnf))
  ·obtain ⟨z,hz,e⟩:∃ z,Z[j]? = some z∧(DV.int .i64 z,DV.bool true)=(kk,y):=by rw [← Ev] at hj; simpa using hj
   cases e;have nn:=aT hz;have TV:=Ki (seen:=seen) hz;have dg:(seen++[j]).Nodup:=by
    rw [List.nodup_append];exact ⟨sj,by simp,fun a ha b hb e=>by simp at hb; subst hb; subst e; exact jo ha⟩
   have Kq:∀ i∈seen++[j],i<Z.length:=fun i hi=>by rcases List.mem_append.1 hi with h | h; exact Ew i h; simp at h; omega
   have TW:=Kj dg Kq;rw [List.length_append,List.length_singleton] at TW;conv =>
    arg 3
    try whnf
    try conv=>arg 1; whnf
    try conv=>arg 2; whnf
    try conv=>arg 3; whnf
    try conv=>arg 3; arg 2; whnf
    try conv=>arg 4; whnf
    try conv=>arg 4; arg 1; whnf
    try conv=>arg 4; arg 2; whnf
    try conv=>arg 4; arg 3; whnf
    try conv=>arg 4; arg 4; whnf
    try conv=>arg 4; arg 4; arg 2; whnf
    try conv=>arg 4; arg 4; arg 1; arg 1; whnf
    try conv=>arg 4; arg 4; arg 1; arg 1; arg 2; whnf
    try conv=>arg 4; arg 4; arg 1; arg 1; arg 3; whnf
    try conv=>arg 4; arg 4; arg 1; arg 1; arg 3; arg 2; whnf
    try conv=>arg 4; arg 5; whnf
    try conv=>arg 4; arg 5; arg 2; whnf
    try conv=>arg 4; arg 6; whnf
   refine gO Tryz.func183 ?_;refine aY ?_;refine gO Tryz.func183 ?_;refine I.entry (it:=⟨bm,r,en,ck,since,seen++[j],du⟩) (g1:=[]) (g2:=[]) (pre:=seen) (j:=j) rfl rfl rfl rfl hj (bg rfl) ?_;conv =>
    arg 3
    try whnf
    try conv=>arg 1; whnf
    try conv=>arg 2; whnf
    try conv=>arg 3; whnf
    try conv=>arg 3; arg 2; whnf
    try conv=>arg 4; whnf
    try conv=>arg 4; arg 1; whnf
    try conv=>arg 4; arg 2; whnf
    try conv=>arg 4; arg 3; whnf
    try conv=>arg 4; arg 4; whnf
    try conv=>arg 4; arg 4; arg 2; whnf
    try conv=>arg 4; arg 4; arg 1; arg 1; whnf
    try conv=>arg 4; arg 4; arg 1; arg 1; arg 2; whnf
    try conv=>arg 4; arg 4; arg 1; arg 1; arg 3; whnf
    try conv=>arg 4; arg 4; arg 1; arg 1; arg 3; arg 2; whnf
    try conv=>arg 4; arg 5; whnf
    try conv=>arg 4; arg 5; arg 2; whnf
    try conv=>arg 4; arg 6; whnf
   (conv=>whnf);repeat ((fail_if_success (first | (refine I.yield 0 rfl rfl rfl (bg rfl) (l8 (bg rfl)) rfl ?_) | fail)); (refine I.run af Tryz.func183 1 ?_); (conv=>whnf))
   refine I.yield 0 rfl rfl rfl (bg rfl) (l8 (bg rfl)) rfl ?_;(conv=>whnf);conv =>
    arg 3
    try whnf
    try conv=>arg 1; whnf
    try conv=>arg 2; whnf
    try conv=>arg 3; whnf
    try conv=>arg 3; arg 2; whnf
    try conv=>arg 4; whnf
    try conv=>arg 4; arg 1; whnf
    try conv=>arg 4; arg 2; whnf
    try conv=>arg 4; arg 3; whnf
    try conv=>arg 4; arg 4; whnf
    try conv=>arg 4; arg 4; arg 2; whnf
    try conv=>arg 4; arg 4; arg 1; arg 1; whnf
    try conv=>arg 4; arg 4; arg 1; arg 1; arg 2; whnf
    try conv=>arg 4; arg 4; arg 1; arg 1; arg 3; whnf
    try conv=>arg 4; arg 4; arg 1; arg 1; arg 3; arg 2; whnf
    try conv=>arg 4; arg 5; whnf
    try conv=>arg 4; arg 5; arg 2; whnf
    try conv=>arg 4; arg 6; whnf
   (conv=>whnf);repeat ((fail_if_success (first | (refine I.begin 0 rfl rfl rfl ?_) | fail)); (refine I.run af Tryz.func260 1 ?_); (conv=>whnf))
   refine I.begin 0 rfl rfl rfl ?_;(conv=>whnf);conv =>
    arg 3
    try whnf
    try conv=>arg 1; whnf
    try conv=>arg 2; whnf
    try conv=>arg 3; whnf
    try conv=>arg 3; arg 2; whnf
    try conv=>arg 4; whnf
    try conv=>arg 4; arg 1; whnf
    try conv=>arg 4; arg 2; whnf
    try conv=>arg 4; arg 3; whnf
    try conv=>arg 4; arg 4; whnf
    try conv=>arg 4; arg 4; arg 2; whnf
    try conv=>arg 4; arg 4; arg 1; arg 1; whnf
    try conv=>arg 4; arg 4; arg 1; arg 1; arg 2; whnf
    try conv=>arg 4; arg 4; arg 1; arg 1; arg 3; whnf
    try conv=>arg 4; arg 4; arg 1; arg 1; arg 3; arg 2; whnf
    try conv=>arg 4; arg 5; whnf
    try conv=>arg 4; arg 5; arg 2; whnf
    try conv=>arg 4; arg 6; whnf
   refine gO Tryz.func260 ?_;refine bc ⟨by simp; omega,by simp [DV.cells]⟩ ?_;refine gO Tryz.func260 ?_;refine I.nN 0 rfl rfl rfl ?_;(conv=>whnf);conv =>
    arg 3
    try whnf
    try conv=>arg 1; whnf
    try conv=>arg 2; whnf
    try conv=>arg 3; whnf
    try conv=>arg 3; arg 2; whnf
    try conv=>arg 4; whnf
    try conv=>arg 4; arg 1; whnf
    try conv=>arg 4; arg 2; whnf
    try conv=>arg 4; arg 3; whnf
    try conv=>arg 4; arg 4; whnf
    try conv=>arg 4; arg 4; arg 2; whnf
    try conv=>arg 4; arg 4; arg 1; arg 1; whnf
    try conv=>arg 4; arg 4; arg 1; arg 1; arg 2; whnf
    try conv=>arg 4; arg 4; arg 1; arg 1; arg 3; whnf
    try conv=>arg 4; arg 4; arg 1; arg 1; arg 3; arg 2; whnf
    try conv=>arg 4; arg 5; whnf
    try conv=>arg 4; arg 5; arg 2; whnf
    try conv=>arg 4; arg 6; whnf
   refine gO Tryz.func183 ?_;refine aW (by decide) ?_;refine gO Tryz.func183 ?_;refine I.back (JH (seen++[j]) ⟨dg,Kq⟩ (by simp; omega)) ?_;(conv=>whnf);repeat (first | exact trivial | (rw [jb]; conv=>whnf) | (refine sI ?_; conv=>whnf))
   refine And.intro (by rw [TV]; simp) ?_;(conv=>whnf);repeat (first | exact trivial | (rw [jb]; conv=>whnf) | (refine sI ?_; conv=>whnf))
 ·have aC:k=h.aA.length:=by simp at h5; omega
  subst aC;refine I.freeze 3 ?_;(conv=>whnf);conv =>
   arg 3
   try whnf
   try conv=>arg 1; whnf
   try conv=>arg 2; whnf
   try conv=>arg 3; whnf
   try conv=>arg 3; arg 2; whnf
   try conv=>arg 4; whnf
   try conv=>arg 4; arg 1; whnf
   try conv=>arg 4; arg 2; whnf
   try conv=>arg 4; arg 3; whnf
   try conv=>arg 4; arg 4; whnf
   try conv=>arg 4; arg 4; arg 2; whnf
   try conv=>arg 4; arg 4; arg 1; arg 1; whnf
   try conv=>arg 4; arg 4; arg 1; arg 1; arg 2; whnf
   try conv=>arg 4; arg 4; arg 1; arg 1; arg 3; whnf
   try conv=>arg 4; arg 4; arg 1; arg 1; arg 3; arg 2; whnf
   try conv=>arg 4; arg 5; whnf
   try conv=>arg 4; arg 5; arg 2; whnf
   try conv=>arg 4; arg 6; whnf
  cases ds with
  |nil =>
   refine gO Tryz.func17 ?_;rw [← hQ];rfl
  |cons d ds =>
   refine gO Tryz.func17 ?_;refine I.kx af Tryz.func17 rfl rfl rfl rfl (L:=[]) ?hm ?hr
   case hm=>exact Ke (ds:=d::ds)
   case hr =>
    (conv=>whnf);rw [← hQ];rfl
end Go.Proofs.YtfmdaiojokniiaaGreatDoor.P
