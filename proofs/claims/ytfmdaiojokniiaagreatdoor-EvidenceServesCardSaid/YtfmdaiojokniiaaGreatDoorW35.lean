/- Several texts of mine, one behind the other. Conditions: as each says. -/
import Derived.Test.YtfmdaiojokniiaaGreatDoorW34
set_option linter.unusedVariables false
set_option linter.unusedSimpArgs false
namespace Go.Proofs.YtfmdaiojokniiaaGreatDoor.P
open Go Go.aw Go.Sort
set_option maxRecDepth 100000
set_option maxHeartbeats 400000
def kj (t:Int) (c:aX):Bool:=decide (c.bQ≤t)&&decide (t<c.upto)
def eh (l:List aX) (t:Int):List bj:=(l.filter (kj t)).map fun c=>⟨0,c.ay⟩
def jg (h:bN) (x:c9):Int:=max (x.time - h.bM) 0
def nL (h:bN) (x:c9):Int:=min (x.time+h.bM+1) h.fin
def dV (h:bN) (x:c9) (i:Nat):List aX:=h.aG.filter (fj i x.q.name)
def iL (h:bN) (x:c9) (i:Nat):List Int:=eY (dP [] (ki (jg h x) (nL h x) (dV h x i)))
def eZ (ask:Nat→Int→dj × Int) (h:bN) (x:c9) (i:Nat):Bool:=(iL h x i).any fun t=>(ask i t).2==0&&decide ((ask i t).1=x.answer)
def kV (h:bN) (x:c9):Int:=if ez h&&iK x then 0 else 1
def fa (ask:Nat→Int→dj × Int) (h:bN) (x:c9):List Int:=if ez h&&iK x && !qd x.answer then ((List.range h.aB.length).filter (eZ ask h x)).map fun (i:Nat)=>(i:Int) else []
theorem Sk {h:bN} {x:c9} {i:Nat}:(dV h x i).length≤h.aG.length:=List.length_filter_le ..
theorem DP {f u t:Int} {K:List Int}:(kh f u K t).length≤K.length+1:=by
 unfold kh;split <;> simp
theorem Ju {f u:Int}:∀ {l:List aX} {K:List Int},(l.foldl (r8 f u) K).length≤K.length+2*l.length
 | [],_=>by simp
 |c::l,K=>by
  rw [List.foldl_cons,List.length_cons];have h1:=Ju (f:=f) (u:=u) (l:=l) (K:=r8 f u K c);have h2:=DP (f:=f) (u:=u) (t:=c.upto) (K:=kh f u K c.bQ);have h3:=DP (f:=f) (u:=u) (t:=c.bQ) (K:=K);unfold r8 at h1 ⊢;omega
theorem Sl {f u:Int} {l:List aX}:(ki f u l).length≤1+2*l.length:=by
 have h1:=Ju (f:=f) (u:=u) (l:=l) (K:=kh f u [] f);have h2:=DP (f:=f) (u:=u) (t:=f) (K:=[]);unfold ki;simp at h2;omega
theorem Sm {a b:List Int} (h:a.Perm b):eY a=eY b:=by
 have h1:=DN a;have h2:=DN b;have h3:(eY a).Perm (eY b):=(rZ a).trans (h.trans (rZ b).symm);exact h3.eq_of_pairwise (fun x y _ _ p q=>Int.le_antisymm p q) h1 h2
theorem Sn {t:Int} {L:List aX} {m:Nat} {c:aX} (h:L[m]? = some c):eh (L.take (m+1)) t=eh (L.take m) t++(if kj t c then [⟨0,c.ay⟩] else []):=by
 rw [eh,dm h,List.filter_append,List.map_append];cases e:kj t c <;> simp [e,eh]
theorem DQ (h:bN) (x:c9) (ask:Nat→Int→dj × Int) (hf:h.Fits) (dx:h.aG.length≤1000000) (jb:x.eF)
  (Sp:∀ (i:Nat) (y:Host) (t:Int),h.aB[i]? = some y→ez h=true→iK x=true→t∈iL h x i→au E 31 [.agg [.sl [y.enc],.sl ((eh (dV h x i) t).map bj.enc),.str h.anchor.name,.int .i64 h.anchor.type,.int .i64 h.anchor.cV,.sl (h.anchor.data.map Datum.enc),.sl (h.hints.map (.int .i64))],.int .i64 y.addr,.agg [.str x.q.name,.int .i64 x.q.type]] (· = .az [.agg [.int .i64 (ask i t).1.kind,.sl ((ask i t).1.ae.map Signed.enc),.str (ask i t).1.cut],.int .i64 (ask i t).2])∧(ask i t).1.ae.length≤2147483648∧∀ s∈(ask i t).1.ae,s.set.data.length≤2147483648∧s.sigs.length≤2147483648) :
  au E 17 [h.enc,x.enc] (· = .az [.sl ((fa ask h x).map (.int .i64)),.int .i64 (kV h x)]):=by
 refine au.norm ?_;have c1:=I0 h hf dx;have c2:=RZ x jb;have c3:=Jh x.answer;unfold fa kV;cases nb:ez h
 ·rw [nb] at c1;refine eP Tryz.func17 ?_;refine ar (c1) ?_;refine gO Tryz.func17 ?_;refine aY ?_;refine gO Tryz.func17 ?_;refine aY ?_;refine gO Tryz.func17 ?_;rfl
 cases kQ:iK x
 ·rw [nb] at c1;rw [kQ] at c2;refine eP Tryz.func17 ?_;refine ar (c1) ?_;refine gO Tryz.func17 ?_;refine aN ?_;refine gO Tryz.func17 ?_;refine ar (c2) ?_;refine gO Tryz.func17 ?_;refine aY ?_;refine gO Tryz.func17 ?_;rfl
 rw [nb] at c1;rw [kQ] at c2;cases Jv:qd x.answer
 case true =>
  rw [Jv] at c3;refine eP Tryz.func17 ?_;refine ar (c1) ?_;refine gO Tryz.func17 ?_;refine aN ?_;refine gO Tryz.func17 ?_;refine ar (c2) ?_;refine gO Tryz.func17 ?_;refine aN ?_;refine gO Tryz.func17 ?_;refine ar (c3) ?_;refine gO Tryz.func17 ?_;refine aY ?_;refine gO Tryz.func17 ?_;rfl
 rw [Jv] at c3;have ht:0≤x.time∧x.time≤10000000:=by simp [iK] at kQ; omega
 have hd:0≤h.bM∧h.bM≤1000:=by simp [ez] at nb; omega
 have Jw:h.aB.length≤1000000:=by simp [ez,fG] at nb; omega
 have hq:iI x.q=true:=by simp [iK] at kQ; exact kQ.1.1.1.1.1
 have Sq:∀ c∈h.aG,c.ay.ai.length≤maxLen:=fun c hc=>(hf.cW c hc).ai;rw [if_pos (by rfl),if_pos (by rfl)];refine eP Tryz.func17 ?_;refine ar (c1) ?_;refine gO Tryz.func17 ?_;refine aN ?_;refine gO Tryz.func17 ?_;refine ar (c2) ?_;refine gO Tryz.func17 ?_;refine aN ?_;refine gO Tryz.func17 ?_;refine ar (c3) ?_;refine gO Tryz.func17 ?_;refine aN ?_;refine gO Tryz.func17 ?_;refine I.np 2 0 (3,1) (by decide) rfl rfl ?_;generalize hQ:(sM fun r=>norm r=DV.az [DV.sl ((((List.range h.aB.length).filter (eZ ask h x)).map fun (i:Nat)=>(i:Int)).map (DV.int .i64)),DV.int .i64 0])=Q;refine gO Tryz.func17 ?_;refine I.R5 (R:=⟨0,Q,[],⟨17,none,[],[],[],[]⟩⟩) (κ:=Nat) [7,8,9,10,25,26,27,28,29,30,31,33,34,35,36,37,38,39,40,41,42,43,44,45,46,47,48,49,50,51,52,53,54,55,56,57,58] (fun k=>[(25,.d (.int .i64 k))]) (fun k=>[(2,.cells [.own 3 1]),(3,.arr 1 (3,1) ((((List.range k).filter (eZ ask h x)).map fun (i:Nat)=>(i:Int)).map (.int .i64)))]) (fun k=>k≤h.aB.length) (fun k=>h.aB.length - k) 0 [] [] (Nat.zero_le _) ?_ ?_
 ·(conv=>whnf);repeat (first | exact trivial | (refine sI ?_; conv=>whnf))
  refine And.intro rfl ?_;exact sZ
 intro k ds hk IH;refine I.head ag Tryz.func17 2000 ?_;(conv=>whnf);refine aj (fun h5=>?_) (fun h5=>?_)
 ·have ah:k<h.aB.length:=by simpa using h5
  obtain ⟨y,hy⟩:=aU ah;have c4:=Sj h k x y hy dx Sq jb.1 ht hd (jg h x) (nL h x) rfl rfl;obtain ⟨Z,hZ⟩:∃ Z,dP [] (ki (jg h x) (nL h x) (h.aG.filter (fj k x.q.name)))=Z:=⟨_,rfl⟩;have hT:iL h x k=eY Z:=by rw [iL,dV,hZ]
  have VU:Z.Nodup:=by rw [← hZ]; exact Dn List.nodup_nil
  have gh:Z.length≤2000000000:=by
   have h1:=Dp (acc:=[]) (l:=ki (jg h x) (nL h x) (h.aG.filter (fj k x.q.name)));have h2:=Sl (f:=jg h x) (u:=nL h x) (l:=h.aG.filter (fj k x.q.name));have h3:(h.aG.filter (fj k x.q.name)).length≤h.aG.length:=List.length_filter_le ..;rw [hZ] at h1;simp at h1;omega
  have hL:dV h x k=h.aG.filter (fj k x.q.name):=rfl;obtain ⟨es,DR⟩:∃ es,(Z.map fun a=>(DV.int .i64 a,DV.bool true))=es:=⟨_,rfl⟩;rw [R6 IN,hZ,DR,← hL] at c4;have VV:=Sk (h:=h) (x:=x) (i:=k);have Sr:=fun t=>Sp k y t hy nb kQ;generalize dV h x k=L at *;refine gO Tryz.func17 ?_;refine FO (ds:=[h.enc,.int .i64 k,x.enc]) c4 ?_;rintro r b ⟨rfl,rfl⟩;refine gO Tryz.func17 ?_;refine I.rangeFunc (aM rfl) Tryz.func108 rfl (by decide) rfl (fun ll d t=>?_);refine gO Tryz.func108 ?_
  with_reducible refine bC (Sh es) ?_
  (conv=>whnf);repeat ((fail_if_success (first | (refine I.lL (fn:=Tryz.f109) rfl rfl lI (lJ (aM rfl)) Tryz.func109 rfl (by decide) ?_) | fail)); (refine I.run ag Tryz.func108 1 ?_); (conv=>whnf))
  refine I.lL (fn:=Tryz.f109) rfl rfl lI (lJ (aM rfl)) Tryz.func109 rfl (by decide) ?_;(conv=>whnf);conv =>
   arg 3
   try whnf
   try conv=>arg 1; whnf
   try conv=>arg 2; whnf
   try conv=>arg 3; whnf
   try conv=>arg 3; arg 2; whnf
   try conv=>arg 4; whnf
   try conv=>arg 4; arg 1; whnf
   try conv=>arg 4; arg 2; whnf
   try conv=>arg 4; arg 3; whnf
   try conv=>arg 4; arg 4; whnf
   try conv=>arg 4; arg 4; arg 2; whnf
   try conv=>arg 4; arg 4; arg 1; arg 1; whnf
   try conv=>arg 4; arg 4; arg 1; arg 1; arg 2; whnf
   try conv=>arg 4; arg 4; arg 1; arg 1; arg 3; whnf
   try conv=>arg 4; arg 4; arg 1; arg 1; arg 3; arg 2; whnf
   try conv=>arg 4; arg 5; whnf
   try conv=>arg 4; arg 5; arg 2; whnf
   try conv=>arg 4; arg 6; whnf
  (conv=>whnf);repeat ((fail_if_success (first | (refine I.lL (fn:=Tryz.f181) rfl rfl lI (lJ (aM rfl)) Tryz.func181 rfl (by decide) ?_) | fail)); (refine I.run ag Tryz.func109 1 ?_); (conv=>whnf))
  refine I.lL (fn:=Tryz.f181) rfl rfl lI (lJ (aM rfl)) Tryz.func181 rfl (by decide) ?_;(conv=>whnf);conv =>
   arg 3
   try whnf
   try conv=>arg 1; whnf
   try conv=>arg 2; whnf
   try conv=>arg 3; whnf
   try conv=>arg 3; arg 2; whnf
   try conv=>arg 4; whnf
   try conv=>arg 4; arg 1; whnf
   try conv=>arg 4; arg 2; whnf
   try conv=>arg 4; arg 3; whnf
   try conv=>arg 4; arg 4; whnf
   try conv=>arg 4; arg 4; arg 2; whnf
   try conv=>arg 4; arg 4; arg 1; arg 1; whnf
   try conv=>arg 4; arg 4; arg 1; arg 1; arg 2; whnf
   try conv=>arg 4; arg 4; arg 1; arg 1; arg 3; whnf
   try conv=>arg 4; arg 4; arg 1; arg 1; arg 3; arg 2; whnf
   try conv=>arg 4; arg 5; whnf
   try conv=>arg 4; arg 5; arg 2; whnf
   try conv=>arg 4; arg 6; whnf
  (conv=>whnf);repeat ((fail_if_success (first | (refine I.lL (fn:=Tryz.f260) rfl rfl lI (lK Js (aM rfl)) Tryz.func260 rfl (by decide) ?_) | fail)); (refine I.run ag Tryz.func181 1 ?_); (conv=>whnf))
  refine I.lL (fn:=Tryz.f260) rfl rfl lI (lK Js (aM rfl)) Tryz.func260 rfl (by decide) ?_;(conv=>whnf);conv =>
   arg 3
   try whnf
   try conv=>arg 1; whnf
   try conv=>arg 2; whnf
   try conv=>arg 3; whnf
   try conv=>arg 3; arg 2; whnf
   try conv=>arg 4; whnf
   try conv=>arg 4; arg 1; whnf
   try conv=>arg 4; arg 2; whnf
   try conv=>arg 4; arg 3; whnf
   try conv=>arg 4; arg 4; whnf
   try conv=>arg 4; arg 4; arg 2; whnf
   try conv=>arg 4; arg 4; arg 1; arg 1; whnf
   try conv=>arg 4; arg 4; arg 1; arg 1; arg 2; whnf
   try conv=>arg 4; arg 4; arg 1; arg 1; arg 3; whnf
   try conv=>arg 4; arg 4; arg 1; arg 1; arg 3; arg 2; whnf
   try conv=>arg 4; arg 5; whnf
   try conv=>arg 4; arg 5; arg 2; whnf
   try conv=>arg 4; arg 6; whnf
  (conv=>whnf);(conv=>whnf);repeat ((fail_if_success (first | (refine I.np 16 0 (3,1) (by decide) rfl rfl ?_) | fail)); (refine I.run ag Tryz.func260 1 ?_); (conv=>whnf))
  refine I.np 16 0 (3,1) (by decide) rfl rfl ?_;(conv=>whnf);(conv=>whnf);repeat ((fail_if_success (first | (refine I.rangeFunc (aM rfl) Tryz.func183 rfl (by decide) rfl (fun ll d t=>?_)) | fail)); (refine I.run ag Tryz.func260 1 ?_); (conv=>whnf))
  refine I.rangeFunc (aM rfl) Tryz.func183 rfl (by decide) rfl (fun ll d t=>?_);(conv=>whnf);conv =>
   arg 3
   try whnf
   try conv=>arg 1; whnf
   try conv=>arg 2; whnf
   try conv=>arg 3; whnf
   try conv=>arg 3; arg 2; whnf
   try conv=>arg 4; whnf
   try conv=>arg 4; arg 1; whnf
   try conv=>arg 4; arg 2; whnf
   try conv=>arg 4; arg 3; whnf
   try conv=>arg 4; arg 4; whnf
   try conv=>arg 4; arg 4; arg 2; whnf
   try conv=>arg 4; arg 4; arg 1; arg 1; whnf
   try conv=>arg 4; arg 4; arg 1; arg 1; arg 2; whnf
   try conv=>arg 4; arg 4; arg 1; arg 1; arg 3; whnf
   try conv=>arg 4; arg 4; arg 1; arg 1; arg 3; arg 2; whnf
   try conv=>arg 4; arg 5; whnf
   try conv=>arg 4; arg 5; arg 2; whnf
   try conv=>arg 4; arg 6; whnf
  (conv=>whnf);repeat ((fail_if_success (first | (refine I.range ag rfl rfl rfl rfl (aM rfl) rfl (Nat.zero_le _) (fun it pG jP pO=>?_)) | fail)); (refine I.run ag Tryz.func183 1 ?_); (conv=>whnf))
  refine I.range ag rfl rfl rfl rfl (aM rfl) rfl (Nat.zero_le _) (fun it pG jP pO=>?_);(conv=>whnf);obtain ⟨bm,r,en,ck,since,seen,cX⟩:=it;simp only at pG jP pO;subst pG; subst jP;conv =>
   arg 3
   try whnf
   try conv=>arg 1; whnf
   try conv=>arg 2; whnf
   try conv=>arg 3; whnf
   try conv=>arg 3; arg 2; whnf
   try conv=>arg 4; whnf
   try conv=>arg 4; arg 1; whnf
   try conv=>arg 4; arg 2; whnf
   try conv=>arg 4; arg 3; whnf
   try conv=>arg 4; arg 4; whnf
   try conv=>arg 4; arg 4; arg 2; whnf
   try conv=>arg 4; arg 4; arg 1; arg 1; whnf
   try conv=>arg 4; arg 4; arg 1; arg 1; arg 2; whnf
   try conv=>arg 4; arg 4; arg 1; arg 1; arg 3; whnf
   try conv=>arg 4; arg 4; arg 1; arg 1; arg 3; arg 2; whnf
   try conv=>arg 4; arg 5; whnf
   try conv=>arg 4; arg 5; arg 2; whnf
   try conv=>arg 4; arg 6; whnf
  refine gO Tryz.func183 ?_;refine I.CI (κ:=List Nat) ([1,4]++[3,6,7,8,9,10,11,12,13]) (fun _=>[]) (fun x=>[(13,.gone),(15,.gone),(16,.cells [.own 17 1]),(17,.arr 1 (3,1) ((jE Z x).map (.int .i64)))]) (fun x=>[.iter ⟨bm,r,en,ck,since,x,cX⟩]) (fun x=>x.Nodup∧∀ j∈x,j<Z.length) (fun x=>Z.length - x.length) [] ⟨List.nodup_nil,fun j hj=>by cases hj⟩ rfl ?_ ?_
  ·(conv=>whnf);repeat (first | exact trivial | (rw [fI]; conv=>whnf) | (refine sI ?_; conv=>whnf))
   refine And.intro rfl ?_;(conv=>whnf);repeat (first | exact trivial | (rw [fI]; conv=>whnf) | (refine sI ?_; conv=>whnf))
  rintro seen ⟨rP,DS⟩ JH;have r9:=R7 (xs:=Z) (seen:=seen);have VW:=Jq rP DS;refine I.head ag Tryz.func183 2000 ?_;(conv=>whnf);refine I.next (it:=⟨bm,r,en,ck,since,seen,cX⟩) (g1:=[]) (g2:=[]) rfl rfl pO rfl (aM rfl) (fun a7=>?_) (fun j kk y hj iS=>?_)
  ·refine gO Tryz.func183 ?_;refine aN ?_;refine gO Tryz.func183 ?_;refine I.iC ag Tryz.func183 rfl rfl rfl rfl (fun e=>nomatch e) ?_;(conv=>whnf);conv =>
    arg 3
    try whnf
    try conv=>arg 1; whnf
    try conv=>arg 2; whnf
    try conv=>arg 3; whnf
    try conv=>arg 3; arg 2; whnf
    try conv=>arg 4; whnf
    try conv=>arg 4; arg 1; whnf
    try conv=>arg 4; arg 2; whnf
    try conv=>arg 4; arg 3; whnf
    try conv=>arg 4; arg 4; whnf
    try conv=>arg 4; arg 4; arg 2; whnf
    try conv=>arg 4; arg 4; arg 1; arg 1; whnf
    try conv=>arg 4; arg 4; arg 1; arg 1; arg 2; whnf
    try conv=>arg 4; arg 4; arg 1; arg 1; arg 3; whnf
    try conv=>arg 4; arg 4; arg 1; arg 1; arg 3; arg 2; whnf
    try conv=>arg 4; arg 5; whnf
    try conv=>arg 4; arg 5; arg 2; whnf
    try conv=>arg 4; arg 6; whnf
   have lS:(jE Z seen).Perm Z:=R9 rP DS fun j hj=>a7 j (by rw [← DR]; simpa using hj);have w7:eY (jE Z seen)=eY Z:=Sm lS;have VX:(jE Z seen).length≤2000000000:=by rw [lS.length_eq]; exact gh
   have c5:=Sf (jE Z seen) (by omega);rw [w7,← hT] at c5;have Dq:(iL h x k).length≤2000000000:=by rw [hT,(rZ Z).length_eq]; exact gh
   (conv=>whnf);repeat ((fail_if_success (first | (refine I.lM ag Tryz.func260 rfl rfl rfl rfl ?_) | fail)); (refine I.run ag Tryz.func260 1 ?_); (conv=>whnf))
   refine I.lM ag Tryz.func260 rfl rfl rfl rfl ?_;(conv=>whnf);(conv=>whnf);conv =>
    arg 3
    try whnf
    try conv=>arg 1; whnf
    try conv=>arg 2; whnf
    try conv=>arg 3; whnf
    try conv=>arg 3; arg 2; whnf
    try conv=>arg 4; whnf
    try conv=>arg 4; arg 1; whnf
    try conv=>arg 4; arg 2; whnf
    try conv=>arg 4; arg 3; whnf
    try conv=>arg 4; arg 4; whnf
    try conv=>arg 4; arg 4; arg 2; whnf
    try conv=>arg 4; arg 4; arg 1; arg 1; whnf
    try conv=>arg 4; arg 4; arg 1; arg 1; arg 2; whnf
    try conv=>arg 4; arg 4; arg 1; arg 1; arg 3; whnf
    try conv=>arg 4; arg 4; arg 1; arg 1; arg 3; arg 2; whnf
    try conv=>arg 4; arg 5; whnf
    try conv=>arg 4; arg 5; arg 2; whnf
    try conv=>arg 4; arg 6; whnf
   (conv=>whnf);repeat ((fail_if_success (first | (refine I.lM ag Tryz.func181 rfl rfl rfl rfl ?_) | fail)); (refine I.run ag Tryz.func181 1 ?_); (conv=>whnf))
   refine I.lM ag Tryz.func181 rfl rfl rfl rfl ?_;(conv=>whnf);(conv=>whnf);conv =>
    arg 3
    try whnf
    try conv=>arg 1; whnf
    try conv=>arg 2; whnf
    try conv=>arg 3; whnf
    try conv=>arg 3; arg 2; whnf
    try conv=>arg 4; whnf
    try conv=>arg 4; arg 1; whnf
    try conv=>arg 4; arg 2; whnf
    try conv=>arg 4; arg 3; whnf
    try conv=>arg 4; arg 4; whnf
    try conv=>arg 4; arg 4; arg 2; whnf
    try conv=>arg 4; arg 4; arg 1; arg 1; whnf
    try conv=>arg 4; arg 4; arg 1; arg 1; arg 2; whnf
    try conv=>arg 4; arg 4; arg 1; arg 1; arg 3; whnf
    try conv=>arg 4; arg 4; arg 1; arg 1; arg 3; arg 2; whnf
    try conv=>arg 4; arg 5; whnf
    try conv=>arg 4; arg 5; arg 2; whnf
    try conv=>arg 4; arg 6; whnf
   refine gO Tryz.func109 ?_
   with_reducible refine bC c5 ?_
   (conv=>whnf);(conv=>whnf);repeat ((fail_if_success (first | (refine I.lM ag Tryz.func109 rfl rfl rfl rfl ?_) | fail)); (refine I.run ag Tryz.func109 1 ?_); (conv=>whnf))
   refine I.lM ag Tryz.func109 rfl rfl rfl rfl ?_;(conv=>whnf);(conv=>whnf);conv =>
    arg 3
    try whnf
    try conv=>arg 1; whnf
    try conv=>arg 2; whnf
    try conv=>arg 3; whnf
    try conv=>arg 3; arg 2; whnf
    try conv=>arg 4; whnf
    try conv=>arg 4; arg 1; whnf
    try conv=>arg 4; arg 2; whnf
    try conv=>arg 4; arg 3; whnf
    try conv=>arg 4; arg 4; whnf
    try conv=>arg 4; arg 4; arg 2; whnf
    try conv=>arg 4; arg 4; arg 1; arg 1; whnf
    try conv=>arg 4; arg 4; arg 1; arg 1; arg 2; whnf
    try conv=>arg 4; arg 4; arg 1; arg 1; arg 3; whnf
    try conv=>arg 4; arg 4; arg 1; arg 1; arg 3; arg 2; whnf
    try conv=>arg 4; arg 5; whnf
    try conv=>arg 4; arg 5; arg 2; whnf
    try conv=>arg 4; arg 6; whnf
   refine I.freeze 17 ?_;(conv=>whnf);conv =>
    arg 3
    try whnf
    try conv=>arg 1; whnf
    try conv=>arg 2; whnf
    try conv=>arg 3; whnf
    try conv=>arg 3; arg 2; whnf
    try conv=>arg 4; whnf
    try conv=>arg 4; arg 1; whnf
    try conv=>arg 4; arg 2; whnf
    try conv=>arg 4; arg 3; whnf
    try conv=>arg 4; arg 4; whnf
    try conv=>arg 4; arg 4; arg 2; whnf
    try conv=>arg 4; arg 4; arg 1; arg 1; whnf
    try conv=>arg 4; arg 4; arg 1; arg 1; arg 2; whnf
    try conv=>arg 4; arg 4; arg 1; arg 1; arg 3; whnf
    try conv=>arg 4; arg 4; arg 1; arg 1; arg 3; arg 2; whnf
    try conv=>arg 4; arg 5; whnf
    try conv=>arg 4; arg 5; arg 2; whnf
    try conv=>arg 4; arg 6; whnf
   refine gO Tryz.func108 ?_;obtain ⟨T,zL⟩:∃ T,iL h x k=T:=⟨_,rfl⟩;rw [zL] at Dq;rw [zL];have dJ:(List.range (k+1)).filter (eZ ask h x)=(List.range k).filter (eZ ask h x)++(if eZ ask h x k then [k] else []):=by
    rw [List.range_succ,List.filter_append];cases h:eZ ask h x k <;> simp [h]
   have DF:eZ ask h x k=T.any fun t=>(ask k t).2==0&&decide ((ask k t).1=x.answer):=by rw [← zL]; rfl
   refine I.loop (κ:=Nat) ([1,11,12]++[7,8,10,15,16,17,18,19,20,21,22,23,24,25,26,27,28,29,30,31,32,33,34,35,36,37,38,39,40,41,42,43,44,45,46,47,48,49,50,51,52,53,54]) (fun j=>[(15,.d (.int .i64 j))]) (fun _=>[]) (fun j=>j≤T.length∧∀ t∈T.take j,((ask k t).2==0&&decide ((ask k t).1=x.answer))=false) (fun j=>T.length - j) 0 ⟨Nat.zero_le _,fun t h=>by simp at h⟩ ?_ ?_
   ·(conv=>whnf);repeat (first | exact trivial | (rw [fI]; conv=>whnf) | (refine sI ?_; conv=>whnf))
   rintro j ⟨hj,cj⟩ KH;refine I.head ag Tryz.func108 2000 ?_;(conv=>whnf);refine aj (fun h8=>?_) (fun h8=>?_)
   ·have Ss:j<T.length:=by simpa using h8
    obtain ⟨t,zM⟩:=aU Ss;obtain ⟨yN,St,wA⟩:=Sr t (by rw [zL]; exact List.mem_of_getElem? zM);refine gO Tryz.func108 ?_;refine aT (e := .int .i64 t) (bu zM) rfl ?_;refine gO Tryz.func108 ?_;refine I.np 18 1 (61,3) (by decide) rfl rfl ?_;refine gO Tryz.func108 ?_;refine I.loop (κ:=Nat) ([10]++rg 27 23) (fun m=>[(27,.d (.int .i64 m))]) (fun m=>[(18,.cells [.d (.sl [y.enc]),.own 19 1,.d (.str h.anchor.name),.d (.int .i64 h.anchor.type),.d (.int .i64 h.anchor.cV),.d (.sl (h.anchor.data.map Datum.enc)),.d (.sl (h.hints.map (.int .i64)))]),(19,.arr 1 (61,3) ((eh (L.take m) t).map bj.enc))]) (fun m=>m≤L.length) (fun m=>L.length - m) 0 (Nat.zero_le _) ?_ ?_
    ·(conv=>whnf);repeat (first | exact trivial | (rw [fI]; conv=>whnf) | (refine sI ?_; conv=>whnf))
     refine And.intro rfl ?_;(conv=>whnf);repeat (first | exact trivial | (rw [fI]; conv=>whnf) | (refine sI ?_; conv=>whnf))
    intro m hm MH;refine I.head ag Tryz.func108 2000 ?_;(conv=>whnf);refine aj (fun h9=>?_) (fun h9=>?_)
    ·have G9:m<L.length:=by simpa using h9
     obtain ⟨c,hc⟩:=aU G9;have qh:=Sn (t:=t) hc;have VY:(eh (L.take m) t).length≤m:=by rw [eh,List.length_map]; exact Nat.le_trans (List.length_filter_le ..) (by simp; omega)
     generalize eh (L.take m) t=Y at *;refine gO Tryz.func108 ?_;refine aT (e:=c.enc) (bu hc) rfl ?_;refine gO Tryz.func108 ?_;refine aj (fun g1=>?_) (fun g1=>?_)
     ·refine gO Tryz.func108 ?_;refine aj (fun g2=>?_) (fun g2=>?_)
      ·refine gO Tryz.func108 ?_;refine bp ⟨by simp only [List.length_map,List.length_cons,List.length_nil]; omega,by simp [DV.cells]⟩ ?_;have ha:kj t c=true:=by simp_all [kj]
       rw [ha,if_pos rfl] at qh;refine gO Tryz.func108 ?_;refine I.back (MH (m+1) (by omega) (by omega)) ?_;rw [qh,List.map_append];(conv=>whnf);repeat (first | exact trivial | (rw [fI]; conv=>whnf) | (refine sI ?_; conv=>whnf))
       refine And.intro rfl ?_;(conv=>whnf);repeat (first | exact trivial | (rw [fI]; conv=>whnf) | (refine sI ?_; conv=>whnf))
      ·have ha:kj t c=false:=by rw [kj,g2,Bool.and_false]
       rw [ha] at qh;simp only [Bool.false_eq_true,if_false,List.append_nil] at qh;refine gO Tryz.func108 ?_;refine I.back (MH (m+1) (by omega) (by omega)) ?_;rw [qh];(conv=>whnf);repeat (first | exact trivial | (rw [fI]; conv=>whnf) | (refine sI ?_; conv=>whnf))
     ·have ha:kj t c=false:=by rw [kj,g1,Bool.false_and]
      rw [ha] at qh;simp only [Bool.false_eq_true,if_false,List.append_nil] at qh;refine gO Tryz.func108 ?_;refine aN ?_;refine gO Tryz.func108 ?_;refine I.back (MH (m+1) (by omega) (by omega)) ?_;rw [qh];(conv=>whnf);repeat (first | exact trivial | (rw [fI]; conv=>whnf) | (refine sI ?_; conv=>whnf))
    ·have aK:m=L.length:=by simp at h9; omega
     subst aK;refine I.freeze 19 ?_;(conv=>whnf);conv =>
      arg 3
      try whnf
      try conv=>arg 1; whnf
      try conv=>arg 2; whnf
      try conv=>arg 3; whnf
      try conv=>arg 3; arg 2; whnf
      try conv=>arg 4; whnf
      try conv=>arg 4; arg 1; whnf
      try conv=>arg 4; arg 2; whnf
      try conv=>arg 4; arg 3; whnf
      try conv=>arg 4; arg 4; whnf
      try conv=>arg 4; arg 4; arg 2; whnf
      try conv=>arg 4; arg 4; arg 1; arg 1; whnf
      try conv=>arg 4; arg 4; arg 1; arg 1; arg 2; whnf
      try conv=>arg 4; arg 4; arg 1; arg 1; arg 3; whnf
      try conv=>arg 4; arg 4; arg 1; arg 1; arg 3; arg 2; whnf
      try conv=>arg 4; arg 5; whnf
      try conv=>arg 4; arg 5; arg 2; whnf
      try conv=>arg 4; arg 6; whnf
     rw [List.take_length];refine gO Tryz.func108 ?_;refine I.yield 0 rfl rfl rfl (aM rfl) (lJ (aM rfl)) rfl ?_;(conv=>whnf);conv =>
      arg 3
      try whnf
      try conv=>arg 1; whnf
      try conv=>arg 2; whnf
      try conv=>arg 3; whnf
      try conv=>arg 3; arg 2; whnf
      try conv=>arg 4; whnf
      try conv=>arg 4; arg 1; whnf
      try conv=>arg 4; arg 2; whnf
      try conv=>arg 4; arg 3; whnf
      try conv=>arg 4; arg 4; whnf
      try conv=>arg 4; arg 4; arg 2; whnf
      try conv=>arg 4; arg 4; arg 1; arg 1; whnf
      try conv=>arg 4; arg 4; arg 1; arg 1; arg 2; whnf
      try conv=>arg 4; arg 4; arg 1; arg 1; arg 3; whnf
      try conv=>arg 4; arg 4; arg 1; arg 1; arg 3; arg 2; whnf
      try conv=>arg 4; arg 5; whnf
      try conv=>arg 4; arg 5; arg 2; whnf
      try conv=>arg 4; arg 6; whnf
     refine gO Tryz.func17 ?_;refine I.begin 0 rfl rfl rfl ?_;(conv=>whnf);conv =>
      arg 3
      try whnf
      try conv=>arg 1; whnf
      try conv=>arg 2; whnf
      try conv=>arg 3; whnf
      try conv=>arg 3; arg 2; whnf
      try conv=>arg 4; whnf
      try conv=>arg 4; arg 1; whnf
      try conv=>arg 4; arg 2; whnf
      try conv=>arg 4; arg 3; whnf
      try conv=>arg 4; arg 4; whnf
      try conv=>arg 4; arg 4; arg 2; whnf
      try conv=>arg 4; arg 4; arg 1; arg 1; whnf
      try conv=>arg 4; arg 4; arg 1; arg 1; arg 2; whnf
      try conv=>arg 4; arg 4; arg 1; arg 1; arg 3; whnf
      try conv=>arg 4; arg 4; arg 1; arg 1; arg 3; arg 2; whnf
      try conv=>arg 4; arg 5; whnf
      try conv=>arg 4; arg 5; arg 2; whnf
      try conv=>arg 4; arg 6; whnf
     refine gO Tryz.func17 ?_;have c6:=RY (ask k t).1 x.answer St wA;refine I.bU ag bV 2000 (by kernel_rfl) ?_;(conv=>whnf);refine aT (e:=y.enc) (bu hy) rfl ?_;refine gD ?_;refine aR (yN) ?_;refine gD ?_;refine And.intro (by kernel_rfl) ?_;(conv=>whnf);refine gO Tryz.func17 ?_;have bB:((ask k t).2==0&&decide ((ask k t).1=x.answer))=false→∀ t'∈T.take (j+1),((ask k t').2==0&&decide ((ask k t').1=x.answer))=false:=fun e t' mP=>by
      rw [dm zM] at mP;rcases List.mem_append.1 mP with h | h
      ·exact cj t' h
      ·rw [List.mem_singleton.1 h]; exact e
     refine aj (fun g3=>?_) (fun g3=>?_)
     ·refine gO Tryz.func17 ?_;refine ar (c6) ?_;refine gO Tryz.func17 ?_;cases zN:decide ((ask k t).1=x.answer)
      ·refine aN ?_;refine gO Tryz.func17 ?_;refine I.mj 0 rfl rfl rfl ?_;(conv=>whnf);conv =>
        arg 3
        try whnf
        try conv=>arg 1; whnf
        try conv=>arg 2; whnf
        try conv=>arg 3; whnf
        try conv=>arg 3; arg 2; whnf
        try conv=>arg 4; whnf
        try conv=>arg 4; arg 1; whnf
        try conv=>arg 4; arg 2; whnf
        try conv=>arg 4; arg 3; whnf
        try conv=>arg 4; arg 4; whnf
        try conv=>arg 4; arg 4; arg 2; whnf
        try conv=>arg 4; arg 4; arg 1; arg 1; whnf
        try conv=>arg 4; arg 4; arg 1; arg 1; arg 2; whnf
        try conv=>arg 4; arg 4; arg 1; arg 1; arg 3; whnf
        try conv=>arg 4; arg 4; arg 1; arg 1; arg 3; arg 2; whnf
        try conv=>arg 4; arg 5; whnf
        try conv=>arg 4; arg 5; arg 2; whnf
        try conv=>arg 4; arg 6; whnf
       refine gO Tryz.func108 ?_;refine aN ?_;refine gO Tryz.func108 ?_;refine I.back (KH (j+1) ⟨by omega,bB (by rw [zN,Bool.and_false])⟩ (by omega)) ?_;(conv=>whnf);repeat (first | exact trivial | (rw [fI]; conv=>whnf) | (refine sI ?_; conv=>whnf))
      ·refine aY ?_;have Su:eZ ask h x k=true:=by rw [DF,List.any_eq_true]; exact ⟨t,List.mem_of_getElem? zM,by rw [g3,zN]; rfl⟩
       refine gO Tryz.func17 ?_;refine bp ⟨by have:=List.length_filter_le (eZ ask h x) (List.range k); simp at this; simp; omega,by simp [DV.cells]⟩ ?_;refine gO Tryz.func17 ?_;refine I.Ob 0 rfl rfl rfl rfl ?_;(conv=>whnf);conv =>
        arg 3
        try whnf
        try conv=>arg 1; whnf
        try conv=>arg 2; whnf
        try conv=>arg 3; whnf
        try conv=>arg 3; arg 2; whnf
        try conv=>arg 4; whnf
        try conv=>arg 4; arg 1; whnf
        try conv=>arg 4; arg 2; whnf
        try conv=>arg 4; arg 3; whnf
        try conv=>arg 4; arg 4; whnf
        try conv=>arg 4; arg 4; arg 2; whnf
        try conv=>arg 4; arg 4; arg 1; arg 1; whnf
        try conv=>arg 4; arg 4; arg 1; arg 1; arg 2; whnf
        try conv=>arg 4; arg 4; arg 1; arg 1; arg 3; whnf
        try conv=>arg 4; arg 4; arg 1; arg 1; arg 3; arg 2; whnf
        try conv=>arg 4; arg 5; whnf
        try conv=>arg 4; arg 5; arg 2; whnf
        try conv=>arg 4; arg 6; whnf
       refine gO Tryz.func108 ?_;refine aY ?_;refine gO Tryz.func108 ?_;refine I.iC ag Tryz.func108 rfl rfl rfl rfl (fun e=>nomatch e) ?_;(conv=>whnf);refine I.Jl (rows:=[]) rfl ?_;conv =>
        arg 3
        try whnf
        try conv=>arg 1; whnf
        try conv=>arg 2; whnf
        try conv=>arg 3; whnf
        try conv=>arg 3; arg 2; whnf
        try conv=>arg 4; whnf
        try conv=>arg 4; arg 1; whnf
        try conv=>arg 4; arg 2; whnf
        try conv=>arg 4; arg 3; whnf
        try conv=>arg 4; arg 4; whnf
        try conv=>arg 4; arg 4; arg 2; whnf
        try conv=>arg 4; arg 4; arg 1; arg 1; whnf
        try conv=>arg 4; arg 4; arg 1; arg 1; arg 2; whnf
        try conv=>arg 4; arg 4; arg 1; arg 1; arg 3; whnf
        try conv=>arg 4; arg 4; arg 1; arg 1; arg 3; arg 2; whnf
        try conv=>arg 4; arg 5; whnf
        try conv=>arg 4; arg 5; arg 2; whnf
        try conv=>arg 4; arg 6; whnf
       refine gO Tryz.func17 ?_;refine I.back (IH (k+1) _ (by omega) (by omega)) ?_;rw [dJ,Su,if_pos rfl,List.map_append,List.map_append];(conv=>whnf);repeat (first | exact trivial | (rw [fI]; conv=>whnf) | (refine sI ?_; conv=>whnf))
       refine And.intro rfl ?_;(conv=>whnf);repeat (first | exact trivial | (rw [fI]; conv=>whnf) | (refine sI ?_; conv=>whnf))
     ·refine gO Tryz.func17 ?_;refine aN ?_;refine gO Tryz.func17 ?_;refine I.mj 0 rfl rfl rfl ?_;(conv=>whnf);conv =>
       arg 3
       try whnf
       try conv=>arg 1; whnf
       try conv=>arg 2; whnf
       try conv=>arg 3; whnf
       try conv=>arg 3; arg 2; whnf
       try conv=>arg 4; whnf
       try conv=>arg 4; arg 1; whnf
       try conv=>arg 4; arg 2; whnf
       try conv=>arg 4; arg 3; whnf
       try conv=>arg 4; arg 4; whnf
       try conv=>arg 4; arg 4; arg 2; whnf
       try conv=>arg 4; arg 4; arg 1; arg 1; whnf
       try conv=>arg 4; arg 4; arg 1; arg 1; arg 2; whnf
       try conv=>arg 4; arg 4; arg 1; arg 1; arg 3; whnf
       try conv=>arg 4; arg 4; arg 1; arg 1; arg 3; arg 2; whnf
       try conv=>arg 4; arg 5; whnf
       try conv=>arg 4; arg 5; arg 2; whnf
       try conv=>arg 4; arg 6; whnf
      refine gO Tryz.func108 ?_;refine aN ?_;refine gO Tryz.func108 ?_;refine I.back (KH (j+1) ⟨by omega,bB (by rw [g3,Bool.false_and])⟩ (by omega)) ?_;(conv=>whnf);repeat (first | exact trivial | (rw [fI]; conv=>whnf) | (refine sI ?_; conv=>whnf))
   ·have aK:j=T.length:=by simp at h8; omega
    subst aK;rw [List.take_length] at cj;have ni:eZ ask h x k=false:=by rw [DF,List.any_eq_false]; exact fun t ht=>by rw [cj t ht]; simp
    refine gO Tryz.func108 ?_;refine I.iC ag Tryz.func108 rfl rfl rfl rfl (fun e=>nomatch e) ?_;(conv=>whnf);refine I.Jl (rows:=[]) rfl ?_;conv =>
     arg 3
     try whnf
     try conv=>arg 1; whnf
     try conv=>arg 2; whnf
     try conv=>arg 3; whnf
     try conv=>arg 3; arg 2; whnf
     try conv=>arg 4; whnf
     try conv=>arg 4; arg 1; whnf
     try conv=>arg 4; arg 2; whnf
     try conv=>arg 4; arg 3; whnf
     try conv=>arg 4; arg 4; whnf
     try conv=>arg 4; arg 4; arg 2; whnf
     try conv=>arg 4; arg 4; arg 1; arg 1; whnf
     try conv=>arg 4; arg 4; arg 1; arg 1; arg 2; whnf
     try conv=>arg 4; arg 4; arg 1; arg 1; arg 3; whnf
     try conv=>arg 4; arg 4; arg 1; arg 1; arg 3; arg 2; whnf
     try conv=>arg 4; arg 5; whnf
     try conv=>arg 4; arg 5; arg 2; whnf
     try conv=>arg 4; arg 6; whnf
    refine gO Tryz.func17 ?_;refine I.back (IH (k+1) _ (by omega) (by omega)) ?_;rw [dJ,ni];simp only [Bool.false_eq_true,if_false,List.append_nil];(conv=>whnf);repeat (first | exact trivial | (rw [fI]; conv=>whnf) | (refine sI ?_; conv=>whnf))
  ·obtain ⟨z,hz,e⟩:∃ z,Z[j]? = some z∧(DV.int .i64 z,DV.bool true)=(kk,y):=by rw [← DR] at hj; simpa using hj
   cases e;have lk:=aP hz;have Sv:=Jp (seen:=seen) hz;have eS:(seen++[j]).Nodup:=by
    rw [List.nodup_append];exact ⟨rP,by simp,fun a ha b hb e=>by simp at hb; subst hb; subst e; exact iS ha⟩
   have Jx:∀ i∈seen++[j],i<Z.length:=fun i hi=>by rcases List.mem_append.1 hi with h | h; exact DS i h; simp at h; omega
   have Sw:=Jq eS Jx;rw [List.length_append,List.length_singleton] at Sw;conv =>
    arg 3
    try whnf
    try conv=>arg 1; whnf
    try conv=>arg 2; whnf
    try conv=>arg 3; whnf
    try conv=>arg 3; arg 2; whnf
    try conv=>arg 4; whnf
    try conv=>arg 4; arg 1; whnf
    try conv=>arg 4; arg 2; whnf
    try conv=>arg 4; arg 3; whnf
    try conv=>arg 4; arg 4; whnf
    try conv=>arg 4; arg 4; arg 2; whnf
    try conv=>arg 4; arg 4; arg 1; arg 1; whnf
    try conv=>arg 4; arg 4; arg 1; arg 1; arg 2; whnf
    try conv=>arg 4; arg 4; arg 1; arg 1; arg 3; whnf
    try conv=>arg 4; arg 4; arg 1; arg 1; arg 3; arg 2; whnf
    try conv=>arg 4; arg 5; whnf
    try conv=>arg 4; arg 5; arg 2; whnf
    try conv=>arg 4; arg 6; whnf
   refine gO Tryz.func183 ?_;refine aY ?_;refine gO Tryz.func183 ?_;refine I.entry (it:=⟨bm,r,en,ck,since,seen++[j],cX⟩) (g1:=[]) (g2:=[]) (pre:=seen) (j:=j) rfl rfl rfl rfl hj (aM rfl) ?_;conv =>
    arg 3
    try whnf
    try conv=>arg 1; whnf
    try conv=>arg 2; whnf
    try conv=>arg 3; whnf
    try conv=>arg 3; arg 2; whnf
    try conv=>arg 4; whnf
    try conv=>arg 4; arg 1; whnf
    try conv=>arg 4; arg 2; whnf
    try conv=>arg 4; arg 3; whnf
    try conv=>arg 4; arg 4; whnf
    try conv=>arg 4; arg 4; arg 2; whnf
    try conv=>arg 4; arg 4; arg 1; arg 1; whnf
    try conv=>arg 4; arg 4; arg 1; arg 1; arg 2; whnf
    try conv=>arg 4; arg 4; arg 1; arg 1; arg 3; whnf
    try conv=>arg 4; arg 4; arg 1; arg 1; arg 3; arg 2; whnf
    try conv=>arg 4; arg 5; whnf
    try conv=>arg 4; arg 5; arg 2; whnf
    try conv=>arg 4; arg 6; whnf
   (conv=>whnf);repeat ((fail_if_success (first | (refine I.yield 0 rfl rfl rfl (aM rfl) (lJ (aM rfl)) rfl ?_) | fail)); (refine I.run ag Tryz.func183 1 ?_); (conv=>whnf))
   refine I.yield 0 rfl rfl rfl (aM rfl) (lJ (aM rfl)) rfl ?_;(conv=>whnf);conv =>
    arg 3
    try whnf
    try conv=>arg 1; whnf
    try conv=>arg 2; whnf
    try conv=>arg 3; whnf
    try conv=>arg 3; arg 2; whnf
    try conv=>arg 4; whnf
    try conv=>arg 4; arg 1; whnf
    try conv=>arg 4; arg 2; whnf
    try conv=>arg 4; arg 3; whnf
    try conv=>arg 4; arg 4; whnf
    try conv=>arg 4; arg 4; arg 2; whnf
    try conv=>arg 4; arg 4; arg 1; arg 1; whnf
    try conv=>arg 4; arg 4; arg 1; arg 1; arg 2; whnf
    try conv=>arg 4; arg 4; arg 1; arg 1; arg 3; whnf
    try conv=>arg 4; arg 4; arg 1; arg 1; arg 3; arg 2; whnf
    try conv=>arg 4; arg 5; whnf
    try conv=>arg 4; arg 5; arg 2; whnf
    try conv=>arg 4; arg 6; whnf
   (conv=>whnf);repeat ((fail_if_success (first | (refine I.begin 0 rfl rfl rfl ?_) | fail)); (refine I.run ag Tryz.func260 1 ?_); (conv=>whnf))
   refine I.begin 0 rfl rfl rfl ?_;(conv=>whnf);conv =>
    arg 3
    try whnf
    try conv=>arg 1; whnf
    try conv=>arg 2; whnf
    try conv=>arg 3; whnf
    try conv=>arg 3; arg 2; whnf
    try conv=>arg 4; whnf
    try conv=>arg 4; arg 1; whnf
    try conv=>arg 4; arg 2; whnf
    try conv=>arg 4; arg 3; whnf
    try conv=>arg 4; arg 4; whnf
    try conv=>arg 4; arg 4; arg 2; whnf
    try conv=>arg 4; arg 4; arg 1; arg 1; whnf
    try conv=>arg 4; arg 4; arg 1; arg 1; arg 2; whnf
    try conv=>arg 4; arg 4; arg 1; arg 1; arg 3; whnf
    try conv=>arg 4; arg 4; arg 1; arg 1; arg 3; arg 2; whnf
    try conv=>arg 4; arg 5; whnf
    try conv=>arg 4; arg 5; arg 2; whnf
    try conv=>arg 4; arg 6; whnf
   refine gO Tryz.func260 ?_;refine bp ⟨by simp; omega,by simp [DV.cells]⟩ ?_;refine gO Tryz.func260 ?_;refine I.mj 0 rfl rfl rfl ?_;(conv=>whnf);conv =>
    arg 3
    try whnf
    try conv=>arg 1; whnf
    try conv=>arg 2; whnf
    try conv=>arg 3; whnf
    try conv=>arg 3; arg 2; whnf
    try conv=>arg 4; whnf
    try conv=>arg 4; arg 1; whnf
    try conv=>arg 4; arg 2; whnf
    try conv=>arg 4; arg 3; whnf
    try conv=>arg 4; arg 4; whnf
    try conv=>arg 4; arg 4; arg 2; whnf
    try conv=>arg 4; arg 4; arg 1; arg 1; whnf
    try conv=>arg 4; arg 4; arg 1; arg 1; arg 2; whnf
    try conv=>arg 4; arg 4; arg 1; arg 1; arg 3; whnf
    try conv=>arg 4; arg 4; arg 1; arg 1; arg 3; arg 2; whnf
    try conv=>arg 4; arg 5; whnf
    try conv=>arg 4; arg 5; arg 2; whnf
    try conv=>arg 4; arg 6; whnf
   refine gO Tryz.func183 ?_;refine aW (by decide) ?_;refine gO Tryz.func183 ?_;refine I.back (JH (seen++[j]) ⟨eS,Jx⟩ (by simp; omega)) ?_;(conv=>whnf);repeat (first | exact trivial | (rw [fI]; conv=>whnf) | (refine sI ?_; conv=>whnf))
   refine And.intro (by rw [Sv]; simp) ?_;(conv=>whnf);repeat (first | exact trivial | (rw [fI]; conv=>whnf) | (refine sI ?_; conv=>whnf))
 ·have aK:k=h.aB.length:=by simp at h5; omega
  subst aK;refine I.freeze 3 ?_;(conv=>whnf);conv =>
   arg 3
   try whnf
   try conv=>arg 1; whnf
   try conv=>arg 2; whnf
   try conv=>arg 3; whnf
   try conv=>arg 3; arg 2; whnf
   try conv=>arg 4; whnf
   try conv=>arg 4; arg 1; whnf
   try conv=>arg 4; arg 2; whnf
   try conv=>arg 4; arg 3; whnf
   try conv=>arg 4; arg 4; whnf
   try conv=>arg 4; arg 4; arg 2; whnf
   try conv=>arg 4; arg 4; arg 1; arg 1; whnf
   try conv=>arg 4; arg 4; arg 1; arg 1; arg 2; whnf
   try conv=>arg 4; arg 4; arg 1; arg 1; arg 3; whnf
   try conv=>arg 4; arg 4; arg 1; arg 1; arg 3; arg 2; whnf
   try conv=>arg 4; arg 5; whnf
   try conv=>arg 4; arg 5; arg 2; whnf
   try conv=>arg 4; arg 6; whnf
  cases ds with
  |nil =>
   refine gO Tryz.func17 ?_;rw [← hQ];rfl
  |cons d ds =>
   refine gO Tryz.func17 ?_;refine I.fP ag Tryz.func17 rfl rfl rfl rfl (L:=[]) ?hm ?hr
   case hm=>exact Jm (ds:=d::ds)
   case hr =>
    (conv=>whnf);rw [← hQ];rfl
end Go.Proofs.YtfmdaiojokniiaaGreatDoor.P
