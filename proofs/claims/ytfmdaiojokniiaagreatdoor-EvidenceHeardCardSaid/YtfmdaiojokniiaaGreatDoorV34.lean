/- Several texts of mine, one behind the other. Conditions: as each says. -/
import Derived.Test.YtfmdaiojokniiaaGreatDoorV29
set_option linter.unusedVariables false
set_option linter.unusedSimpArgs false
section
namespace Go.Proofs.YtfmdaiojokniiaaGreatDoor.P
open Go Go.aw
set_option maxRecDepth 100000
section
variable {α:Type} [DecidableEq α] {en:α→DV}
theorem KC (hk:∀ a b,dY (en a) (en b)=decide (a=b)) {x:α}:∀ {l:List α},x∈l→bO (en x) (.bool true) (l.map fun a=>(en a,DV.bool true))=l.map fun a=>(en a,DV.bool true)
 | [],h=>by simp at h
 |y::l,h=>by
  show bO (en x) (.bool true) ((en y,DV.bool true)::l.map fun a=>(en a,DV.bool true))=_;simp only [bO,hk];by_cases e:y=x
  ·subst e; simp
  ·have hm:x∈l:=(List.mem_cons.1 h).resolve_left fun q=>e q.symm;have:=KC hk hm;first
    |rw [if_neg (by simpa using e),this]; rfl
    |rw [if_neg (by simpa using fun q=>e q.symm),this]; rfl
theorem KD (hk:∀ a b,dY (en a) (en b)=decide (a=b)) {x:α}:∀ {l:List α},x ∉ l→bO (en x) (.bool true) (l.map fun a=>(en a,DV.bool true))=(l++[x]).map fun a=>(en a,DV.bool true)
 | [],h=>rfl
 |y::l,h=>by
  have h1:y≠x:=fun e=>h (e ▸ List.mem_cons_self ..);have h2:x ∉ l:=fun e=>h (List.mem_cons_of_mem _ e);show bO (en x) (.bool true) ((en y,DV.bool true)::l.map fun a=>(en a,DV.bool true))=_;have:=KD hk h2;simp only [bO,hk];first
   |rw [if_neg (by simpa using h1),this]; rfl
   |rw [if_neg (by simpa using fun q=>h1 q.symm),this]; rfl
theorem TR (hk:∀ a b,dY (en a) (en b)=decide (a=b)) (l:List α):dO en l=(dv [] l).map fun a=>(en a,DV.bool true):=by
 have main:∀ (n:Nat),dO en (l.take n)=(dv [] (l.take n)).map fun a=>(en a,DV.bool true):=by
  intro n
  induction n with
  |zero=>rfl
  |succ n ih =>
   cases h:l[n]? with
   |none =>
    have:l.length≤n:=by simpa using h
    rw [List.take_of_length_le (by omega),← List.take_of_length_le this];exact ih
   |some x =>
    rw [En h,ih,cI h,JY];split
    ·rename_i hm; exact KC hk hm
    ·rename_i hm; exact KD hk hm
 have:=main l.length
 rwa [List.take_length] at this
end
section
variable {α:Type}
def kg (xs:List α) (seen:List Nat):List α:=seen.filterMap fun j=>xs[j]?
theorem KE {xs:List α} {seen:List Nat} {j:Nat} {a:α} (h:xs[j]? = some a):kg xs (seen++[j])=kg xs seen++[a]:=by
 rw [kg,List.filterMap_append];simp [kg,h]
theorem TS {xs:List α} {seen:List Nat}:(kg xs seen).length≤seen.length:=List.length_filterMap_le ..
theorem TT (xs:List α):kg xs (List.range xs.length)=xs:=by
 have main:∀ (n:Nat),n≤xs.length→kg xs (List.range n)=xs.take n:=by
  intro n
  induction n with
  |zero=>intro _; simp [kg]
  |succ n ih =>
   intro h;obtain ⟨a,ha⟩:=aL (l:=xs) (k:=n) (by omega);rw [List.range_succ,KE ha,ih (by omega),cI ha]
 rw [main _ (Nat.le_refl _),List.take_length]
theorem TU {xs:List α} {seen:List Nat} (hn:seen.Nodup) (aj:∀ j∈seen,j<xs.length) (aW:∀ j,j<xs.length→j∈seen):(kg xs seen).Perm xs:=by
 have h:seen.Perm (List.range xs.length):=(List.perm_ext_iff_of_nodup hn List.nodup_range).2 fun j=>by
  rw [List.mem_range];exact ⟨aj j,aW j⟩
 have:=h.filterMap (fun j=>xs[j]?);have e:=TT xs;unfold kg at e;rw [e] at this;exact this
theorem KF {xs:List α} {seen:List Nat} (hn:seen.Nodup) (aj:∀ j∈seen,j<xs.length):seen.length≤xs.length:=by
 have:=Di hn (U:=List.range xs.length) fun j hj=>List.mem_range.2 (aj j hj)
 simpa using this
end
end Go.Proofs.YtfmdaiojokniiaaGreatDoor.P
end
section
namespace Go.Proofs.YtfmdaiojokniiaaGreatDoor.P
open Go Go.aw
def eY (l:List aS) (t:Int):List bo:=vn (l.filter fun c=>decide (c.bM≤t)&&decide (t<c.upto))
theorem WO (a b:List aS) (t:Int):eY (a++b) t=eY a t++eY b t:=by
 simp [eY,vn]
theorem WQ (c:aS) (t:Int):eY [c] t=if c.bM≤t∧t<c.upto then [⟨c.host,c.az⟩] else []:=by
 unfold eY vn;by_cases h1:c.bM≤t <;> by_cases h2:t<c.upto <;> simp [h1,h2]
def L6 (n:Nat) (fin:Int) (cs:List aS):Prop:=(∀ c∈cs,gK n fin c=true)∧cs.Pairwise kR
theorem L7 {n:Nat} {fin:Int} {c:aS}:gK n fin c=true↔0≤c.host∧c.host<n∧0≤c.bM∧c.bM<c.upto∧c.upto≤fin∧dE c.az=true:=by
 simp [gK,and_assoc]
theorem L8 {h:bJ}:dg h=true↔1≤h.fin∧h.fin≤10000000∧0≤h.bS∧h.bS≤1000∧h.aB.length≤4000∧(dW h.aA=true∧gJ h.anchor h.hints=true)∧L6 h.aA.length h.fin h.aB∧pK h.aB≤500:=by
 simp only [dg,L6,Bool.and_eq_true,decide_eq_true_eq,List.all_eq_true,and_assoc]
def WR:jE:=⟨[],[],⟨[],0,0,[]⟩,[]⟩
def mS (h:bJ) (t:Int):Int:=if dg h&&(decide (0≤t)&&decide (t<h.fin)) then 0 else 1
def rk (h:bJ) (t:Int):jE:=if mS h t=0 then ⟨h.aA,eY h.aB t,h.anchor,h.hints⟩ else WR
theorem A' {h:bJ} {t:Int}:mS h t=0↔dg h=true∧0≤t∧t<h.fin:=by
 unfold mS;cases dg h <;> by_cases h1:0≤t <;> by_cases h2:t<h.fin <;> simp [h1,h2]
theorem L9 {cs:List aS} {t:Int}:(eY cs t).length≤cs.length:=by
 rw [eY,vn,List.length_map];exact List.length_filter_le ..
theorem Ma {α:Type} [DecidableEq α]:∀ {a b:List α},a.Nodup→(∀ x∈a,x∈b)→a.length≤b.length
 | [],_,_,_=>Nat.zero_le _
 |x::a,b,hn,h=>by
  have fU:=List.nodup_cons.1 hn;have hx:=h x (List.mem_cons_self ..);have h1:=Ma (a:=a) (b:=b.erase x) fU.2 (fun y hy=>(List.mem_erase_of_ne (fun e=>fU.1 (by rw [← e]; exact hy))).2 (h y (List.mem_cons_of_mem _ hy)));have h2:=List.length_erase_of_mem hx;have h3:=List.length_pos_of_mem hx;simp;omega
theorem WS {α:Type} [DecidableEq α] {a b:List α} (h:∀ x∈a,x∈b):(dv [] a).length≤(dv [] b).length :=
 Ma (xU List.nodup_nil) fun x hx=>by
  rw [qX] at hx ⊢;rcases hx with hx | hx
  ·simp at hx
  ·exact .inr (h x hx)
theorem Ba {cs:List aS} {t:Int} {p:bo} (h:p∈eY cs t):∃ c∈cs,c.bM≤t∧t<c.upto∧p=⟨c.host,c.az⟩:=by
 obtain ⟨c,hc,e⟩:=List.mem_map.1 h;obtain ⟨h1,h2⟩:=List.mem_filter.1 hc;simp at h2;exact ⟨c,h1,h2.1,h2.2,e.symm⟩
theorem WT {h:bJ} {t:Int} (h0:mS h t=0):nz (rk h t)=true:=by
 rw [rk,if_pos h0];obtain ⟨hv,t1,t2⟩:=A'.1 h0;obtain ⟨q1,q2,q3,q4,q5,⟨q6,q7⟩,⟨g1,g2⟩,q8⟩:=L8.1 hv;refine Eu.2 ⟨q6,AG.2 ⟨?_,fun p hp=>?_,?_,?_⟩,q7⟩
 ·have:=L9 (cs:=h.aB) (t:=t);show (eY h.aB t).length≤4000;omega
 ·obtain ⟨c,hc,_,_,rfl⟩:=Ba hp;obtain ⟨c1,c2,_,_,_,c3⟩:=L7.1 (g1 c hc);simp [lS,c3];exact ⟨c1,c2⟩
 ·show ((eY h.aB t).map bo.spot).Nodup;rw [eY,vn,List.map_map,List.nodup_iff_pairwise_ne,List.pairwise_map,List.pairwise_filter];refine g2.imp fun {a b} nZ ha hb e=>?_;simp at ha hb;exact nZ e ⟨by omega,by omega⟩
 ·refine Nat.le_trans (WS fun x hx=>?_) q8;obtain ⟨p,hp,rfl⟩:=List.mem_map.1 hx;obtain ⟨c,hc,_,_,rfl⟩:=Ba hp;exact List.mem_map.2 ⟨c,hc,rfl⟩
end Go.Proofs.YtfmdaiojokniiaaGreatDoor.P
end
section
namespace Go.Proofs.YtfmdaiojokniiaaGreatDoor.P
open Go Go.aw
set_option maxRecDepth 100000
set_option maxHeartbeats 4000000
theorem WU (x:Signed) (h1:x.set.data.length≤2147483648) (h2:x.sigs.length≤2147483648):aq E 70 [x.enc] (· = x.enc):=by
 obtain ⟨⟨nm,ty,lf,dt⟩,sg⟩:=x;simp only at h1 h2;show aq E _ [DV.agg [.str nm,.int .i64 ty,.int .i64 lf,.sl (dt.map Datum.enc),.sl (sg.map cX.enc)]] _;refine eP Tryz.func70 ?_
 with_reducible refine ao (vb (dt.map Datum.enc) (by simpa using h1) (fun e h=>by obtain ⟨c,_,rfl⟩:=List.mem_map.1 h; simp [DV.cells])) ?_
 refine gO Tryz.func70 ?_
 with_reducible refine ao (Eh (sg.map cX.enc) (by simpa using h2) (fun e h=>by obtain ⟨c,_,rfl⟩:=List.mem_map.1 h; simp [DV.cells])) ?_
 refine gO Tryz.func70 ?_
 with_reducible rfl
theorem WV (c:aS) (t:Int):au E 69 [.cells [.d (.int .i64 t)]] [.d c.enc,.ptr 0 0] (fun a b=>a = .d (.bool (decide (c.bM≤t)&&decide (t<c.upto)))∧b=[.cells [.d (.int .i64 t)],.cells [.d (.int .i64 c.host),.d (.int .i64 c.bM),.d (.int .i64 c.upto),.d (.str c.az.ah),.d (.sl (c.az.ab.map Signed.enc))]]):=by
 show au E _ _ [.d (DV.agg [.int .i64 c.host,.int .i64 c.bM,.int .i64 c.upto,.str c.az.ah,.sl (c.az.ab.map Signed.enc)]),.ptr 0 0] _;refine au.run af (fn:=Tryz.f69) Tryz.func69 (body:=Tryz.f69.body.getD .skip) rfl (by decide) 2000 rfl ?_;(conv=>whnf);refine ai (fun h1=>?_) (fun h1=>?_)
 ·refine gO Tryz.func69 ?_;rw [h1];exact ⟨rfl,rfl⟩
 ·refine gO Tryz.func69 ?_;rw [h1];exact ⟨rfl,rfl⟩
theorem WW {h:bJ} (hv:dg h=true):h.aB.length≤4000∧(∀ c∈h.aB,c.az.jG)∧h.aA.length≤2147483648∧h.anchor.data.length≤2147483648∧h.hints.length≤2147483648:=by
 obtain ⟨q1,q2,q3,q4,q5,⟨q6,q7⟩,⟨g1,g2⟩,q8⟩:=L8.1 hv;simp only [dW,gJ,Bool.and_eq_true,decide_eq_true_eq] at q6 q7;obtain ⟨⟨⟨⟨⟨r1,r2⟩,r3⟩,r4⟩,r5⟩,r6⟩:=q7;have:=xz r1;exact ⟨q5,fun c hc=>Ei (L7.1 (g1 c hc)).2.2.2.2.2,by omega,by omega,by omega⟩
theorem WX {l:List aS} {t:Int} {k:Nat} {c:aS} (h:l[k]? = some c):eY (l.take (k+1)) t=eY (l.take k) t++(if c.bM≤t∧t<c.upto then [⟨c.host,c.az⟩] else []):=by
 rw [cI h,WO,WQ]
def tg (h:bJ) (t:Int):DV:=if mS h t=0 then .aD [(rk h t).enc,.int .i64 0] else .aD [.agg [.aH,.aH,.str [],.int .i64 0,.int .i64 0,.aH,.aH],.int .i64 (mS h t)]
theorem WY (h:bJ) (t:Int) (hf:h.Fits) (cR:h.aB.length≤1000000):aq E 25 [h.enc,.int .i64 t] (· = tg h t):=by
 have lJ:=Ex h hf cR;by_cases h0:mS h t=0
 case neg =>
  have e1:mS h t=1:=by
   unfold mS at h0 ⊢;split at h0
   ·exact absurd rfl h0
   ·rename_i hh; rw [if_neg hh]
  have e2:tg h t = .aD [.agg [.aH,.aH,.str [],.int .i64 0,.int .i64 0,.aH,.aH],.int .i64 1]:=by rw [tg,if_neg h0,e1]
  rw [e2];have h1:¬ (dg h=true∧0≤t∧t<h.fin):=fun hh=>h0 (A'.2 hh);cases hv:dg h
  ·rw [hv] at lJ;obtain ⟨aA,aB,anchor,hints,bS,fin⟩:=h;show aq E _ [DV.agg [.sl (aA.map Host.enc),.sl (aB.map aS.enc),.str anchor.name,.int .i64 anchor.type,.int .i64 anchor.cD,.sl (anchor.data.map Datum.enc),.sl (hints.map (.int .i64)),.int .i64 bS,.int .i64 fin],_] _;refine eP Tryz.func25 ?_
   with_reducible refine ao (lJ) ?_
   refine gO Tryz.func25 ?_;refine aV ?_;refine gO Tryz.func25 ?_;refine aV ?_;refine gO Tryz.func25 ?_;refine aV ?_;refine gO Tryz.func25 ?_
   with_reducible rfl
  ·rw [hv] at lJ;obtain ⟨aA,aB,anchor,hints,bS,fin⟩:=h;show aq E _ [DV.agg [.sl (aA.map Host.enc),.sl (aB.map aS.enc),.str anchor.name,.int .i64 anchor.type,.int .i64 anchor.cD,.sl (anchor.data.map Datum.enc),.sl (hints.map (.int .i64)),.int .i64 bS,.int .i64 fin],_] _;refine eP Tryz.func25 ?_
   with_reducible refine ao (lJ) ?_
   refine gO Tryz.func25 ?_;refine aQ ?_;refine gO Tryz.func25 ?_;refine ai (fun a1=>?_) (fun a1=>?_)
   ·refine gO Tryz.func25 ?_;refine aV ?_;refine gO Tryz.func25 ?_
    with_reducible rfl
   ·refine gO Tryz.func25 ?_;refine ai (fun a2=>?_) (fun a2=>?_)
    ·refine gO Tryz.func25 ?_
     with_reducible rfl
    ·exact absurd ⟨hv,by simpa using a1,by simpa using a2⟩ h1
 obtain ⟨hv,t1,t2⟩:=A'.1 h0;have e2:tg h t = .aD [(⟨h.aA,eY h.aB t,h.anchor,h.hints⟩:jE).enc,.int .i64 0]:=by rw [tg,if_pos h0,rk,if_pos h0]
 rw [e2];rw [hv] at lJ;obtain ⟨k1,k2,k3,k4,k5⟩:=WW hv;obtain ⟨aA,aB,anchor,hints,bS,fin⟩:=h;simp only at k1 k2 k3 k4 k5 t2;show aq E _ [DV.agg [.sl (aA.map Host.enc),.sl (aB.map aS.enc),.str anchor.name,.int .i64 anchor.type,.int .i64 anchor.cD,.sl (anchor.data.map Datum.enc),.sl (hints.map (.int .i64)),.int .i64 bS,.int .i64 fin],_] (· = DV.aD [DV.agg [.sl (aA.map Host.enc),.sl ((eY aB t).map bo.enc),.str anchor.name,.int .i64 anchor.type,.int .i64 anchor.cD,.sl (anchor.data.map Datum.enc),.sl (hints.map (.int .i64))],.int .i64 0]);refine eP Tryz.func25 ?_
 with_reducible refine ao (lJ) ?_
 refine gO Tryz.func25 ?_;refine aQ ?_;refine gO Tryz.func25 ?_;refine aZ (by simp; omega) ?_;refine gO Tryz.func25 ?_;refine aZ (by simp; omega) ?_;refine gO Tryz.func25 ?_;refine I.bH af bI 2000 (by kernel_rfl) ?_;(conv=>whnf);refine ay (Ef (aA.map Host.enc) (by simpa using k3) (fun e h=>by obtain ⟨c,_,rfl⟩:=List.mem_map.1 h; simp [DV.cells])) ?_;refine gD ?_;refine ay (Eg (hints.map (.int .i64)) (by simpa using k5) (fun e h=>by obtain ⟨c,_,rfl⟩:=List.mem_map.1 h; simp [DV.cells])) ?_;refine gD ?_;refine And.intro (by kernel_rfl) ?_;(conv=>whnf);refine gO Tryz.func25 ?_
 with_reducible refine ao (vb (anchor.data.map Datum.enc) (by simpa using k4) (fun e h=>by obtain ⟨c,_,rfl⟩:=List.mem_map.1 h; simp [DV.cells])) ?_
 (conv=>whnf);repeat ((fail_if_success (refine I.kJ (fn:=Tryz.f68) rfl rfl kG (kH (aP rfl) (aP rfl)) Tryz.func68 rfl (by decide) ?_)); (refine I.run af Tryz.func25 1 ?_); (conv=>whnf))
 refine I.kJ (fn:=Tryz.f68) rfl rfl kG (kH (aP rfl) (aP rfl)) Tryz.func68 rfl (by decide) ?_;(conv=>whnf);conv =>
  arg 3
  try whnf
  try conv=>arg 1; whnf
  try conv=>arg 2; whnf
  try conv=>arg 3; whnf
  try conv=>arg 3; arg 2; whnf
  try conv=>arg 4; whnf
  try conv=>arg 4; arg 1; whnf
  try conv=>arg 4; arg 2; whnf
  try conv=>arg 4; arg 3; whnf
  try conv=>arg 4; arg 4; whnf
  try conv=>arg 4; arg 4; arg 2; whnf
  try conv=>arg 4; arg 4; arg 1; arg 1; whnf
  try conv=>arg 4; arg 4; arg 1; arg 1; arg 2; whnf
  try conv=>arg 4; arg 4; arg 1; arg 1; arg 3; whnf
  try conv=>arg 4; arg 4; arg 1; arg 1; arg 3; arg 2; whnf
  try conv=>arg 4; arg 5; whnf
  try conv=>arg 4; arg 5; arg 2; whnf
  try conv=>arg 4; arg 6; whnf
 refine gO Tryz.func68 ?_;refine I.lI af Tryz.func68 rfl rfl rfl (L:=[]) rfl ?_;(conv=>whnf);conv =>
  arg 3
  try whnf
  try conv=>arg 1; whnf
  try conv=>arg 2; whnf
  try conv=>arg 3; whnf
  try conv=>arg 3; arg 2; whnf
  try conv=>arg 4; whnf
  try conv=>arg 4; arg 1; whnf
  try conv=>arg 4; arg 2; whnf
  try conv=>arg 4; arg 3; whnf
  try conv=>arg 4; arg 4; whnf
  try conv=>arg 4; arg 4; arg 2; whnf
  try conv=>arg 4; arg 4; arg 1; arg 1; whnf
  try conv=>arg 4; arg 4; arg 1; arg 1; arg 2; whnf
  try conv=>arg 4; arg 4; arg 1; arg 1; arg 3; whnf
  try conv=>arg 4; arg 4; arg 1; arg 1; arg 3; arg 2; whnf
  try conv=>arg 4; arg 5; whnf
  try conv=>arg 4; arg 5; arg 2; whnf
  try conv=>arg 4; arg 6; whnf
 refine gO Tryz.func25 ?_;refine I.mB 3 1 (61,3) (by decide) rfl rfl ?_;(conv=>whnf);refine I.rangeFunc (aP rfl) Tryz.func137 rfl (by decide) rfl (fun ll d tt=>?_);conv =>
  arg 3
  try whnf
  try conv=>arg 1; whnf
  try conv=>arg 2; whnf
  try conv=>arg 3; whnf
  try conv=>arg 3; arg 2; whnf
  try conv=>arg 4; whnf
  try conv=>arg 4; arg 1; whnf
  try conv=>arg 4; arg 2; whnf
  try conv=>arg 4; arg 3; whnf
  try conv=>arg 4; arg 4; whnf
  try conv=>arg 4; arg 4; arg 2; whnf
  try conv=>arg 4; arg 4; arg 1; arg 1; whnf
  try conv=>arg 4; arg 4; arg 1; arg 1; arg 2; whnf
  try conv=>arg 4; arg 4; arg 1; arg 1; arg 3; whnf
  try conv=>arg 4; arg 4; arg 1; arg 1; arg 3; arg 2; whnf
  try conv=>arg 4; arg 5; whnf
  try conv=>arg 4; arg 5; arg 2; whnf
  try conv=>arg 4; arg 6; whnf
 refine gO Tryz.func137 ?_;refine I.loop (κ:=Nat) ([5]++rg 9 14) (fun k=>[(9,.d (.int .i64 k))]) (fun k=>[(3,.cells [.d (.sl (aA.map Host.enc)),.own 6 1,.d (.str anchor.name),.d (.int .i64 anchor.type),.d (.int .i64 anchor.cD),.d (.sl (anchor.data.map Datum.enc)),.d (.sl (hints.map (.int .i64)))]),(6,.arr 1 (61,3) ((eY (aB.take k) t).map bo.enc))]) (fun k=>k≤aB.length) (fun k=>aB.length - k) 0 (Nat.zero_le _) ?_ ?_
 ·(conv=>whnf);repeat (first | exact trivial | (refine sI ?_; conv=>whnf))
  refine And.intro rfl ?_;exact sZ
 intro k hk IH;refine I.head af Tryz.func137 2000 ?_;(conv=>whnf);refine ai (fun h5=>?_) (fun h5=>?_)
 ·have aj:k<aB.length:=by simpa using h5
  obtain ⟨c,hc⟩:=aL aj;have aF:=WX (t:=t) hc;have XS:=L9 (cs:=aB.take k) (t:=t);have XT:(aB.take k).length≤aB.length:=by simp; omega
  refine gO Tryz.func137 ?_;refine aE (e:=c.enc) (aX hc) rfl ?_;refine gO Tryz.func137 ?_
  with_reducible refine bD (WV c t) ?_
  refine gO Tryz.func137 ?_;by_cases hm:c.bM≤t∧t<c.upto
  case neg =>
   rw [if_neg hm,List.append_nil] at aF;refine aZ (by simp; omega) ?_;refine gO Tryz.func137 ?_;refine aQ ?_;refine gO Tryz.func137 ?_;refine I.back (IH (k+1) (by omega) (by omega)) ?_;rw [aF];exact sZ
  rw [if_pos hm] at aF;obtain ⟨XU,WZ⟩:=k2 c (List.mem_of_getElem? hc);refine bh (by simp [hm]) ?_;refine gO Tryz.func137 ?_;refine I.yg 0 rfl (yh rfl rfl rfl rfl) rfl (aP rfl) (lG (aP rfl)) rfl ?_;(conv=>whnf);conv =>
   arg 3
   try whnf
   try conv=>arg 1; whnf
   try conv=>arg 2; whnf
   try conv=>arg 3; whnf
   try conv=>arg 3; arg 2; whnf
   try conv=>arg 4; whnf
   try conv=>arg 4; arg 1; whnf
   try conv=>arg 4; arg 2; whnf
   try conv=>arg 4; arg 3; whnf
   try conv=>arg 4; arg 4; whnf
   try conv=>arg 4; arg 4; arg 2; whnf
   try conv=>arg 4; arg 4; arg 1; arg 1; whnf
   try conv=>arg 4; arg 4; arg 1; arg 1; arg 2; whnf
   try conv=>arg 4; arg 4; arg 1; arg 1; arg 3; whnf
   try conv=>arg 4; arg 4; arg 1; arg 1; arg 3; arg 2; whnf
   try conv=>arg 4; arg 5; whnf
   try conv=>arg 4; arg 5; arg 2; whnf
   try conv=>arg 4; arg 6; whnf
  refine gO Tryz.func25 ?_;refine I.begin 0 rfl rfl rfl ?_;(conv=>whnf);conv =>
   arg 3
   try whnf
   try conv=>arg 1; whnf
   try conv=>arg 2; whnf
   try conv=>arg 3; whnf
   try conv=>arg 3; arg 2; whnf
   try conv=>arg 4; whnf
   try conv=>arg 4; arg 1; whnf
   try conv=>arg 4; arg 2; whnf
   try conv=>arg 4; arg 3; whnf
   try conv=>arg 4; arg 4; whnf
   try conv=>arg 4; arg 4; arg 2; whnf
   try conv=>arg 4; arg 4; arg 1; arg 1; whnf
   try conv=>arg 4; arg 4; arg 1; arg 1; arg 2; whnf
   try conv=>arg 4; arg 4; arg 1; arg 1; arg 3; whnf
   try conv=>arg 4; arg 4; arg 1; arg 1; arg 3; arg 2; whnf
   try conv=>arg 4; arg 5; whnf
   try conv=>arg 4; arg 5; arg 2; whnf
   try conv=>arg 4; arg 6; whnf
  refine gO Tryz.func25 ?_;refine I.mB 10 1 (102,5) (by decide) rfl rfl ?_;(conv=>whnf);refine gO Tryz.func25 ?_;refine I.loop (κ:=Nat) ([10]++rg 52 12) (fun j=>[(52,.d (.int .i64 j))]) (fun j=>[(10,.cells [.d (.str c.az.ah),.own 11 1]),(11,.arr 1 (102,5) ((c.az.ab.take j).map Signed.enc))]) (fun j=>j≤c.az.ab.length) (fun j=>c.az.ab.length - j) 0 (Nat.zero_le _) ?_ ?_
  ·(conv=>whnf);repeat (first | exact trivial | (refine sI ?_; conv=>whnf))
   refine And.intro rfl ?_;exact sZ
  intro j hj JH;refine I.head af Tryz.func25 2000 ?_;(conv=>whnf);refine ai (fun h6=>?_) (fun h6=>?_)
  ·have EH:j<c.az.ab.length:=by simpa using h6
   obtain ⟨x,hx⟩:=aL EH;obtain ⟨q1,q2⟩:=WZ x (List.mem_of_getElem? hx);refine gO Tryz.func25 ?_;have mX:(c.az.ab.take j).length=j:=by simp; omega
   refine aE (e:=x.enc) (aX hx) rfl ?_;refine gO Tryz.func25 ?_;refine I.bH af bI 2000 (by kernel_rfl) ?_;(conv=>whnf);refine ay (WU x q1 q2) ?_;refine gD ?_;refine a8 ⟨by simp only [List.length_map,List.length_cons,List.length_nil]; omega,by simp [DV.cells]⟩ ?_;refine gD ?_;refine And.intro (by kernel_rfl) ?_;(conv=>whnf);refine gO Tryz.func25 ?_;refine I.back (JH (j+1) (by omega) (by omega)) ?_;rw [cI hx];(conv=>whnf);repeat (first | exact trivial | (refine sI ?_; conv=>whnf))
   refine And.intro (by simp) ?_;exact sZ
  ·have aC:c.az.ab.length≤j:=by simpa using h6
   rw [List.take_of_length_le aC];clear JH;(conv=>whnf);refine I.freeze 11 ?_;(conv=>whnf);refine gO Tryz.func25 ?_;refine a8 ⟨by simp only [List.length_map,List.length_cons,List.length_nil]; omega,by simp [DV.cells]⟩ ?_;refine gO Tryz.func25 ?_;refine I.mC 0 rfl rfl rfl ?_;(conv=>whnf);refine gO Tryz.func137 ?_;refine aV ?_;refine gO Tryz.func137 ?_;refine aQ ?_;refine gO Tryz.func137 ?_;refine I.back (IH (k+1) (by omega) (by omega)) ?_;rw [aF];(conv=>whnf);repeat (first | exact trivial | (refine sI ?_; conv=>whnf))
   refine And.intro (by simp) ?_;exact sZ
 ·have aC:aB.length≤k:=by simpa using h5
  rw [List.take_of_length_le aC];refine gO Tryz.func137 ?_;refine I.iD af Tryz.func137 rfl rfl rfl rfl (fun e=>nomatch e) ?_;(conv=>whnf);refine gO Tryz.func25 ?_;refine I.fS af Tryz.func25 rfl rfl rfl rfl rfl ?_;conv=>whnf
theorem W0 (h:bJ) (t:Int) (hf:h.Fits) (cR:h.aB.length≤1000000):aq E 25 [h.enc,.int .i64 t] (· = .aD [(rk h t).enc,.int .i64 (mS h t)]):=by
 have H:=WY h t hf cR;by_cases h0:mS h t=0
 ·refine H.mono fun r e=>?_;rw [e,tg,if_pos h0,h0]
 ·refine aq.norm (H.mono fun r e=>?_);rw [e,tg,if_neg h0,rk,if_neg h0];rfl
end Go.Proofs.YtfmdaiojokniiaaGreatDoor.P
end
