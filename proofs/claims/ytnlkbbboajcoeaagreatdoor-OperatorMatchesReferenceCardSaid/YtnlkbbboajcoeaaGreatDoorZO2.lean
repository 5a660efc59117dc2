/- Several texts of mine, one behind the other. Conditions: as each says. -/
import Derived.Test.YtnlkbbboajcoeaaGreatDoorZO1
set_option linter.unusedVariables false
set_option linter.unusedSimpArgs false
section
namespace Go.Proofs.YtnlkbbboajcoeaaGreatDoor.P
open Go Go.Eng
theorem chain_pair {α:Type} {ok:α→Bool} {rel:α→α→Bool} (tr:∀ a b c,rel a b=true→rel b c=true→rel a c=true):∀ {l:List α} {p:Option α},chain ok rel p l=true→l.Pairwise (fun a b=>rel a b=true)∧∀ q,p=some q→∀ x∈l,rel q x=true
 | [],_,_=>⟨List.Pairwise.nil,fun _ _ x hx=>by simp at hx⟩
 |y::l,p,h=>by
  simp only [chain,Bool.and_eq_true] at h;obtain ⟨h1,h2⟩:=chain_pair tr h.2;refine ⟨List.pairwise_cons.2 ⟨fun x hx=>h2 y rfl x hx,h1⟩,fun q hq x hx=>?_⟩;subst hq;have hy:rel q y=true:=h.1.2;rcases List.mem_cons.1 hx with rfl | hx
  ·exact hy
  ·exact tr _ _ _ hy (h2 y rfl x hx)
theorem chain_of {α:Type} {ok:α→Bool} {rel:α→α→Bool}:∀ (p:Option α) (l:List α),(∀ x∈l,ok x=true)→(∀ q,p=some q→∀ x∈l,rel q x=true)→l.Pairwise (fun a b=>rel a b=true)→chain ok rel p l=true
 |_,[],_,_,_=>by simp [chain]
 |p,x::l,h1,h2,h3=>by
  have h4:=List.pairwise_cons.1 h3;simp only [chain,Bool.and_eq_true];refine ⟨⟨h1 x (List.mem_cons_self ..),?_⟩,chain_of (some x) l (fun y hy=>h1 y (List.mem_cons_of_mem _ hy)) (fun q hq y hy=>?_) h4.2⟩
  ·cases p with
   |none=>rfl
   |some q=>exact h2 q rfl x (List.mem_cons_self ..)
  ·obtain rfl:=Option.some.inj hq;exact h4.1 y hy
theorem validS_iff {h:History} {l:List Step}:validS h l=true↔histB h=true∧l.length≤400∧(∀ s∈l,0≤s.time∧s.time<h.fin∧stageB h.hosts.length s.stage=true)∧l.Pairwise (fun a b=>a.time<b.time):=by
 have tr:∀ a b c:Step,stepLt a b=true→stepLt b c=true→stepLt a c=true:=fun a b c h1 h2=>by
  simp only [stepLt,decide_eq_true_eq] at *;omega
 simp only [validS,stepsB,Bool.and_eq_true,decide_eq_true_eq];constructor
 ·rintro ⟨h1,h2,h3⟩;refine ⟨h1,h2,fun s hs=>?_,(chain_pair tr h3).1.imp fun h=>by simpa [stepLt] using h⟩;have:=chain_mem h3 s hs;simp only [stepOK,Bool.and_eq_true,decide_eq_true_eq] at this;exact ⟨this.1.1,this.1.2,this.2⟩
 ·rintro ⟨h1,h2,h3,h4⟩;refine ⟨h1,h2,chain_of none l (fun s hs=>?_) (fun q hq=>by cases hq) (h4.imp fun h=>by simpa [stepLt] using h)⟩;obtain ⟨a,b,c⟩:=h3 s hs;simp [stepOK,a,b,c]
theorem zipP_at {α β:Type} {a:List α} {b:List β} {i:Nat} {x:α} {y:β} (h1:a[i]? = some x) (h2:b[i]? = some y):(a.zip b)[i]? = some (x,y):=by
 rw [List.getElem?_zip_eq_some]; exact ⟨h1,h2⟩
theorem fst_zip {α β:Type} {a:List α} {b:List β} (h:a.length≤b.length):(a.zip b).map Prod.fst=a:=List.map_fst_zip h
theorem validP_iff {h:History} {p:Progress}:validP h p=true↔validS h p.steps=true∧p.done.length≤p.steps.length∧(∀ (i:Nat) (t:Int) (s:Step),p.done[i]? = some t→p.steps[i]? = some s→s.time≤t∧t<h.fin)∧p.done.Pairwise (· < ·)∧(∀ (t:Int) (s:Step),p.done[p.done.length - 1]? = some t→p.steps[p.done.length]? = some s→t<s.time):=by
 have tr:∀ a b c:Int × Step,doneLt a b=true→doneLt b c=true→doneLt a c=true:=fun a b c h1 h2=>by
  simp [doneLt] at *;omega
 simp only [validP,formB,Bool.and_eq_true,decide_eq_true_eq];constructor
 ·rintro ⟨⟨h1,h2⟩,h3,h4,h5⟩;refine ⟨h3,h2,fun i t s ht hs=>?_,?_,fun t s ht hs=>?_⟩
  ·have:=chain_mem h4 (t,s) (List.mem_of_getElem? (zipP_at ht hs));simp [doneOK] at this;omega
  ·have:=(chain_pair tr h4).1;have e:=fst_zip h2;rw [← e,List.pairwise_map];exact this.imp fun h=>by simp [doneLt] at h; omega
  ·simp only [waitB,ht,hs,Bool.or_eq_true,beq_iff_eq,decide_eq_true_eq] at h5;have h6:=lt_of_getElem? ht;have h7:=lt_of_getElem? hs;rcases h5 with (h5 | h5) | h5
   ·omega
   ·omega
   ·exact h5
 ·rintro ⟨h3,h2,h4,h5,h6⟩;refine ⟨⟨(validS_iff.1 h3).2.1,h2⟩,h3,chain_of none _ (fun x hx=>?_) (fun q hq=>by cases hq) ?_,?_⟩
  ·obtain ⟨i,hi⟩:=List.getElem?_of_mem hx;rw [List.getElem?_zip_eq_some] at hi;have:=h4 i x.1 x.2 hi.1 hi.2;simp [doneOK];omega
  ·have e:=fst_zip h2;rw [← e,List.pairwise_map] at h5;exact h5.imp fun h=>by simp [doneLt]; omega
  ·by_cases h0:p.done.length=0
   ·simp [waitB,h0]
   by_cases h1:p.done.length=p.steps.length
   ·simp [waitB,h1]
   obtain ⟨t,ht⟩:=some_of_lt (l:=p.done) (k:=p.done.length - 1) (by omega);obtain ⟨s,hs⟩:=some_of_lt (l:=p.steps) (k:=p.done.length) (by omega);have:=h6 t s ht hs;simp [waitB,ht,hs,this]
theorem off_at {m:Nat} {by_:Int} {l:List Step} {i:Nat} {x:Step} (h:l[i]? = some x):(offL m by_ l)[i]? = some (if i<m then x else offS by_ x):=by
 rw [offL,List.getElem?_mapIdx,h];rfl
theorem off_at_inv {m:Nat} {by_:Int} {l:List Step} {i:Nat} {y:Step} (h:(offL m by_ l)[i]? = some y):∃ x,l[i]? = some x∧y=if i<m then x else offS by_ x:=by
 rw [offL,List.getElem?_mapIdx] at h;cases hx:l[i]? with
 |none=>rw [hx] at h; simp at h
 |some x=>rw [hx] at h; exact ⟨x,rfl,(Option.some.inj h).symm⟩
theorem off_zero {m:Nat} {l:List Step} (h:∀ s∈l,0≤s.time∧s.time<10000000):offL m 0 l=l:=by
 apply List.ext_getElem?;intro i;cases hx:l[i]? with
 |none=>rw [List.getElem?_eq_none]; rw [off_len]; exact List.getElem?_eq_none_iff.1 hx
 |some x =>
  rw [off_at hx];have:=h x (List.mem_of_getElem? hx);split
  ·rfl
  ·simp only [offS];rw [wrap64 (by omega) (by omega),Int.add_zero]
def byOf (r:Report) (t:Int):Int:=if r.kind=1 then IntKind.i64.wrap (r.time - t) else if r.kind=4 then IntKind.i64.wrap (IntKind.i64.wrap (r.time+r.by_) - t) else if r.kind=3 then 0 else r.by_
def doneOf (p:Progress) (r:Report):List Int:=if r.kind=1 then p.done++[r.time] else p.done
def takeQ (p:Progress) (r:Report) (t:Int):Progress:=⟨offL (doneOf p r).length (byOf r t) p.steps,doneOf p r,false,decide (r.kind=3)⟩
def earlyB (p:Progress) (r:Report) (t:Int):Bool:=(match p.done[p.done.length - 1]? with | some u=>decide (r.time≤u) | none=>false)||((decide (r.kind=1)||decide (r.kind=4))&&decide (r.time<t))
def stuckB (p:Progress) (r:Report):Bool:=p.paused||(p.over||(decide (p.done.length=p.steps.length)||decide (r.step≠p.done.length)))
def takeR (h:History) (p:Progress) (r:Report):PE :=
 if validP h p&&repB h.fin r then
  if stuckB p r then (zeroP,6) else
  match p.steps[p.done.length]? with
  |none=>(zeroP,6)
  |some s=>if earlyB p r s.time then (zeroP,32) else if beforeB (takeQ p r s.time) h.fin then (takeQ p r s.time,0) else (zeroP,36)
 else (zeroP,1)
structure Taken (h:History) (p:Progress) (r:Report) (s:Step):Prop where
 valid:validP h p=true
 rep:repB h.fin r=true
 here:p.steps[p.done.length]? = some s
 free:stuckB p r=false
 intime:earlyB p r s.time=false
theorem repB_iff {fin:Int} {r:Report}:repB fin r=true↔1≤r.kind∧r.kind≤4∧0≤r.time∧r.time<fin∧((r.kind=2∨r.kind=4)→1≤r.by_∧r.by_≤10000000)∧(¬ (r.kind=2∨r.kind=4)→r.by_=0):=by
 unfold repB;by_cases h:r.kind=2∨r.kind=4
 ·have:(r.kind==2||r.kind==4)=true:=by simpa using h
  simp [this,h];omega
 ·have:(r.kind==2||r.kind==4)=false:=by simpa using h
  simp [this,h];omega
theorem Taken.by_range {h:History} {p:Progress} {r:Report} {s:Step} (H:Taken h p r s):0≤byOf r s.time∧byOf r s.time≤20000000∧byOf r s.time=(if r.kind=1 then r.time - s.time else if r.kind=4 then r.time+r.by_ - s.time else if r.kind=3 then 0 else r.by_):=by
 obtain ⟨h1,h2,h3,h4,h5⟩:=H;obtain ⟨a1,a2,a3,a4,a5,a6⟩:=repB_iff.1 h2;obtain ⟨v1,v2,v3,v4,v5⟩:=validP_iff.1 h1;obtain ⟨w1,w2,w3,w4⟩:=validS_iff.1 v1;have hs:=w3 s (List.mem_of_getElem? h3);have hfin:h.fin≤10000000:=by simp only [histB,Bool.and_eq_true,decide_eq_true_eq] at w1; exact w1.1.1.1.1.1.1.1.2
 have he:(r.kind=1∨r.kind=4)→s.time≤r.time:=fun hk=>by
  simp only [earlyB,Bool.or_eq_false_iff,Bool.and_eq_false_iff,Bool.or_eq_false_iff,decide_eq_false_iff_not] at h5;rcases h5.2 with e | e
  ·omega
  ·omega
 unfold byOf;by_cases k1:r.kind=1
 ·rw [if_pos k1,if_pos k1,wrap64 (by omega) (by omega)];have:=he (.inl k1);omega
 rw [if_neg k1,if_neg k1];by_cases k4:r.kind=4
 ·have:=he (.inr k4);have:=a5 (.inr k4);rw [if_pos k4,if_pos k4,wrap64 (n:=r.time+r.by_) (by omega) (by omega),wrap64 (by omega) (by omega)];omega
 rw [if_neg k4,if_neg k4];by_cases k3:r.kind=3
 ·rw [if_pos k3]; omega
 rw [if_neg k3];have:=a5 (.inl (by omega));omega
theorem mono_at {l:List Step} (h:l.Pairwise (fun a b=>a.time<b.time)) {i j:Nat} {a b:Step} (hij:i<j) (ha:l[i]? = some a) (hb:l[j]? = some b):a.time<b.time:=by
 have h1:=lt_of_getElem? ha;have h2:=lt_of_getElem? hb;have:=List.pairwise_iff_getElem.1 h i j h1 h2 hij;rw [List.getElem?_eq_getElem h1] at ha;rw [List.getElem?_eq_getElem h2] at hb;obtain rfl:=Option.some.inj ha;obtain rfl:=Option.some.inj hb;exact this
theorem hist_fin {h:History} (hb:histB h=true):h.fin≤10000000:=by
 simp only [histB,Bool.and_eq_true,decide_eq_true_eq] at hb;exact hb.1.1.1.1.1.1.1.2
theorem off_time {m:Nat} {by_:Int} {l:List Step} (hl:∀ s∈l,0≤s.time∧s.time<10000000) (h1:0≤by_) (h2:by_≤20000000) {i:Nat} {y:Step} (hy:(offL m by_ l)[i]? = some y):∃ x,l[i]? = some x∧y=⟨x.time+(if i<m then 0 else by_),x.stage⟩:=by
 obtain ⟨x,hx,e⟩:=off_at_inv hy;have:=hl x (List.mem_of_getElem? hx);refine ⟨x,hx,?_⟩;rw [e];split
 ·simp
 ·simp only [offS];rw [wrap64 (by omega) (by omega)]
theorem off_time' {m:Nat} {by_:Int} {l:List Step} (hl:∀ s∈l,0≤s.time∧s.time<10000000) (h1:0≤by_) (h2:by_≤20000000) {i:Nat} {x:Step} (hx:l[i]? = some x):(offL m by_ l)[i]? = some ⟨x.time+(if i<m then 0 else by_),x.stage⟩:=by
 have:=hl x (List.mem_of_getElem? hx);rw [off_at hx];split
 ·simp
 ·simp only [offS];rw [wrap64 (by omega) (by omega)]
theorem before_iff {p:Progress} {t:Int}:beforeB p t=true↔∀ s∈p.steps,s.time<t:=by
 simp [beforeB,List.all_eq_true]
theorem Taken.times {h:History} {p:Progress} {r:Report} {s:Step} (H:Taken h p r s):∀ x∈p.steps,0≤x.time∧x.time<10000000:=fun x hx=>by
 obtain ⟨v1,_⟩:=validP_iff.1 H.valid;obtain ⟨w1,_,w3,_⟩:=validS_iff.1 v1;have:=w3 x hx;have:=hist_fin w1;omega
def lastB (q:Progress) (fin:Int):Bool:=decide (q.done.length<q.steps.length)&&(match q.steps[q.steps.length - 1]? with | some x=>decide (x.time≥fin) | none=>false)
theorem Taken.late {h:History} {p:Progress} {r:Report} {s:Step} (H:Taken h p r s):beforeB (takeQ p r s.time) h.fin = !(lastB (takeQ p r s.time) h.fin):=by
 obtain ⟨b1,b2,_⟩:=H.by_range;have ht:=H.times;obtain ⟨v1,v2,_⟩:=validP_iff.1 H.valid;obtain ⟨w1,w2,w3,w4⟩:=validS_iff.1 v1;rw [Bool.eq_iff_iff,before_iff,lastB];simp only [takeQ,off_len];generalize byOf r s.time=by_ at *;generalize (doneOf p r).length=m;constructor
 ·intro hb;by_cases hm:m<p.steps.length
  ·obtain ⟨x,hx⟩:=some_of_lt (l:=p.steps) (k:=p.steps.length - 1) (by omega);have hy:=off_time' (m:=m) ht b1 b2 hx;have hm3:¬ p.steps.length - 1<m:=by omega
   rw [if_neg hm3] at hy;have:=hb _ (List.mem_of_getElem? hy);rw [hy];simp only [hm,decide_true,Bool.true_and,Bool.not_eq_true',decide_eq_false_iff_not];simp only at this;omega
  ·simp [hm]
 ·intro hb y hy;obtain ⟨i,hi⟩:=List.getElem?_of_mem hy;obtain ⟨x,hx,e⟩:=off_time ht b1 b2 hi;have h0:=w3 x (List.mem_of_getElem? hx);have hlt:=lt_of_getElem? hx;rw [e];split
  ·show x.time+0<h.fin;omega
  ·rename_i hm;show x.time+by_<h.fin;obtain ⟨z,hz⟩:=some_of_lt (l:=p.steps) (k:=p.steps.length - 1) (by omega);have hy2:=off_time' (m:=m) ht b1 b2 hz;rw [hy2] at hb;have hm2:m<p.steps.length:=by omega
   have hm3:¬ p.steps.length - 1<m:=by omega
   simp only [hm2,hm3,decide_true,Bool.true_and,Bool.not_eq_true',decide_eq_false_iff_not,if_false] at hb;by_cases hil:i=p.steps.length - 1
   ·subst hil;rw [hx] at hz;obtain rfl:=Option.some.inj hz;omega
   ·have:=mono_at w4 (i:=i) (j:=p.steps.length - 1) (by omega) hx hz;omega
theorem Taken.takeR {h:History} {p:Progress} {r:Report} {s:Step} (H:Taken h p r s):takeR h p r=if beforeB (takeQ p r s.time) h.fin then (takeQ p r s.time,0) else (zeroP,36):=by
 rw [Go.Proofs.YtnlkbbboajcoeaaGreatDoor.P.takeR];rw [H.valid,H.rep,H.free,H.here];simp [H.intime]
theorem done_len2 {p:Progress} {r:Report}:(doneOf p r).length=p.done.length+(if r.kind=1 then 1 else 0):=by
 unfold doneOf; split <;> simp
def pauseR (p:Progress):PE:=if formB p then (if p.paused||p.over then (zeroP,6) else ({ p with paused:=true },0)) else (zeroP,1)
def resumeR (p:Progress) (by_:Int):PE :=
 if formB p&&(decide (0≤by_)&&decide (by_≤10000000)) then
  if !p.paused||p.over then (zeroP,6) else
  if (p.steps.drop p.done.length).any (fun s=>decide (s.time>10000000 - by_)) then (zeroP,36) else (⟨offL p.done.length by_ p.steps,p.done,false,p.over⟩,0)
 else (zeroP,1)
end Go.Proofs.YtnlkbbboajcoeaaGreatDoor.P
end
section
namespace Go.Proofs.YtnlkbbboajcoeaaGreatDoor.P
open Go Go.Eng
set_option maxRecDepth 100000
set_option maxHeartbeats 4000000
theorem rpause_p (p:Progress):PCalls E 25 [p.enc] (· = PE.enc (pauseR p)):=by
 have hform:=rform_p p;unfold pauseR;obtain ⟨a,d,pa,ov⟩:=p;generalize formB ⟨a,d,pa,ov⟩=F at *;simp only at hform ⊢;refine PCalls.norm ?_;show PCalls E _ [DV.agg [.sl (a.map Step.enc),.sl (d.map (.int .i64)),.bool pa,.bool ov]] _;refine eP Tryz.func25 ?_
 with_reducible refine callP_eq (hform) ?_
 refine gO Tryz.func25 ?_;cases F
 ·refine caseB_true ?_;refine gO Tryz.func25 ?_;rfl
 ·refine caseB_false ?_;cases pa
  ·cases ov
   ·refine gO Tryz.func25 ?_;refine caseB_false ?_;refine gO Tryz.func25 ?_;refine caseB_false ?_;refine gO Tryz.func25 ?_;rfl
   ·refine gO Tryz.func25 ?_;refine caseB_false ?_;refine gO Tryz.func25 ?_;refine caseB_true ?_;refine gO Tryz.func25 ?_;rfl
  ·refine gO Tryz.func25 ?_;refine caseB_true ?_;refine gO Tryz.func25 ?_;refine caseB_true ?_;refine gO Tryz.func25 ?_;rfl
theorem any_no {α:Type} {p:α→Bool} {l:List α} {k:Nat} {x:α} (hx:l[k]? = some x) (h:p x=true):l.any p=true:=List.any_eq_true.2 ⟨x,List.mem_of_getElem? hx,h⟩
theorem drop_any {p:Step→Bool} {l:List Step} {n k:Nat} (hk:n+k≤l.length) (h:((l.drop n).take k).any p=false) (he:l.length≤n+k):(l.drop n).any p=false:=by
 rw [List.take_of_length_le (by simp; omega)] at h;exact h
theorem any_next {p:Step→Bool} {l:List Step} {k:Nat} {x:Step} (h:(l.take k).any p=false) (hx:l[k]? = some x) (hp:p x=false):(l.take (k+1)).any p=false:=by
 rw [take_next hx,List.any_append,h];simp [hp]
theorem rresume_p (p:Progress) (by_:Int):PCalls E 27 [p.enc,.int .i64 by_] (· = PE.enc (resumeR p by_)):=by
 have hform:=rform_p p;have hoff:=fun h=>roff_p p by_ h;generalize hT:resumeR p by_=T;unfold resumeR at hT;obtain ⟨a,d,pa,ov⟩:=p;have hF:formB ⟨a,d,pa,ov⟩=true→a.length≤400∧d.length≤a.length:=fun h=>by simpa [formB] using h
 simp only at hoff hT;generalize formB ⟨a,d,pa,ov⟩=F at *;refine PCalls.norm ?_;show PCalls E _ [DV.agg [.sl (a.map Step.enc),.sl (d.map (.int .i64)),.bool pa,.bool ov],_] _;refine eP Tryz.func27 ?_
 with_reducible refine callP_eq (hform) ?_
 refine gO Tryz.func27 ?_;cases F
 ·have e:T=(zeroP,1):=by rw [← hT]; simp
  subst e;repeat' (first | with_reducible refine cY ?_ | with_reducible refine cN ?_ | with_reducible refine caseB_split (fun _=>?_) (fun _=>?_) | refine gA Tryz.func27 ?_ | refine gB ?_ | refine gC ?_ | with_reducible rfl)
  rfl
 ·obtain ⟨hl,hdl⟩:=hF rfl;refine caseB_false ?_;refine gO Tryz.func27 ?_;refine caseB_split (fun h1=>?_) (fun h1=>?_)
  ·have e:T=(zeroP,1):=by
    rw [← hT,if_neg];have:=of_decide_eq_true h1;simp;omega
   subst e;repeat' (first | with_reducible refine cY ?_ | with_reducible refine cN ?_ | with_reducible refine caseB_split (fun _=>?_) (fun _=>?_) | refine gA Tryz.func27 ?_ | refine gB ?_ | refine gC ?_ | with_reducible rfl)
   rfl
  ·refine gO Tryz.func27 ?_;refine caseB_split (fun h2=>?_) (fun h2=>?_)
   ·have e:T=(zeroP,1):=by
     rw [← hT,if_neg];have:=of_decide_eq_true h2;simp;omega
    subst e;repeat' (first | with_reducible refine cY ?_ | with_reducible refine cN ?_ | with_reducible refine caseB_split (fun _=>?_) (fun _=>?_) | refine gA Tryz.func27 ?_ | refine gB ?_ | refine gC ?_ | with_reducible rfl)
    rfl
   ·have h1:=of_decide_eq_false h1;have h2:=of_decide_eq_false h2;rw [if_pos (by simp; omega)] at hT;refine gO Tryz.func27 ?_;cases pa
    ·have e:T=(zeroP,6):=by rw [← hT]; simp
     subst e;repeat' (first | with_reducible refine cY ?_ | with_reducible refine cN ?_ | with_reducible refine caseB_split (fun _=>?_) (fun _=>?_) | refine gA Tryz.func27 ?_ | refine gB ?_ | refine gC ?_ | with_reducible rfl)
     rfl
    ·cases ov
     ·simp only [Bool.not_true,Bool.or_false,Bool.false_eq_true,if_false] at hT;refine caseB_false ?_;refine gO Tryz.func27 ?_;refine caseB_false ?_;refine gO Tryz.func27 ?_;have hw:IntKind.i64.wrap (10000000 - by_)=10000000 - by_:=wrap64 (by omega) (by omega);refine AWL.loop (κ:=Nat) ([5,6]++rg 31 17) (fun k=>[(6,.d (.int .i64 ((d.length+k:Nat):Int)))]) (fun _=>[]) (fun k=>d.length+k≤a.length∧((a.drop d.length).take k).any (fun s=>decide (s.time>10000000 - by_))=false) (fun k=>a.length - k) 0 ⟨by omega,by simp⟩ ?_ ?_
      ·(conv=>whnf);repeat (first | exact trivial | (refine sI ?_; conv=>whnf))
       refine And.intro (by simp) ?_;(conv=>whnf);repeat (first | exact trivial | (refine sI ?_; conv=>whnf))
      intro k hk IH;refine AWL.head E_ok Tryz.func27 2000 ?_;(conv=>whnf);refine caseB_split (fun h5=>?_) (fun h5=>?_)
      ·have hlt:d.length+k<a.length:=by
        have:=of_decide_eq_true h5;simp at this;omega
       obtain ⟨x,hx⟩:=some_of_lt hlt;have hx2:(a.drop d.length)[k]? = some x:=by rw [List.getElem?_drop]; exact hx
       refine gO Tryz.func27 ?_;refine elemP_at (e:=x.enc) (at_map hx) rfl ?_;refine gO Tryz.func27 ?_;refine caseB_split (fun h6=>?_) (fun h6=>?_)
       ·have h6:=of_decide_eq_true h6;have e:T=(zeroP,36):=by rw [← hT,if_pos (any_no hx2 (by simp; omega))]
        subst e;refine gO Tryz.func27 ?_;rfl
       ·have h6:=of_decide_eq_false h6;refine gO Tryz.func27 ?_;refine AWL.back (IH (k+1) ⟨by omega,any_next hk.2 hx2 (by simp; omega)⟩ (by omega)) ?_;(conv=>whnf);repeat (first | exact trivial | (refine sI ?_; conv=>whnf))
      ·have hge:a.length≤d.length+k:=by
        have:=of_decide_eq_false h5;simp at this;omega
       have hno:=drop_any hk.1 hk.2 hge;rw [if_neg (by rw [hno]; simp)] at hT;subst hT;clear IH;refine gO Tryz.func27 ?_
       with_reducible refine callP_eq (hoff (by omega)) ?_
       refine gO Tryz.func27 ?_;rfl
     ·have e:T=(zeroP,6):=by rw [← hT]; simp
      subst e;repeat' (first | with_reducible refine cY ?_ | with_reducible refine cN ?_ | with_reducible refine caseB_split (fun _=>?_) (fun _=>?_) | refine gA Tryz.func27 ?_ | refine gB ?_ | refine gC ?_ | with_reducible rfl)
      rfl
def realN (h:History) (p:Progress):Int:=if validP h p then applyN h (doneL p.done p.steps) else 1
def realH (h:History) (p:Progress):History:=if validP h p then applyH h (doneL p.done p.steps) else zeroH
theorem done_fits {dn:List Int} {l:List Step} (hs:Steps.Fits l):Steps.Fits (doneL dn l):=by
 refine ⟨fun s h=>?_,?_⟩
 ·obtain ⟨i,hi⟩:=List.getElem?_of_mem h;rw [doneL,List.getElem?_zipWith] at hi;cases h1:dn[i]? with
  |none=>rw [h1] at hi; simp at hi
  |some t =>
   cases h2:l[i]? with
   |none=>rw [h1,h2] at hi; simp at hi
   |some x =>
    rw [h1,h2] at hi;obtain rfl:=Option.some.inj hi;exact hs.each x (List.mem_of_getElem? h2)
 ·have:=hs.few;simp only [doneL,List.length_zipWith];omega
theorem rreal_p (h:History) (p:Progress) (hf:h.Fits) (hk1:h.copies.length≤1000000) (hk2:h.hints.length≤1000000) (hs:Steps.Fits p.steps):PCalls E 29 [h.enc,p.enc] (· = .tup [(realH h p).enc,.int .i64 (realN h p)]):=by
 have hv0:=rvalid42_p h p hf hk1 hk2 hs;have hap:=rapply_p h (doneL p.done p.steps) hf hk1 hk2 (done_fits hs);have hds:=fun h=>rdoneSteps_p p h;generalize hN:realN h p=N;generalize hH:realH h p=H;unfold realN at hN;unfold realH at hH;have hlen:validP h p=true→p.steps.length≤400∧p.done.length≤p.steps.length:=fun h=>⟨(validS_iff.1 (validP_iff.1 h).1).2.1,(validP_iff.1 h).2.1⟩;generalize validP h p=V at *;obtain ⟨hosts,copies,anchor,hints,drift,fin⟩:=h;obtain ⟨st,dn,pa,ov⟩:=p;simp only at hds hap hN hH hlen;refine PCalls.norm ?_;show PCalls E _ [DV.agg [.sl (hosts.map Host.enc),.sl (copies.map Copy.enc),.str anchor.name,.int .i64 anchor.type,.int .i64 anchor.life,.sl (anchor.data.map Datum.enc),.sl (hints.map (.int .i64)),.int .i64 drift,.int .i64 fin],DV.agg [.sl (st.map Step.enc),.sl (dn.map (.int .i64)),.bool pa,.bool ov]] _;refine eP Tryz.func29 ?_
 with_reducible refine callP_eq (hv0) ?_
 refine gO Tryz.func29 ?_;cases V
 ·rw [if_neg (by simp)] at hN hH;subst hN;subst hH;refine caseB_true ?_;refine gO Tryz.func29 ?_;rfl
 ·obtain ⟨hl1,hl2⟩:=hlen rfl;rw [if_pos rfl] at hN hH;subst hN;subst hH;refine caseB_false ?_;refine gO Tryz.func29 ?_;refine AWL.draw E_ok E_mixed 6 2000 (by kernel_rfl) ?_;conv=>whnf
  with_reducible refine callP1_eq (hds (by omega) hl2) ?_
  refine gD ?_
  with_reducible refine callP1_eq (hap) ?_
  refine gD ?_;refine gS ?_;refine gO Tryz.func29 ?_;rfl
end Go.Proofs.YtnlkbbboajcoeaaGreatDoor.P
end
section
namespace Go.Proofs.YtnlkbbboajcoeaaGreatDoor.P
open Go Go.Eng
set_option maxRecDepth 100000
set_option maxHeartbeats 4000000
theorem inForm42_p (p:Progress):PCalls E 68 [p.enc] (· = .bool (formB p)):=by
 obtain ⟨st,dn,pa,ov⟩:=p;unfold formB;simp only;show PCalls E _ [DV.agg [.sl (st.map Step.enc),.sl (dn.map (.int .i64)),.bool pa,.bool ov]] _;refine eP Tryz.func68 ?_;repeat' (first | with_reducible refine cY ?_ | with_reducible refine cN ?_ | with_reducible refine caseB_split (fun _=>?_) (fun _=>?_) | refine gA Tryz.func68 ?_ | refine gB ?_ | refine gC ?_ | with_reducible rfl)
 all_goals simp_all
 all_goals omega
theorem right_p (h:History) (r:Report):PCalls E 59 [h.enc,r.enc] (· = .bool (repB h.fin r)):=by
 obtain ⟨hosts,copies,anchor,hints,drift,fin⟩:=h;obtain ⟨r1,r2,r3,r4⟩:=r;unfold repB;simp only;refine eP Tryz.func59 ?_;repeat' (first | with_reducible refine cY ?_ | with_reducible refine cN ?_ | with_reducible refine caseB_split (fun _=>?_) (fun _=>?_) | refine gA Tryz.func59 ?_ | refine gB ?_ | refine gC ?_ | with_reducible rfl)
 all_goals simp_all
 all_goals omega
theorem valid42_p (h:History) (p:Progress) (hf:h.Fits) (hk1:h.copies.length≤1000000) (hs:Steps.Fits p.steps):PCalls E 58 [h.enc,p.enc] (· = .bool (validP h p)):=by
 have hform:=inForm42_p p;have hval:=svalid_p h p.steps hf hk1 hs;unfold validP;obtain ⟨hosts,copies,anchor,hints,drift,fin⟩:=h;obtain ⟨st,dn,pa,ov⟩:=p;simp only at hval ⊢;show PCalls E _ [DV.agg [.sl (hosts.map Host.enc),.sl (copies.map Copy.enc),.str anchor.name,.int .i64 anchor.type,.int .i64 anchor.life,.sl (anchor.data.map Datum.enc),.sl (hints.map (.int .i64)),.int .i64 drift,.int .i64 fin],DV.agg [.sl (st.map Step.enc),.sl (dn.map (.int .i64)),.bool pa,.bool ov]] _;refine eP Tryz.func58 ?_
 with_reducible refine callP_eq (hform) ?_
 refine gO Tryz.func58 ?_;cases hfm:formB ⟨st,dn,pa,ov⟩
 ·refine caseB_true ?_;refine gO Tryz.func58 ?_;refine caseB_true ?_;refine gO Tryz.func58 ?_;rfl
 ·refine caseB_false ?_;refine gO Tryz.func58 ?_
  with_reducible refine callP_eq (hval) ?_
  refine gO Tryz.func58 ?_;simp only [formB,Bool.and_eq_true,decide_eq_true_eq] at hfm;obtain ⟨hst,hdl⟩:=hfm;cases hv:validS ⟨hosts,copies,anchor,hints,drift,fin⟩ st
  ·refine caseB_true ?_;refine gO Tryz.func58 ?_;rfl
  ·refine caseB_false ?_;refine gO Tryz.func58 ?_;have hzl:(dn.zip st).length=dn.length:=by rw [List.length_zip]; omega
   refine AWL.loop (κ:=Nat) ([4,5,6]++rg 21 34) (fun k=>[(21,.d (.int .i64 k))]) (fun _=>[]) (fun k=>k≤dn.length∧chain (doneOK fin) doneLt none (dn.zip st)=chain (doneOK fin) doneLt (prevA (dn.zip st) k) ((dn.zip st).drop k)) (fun k=>dn.length - k) 0 ⟨Nat.zero_le _,rfl⟩ ?_ ?_
   ·(conv=>whnf);repeat (first | exact trivial | (refine sI ?_; conv=>whnf))
   intro k hk IH;refine AWL.head E_ok Tryz.func58 2000 ?_;(conv=>whnf);refine caseB_split (fun h5=>?_) (fun h5=>?_)
   ·have hlt:k<dn.length:=by simpa using h5
    obtain ⟨t,ht⟩:=some_of_lt hlt;obtain ⟨x,hx⟩:=some_of_lt (l:=st) (k:=k) (by omega);have hz:(dn.zip st)[k]? = some (t,x):=by rw [List.getElem?_zip_eq_some]; exact ⟨ht,hx⟩
    have hnext:=chain_next (ok:=doneOK fin) (rel:=doneLt) hz;rw [← hk.2] at hnext;rcases Nat.eq_zero_or_pos k with hk0 | hk0
    ·have hpq:prevA (dn.zip st) k=none:=by simp [prevA,hk0]
     rw [hpq] at hnext;dsimp only at hnext;rw [Bool.and_true] at hnext;repeat' (first | with_reducible refine elemP_at (at_map ht) rfl ?_ | with_reducible refine elemP_at (at_map hx) rfl ?_ | with_reducible refine cY ?_ | with_reducible refine cN ?_ | with_reducible refine caseB_split (fun _=>?_) (fun _=>?_) | refine gA Tryz.func58 ?_ | refine gB ?_ | refine gC ?_ | with_reducible rfl)
     all_goals first
      |(have hno : doneOK fin (t, x) = false := by clear hnext hk IH; simp_all [doneOK, doneLt, prevA] <;> (intros; omega)
        rw [hnext, hno];simp
        done)
      |(exfalso; clear hnext hk IH; simp_all; done)
      |skip
     all_goals
      refine gO Tryz.func58 ?_;refine AWL.back (IH (k+1) ⟨by omega,by rw [hnext,show doneOK fin (t,x)=true by clear hnext hk IH; simp_all [doneOK,doneLt,prevA] <;> omega,Bool.true_and]⟩ (by omega)) ?_;(conv=>whnf);repeat (first | exact trivial | (refine sI ?_; conv=>whnf))
    ·obtain ⟨q,hq,hpq⟩:=prevA_some (l:=dn.zip st) hk0 (by omega);rw [hpq] at hnext;have hq1:dn[k - 1]? = some q.1:=by rw [List.getElem?_zip_eq_some] at hq; exact hq.1
     repeat' (first | with_reducible refine elemP_at (at_map ht) rfl ?_ | with_reducible refine elemP_at (at_map hx) rfl ?_ | with_reducible refine elemP_at (at_prev hq1 hk0 (by omega)) rfl ?_ | with_reducible refine cY ?_ | with_reducible refine cN ?_ | with_reducible refine caseB_split (fun _=>?_) (fun _=>?_) | refine gA Tryz.func58 ?_ | refine gB ?_ | refine gC ?_ | with_reducible rfl)
     all_goals first
      |(have hno : (doneOK fin (t, x) && doneLt q (t, x)) = false := by clear hnext hk IH; simp_all [doneOK, doneLt, prevA] <;> (intros; omega)
        rw [hnext, hno];simp
        done)
      |(exfalso; clear hnext hk IH; simp_all; done)
      |skip
     all_goals
      refine gO Tryz.func58 ?_;refine AWL.back (IH (k+1) ⟨by omega,by rw [hnext,show (doneOK fin (t,x)&&doneLt q (t,x))=true by clear hnext hk IH; simp_all [doneOK,doneLt,prevA] <;> omega,Bool.true_and]⟩ (by omega)) ?_;(conv=>whnf);repeat (first | exact trivial | (refine sI ?_; conv=>whnf))
   ·have hge:dn.length≤k:=by simpa using h5
    have hch:chain (doneOK fin) doneLt none (dn.zip st)=true:=by
     rw [hk.2,List.drop_of_length_le (by omega)];cases prevA (dn.zip st) k <;> rfl
    rw [hch];clear hk IH hch;refine gO Tryz.func58 ?_;refine AWL.draw E_ok E_mixed 24 2000 (by kernel_rfl) ?_;(conv=>whnf);by_cases h0:dn.length=0
    ·have hw:waitB ⟨st,dn,pa,ov⟩=true:=by simp [waitB,h0]
     rw [hw];refine caseB_yes (by simp [h0]) ?_;repeat' (first | with_reducible refine cY ?_ | with_reducible refine cN ?_ | with_reducible refine caseB_split (fun _=>?_) (fun _=>?_) | refine gA Tryz.func58 ?_ | refine gB ?_ | refine gC ?_ | with_reducible rfl)
     all_goals rfl
    ·refine caseB_no (by simp [h0]) ?_;refine gD ?_;by_cases h1:dn.length=st.length
     ·have hw:waitB ⟨st,dn,pa,ov⟩=true:=by simp [waitB,h1]
      rw [hw];refine caseB_yes (by simp [h1]) ?_;repeat' (first | with_reducible refine cY ?_ | with_reducible refine cN ?_ | with_reducible refine caseB_split (fun _=>?_) (fun _=>?_) | refine gA Tryz.func58 ?_ | refine gB ?_ | refine gC ?_ | with_reducible rfl)
      all_goals rfl
     ·obtain ⟨x,hx⟩:=some_of_lt (l:=st) (k:=dn.length) (by omega);obtain ⟨t,ht⟩:=some_of_lt (l:=dn) (k:=dn.length - 1) (by omega);have hw:waitB ⟨st,dn,pa,ov⟩=decide (t<x.time):=by simp [waitB,h0,h1,ht,hx]
      rw [hw];refine caseB_no (by simp; omega) ?_;refine gD ?_;have hlast:At1 (dn.map (DV.int .i64)) (IntKind.i64.wrap (((dn.map (DV.int .i64)).length:Int) - 1)) (.int .i64 t):=by
       rw [List.length_map];exact at_prev ht (by omega) (by omega)
      have hnxt:At1 (st.map Step.enc) ((dn.map (DV.int .i64)).length:Int) x.enc:=by
       rw [List.length_map];exact at_map hx
      refine elemP_at (e := .int .i64 t) hlast rfl ?_;refine gD ?_;refine elemP_at (e:=x.enc) hnxt rfl ?_;refine gD ?_;refine gS ?_;refine gO Tryz.func58 ?_;all_goals rfl
end Go.Proofs.YtnlkbbboajcoeaaGreatDoor.P
end
section
namespace Go.Proofs.YtnlkbbboajcoeaaGreatDoor.P
open Go Go.Eng
set_option maxRecDepth 100000
set_option maxHeartbeats 4000000
theorem rtake_p (h:History) (p:Progress) (r:Report) (hf:h.Fits) (hk1:h.copies.length≤1000000) (hk2:h.hints.length≤1000000) (hs:Steps.Fits p.steps):PCalls E 23 [h.enc,p.enc,r.enc] (· = PE.enc (takeR h p r)):=by
 have hv0:=rvalid42_p h p hf hk1 hk2 hs;have hr0:=rreport_p h r;refine PCalls.norm ?_;by_cases hv:validP h p=true
 case neg =>
  have hv:validP h p=false:=by simpa using hv
  have e:takeR h p r=(zeroP,1):=by simp [takeR,hv]
  rw [e];rw [hv] at hv0;obtain ⟨hosts,copies,anchor,hints,drift,fin⟩:=h;obtain ⟨st,dn,pa,ov⟩:=p;obtain ⟨r1,r2,r3,r4⟩:=r;show PCalls E _ [DV.agg [.sl (hosts.map Host.enc),.sl (copies.map Copy.enc),.str anchor.name,.int .i64 anchor.type,.int .i64 anchor.life,.sl (anchor.data.map Datum.enc),.sl (hints.map (.int .i64)),.int .i64 drift,.int .i64 fin],DV.agg [.sl (st.map Step.enc),.sl (dn.map (.int .i64)),.bool pa,.bool ov],DV.agg [.int .i64 r1,.int .i64 r2,.int .i64 r3,.int .i64 r4]] _;refine eP Tryz.func23 ?_
  with_reducible refine callP_eq (hv0) ?_
  refine gO Tryz.func23 ?_;refine caseB_true ?_;refine gO Tryz.func23 ?_;refine caseB_true ?_;refine gO Tryz.func23 ?_;rfl
 by_cases hr:repB h.fin r=true
 case neg =>
  have hr:repB h.fin r=false:=by simpa using hr
  have e:takeR h p r=(zeroP,1):=by simp [takeR,hr]
  rw [e];rw [hv] at hv0;rw [hr] at hr0;obtain ⟨hosts,copies,anchor,hints,drift,fin⟩:=h;obtain ⟨st,dn,pa,ov⟩:=p;obtain ⟨r1,r2,r3,r4⟩:=r;show PCalls E _ [DV.agg [.sl (hosts.map Host.enc),.sl (copies.map Copy.enc),.str anchor.name,.int .i64 anchor.type,.int .i64 anchor.life,.sl (anchor.data.map Datum.enc),.sl (hints.map (.int .i64)),.int .i64 drift,.int .i64 fin],DV.agg [.sl (st.map Step.enc),.sl (dn.map (.int .i64)),.bool pa,.bool ov],DV.agg [.int .i64 r1,.int .i64 r2,.int .i64 r3,.int .i64 r4]] _;refine eP Tryz.func23 ?_
  with_reducible refine callP_eq (hv0) ?_
  refine gO Tryz.func23 ?_;refine caseB_false ?_;refine gO Tryz.func23 ?_
  with_reducible refine callP_eq (hr0) ?_
  refine gO Tryz.func23 ?_;refine caseB_true ?_;refine gO Tryz.func23 ?_;rfl
 rw [hv] at hv0;rw [hr] at hr0;have hT:takeR h p r=takeR h p r:=rfl;have hlen:=(validP_iff.1 hv).2.1;have hst4:=(validS_iff.1 (validP_iff.1 hv).1).2.1;obtain ⟨k1,k2,_,_,_,_⟩:=repB_iff.1 hr;have hoff:=fun q by_ hq=>roff_p q by_ hq;have hbef:=fun q t hq=>rbefore_p q t hq;by_cases hst:stuckB p r=true
 case pos =>
  have e:takeR h p r=(zeroP,6):=by simp [takeR,hv,hr,hst]
  rw [e];obtain ⟨hosts,copies,anchor,hints,drift,fin⟩:=h;obtain ⟨st,dn,pa,ov⟩:=p;obtain ⟨r1,r2,r3,r4⟩:=r;show PCalls E _ [DV.agg [.sl (hosts.map Host.enc),.sl (copies.map Copy.enc),.str anchor.name,.int .i64 anchor.type,.int .i64 anchor.life,.sl (anchor.data.map Datum.enc),.sl (hints.map (.int .i64)),.int .i64 drift,.int .i64 fin],DV.agg [.sl (st.map Step.enc),.sl (dn.map (.int .i64)),.bool pa,.bool ov],DV.agg [.int .i64 r1,.int .i64 r2,.int .i64 r3,.int .i64 r4]] _;refine eP Tryz.func23 ?_
  with_reducible refine callP_eq (hv0) ?_
  refine gO Tryz.func23 ?_;refine caseB_false ?_;refine gO Tryz.func23 ?_
  with_reducible refine callP_eq (hr0) ?_
  refine gO Tryz.func23 ?_;refine caseB_false ?_;cases pa <;> cases ov;all_goals
   repeat' (first | with_reducible refine cY ?_ | with_reducible refine cN ?_ | with_reducible refine caseB_split (fun _=>?_) (fun _=>?_) | refine gA Tryz.func23 ?_ | refine gB ?_ | refine gC ?_ | with_reducible rfl)
  all_goals first
   |rfl
   |(exfalso; simp [stuckB] at hst; simp_all; done)
   |(exfalso; simp [stuckB] at hst; simp_all; omega)
 have hst:stuckB p r=false:=by simpa using hst
 have hfree:p.paused=false∧p.over=false∧p.done.length≠p.steps.length∧r.step=p.done.length:=by
  simpa [stuckB] using hst
 obtain ⟨f1,f2,f3,f4⟩:=hfree;obtain ⟨s,hs1⟩:=some_of_lt (l:=p.steps) (k:=p.done.length) (by omega);have hE:earlyB p r s.time=false→Taken h p r s:=fun e=>⟨hv,hr,hs1,hst,e⟩;have hTk:takeR h p r=if earlyB p r s.time then (zeroP,32) else if beforeB (takeQ p r s.time) h.fin then (takeQ p r s.time,0) else (zeroP,36):=by
  simp [takeR,hv,hr,hst,hs1]
 have hfin:histB h=true:=(validS_iff.1 (validP_iff.1 hv).1).1;generalize takeR h p r=T at *;obtain ⟨hosts,copies,anchor,hints,drift,fin⟩:=h;obtain ⟨st,dn,pa,ov⟩:=p;obtain ⟨r1,r2,r3,r4⟩:=r;simp only at f1 f2 f3 f4 hs1 hTk hlen hst4;subst f1;subst f2;subst f4;have hnxt:At1 (st.map Step.enc) ((dn.map (DV.int .i64)).length:Int) s.enc:=by
  rw [List.length_map];exact at_map hs1
 show PCalls E _ [DV.agg [.sl (hosts.map Host.enc),.sl (copies.map Copy.enc),.str anchor.name,.int .i64 anchor.type,.int .i64 anchor.life,.sl (anchor.data.map Datum.enc),.sl (hints.map (.int .i64)),.int .i64 drift,.int .i64 fin],DV.agg [.sl (st.map Step.enc),.sl (dn.map (.int .i64)),.bool false,.bool false],DV.agg [.int .i64 (dn.length:Int),.int .i64 r2,.int .i64 r3,.int .i64 r4]] _;refine eP Tryz.func23 ?_
 with_reducible refine callP_eq (hv0) ?_
 refine gO Tryz.func23 ?_;refine caseB_false ?_;refine gO Tryz.func23 ?_
 with_reducible refine callP_eq (hr0) ?_
 refine gO Tryz.func23 ?_;refine caseB_false ?_;refine gO Tryz.func23 ?_;refine caseB_false ?_;refine gO Tryz.func23 ?_;refine caseB_false ?_;refine gO Tryz.func23 ?_;refine caseB_no (by simp; omega) ?_;refine gO Tryz.func23 ?_;refine caseB_no (by simp) ?_;refine gO Tryz.func23 ?_;refine elemP_at (e:=s.enc) hnxt rfl ?_;refine gO Tryz.func23 ?_;simp only at k1 k2;have hk:r2=1∨r2=2∨r2=3∨r2=4:=by omega
 by_cases hA:∃ u,dn[dn.length - 1]? = some u∧r3≤u
 ·obtain ⟨u,hu,hru⟩:=hA;have h0:=lt_of_getElem? hu;have e:T=(zeroP,32):=by rw [hTk,if_pos]; simp [earlyB,hu,hru]
  subst e;have hlast:At1 (dn.map (DV.int .i64)) (IntKind.i64.wrap (((dn.map (DV.int .i64)).length:Int) - 1)) (.int .i64 u):=by
   rw [List.length_map];exact at_prev hu (by omega) (by omega)
  refine AWL.draw E_ok E_mixed 29 2000 (by kernel_rfl) ?_;(conv=>whnf);refine caseB_yes (by simp; omega) ?_;refine gD ?_;refine elemP_at (e := .int .i64 u) hlast rfl ?_;refine gD ?_;refine caseB_yes (by simpa using hru) ?_;repeat' (first | with_reducible refine cY ?_ | with_reducible refine cN ?_ | with_reducible refine caseB_split (fun _=>?_) (fun _=>?_) | refine gA Tryz.func23 ?_ | refine gB ?_ | refine gC ?_ | with_reducible rfl)
  rfl
 by_cases hB:(r2=1∨r2=4)∧r3<s.time
 ·have e:T=(zeroP,32):=by
   rw [hTk,if_pos];simp only [earlyB,Bool.or_eq_true,Bool.and_eq_true,decide_eq_true_eq];exact .inr hB
  subst e;have hlt:decide (r3<s.time)=true:=decide_eq_true hB.2;refine AWL.draw E_ok E_mixed 29 2000 (by kernel_rfl) ?_;(conv=>whnf);rcases hB.1 with rfl | rfl
  ·rcases Nat.eq_zero_or_pos dn.length with h0 | h0
   ·refine caseB_no (decide_eq_false (by rw [List.length_map]; omega)) ?_;repeat' (first | with_reducible refine cY ?_ | with_reducible refine cN ?_ | with_reducible refine caseB_split (fun _=>?_) (fun _=>?_) | refine gA Tryz.func23 ?_ | refine gB ?_ | refine gC ?_ | with_reducible rfl)
    rfl
   ·obtain ⟨u,hu⟩:=some_of_lt (l:=dn) (k:=dn.length - 1) (by omega);have hru:decide (r3≤u)=false:=decide_eq_false fun hru=>hA ⟨u,hu,hru⟩;have hlast:At1 (dn.map (DV.int .i64)) (IntKind.i64.wrap (((dn.map (DV.int .i64)).length:Int) - 1)) (.int .i64 u):=by
     rw [List.length_map];exact at_prev hu (by omega) (by omega)
    refine caseB_yes (by simp; omega) ?_;refine gD ?_;refine elemP_at (e := .int .i64 u) hlast rfl ?_;repeat' (first | with_reducible refine cY ?_ | with_reducible refine cN ?_ | with_reducible refine caseB_split (fun _=>?_) (fun _=>?_) | refine gA Tryz.func23 ?_ | refine gB ?_ | refine gC ?_ | with_reducible rfl)
    rfl
  ·rcases Nat.eq_zero_or_pos dn.length with h0 | h0
   ·refine caseB_no (decide_eq_false (by rw [List.length_map]; omega)) ?_;repeat' (first | with_reducible refine cY ?_ | with_reducible refine cN ?_ | with_reducible refine caseB_split (fun _=>?_) (fun _=>?_) | refine gA Tryz.func23 ?_ | refine gB ?_ | refine gC ?_ | with_reducible rfl)
    rfl
   ·obtain ⟨u,hu⟩:=some_of_lt (l:=dn) (k:=dn.length - 1) (by omega);have hru:decide (r3≤u)=false:=decide_eq_false fun hru=>hA ⟨u,hu,hru⟩;have hlast:At1 (dn.map (DV.int .i64)) (IntKind.i64.wrap (((dn.map (DV.int .i64)).length:Int) - 1)) (.int .i64 u):=by
     rw [List.length_map];exact at_prev hu (by omega) (by omega)
    refine caseB_yes (by simp; omega) ?_;refine gD ?_;refine elemP_at (e := .int .i64 u) hlast rfl ?_;repeat' (first | with_reducible refine cY ?_ | with_reducible refine cN ?_ | with_reducible refine caseB_split (fun _=>?_) (fun _=>?_) | refine gA Tryz.func23 ?_ | refine gB ?_ | refine gC ?_ | with_reducible rfl)
    rfl
 have hEf:earlyB ⟨st,dn,false,false⟩ ⟨dn.length,r2,r3,r4⟩ s.time=false:=by
  have h1:¬ ((r2=1∨r2=4)∧r3<s.time):=hB;cases hu:dn[dn.length - 1]? with
  |none=>simp [earlyB,hu]; omega
  |some u=>have:¬ r3≤u:=fun hru=>hA ⟨u,hu,hru⟩; simp [earlyB,hu]; omega
 rw [hEf,if_neg (by simp)] at hTk;have H:=hE hEf;have hw:=H.by_range;have hsteps:=H.times;have hcells:∀ e∈dn.map (DV.int .i64),e.cells.length=1:=fun e h=>by obtain ⟨d,_,rfl⟩:=List.mem_map.1 h; rfl
 rcases hk with rfl | rfl | rfl | rfl
 ·have hq:takeQ ⟨st,dn,false,false⟩ ⟨dn.length,1,r3,r4⟩ s.time=offP ⟨st,dn++[r3],false,false⟩ (IntKind.i64.wrap (r3 - s.time)):=by simp [takeQ,doneOf,byOf,offP]
  have hoff1:PCalls E 66 [DV.agg [.sl (st.map Step.enc),.sl (dn.map (DV.int .i64)++[DV.int .i64 r3]),.bool false,.bool false],.int .i64 (IntKind.i64.wrap (r3 - s.time))] (· = (takeQ ⟨st,dn,false,false⟩ ⟨dn.length,1,r3,r4⟩ s.time).enc):=by
   have:=roff_p ⟨st,dn++[r3],false,false⟩ (IntKind.i64.wrap (r3 - s.time)) (by simp only; omega);have e1:(⟨st,dn++[r3],false,false⟩:Progress).enc=DV.agg [.sl (st.map Step.enc),.sl (dn.map (DV.int .i64)++[DV.int .i64 r3]),.bool false,.bool false]:=by simp only [Progress.enc,List.map_append,List.map_cons,List.map_nil]
   rw [hq,← e1];exact this
  have hbef1:=rbefore_p (takeQ ⟨st,dn,false,false⟩ ⟨dn.length,1,r3,r4⟩ s.time) fin (by simp only [takeQ,off_len]; omega);have hlt:decide (r3<s.time)=false:=decide_eq_false fun e=>hB ⟨by simp,e⟩;refine AWL.draw E_ok E_mixed 29 2000 (by kernel_rfl) ?_;(conv=>whnf);rcases Nat.eq_zero_or_pos dn.length with h0 | h0
  ·refine caseB_no (decide_eq_false (by rw [List.length_map]; omega)) ?_;repeat' (first | with_reducible refine cY ?_ | with_reducible refine cN ?_ | with_reducible refine caseB_split (fun _=>?_) (fun _=>?_) | refine gA Tryz.func23 ?_ | refine gB ?_ | refine gC ?_ | with_reducible rfl)
   refine need_intro ⟨by simp; omega,hcells⟩ ?_;refine gO Tryz.func23 ?_;refine caseB_no (by decide) ?_;refine gO Tryz.func23 ?_;refine caseB_yes (by decide) ?_;refine gO Tryz.func23 ?_;refine need_intro ⟨by simp; omega,by simp [DV.cells]⟩ ?_;refine gO Tryz.func23 ?_;refine caseB_no (by decide) ?_;refine AWL.freeze 5 ?_;(conv=>whnf);refine gO Tryz.func23 ?_
   with_reducible refine callP_eq (hoff1) ?_
   refine gO Tryz.func23 ?_
   with_reducible refine callP_eq (hbef1) ?_
   refine gO Tryz.func23 ?_;cases hb:beforeB (takeQ ⟨st,dn,false,false⟩ ⟨dn.length,1,r3,r4⟩ s.time) fin
   ·rw [hb,if_neg (by simp)] at hTk;subst hTk;refine caseB_true ?_;refine gO Tryz.func23 ?_;rfl
   ·rw [hb,if_pos rfl] at hTk;subst hTk;refine caseB_false ?_;refine gO Tryz.func23 ?_;rfl
  ·obtain ⟨u,hu⟩:=some_of_lt (l:=dn) (k:=dn.length - 1) (by omega);have hru:decide (r3≤u)=false:=decide_eq_false fun hru=>hA ⟨u,hu,hru⟩;have hlast:At1 (dn.map (DV.int .i64)) (IntKind.i64.wrap (((dn.map (DV.int .i64)).length:Int) - 1)) (.int .i64 u):=by
    rw [List.length_map];exact at_prev hu (by omega) (by omega)
   refine caseB_yes (by simp; omega) ?_;refine gD ?_;refine elemP_at (e := .int .i64 u) hlast rfl ?_;repeat' (first | with_reducible refine cY ?_ | with_reducible refine cN ?_ | with_reducible refine caseB_split (fun _=>?_) (fun _=>?_) | refine gA Tryz.func23 ?_ | refine gB ?_ | refine gC ?_ | with_reducible rfl)
   refine need_intro ⟨by simp; omega,hcells⟩ ?_;refine gO Tryz.func23 ?_;refine caseB_no (by decide) ?_;refine gO Tryz.func23 ?_;refine caseB_yes (by decide) ?_;refine gO Tryz.func23 ?_;refine need_intro ⟨by simp; omega,by simp [DV.cells]⟩ ?_;refine gO Tryz.func23 ?_;refine caseB_no (by decide) ?_;refine AWL.freeze 5 ?_;(conv=>whnf);refine gO Tryz.func23 ?_
   with_reducible refine callP_eq (hoff1) ?_
   refine gO Tryz.func23 ?_
   with_reducible refine callP_eq (hbef1) ?_
   refine gO Tryz.func23 ?_;cases hb:beforeB (takeQ ⟨st,dn,false,false⟩ ⟨dn.length,1,r3,r4⟩ s.time) fin
   ·rw [hb,if_neg (by simp)] at hTk;subst hTk;refine caseB_true ?_;refine gO Tryz.func23 ?_;rfl
   ·rw [hb,if_pos rfl] at hTk;subst hTk;refine caseB_false ?_;refine gO Tryz.func23 ?_;rfl
 ·have hq:takeQ ⟨st,dn,false,false⟩ ⟨dn.length,2,r3,r4⟩ s.time=offP ⟨st,dn,false,false⟩ r4:=by simp [takeQ,doneOf,byOf,offP]
  have hoff1:PCalls E 66 [DV.agg [.sl (st.map Step.enc),.sl (dn.map (DV.int .i64)),.bool false,.bool false],.int .i64 r4] (· = (takeQ ⟨st,dn,false,false⟩ ⟨dn.length,2,r3,r4⟩ s.time).enc):=by
   have:=roff_p ⟨st,dn,false,false⟩ r4 (by simp only; omega);have e1:(⟨st,dn,false,false⟩:Progress).enc=DV.agg [.sl (st.map Step.enc),.sl (dn.map (DV.int .i64)),.bool false,.bool false]:=by simp only [Progress.enc,List.map_append,List.map_cons,List.map_nil]
   rw [hq,← e1];exact this
  have hbef1:=rbefore_p (takeQ ⟨st,dn,false,false⟩ ⟨dn.length,2,r3,r4⟩ s.time) fin (by simp only [takeQ,off_len]; omega);refine AWL.draw E_ok E_mixed 29 2000 (by kernel_rfl) ?_;(conv=>whnf);rcases Nat.eq_zero_or_pos dn.length with h0 | h0
  ·refine caseB_no (decide_eq_false (by rw [List.length_map]; omega)) ?_;repeat' (first | with_reducible refine cY ?_ | with_reducible refine cN ?_ | with_reducible refine caseB_split (fun _=>?_) (fun _=>?_) | refine gA Tryz.func23 ?_ | refine gB ?_ | refine gC ?_ | with_reducible rfl)
   refine need_intro ⟨by simp; omega,hcells⟩ ?_;refine gO Tryz.func23 ?_;refine caseB_no (by decide) ?_;refine gO Tryz.func23 ?_;refine caseB_no (by decide) ?_;refine gO Tryz.func23 ?_;refine caseB_no (by decide) ?_;refine AWL.freeze 5 ?_;(conv=>whnf);refine gO Tryz.func23 ?_
   with_reducible refine callP_eq (hoff1) ?_
   refine gO Tryz.func23 ?_
   with_reducible refine callP_eq (hbef1) ?_
   refine gO Tryz.func23 ?_;cases hb:beforeB (takeQ ⟨st,dn,false,false⟩ ⟨dn.length,2,r3,r4⟩ s.time) fin
   ·rw [hb,if_neg (by simp)] at hTk;subst hTk;refine caseB_true ?_;refine gO Tryz.func23 ?_;rfl
   ·rw [hb,if_pos rfl] at hTk;subst hTk;refine caseB_false ?_;refine gO Tryz.func23 ?_;rfl
  ·obtain ⟨u,hu⟩:=some_of_lt (l:=dn) (k:=dn.length - 1) (by omega);have hru:decide (r3≤u)=false:=decide_eq_false fun hru=>hA ⟨u,hu,hru⟩;have hlast:At1 (dn.map (DV.int .i64)) (IntKind.i64.wrap (((dn.map (DV.int .i64)).length:Int) - 1)) (.int .i64 u):=by
    rw [List.length_map];exact at_prev hu (by omega) (by omega)
   refine caseB_yes (by simp; omega) ?_;refine gD ?_;refine elemP_at (e := .int .i64 u) hlast rfl ?_;repeat' (first | with_reducible refine cY ?_ | with_reducible refine cN ?_ | with_reducible refine caseB_split (fun _=>?_) (fun _=>?_) | refine gA Tryz.func23 ?_ | refine gB ?_ | refine gC ?_ | with_reducible rfl)
   refine need_intro ⟨by simp; omega,hcells⟩ ?_;refine gO Tryz.func23 ?_;refine caseB_no (by decide) ?_;refine gO Tryz.func23 ?_;refine caseB_no (by decide) ?_;refine gO Tryz.func23 ?_;refine caseB_no (by decide) ?_;refine AWL.freeze 5 ?_;(conv=>whnf);refine gO Tryz.func23 ?_
   with_reducible refine callP_eq (hoff1) ?_
   refine gO Tryz.func23 ?_
   with_reducible refine callP_eq (hbef1) ?_
   refine gO Tryz.func23 ?_;cases hb:beforeB (takeQ ⟨st,dn,false,false⟩ ⟨dn.length,2,r3,r4⟩ s.time) fin
   ·rw [hb,if_neg (by simp)] at hTk;subst hTk;refine caseB_true ?_;refine gO Tryz.func23 ?_;rfl
   ·rw [hb,if_pos rfl] at hTk;subst hTk;refine caseB_false ?_;refine gO Tryz.func23 ?_;rfl
 ·have hq:takeQ ⟨st,dn,false,false⟩ ⟨dn.length,3,r3,r4⟩ s.time=⟨st,dn,false,true⟩:=by
   have e0:=off_zero (m:=dn.length) hsteps;simp only at e0;simp [takeQ,doneOf,byOf,e0]
  have hb:beforeB ⟨st,dn,false,true⟩ fin=true:=before_iff.2 fun x hx=>((validS_iff.1 (validP_iff.1 hv).1).2.2.1 x hx).2.1;rw [hq,hb,if_pos rfl] at hTk;subst hTk;refine AWL.draw E_ok E_mixed 29 2000 (by kernel_rfl) ?_;(conv=>whnf);rcases Nat.eq_zero_or_pos dn.length with h0 | h0
  ·refine caseB_no (decide_eq_false (by rw [List.length_map]; omega)) ?_;repeat' (first | with_reducible refine cY ?_ | with_reducible refine cN ?_ | with_reducible refine caseB_split (fun _=>?_) (fun _=>?_) | refine gA Tryz.func23 ?_ | refine gB ?_ | refine gC ?_ | with_reducible rfl)
   refine need_intro ⟨by simp; omega,hcells⟩ ?_;refine gO Tryz.func23 ?_;refine caseB_yes (by decide) ?_;refine gO Tryz.func23 ?_;rfl
  ·obtain ⟨u,hu⟩:=some_of_lt (l:=dn) (k:=dn.length - 1) (by omega);have hru:decide (r3≤u)=false:=decide_eq_false fun hru=>hA ⟨u,hu,hru⟩;have hlast:At1 (dn.map (DV.int .i64)) (IntKind.i64.wrap (((dn.map (DV.int .i64)).length:Int) - 1)) (.int .i64 u):=by
    rw [List.length_map];exact at_prev hu (by omega) (by omega)
   refine caseB_yes (by simp; omega) ?_;refine gD ?_;refine elemP_at (e := .int .i64 u) hlast rfl ?_;repeat' (first | with_reducible refine cY ?_ | with_reducible refine cN ?_ | with_reducible refine caseB_split (fun _=>?_) (fun _=>?_) | refine gA Tryz.func23 ?_ | refine gB ?_ | refine gC ?_ | with_reducible rfl)
   refine need_intro ⟨by simp; omega,hcells⟩ ?_;refine gO Tryz.func23 ?_;refine caseB_yes (by decide) ?_;refine gO Tryz.func23 ?_;rfl
 ·have hq:takeQ ⟨st,dn,false,false⟩ ⟨dn.length,4,r3,r4⟩ s.time=offP ⟨st,dn,false,false⟩ (IntKind.i64.wrap (IntKind.i64.wrap (r3+r4) - s.time)):=by simp [takeQ,doneOf,byOf,offP]
  have hoff1:PCalls E 66 [DV.agg [.sl (st.map Step.enc),.sl (dn.map (DV.int .i64)),.bool false,.bool false],.int .i64 (IntKind.i64.wrap (IntKind.i64.wrap (r3+r4) - s.time))] (· = (takeQ ⟨st,dn,false,false⟩ ⟨dn.length,4,r3,r4⟩ s.time).enc):=by
   have:=roff_p ⟨st,dn,false,false⟩ (IntKind.i64.wrap (IntKind.i64.wrap (r3+r4) - s.time)) (by simp only; omega);have e1:(⟨st,dn,false,false⟩:Progress).enc=DV.agg [.sl (st.map Step.enc),.sl (dn.map (DV.int .i64)),.bool false,.bool false]:=by simp only [Progress.enc,List.map_append,List.map_cons,List.map_nil]
   rw [hq,← e1];exact this
  have hbef1:=rbefore_p (takeQ ⟨st,dn,false,false⟩ ⟨dn.length,4,r3,r4⟩ s.time) fin (by simp only [takeQ,off_len]; omega);have hlt:decide (r3<s.time)=false:=decide_eq_false fun e=>hB ⟨by simp,e⟩;refine AWL.draw E_ok E_mixed 29 2000 (by kernel_rfl) ?_;(conv=>whnf);rcases Nat.eq_zero_or_pos dn.length with h0 | h0
  ·refine caseB_no (decide_eq_false (by rw [List.length_map]; omega)) ?_;repeat' (first | with_reducible refine cY ?_ | with_reducible refine cN ?_ | with_reducible refine caseB_split (fun _=>?_) (fun _=>?_) | refine gA Tryz.func23 ?_ | refine gB ?_ | refine gC ?_ | with_reducible rfl)
   refine need_intro ⟨by simp; omega,hcells⟩ ?_;refine gO Tryz.func23 ?_;refine caseB_no (by decide) ?_;refine gO Tryz.func23 ?_;refine caseB_no (by decide) ?_;refine gO Tryz.func23 ?_;refine caseB_yes (by decide) ?_;refine AWL.freeze 5 ?_;(conv=>whnf);refine gO Tryz.func23 ?_
   with_reducible refine callP_eq (hoff1) ?_
   refine gO Tryz.func23 ?_
   with_reducible refine callP_eq (hbef1) ?_
   refine gO Tryz.func23 ?_;cases hb:beforeB (takeQ ⟨st,dn,false,false⟩ ⟨dn.length,4,r3,r4⟩ s.time) fin
   ·rw [hb,if_neg (by simp)] at hTk;subst hTk;refine caseB_true ?_;refine gO Tryz.func23 ?_;rfl
   ·rw [hb,if_pos rfl] at hTk;subst hTk;refine caseB_false ?_;refine gO Tryz.func23 ?_;rfl
  ·obtain ⟨u,hu⟩:=some_of_lt (l:=dn) (k:=dn.length - 1) (by omega);have hru:decide (r3≤u)=false:=decide_eq_false fun hru=>hA ⟨u,hu,hru⟩;have hlast:At1 (dn.map (DV.int .i64)) (IntKind.i64.wrap (((dn.map (DV.int .i64)).length:Int) - 1)) (.int .i64 u):=by
    rw [List.length_map];exact at_prev hu (by omega) (by omega)
   refine caseB_yes (by simp; omega) ?_;refine gD ?_;refine elemP_at (e := .int .i64 u) hlast rfl ?_;repeat' (first | with_reducible refine cY ?_ | with_reducible refine cN ?_ | with_reducible refine caseB_split (fun _=>?_) (fun _=>?_) | refine gA Tryz.func23 ?_ | refine gB ?_ | refine gC ?_ | with_reducible rfl)
   refine need_intro ⟨by simp; omega,hcells⟩ ?_;refine gO Tryz.func23 ?_;refine caseB_no (by decide) ?_;refine gO Tryz.func23 ?_;refine caseB_no (by decide) ?_;refine gO Tryz.func23 ?_;refine caseB_yes (by decide) ?_;refine AWL.freeze 5 ?_;(conv=>whnf);refine gO Tryz.func23 ?_
   with_reducible refine callP_eq (hoff1) ?_
   refine gO Tryz.func23 ?_
   with_reducible refine callP_eq (hbef1) ?_
   refine gO Tryz.func23 ?_;cases hb:beforeB (takeQ ⟨st,dn,false,false⟩ ⟨dn.length,4,r3,r4⟩ s.time) fin
   ·rw [hb,if_neg (by simp)] at hTk;subst hTk;refine caseB_true ?_;refine gO Tryz.func23 ?_;rfl
   ·rw [hb,if_pos rfl] at hTk;subst hTk;refine caseB_false ?_;refine gO Tryz.func23 ?_;rfl
end Go.Proofs.YtnlkbbboajcoeaaGreatDoor.P
end
