/- Several texts of mine, one behind the other. Conditions: as each says. -/
import Derived.Test.YtajnanldmhpeaaaGreatDoorZO1
set_option linter.unusedVariables false
set_option linter.unusedSimpArgs false
section
namespace Go.Proofs.YtajnanldmhpeaaaGreatDoor.P
open Go Go.Eng
theorem chain_pair {α:Type} {ok:α→Bool} {rel:α→α→Bool} (tr:∀ a b c,rel a b=true→rel b c=true→rel a c=true):∀ {l:List α} {p:Option α},chain ok rel p l=true→l.Pairwise (fun a b=>rel a b=true)∧∀ q,p=some q→∀ x∈l,rel q x=true
 | [],_,_=>⟨List.Pairwise.nil,fun _ _ x hx=>by simp at hx⟩
 |y::l,p,h=>by
  simp only [chain,Bool.and_eq_true] at h;obtain ⟨h1,h2⟩:=chain_pair tr h.2;refine ⟨List.pairwise_cons.2 ⟨fun x hx=>h2 y rfl x hx,h1⟩,fun q hq x hx=>?_⟩;subst hq;have hy:rel q y=true:=h.1.2;rcases List.mem_cons.1 hx with rfl | hx
  ·exact hy
  ·exact tr _ _ _ hy (h2 y rfl x hx)
theorem chain_of {α:Type} {ok:α→Bool} {rel:α→α→Bool}:∀ (p:Option α) (l:List α),(∀ x∈l,ok x=true)→(∀ q,p=some q→∀ x∈l,rel q x=true)→l.Pairwise (fun a b=>rel a b=true)→chain ok rel p l=true
 |_,[],_,_,_=>by simp [chain]
 |p,x::l,h1,h2,h3=>by
  have h4:=List.pairwise_cons.1 h3;simp only [chain,Bool.and_eq_true];refine ⟨⟨h1 x (List.mem_cons_self ..),?_⟩,chain_of (some x) l (fun y hy=>h1 y (List.mem_cons_of_mem _ hy)) (fun q hq y hy=>?_) h4.2⟩
  ·cases p with
   |none=>rfl
   |some q=>exact h2 q rfl x (List.mem_cons_self ..)
  ·obtain rfl:=Option.some.inj hq;exact h4.1 y hy
theorem validS_iff {h:History} {l:List Step}:validS h l=true↔histB h=true∧l.length≤400∧(∀ s∈l,0≤s.time∧s.time<h.fin∧stageB h.hosts.length s.stage=true)∧l.Pairwise (fun a b=>a.time<b.time):=by
 have tr:∀ a b c:Step,stepLt a b=true→stepLt b c=true→stepLt a c=true:=fun a b c h1 h2=>by
  simp only [stepLt,decide_eq_true_eq] at *;omega
 simp only [validS,stepsB,Bool.and_eq_true,decide_eq_true_eq];constructor
 ·rintro ⟨h1,h2,h3⟩;refine ⟨h1,h2,fun s hs=>?_,(chain_pair tr h3).1.imp fun h=>by simpa [stepLt] using h⟩;have:=chain_mem h3 s hs;simp only [stepOK,Bool.and_eq_true,decide_eq_true_eq] at this;exact ⟨this.1.1,this.1.2,this.2⟩
 ·rintro ⟨h1,h2,h3,h4⟩;refine ⟨h1,h2,chain_of none l (fun s hs=>?_) (fun q hq=>by cases hq) (h4.imp fun h=>by simpa [stepLt] using h)⟩;obtain ⟨a,b,c⟩:=h3 s hs;simp [stepOK,a,b,c]
theorem zipP_at {α β:Type} {a:List α} {b:List β} {i:Nat} {x:α} {y:β} (h1:a[i]? = some x) (h2:b[i]? = some y):(a.zip b)[i]? = some (x,y):=by
 rw [List.getElem?_zip_eq_some]; exact ⟨h1,h2⟩
theorem fst_zip {α β:Type} {a:List α} {b:List β} (h:a.length≤b.length):(a.zip b).map Prod.fst=a:=List.map_fst_zip h
theorem validP_iff {h:History} {p:Progress}:validP h p=true↔validS h p.steps=true∧p.done.length≤p.steps.length∧(∀ (i:Nat) (t:Int) (s:Step),p.done[i]? = some t→p.steps[i]? = some s→s.time≤t∧t<h.fin)∧p.done.Pairwise (· < ·)∧(∀ (t:Int) (s:Step),p.done[p.done.length - 1]? = some t→p.steps[p.done.length]? = some s→t<s.time):=by
 have tr:∀ a b c:Int × Step,doneLt a b=true→doneLt b c=true→doneLt a c=true:=fun a b c h1 h2=>by
  simp [doneLt] at *;omega
 simp only [validP,formB,Bool.and_eq_true,decide_eq_true_eq];constructor
 ·rintro ⟨⟨h1,h2⟩,h3,h4,h5⟩;refine ⟨h3,h2,fun i t s ht hs=>?_,?_,fun t s ht hs=>?_⟩
  ·have:=chain_mem h4 (t,s) (List.mem_of_getElem? (zipP_at ht hs));simp [doneOK] at this;omega
  ·have:=(chain_pair tr h4).1;have e:=fst_zip h2;rw [← e,List.pairwise_map];exact this.imp fun h=>by simp [doneLt] at h; omega
  ·simp only [waitB,ht,hs,Bool.or_eq_true,beq_iff_eq,decide_eq_true_eq] at h5;have h6:=lt_of_getElem? ht;have h7:=lt_of_getElem? hs;rcases h5 with (h5 | h5) | h5
   ·omega
   ·omega
   ·exact h5
 ·rintro ⟨h3,h2,h4,h5,h6⟩;refine ⟨⟨(validS_iff.1 h3).2.1,h2⟩,h3,chain_of none _ (fun x hx=>?_) (fun q hq=>by cases hq) ?_,?_⟩
  ·obtain ⟨i,hi⟩:=List.getElem?_of_mem hx;rw [List.getElem?_zip_eq_some] at hi;have:=h4 i x.1 x.2 hi.1 hi.2;simp [doneOK];omega
  ·have e:=fst_zip h2;rw [← e,List.pairwise_map] at h5;exact h5.imp fun h=>by simp [doneLt]; omega
  ·by_cases h0:p.done.length=0
   ·simp [waitB,h0]
   by_cases h1:p.done.length=p.steps.length
   ·simp [waitB,h1]
   obtain ⟨t,ht⟩:=some_of_lt (l:=p.done) (k:=p.done.length - 1) (by omega);obtain ⟨s,hs⟩:=some_of_lt (l:=p.steps) (k:=p.done.length) (by omega);have:=h6 t s ht hs;simp [waitB,ht,hs,this]
theorem off_at {m:Nat} {by_:Int} {l:List Step} {i:Nat} {x:Step} (h:l[i]? = some x):(offL m by_ l)[i]? = some (if i<m then x else offS by_ x):=by
 rw [offL,List.getElem?_mapIdx,h];rfl
theorem off_at_inv {m:Nat} {by_:Int} {l:List Step} {i:Nat} {y:Step} (h:(offL m by_ l)[i]? = some y):∃ x,l[i]? = some x∧y=if i<m then x else offS by_ x:=by
 rw [offL,List.getElem?_mapIdx] at h;cases hx:l[i]? with
 |none=>rw [hx] at h; simp at h
 |some x=>rw [hx] at h; exact ⟨x,rfl,(Option.some.inj h).symm⟩
theorem off_zero {m:Nat} {l:List Step} (h:∀ s∈l,0≤s.time∧s.time<10000000):offL m 0 l=l:=by
 apply List.ext_getElem?;intro i;cases hx:l[i]? with
 |none=>rw [List.getElem?_eq_none]; rw [off_len]; exact List.getElem?_eq_none_iff.1 hx
 |some x =>
  rw [off_at hx];have:=h x (List.mem_of_getElem? hx);split
  ·rfl
  ·simp only [offS];rw [wrap64 (by omega) (by omega),Int.add_zero]
def byOf (r:Report) (t:Int):Int:=if r.kind=1 then IntKind.i64.wrap (r.time - t) else if r.kind=4 then IntKind.i64.wrap (IntKind.i64.wrap (r.time+r.by_) - t) else if r.kind=3 then 0 else r.by_
def doneOf (p:Progress) (r:Report):List Int:=if r.kind=1 then p.done++[r.time] else p.done
def takeQ (p:Progress) (r:Report) (t:Int):Progress:=⟨offL (doneOf p r).length (byOf r t) p.steps,doneOf p r,false,decide (r.kind=3)⟩
def earlyB (p:Progress) (r:Report) (t:Int):Bool:=(match p.done[p.done.length - 1]? with | some u=>decide (r.time≤u) | none=>false)||((decide (r.kind=1)||decide (r.kind=4))&&decide (r.time<t))
def stuckB (p:Progress) (r:Report):Bool:=p.paused||(p.over||(decide (p.done.length=p.steps.length)||decide (r.step≠p.done.length)))
def takeR (h:History) (p:Progress) (r:Report):PE :=
 if validP h p&&repB h.fin r then
  if stuckB p r then (zeroP,6) else
  match p.steps[p.done.length]? with
  |none=>(zeroP,6)
  |some s=>if earlyB p r s.time then (zeroP,32) else if beforeB (takeQ p r s.time) h.fin then (takeQ p r s.time,0) else (zeroP,36)
 else (zeroP,1)
structure Taken (h:History) (p:Progress) (r:Report) (s:Step):Prop where
 valid:validP h p=true
 rep:repB h.fin r=true
 here:p.steps[p.done.length]? = some s
 free:stuckB p r=false
 intime:earlyB p r s.time=false
theorem repB_iff {fin:Int} {r:Report}:repB fin r=true↔1≤r.kind∧r.kind≤4∧0≤r.time∧r.time<fin∧((r.kind=2∨r.kind=4)→1≤r.by_∧r.by_≤10000000)∧(¬ (r.kind=2∨r.kind=4)→r.by_=0):=by
 unfold repB;by_cases h:r.kind=2∨r.kind=4
 ·have:(r.kind==2||r.kind==4)=true:=by simpa using h
  simp [this,h];omega
 ·have:(r.kind==2||r.kind==4)=false:=by simpa using h
  simp [this,h];omega
theorem Taken.by_range {h:History} {p:Progress} {r:Report} {s:Step} (H:Taken h p r s):0≤byOf r s.time∧byOf r s.time≤20000000∧byOf r s.time=(if r.kind=1 then r.time - s.time else if r.kind=4 then r.time+r.by_ - s.time else if r.kind=3 then 0 else r.by_):=by
 obtain ⟨h1,h2,h3,h4,h5⟩:=H;obtain ⟨a1,a2,a3,a4,a5,a6⟩:=repB_iff.1 h2;obtain ⟨v1,v2,v3,v4,v5⟩:=validP_iff.1 h1;obtain ⟨w1,w2,w3,w4⟩:=validS_iff.1 v1;have hs:=w3 s (List.mem_of_getElem? h3);have hfin:h.fin≤10000000:=by simp only [histB,Bool.and_eq_true,decide_eq_true_eq] at w1; exact w1.1.1.1.1.1.1.1.2
 have he:(r.kind=1∨r.kind=4)→s.time≤r.time:=fun hk=>by
  simp only [earlyB,Bool.or_eq_false_iff,Bool.and_eq_false_iff,Bool.or_eq_false_iff,decide_eq_false_iff_not] at h5;rcases h5.2 with e | e
  ·omega
  ·omega
 unfold byOf;by_cases k1:r.kind=1
 ·rw [if_pos k1,if_pos k1,wrap64 (by omega) (by omega)];have:=he (.inl k1);omega
 rw [if_neg k1,if_neg k1];by_cases k4:r.kind=4
 ·have:=he (.inr k4);have:=a5 (.inr k4);rw [if_pos k4,if_pos k4,wrap64 (n:=r.time+r.by_) (by omega) (by omega),wrap64 (by omega) (by omega)];omega
 rw [if_neg k4,if_neg k4];by_cases k3:r.kind=3
 ·rw [if_pos k3]; omega
 rw [if_neg k3];have:=a5 (.inl (by omega));omega
theorem mono_at {l:List Step} (h:l.Pairwise (fun a b=>a.time<b.time)) {i j:Nat} {a b:Step} (hij:i<j) (ha:l[i]? = some a) (hb:l[j]? = some b):a.time<b.time:=by
 have h1:=lt_of_getElem? ha;have h2:=lt_of_getElem? hb;have:=List.pairwise_iff_getElem.1 h i j h1 h2 hij;rw [List.getElem?_eq_getElem h1] at ha;rw [List.getElem?_eq_getElem h2] at hb;obtain rfl:=Option.some.inj ha;obtain rfl:=Option.some.inj hb;exact this
theorem mono_int {l:List Int} (h:l.Pairwise (· < ·)) {i j:Nat} {a b:Int} (hij:i<j) (ha:l[i]? = some a) (hb:l[j]? = some b):a<b:=by
 have h1:=lt_of_getElem? ha;have h2:=lt_of_getElem? hb;have:=List.pairwise_iff_getElem.1 h i j h1 h2 hij;rw [List.getElem?_eq_getElem h1] at ha;rw [List.getElem?_eq_getElem h2] at hb;obtain rfl:=Option.some.inj ha;obtain rfl:=Option.some.inj hb;exact this
theorem pair_of {l:List Step} (h:∀ (i j:Nat) (a b:Step),i<j→l[i]? = some a→l[j]? = some b→a.time<b.time):l.Pairwise (fun a b=>a.time<b.time) :=
 List.pairwise_iff_getElem.2 fun i j h1 h2 hij=>h i j _ _ hij (List.getElem?_eq_getElem h1) (List.getElem?_eq_getElem h2)
theorem hist_fin {h:History} (hb:histB h=true):h.fin≤10000000:=by
 simp only [histB,Bool.and_eq_true,decide_eq_true_eq] at hb;exact hb.1.1.1.1.1.1.1.2
theorem off_time {m:Nat} {by_:Int} {l:List Step} (hl:∀ s∈l,0≤s.time∧s.time<10000000) (h1:0≤by_) (h2:by_≤20000000) {i:Nat} {y:Step} (hy:(offL m by_ l)[i]? = some y):∃ x,l[i]? = some x∧y=⟨x.time+(if i<m then 0 else by_),x.stage⟩:=by
 obtain ⟨x,hx,e⟩:=off_at_inv hy;have:=hl x (List.mem_of_getElem? hx);refine ⟨x,hx,?_⟩;rw [e];split
 ·simp
 ·simp only [offS];rw [wrap64 (by omega) (by omega)]
theorem off_time' {m:Nat} {by_:Int} {l:List Step} (hl:∀ s∈l,0≤s.time∧s.time<10000000) (h1:0≤by_) (h2:by_≤20000000) {i:Nat} {x:Step} (hx:l[i]? = some x):(offL m by_ l)[i]? = some ⟨x.time+(if i<m then 0 else by_),x.stage⟩:=by
 have:=hl x (List.mem_of_getElem? hx);rw [off_at hx];split
 ·simp
 ·simp only [offS];rw [wrap64 (by omega) (by omega)]
theorem before_iff {p:Progress} {t:Int}:beforeB p t=true↔∀ s∈p.steps,s.time<t:=by
 simp [beforeB,List.all_eq_true]
theorem Taken.times {h:History} {p:Progress} {r:Report} {s:Step} (H:Taken h p r s):∀ x∈p.steps,0≤x.time∧x.time<10000000:=fun x hx=>by
 obtain ⟨v1,_⟩:=validP_iff.1 H.valid;obtain ⟨w1,_,w3,_⟩:=validS_iff.1 v1;have:=w3 x hx;have:=hist_fin w1;omega
def lastB (q:Progress) (fin:Int):Bool:=decide (q.done.length<q.steps.length)&&(match q.steps[q.steps.length - 1]? with | some x=>decide (x.time≥fin) | none=>false)
theorem Taken.late {h:History} {p:Progress} {r:Report} {s:Step} (H:Taken h p r s):beforeB (takeQ p r s.time) h.fin = !(lastB (takeQ p r s.time) h.fin):=by
 obtain ⟨b1,b2,_⟩:=H.by_range;have ht:=H.times;obtain ⟨v1,v2,_⟩:=validP_iff.1 H.valid;obtain ⟨w1,w2,w3,w4⟩:=validS_iff.1 v1;rw [Bool.eq_iff_iff,before_iff,lastB];simp only [takeQ,off_len];generalize byOf r s.time=by_ at *;generalize (doneOf p r).length=m;constructor
 ·intro hb;by_cases hm:m<p.steps.length
  ·obtain ⟨x,hx⟩:=some_of_lt (l:=p.steps) (k:=p.steps.length - 1) (by omega);have hy:=off_time' (m:=m) ht b1 b2 hx;have hm3:¬ p.steps.length - 1<m:=by omega
   rw [if_neg hm3] at hy;have:=hb _ (List.mem_of_getElem? hy);rw [hy];simp only [hm,decide_true,Bool.true_and,Bool.not_eq_true',decide_eq_false_iff_not];simp only at this;omega
  ·simp [hm]
 ·intro hb y hy;obtain ⟨i,hi⟩:=List.getElem?_of_mem hy;obtain ⟨x,hx,e⟩:=off_time ht b1 b2 hi;have h0:=w3 x (List.mem_of_getElem? hx);have hlt:=lt_of_getElem? hx;rw [e];split
  ·show x.time+0<h.fin;omega
  ·rename_i hm;show x.time+by_<h.fin;obtain ⟨z,hz⟩:=some_of_lt (l:=p.steps) (k:=p.steps.length - 1) (by omega);have hy2:=off_time' (m:=m) ht b1 b2 hz;rw [hy2] at hb;have hm2:m<p.steps.length:=by omega
   have hm3:¬ p.steps.length - 1<m:=by omega
   simp only [hm2,hm3,decide_true,Bool.true_and,Bool.not_eq_true',decide_eq_false_iff_not,if_false] at hb;by_cases hil:i=p.steps.length - 1
   ·subst hil;rw [hx] at hz;obtain rfl:=Option.some.inj hz;omega
   ·have:=mono_at w4 (i:=i) (j:=p.steps.length - 1) (by omega) hx hz;omega
theorem Taken.valid_q {h:History} {p:Progress} {r:Report} {s:Step} (H:Taken h p r s) (hb:beforeB (takeQ p r s.time) h.fin=true):validP h (takeQ p r s.time)=true:=by
 obtain ⟨b1,b2,b3⟩:=H.by_range;have ht:=H.times;obtain ⟨v1,v2,v3,v4,v5⟩:=validP_iff.1 H.valid;obtain ⟨w1,w2,w3,w4⟩:=validS_iff.1 v1;obtain ⟨a1,a2,a3,a4,a5,a6⟩:=repB_iff.1 H.rep;have hn:=lt_of_getElem? H.here;have he:(r.kind=1∨r.kind=4)→s.time≤r.time:=fun hk=>by
  have h5:=H.intime;simp only [earlyB,Bool.or_eq_false_iff,Bool.and_eq_false_iff,Bool.or_eq_false_iff,decide_eq_false_iff_not] at h5;rcases h5.2 with e | e
  ·omega
  ·omega
 have he2:∀ u,p.done[p.done.length - 1]? = some u→u<r.time:=fun u hu=>by
  have h5:=H.intime;simp only [earlyB,hu,Bool.or_eq_false_iff,decide_eq_false_iff_not] at h5;omega
 rw [before_iff] at hb;simp only [takeQ] at hb;have hm:(doneOf p r).length=p.done.length+(if r.kind=1 then 1 else 0):=by
  unfold doneOf; split <;> simp
 have hd:∀ (i:Nat) (t:Int),(doneOf p r)[i]? = some t→p.done[i]? = some t∨(r.kind=1∧i=p.done.length∧t=r.time):=fun i t hi=>by
  unfold doneOf at hi;split at hi
  ·rename_i hk;by_cases hil:i<p.done.length
   ·rw [List.getElem?_append_left hil] at hi; exact .inl hi
   ·rw [List.getElem?_append_right (by omega)] at hi;have:=lt_of_getElem? hi;simp at this;have h0:i - p.done.length=0:=by omega
    rw [h0] at hi;simp at hi;exact .inr ⟨hk,by omega,hi.symm⟩
  ·exact .inl hi
 have hm2:(doneOf p r).length≤p.steps.length:=by rw [hm]; split <;> omega
 have hsteps:validS h (offL (doneOf p r).length (byOf r s.time) p.steps)=true:=by
  refine validS_iff.2 ⟨w1,by rw [off_len]; exact w2,fun y hy=>?_,pair_of fun i j a b hij ha hb2=>?_⟩
  ·obtain ⟨i,hi⟩:=List.getElem?_of_mem hy;obtain ⟨x,hx,e⟩:=off_time ht b1 b2 hi;have h0:=w3 x (List.mem_of_getElem? hx);have:=hb y hy;rw [e] at this ⊢;refine ⟨?_,this,h0.2.2⟩;show 0≤x.time+_;split <;> omega
  ·obtain ⟨x,hx,e⟩:=off_time ht b1 b2 ha;obtain ⟨z,hz,e2⟩:=off_time ht b1 b2 hb2;have:=mono_at w4 hij hx hz;rw [e,e2];show x.time+_<z.time+_;split <;> split <;> omega
 refine validP_iff.2 ⟨hsteps,by simp only [takeQ,off_len]; exact hm2,fun i t y hi hy=>?_,?_,fun t y hi hy=>?_⟩
 ·simp only [takeQ] at hi hy;obtain ⟨x,hx,e⟩:=off_time ht b1 b2 hy;have him:=lt_of_getElem? hi;rw [if_pos him] at e;rcases hd i t hi with h1 | ⟨h1,h2,h3⟩
  ·have:=v3 i t x h1 hx;rw [e]; simp only; omega
  ·subst h2;rw [H.here] at hx;obtain rfl:=Option.some.inj hx;have:=he (.inl h1);rw [e,h3]; simp only; omega
 ·show (doneOf p r).Pairwise (· < ·);unfold doneOf;split
  ·rw [List.pairwise_append];refine ⟨v4,List.pairwise_singleton _ _,fun a ha b hb2=>?_⟩;obtain rfl:=List.mem_singleton.1 hb2;obtain ⟨i,hi⟩:=List.getElem?_of_mem ha;have hil:=lt_of_getElem? hi;obtain ⟨u,hu⟩:=some_of_lt (l:=p.done) (k:=p.done.length - 1) (by omega);have:=he2 u hu;by_cases hq:i=p.done.length - 1
   ·subst hq; rw [hi] at hu; obtain rfl:=Option.some.inj hu; omega
   ·have:=mono_int v4 (i:=i) (j:=p.done.length - 1) (by omega) hi hu;omega
  ·exact v4
 ·simp only [takeQ] at hi hy;obtain ⟨x,hx,e⟩:=off_time ht b1 b2 hy;rw [if_neg (Nat.lt_irrefl _)] at e;rcases hd _ t hi with h1 | ⟨h1,h2,h3⟩
  ·by_cases hk:r.kind=1
   ·rw [hm,if_pos hk] at h1;simp only [Nat.add_sub_cancel] at h1;have:=lt_of_getElem? h1;omega
   ·rw [hm,if_neg hk,Nat.add_zero] at h1 hx;have:=v5 t x h1 hx;rw [e]; simp only; omega
  ·rw [hm,if_pos h1] at hx;have:=mono_at w4 (i:=p.done.length) (j:=p.done.length+1) (by omega) H.here hx;rw [if_pos h1] at b3;have:=he (.inl h1);rw [e,h3]; simp only; omega
theorem takeR_ok {h:History} {p q:Progress} {r:Report} (e:takeR h p r=(q,0)):∃ s,Taken h p r s∧q=takeQ p r s.time∧beforeB q h.fin=true:=by
 unfold takeR at e;split at e
 ·rename_i h1;rw [Bool.and_eq_true] at h1;split at e
  ·simp at e
  ·rename_i h2;split at e
   ·simp at e
   ·rename_i s hs;split at e
    ·simp at e
    ·rename_i h3;split at e
     ·rename_i h4;refine ⟨s,⟨h1.1,h1.2,hs,by simpa using h2,by simpa using h3⟩,(Prod.mk.inj e).1.symm,?_⟩;rw [← (Prod.mk.inj e).1]; exact h4
     ·simp at e
 ·simp at e
theorem takeR_no {h:History} {p:Progress} {r:Report} (e:(takeR h p r).2≠0):(takeR h p r).1=zeroP:=by
 unfold takeR at e ⊢;repeat' split
 all_goals first
  |rfl
  |(exfalso; simp_all; done)
theorem Taken.takeR {h:History} {p:Progress} {r:Report} {s:Step} (H:Taken h p r s):takeR h p r=if beforeB (takeQ p r s.time) h.fin then (takeQ p r s.time,0) else (zeroP,36):=by
 rw [Go.Proofs.YtajnanldmhpeaaaGreatDoor.P.takeR];rw [H.valid,H.rep,H.free,H.here];simp [H.intime]
theorem done_len2 {p:Progress} {r:Report}:(doneOf p r).length=p.done.length+(if r.kind=1 then 1 else 0):=by
 unfold doneOf; split <;> simp
theorem done_take {p:Progress} {r:Report}:(doneOf p r).take p.done.length=p.done:=by
 unfold doneOf; split <;> simp
theorem waits_law {h:History} {p q:Progress} {r:Report} (e:takeR h p r=(q,0)) :
  validP h q=true∧q.steps.length=p.steps.length∧p.done.length≤q.done.length∧q.done.length≤p.done.length+1∧q.done.take p.done.length=p.done∧p.done.length<p.steps.length ∧
  (∀ (i:Nat) (a b:Step),p.steps[i]? = some a→q.steps[i]? = some b→a.stage=b.stage∧a.time≤b.time∧(i<q.done.length→a.time=b.time)) ∧
  (∀ (i:Nat) (a b a1 b1:Step),q.done.length<i→p.steps[i]? = some a→q.steps[i]? = some b→p.steps[i - 1]? = some a1→q.steps[i - 1]? = some b1→b.time - b1.time=a.time - a1.time) ∧
  (∀ (x y z:Step) (t:Int),p.done.length<q.done.length→q.steps[q.done.length]? = some y→q.done[q.done.length - 1]? = some t→p.steps[q.done.length]? = some x→p.steps[q.done.length - 1]? = some z→y.time - t=x.time - z.time):=by
 obtain ⟨s,H,rfl,hb⟩:=takeR_ok e;have hv:=H.valid_q hb;obtain ⟨b1,b2,b3⟩:=H.by_range;have ht:=H.times;have hl:=done_len2 (p:=p) (r:=r);have hn:=lt_of_getElem? H.here;refine ⟨hv,off_len,?_,?_,done_take,hn,fun i a b ha hb2=>?_,fun i a b a1 c1 hi ha hb2 ha1 hc1=>?_,fun x y z t hlt hy ht2 hx hz=>?_⟩
 ·show p.done.length≤(doneOf p r).length;rw [hl]; omega
 ·show (doneOf p r).length≤_;rw [hl]; split <;> omega
 ·obtain ⟨x,hx,e2⟩:=off_time ht b1 b2 hb2;rw [ha] at hx;obtain rfl:=Option.some.inj hx;refine ⟨by rw [e2],?_,fun hlt=>?_⟩
  ·rw [e2];show a.time≤a.time+_;split <;> omega
  ·have hlt:i<(doneOf p r).length:=hlt;rw [e2,if_pos hlt];simp
 ·obtain ⟨x,hx,e2⟩:=off_time ht b1 b2 hb2;obtain ⟨x1,hx1,e3⟩:=off_time ht b1 b2 hc1;rw [ha] at hx;rw [ha1] at hx1;obtain rfl:=Option.some.inj hx;obtain rfl:=Option.some.inj hx1;have hi:(doneOf p r).length<i:=hi;rw [e2,e3,if_neg (by omega),if_neg (by omega)];simp only;omega
 ·obtain ⟨x1,hx1,e2⟩:=off_time ht b1 b2 hy;have hx:p.steps[(doneOf p r).length]? = some x:=hx;have hx1:p.steps[(doneOf p r).length]? = some x1:=hx1;rw [hx] at hx1;obtain rfl:=Option.some.inj hx1;have hlt:p.done.length<(doneOf p r).length:=hlt;have ht2:(doneOf p r)[(doneOf p r).length - 1]? = some t:=ht2;have hz:p.steps[(doneOf p r).length - 1]? = some z:=hz;have hk:r.kind=1:=by
   rw [hl] at hlt;split at hlt
   ·assumption
   ·omega
  rw [hl,if_pos hk] at hz;simp only [Nat.add_sub_cancel] at hz;rw [H.here] at hz;obtain rfl:=Option.some.inj hz;rw [doneOf,if_pos hk] at ht2;simp at ht2;subst ht2;rw [if_pos hk] at b3;rw [e2];show x.time+(if (doneOf p r).length<(doneOf p r).length then 0 else byOf r s.time) - r.time=_;rw [if_neg (Nat.lt_irrefl _)];omega
theorem zeroP_take {h:History} {r:Report}:(takeR h zeroP r).2≠0:=by
 unfold takeR;split
 ·simp [stuckB,zeroP]
 ·simp
theorem stuck_take {h:History} {p:Progress} {r:Report} (hp:p.paused=true∨p.over=true):(takeR h p r).2=6∨(takeR h p r).2=1:=by
 have hst:stuckB p r=true:=by
  rcases hp with e | e <;> simp [stuckB,e]
 unfold takeR;split
 ·left; simp
 ·right; rfl
def pauseR (p:Progress):PE:=if formB p then (if p.paused||p.over then (zeroP,6) else ({ p with paused:=true },0)) else (zeroP,1)
def resumeR (p:Progress) (by_:Int):PE :=
 if formB p&&(decide (0≤by_)&&decide (by_≤10000000)) then
  if !p.paused||p.over then (zeroP,6) else
  if (p.steps.drop p.done.length).any (fun s=>decide (s.time>10000000 - by_)) then (zeroP,36) else (⟨offL p.done.length by_ p.steps,p.done,false,p.over⟩,0)
 else (zeroP,1)
theorem over_law {h:History} {p q:Progress} {at_:Int} (e:takeR h p ⟨p.done.length,3,at_,0⟩=(q,0)):q={ p with paused:=false,over:=true }∧validP h q=true∧validP h p=true:=by
 obtain ⟨s,H,rfl,hb⟩:=takeR_ok e;have hv:=H.valid_q hb;refine ⟨?_,hv,H.valid⟩;have e0:=off_zero (m:=p.done.length) H.times;simp [takeQ,doneOf,byOf,e0]
theorem over_pause {p:Progress} (hf:formB p=true) (ho:p.over=true):pauseR p=(zeroP,6)∧resumeR p 0=(zeroP,6):=by
 simp [pauseR,resumeR,hf,ho]
theorem validP_form {h:History} {p:Progress} (hv:validP h p=true):formB p=true:=by
 simp only [validP,Bool.and_eq_true] at hv;exact hv.1
theorem pause_law {h:History} {p:Progress} (hv:validP h p=true) (h1:p.paused=false) (h2:p.over=false) :
  pauseR p=({ p with paused:=true },0)∧resumeR { p with paused:=true } 0=(p,0)∧pauseR { p with paused:=true }=(zeroP,6):=by
 have hf:=validP_form hv;obtain ⟨st,dn,pa,ov⟩:=p;simp only at h1 h2;subst h1;subst h2;have hf2:formB ⟨st,dn,true,false⟩=true:=hf;obtain ⟨v1,_⟩:=validP_iff.1 hv;obtain ⟨w1,_,w3,_⟩:=validS_iff.1 v1;simp only at w3;have ht:∀ x∈st,0≤x.time∧x.time<10000000:=fun x hx=>by
  have:=w3 x hx;have:=hist_fin w1;omega
 have e0:=off_zero (m:=dn.length) ht;have ha:(st.drop dn.length).any (fun s=>decide (s.time>10000000 - 0))=false:=by
  rw [List.any_eq_false];intro x hx;have:=ht x (List.mem_of_mem_drop hx);simp;omega
 refine ⟨by simp [pauseR,hf],?_,by simp [pauseR,hf2]⟩;rw [resumeR,hf2];simp only [ha,e0];simp
theorem resume_no {p:Progress} {by_:Int} (h:(resumeR p by_).2≠0):(resumeR p by_).1=zeroP:=by
 unfold resumeR at h ⊢;repeat' split
 all_goals first
  |rfl
  |(exfalso; simp_all; done)
theorem resume_ok {p q:Progress} {by_:Int} (ht:∀ s∈p.steps,0≤s.time) (h:resumeR p by_=(q,0)):q.steps.length=p.steps.length∧q.done=p.done∧q.paused=false∧∀ (i:Nat) (a b:Step),p.steps[i]? = some a→q.steps[i]? = some b→b.time=if p.done.length≤i then IntKind.i64.wrap (a.time+by_) else a.time:=by
 unfold resumeR at h;split at h
 ·split at h
  ·simp at h
  ·split at h
   ·simp at h
   ·obtain ⟨rfl,_⟩:=Prod.mk.inj h;refine ⟨off_len,rfl,rfl,fun i a b ha hb=>?_⟩;have:=off_at (m:=p.done.length) (by_:=by_) ha;rw [this] at hb;obtain rfl:=Option.some.inj hb;by_cases hi:i<p.done.length
    ·rw [if_pos hi,if_neg (by omega)]
    ·rw [if_neg hi,if_pos (by omega)]; rfl
 ·simp at h
def onP (l:List Step) (i:Nat):Progress:=⟨l,(l.take i).map (·.time),false,false⟩
theorem on_at {l:List Step} {k i:Nat} {t:Int} (h:((l.take k).map (·.time))[i]? = some t):i<k∧∃ s,l[i]? = some s∧s.time=t:=by
 rw [List.getElem?_map,List.getElem?_take] at h;split at h
 ·rename_i hik;cases hs:l[i]? with
  |none=>rw [hs] at h; simp at h
  |some s=>rw [hs] at h; exact ⟨hik,s,rfl,Option.some.inj h⟩
 ·simp at h
theorem on_len {l:List Step} {k:Nat} (h:k≤l.length):(onP l k).done.length=k:=by simp [onP,Nat.min_eq_left h]
theorem on_valid {h:History} {l:List Step} {k:Nat} (hv:validS h l=true) (hk:k≤l.length):validP h (onP l k)=true:=by
 obtain ⟨w1,w2,w3,w4⟩:=validS_iff.1 hv;have hl:=on_len hk;refine validP_iff.2 ⟨hv,by rw [hl]; exact hk,fun i t s hi hs=>?_,?_,fun t s hi hs=>?_⟩
 ·obtain ⟨_,x,hx,e⟩:=on_at hi;have hs:l[i]? = some s:=hs;rw [hx] at hs;obtain rfl:=Option.some.inj hs;have:=w3 x (List.mem_of_getElem? hx);omega
 ·show ((l.take k).map (·.time)).Pairwise (· < ·);rw [List.pairwise_map];exact w4.sublist (List.take_sublist ..)
 ·obtain ⟨h1,x,hx,e⟩:=on_at hi;rw [hl] at hx hs h1;have:=mono_at w4 (i:=k - 1) (j:=k) (by omega) hx hs;omega
theorem on_next {h:History} {l:List Step} {i:Nat} {s:Step} (hv:validS h l=true) (hs:l[i]? = some s):takeR h (onP l i) ⟨i,1,s.time,0⟩=(onP l (i+1),0):=by
 have hi:=lt_of_getElem? hs;obtain ⟨w1,w2,w3,w4⟩:=validS_iff.1 hv;have h0:=w3 s (List.mem_of_getElem? hs);have hl:=on_len (l:=l) (k:=i) (by omega);have H:Taken h (onP l i) ⟨i,1,s.time,0⟩ s:=by
  refine ⟨on_valid hv (by omega),repB_iff.2 ?_,by rw [hl]; exact hs,?_,?_⟩
  ·simp;omega
  ·simp only [stuckB,hl];simp [onP];omega
  ·simp only [earlyB,hl];cases hu:(onP l i).done[i - 1]? with
   |none=>simp
   |some u =>
    obtain ⟨h1,x,hx,e⟩:=on_at hu;have:=mono_at w4 (i:=i - 1) (j:=i) (by omega) hx hs;simp;omega
 have hq:takeQ (onP l i) ⟨i,1,s.time,0⟩ s.time=onP l (i+1):=by
  have e0:=off_zero (m:=(doneOf (onP l i) ⟨i,1,s.time,0⟩).length) H.times;have e1:byOf ⟨i,1,s.time,0⟩ s.time=0:=by
   rw [byOf,if_pos rfl];simp only;rw [wrap64 (by omega) (by omega)];omega
  have e2:doneOf (onP l i) ⟨i,1,s.time,0⟩=(l.take (i+1)).map (·.time):=by
   rw [doneOf,if_pos rfl,List.take_add_one,hs];simp [onP]
  rw [takeQ,e1,e0,e2];rfl
 rw [H.takeR,hq,if_pos];rw [before_iff];intro x hx;exact (w3 x hx).2.1
theorem on_steps {l:List Step} {k:Nat} (h:k≤l.length):doneL (onP l k).done l=l.take k:=by
 apply List.ext_getElem?;intro i;by_cases hi:i<k
 ·obtain ⟨s,hs⟩:=some_of_lt (l:=l) (k:=i) (by omega);have h1:(onP l k).done[i]? = some s.time:=by simp [onP,hi,hs]
  rw [done_at h1 hs,List.getElem?_take,if_pos hi,hs]
 ·rw [List.getElem?_eq_none,List.getElem?_eq_none]
  ·simp; omega
  ·rw [done_len (by rw [on_len h]; exact h),on_len h]; omega
theorem delay_taken {h:History} {p:Progress} {at_ one:Int} {s:Step} (hv:validP h p=true) (hs:p.steps[p.done.length]? = some s) (h1:1≤one) (h2:one≤10000000) :
  (p.paused=false∧p.over=false∧0≤at_∧at_<h.fin∧(∀ u,p.done[p.done.length - 1]? = some u→u<at_))→Taken h p ⟨p.done.length,2,at_,one⟩ s:=by
 rintro ⟨a1,a2,a3,a4,a5⟩;have hn:=lt_of_getElem? hs;refine ⟨hv,repB_iff.2 ?_,hs,?_,?_⟩
 ·simp; omega
 ·simp [stuckB,a1,a2]; omega
 ·simp only [earlyB];cases hu:p.done[p.done.length - 1]? with
  |none=>simp
  |some u=>have:=a5 u hu; simp; omega
theorem taken_free {h:History} {p:Progress} {r:Report} {s:Step} (H:Taken h p r s):p.paused=false∧p.over=false∧0≤r.time∧r.time<h.fin∧(∀ u,p.done[p.done.length - 1]? = some u→u<r.time):=by
 have h1:=H.free;have h2:=H.intime;obtain ⟨a1,a2,a3,a4,_⟩:=repB_iff.1 H.rep;simp only [stuckB,Bool.or_eq_false_iff] at h1;refine ⟨h1.1,h1.2.1,a3,a4,fun u hu=>?_⟩;simp only [earlyB,hu,Bool.or_eq_false_iff,decide_eq_false_iff_not] at h2;omega
theorem off_off {m:Nat} {a b:Int} {l:List Step} (hl:∀ s∈l,0≤s.time∧s.time<10000000) (h1:0≤a) (h2:a≤10000000) (h3:0≤b) (h4:b≤10000000):offL m b (offL m a l)=offL m (a+b) l:=by
 apply List.ext_getElem?;intro i;cases hx:l[i]? with
 |none =>
  have:=List.getElem?_eq_none_iff.1 hx;rw [List.getElem?_eq_none,List.getElem?_eq_none]
  ·rw [off_len]; exact this
  ·rw [off_len,off_len]; exact this
 |some x =>
  have:=hl x (List.mem_of_getElem? hx);rw [off_at (off_at hx),off_at hx];split
  ·rfl
  ·simp only [offS];rw [wrap64 (n:=x.time+a) (by omega) (by omega),Int.add_assoc]
theorem delay_q {p:Progress} {at_ one t:Int}:takeQ p ⟨p.done.length,2,at_,one⟩ t=⟨offL p.done.length one p.steps,p.done,false,false⟩:=by
 simp [takeQ,doneOf,byOf]
theorem delays_law {h:History} {p:Progress} {at_ one two:Int} (hv:validP h p=true) (hn:p.done.length<p.steps.length) (h1:1≤one) (h2:one≤5000000) (h3:1≤two) (h4:two≤5000000) :
  let r:=fun b=>Report.mk p.done.length 2 at_ b
  let a:=takeR h p (r one)
  let b:=takeR h a.1 (r two)
  let c:=takeR h p (r (one+two))
  (a.2=0→(b.2=0↔c.2=0))∧(b.2=0→b.1=c.1):=by
 intro r a b c;obtain ⟨s,hs⟩:=some_of_lt hn;by_cases ha:a.2=0
 ·have ea:takeR h p (r one)=(a.1,0):=by rw [← ha]
  obtain ⟨s1,H,hq,hb⟩:=takeR_ok ea;have hs1:=H.here;rw [hs] at hs1;obtain rfl:=Option.some.inj hs1;have hqv:=H.valid_q (hq ▸ hb);have ht:=H.times;rw [show r one=⟨p.done.length,2,at_,one⟩ from rfl,delay_q] at hq hqv;have hfree:=taken_free H;have Hc:=delay_taken (at_:=at_) (one:=one+two) hv hs (by omega) (by omega) hfree;have hs2:(offL p.done.length one p.steps)[p.done.length]? = some (offS one s):=by rw [off_at hs,if_neg (Nat.lt_irrefl _)]
  have Hb:=delay_taken (h:=h) (p:=⟨offL p.done.length one p.steps,p.done,false,false⟩) (at_:=at_) (one:=two) hqv hs2 (by omega) (by omega) ⟨rfl,rfl,hfree.2.2⟩;have eb:b=if beforeB ⟨offL p.done.length (one+two) p.steps,p.done,false,false⟩ h.fin then (⟨offL p.done.length (one+two) p.steps,p.done,false,false⟩,0) else (zeroP,36):=by
   show takeR h a.1 (r two)=_;rw [hq];show takeR h _ ⟨p.done.length,2,at_,two⟩=_;rw [Hb.takeR]
   rw [show takeQ ⟨offL p.done.length one p.steps,p.done,false,false⟩ ⟨p.done.length,2,at_,two⟩ (offS one s).time=⟨offL p.done.length (one+two) p.steps,p.done,false,false⟩ by
    rw [delay_q (p:=⟨offL p.done.length one p.steps,p.done,false,false⟩)];simp only
    rw [off_off ht (by omega) (by omega) (by omega) (by omega)]]
  have ec:c=if beforeB ⟨offL p.done.length (one+two) p.steps,p.done,false,false⟩ h.fin then (⟨offL p.done.length (one+two) p.steps,p.done,false,false⟩,0) else (zeroP,36):=by
   show takeR h p ⟨p.done.length,2,at_,one+two⟩=_;rw [Hc.takeR,delay_q]
  rw [eb,ec];exact ⟨fun _=>Iff.rfl,fun _=>rfl⟩
 ·refine ⟨fun e=>absurd e ha,fun hb=>?_⟩;have hz:a.1=zeroP:=takeR_no ha;exact absurd (show (takeR h zeroP (r two)).2=0 by rw [← hz]; exact hb) zeroP_take
theorem fails_law {h:History} {p:Progress} {at_ one:Int} {s:Step} (hv:validP h p=true) (hs:p.steps[p.done.length]? = some s) (h1:1≤one) (h2:one≤5000000) :
  let a:=takeR h p ⟨p.done.length,2,at_,one⟩
  let d:=takeR h p ⟨p.done.length,4,s.time,one⟩
  (a.2=0∧d.2=0→a.1=d.1)∧(a.2=36→d.2=36):=by
 intro a d;obtain ⟨v1,v2,v3,v4,v5⟩:=validP_iff.1 hv;obtain ⟨w1,w2,w3,w4⟩:=validS_iff.1 v1;have h0:=w3 s (List.mem_of_getElem? hs);have hfin:=hist_fin w1;have hn:=lt_of_getElem? hs;by_cases hfr:p.paused=false∧p.over=false
 ·have Hd:Taken h p ⟨p.done.length,4,s.time,one⟩ s:=by
   refine ⟨hv,repB_iff.2 (by simp; omega),hs,by simp [stuckB,hfr]; omega,?_⟩;simp only [earlyB];cases hu:p.done[p.done.length - 1]? with
   |none=>simp
   |some u=>have:=v5 u s hu hs; simp; omega
  have eq:takeQ p ⟨p.done.length,4,s.time,one⟩ s.time=⟨offL p.done.length one p.steps,p.done,false,false⟩:=by
   have e1:byOf ⟨p.done.length,4,s.time,one⟩ s.time=one:=by
    rw [byOf,if_neg (by simp),if_pos rfl];simp only;rw [wrap64 (n:=s.time+one) (by omega) (by omega),wrap64 (by omega) (by omega)];omega
   simp [takeQ,doneOf,e1]
  have ed:d=if beforeB ⟨offL p.done.length one p.steps,p.done,false,false⟩ h.fin then (⟨offL p.done.length one p.steps,p.done,false,false⟩,0) else (zeroP,36):=by
   show takeR h p _=_;rw [Hd.takeR,eq]
  refine ⟨fun ⟨e1,e2⟩=>?_,fun e=>?_⟩
  ·have ea:takeR h p ⟨p.done.length,2,at_,one⟩=(a.1,0):=by rw [← e1]
   obtain ⟨s1,H,hq,hb⟩:=takeR_ok ea;rw [delay_q] at hq;rw [hq,ed];rw [ed] at e2;split
   ·rfl
   ·rename_i hb2; rw [if_neg hb2] at e2; simp at e2
  ·have:beforeB ⟨offL p.done.length one p.steps,p.done,false,false⟩ h.fin=false:=by
    cases hb:beforeB ⟨offL p.done.length one p.steps,p.done,false,false⟩ h.fin
    ·rfl
    ·exfalso;have e:(takeR h p ⟨p.done.length,2,at_,one⟩).2=36:=e;unfold takeR at e;split at e
     ·split at e
      ·simp at e
      ·rw [hs] at e;simp only at e;split at e
       ·simp at e
       ·rw [delay_q,hb] at e;simp at e
     ·simp at e
   rw [ed,this];rfl
 ·have hst:∀ r,stuckB p r=true:=fun r=>by
   cases hp:p.paused
   ·cases ho:p.over
    ·exact absurd ⟨hp,ho⟩ hfr
    ·simp [stuckB,ho]
   ·simp [stuckB,hp]
  have hrd:repB h.fin ⟨p.done.length,4,s.time,one⟩=true:=repB_iff.2 (by simp; omega);refine ⟨fun ⟨e1,e2⟩=>?_,fun e=>?_⟩
  ·exfalso;have e2:(takeR h p ⟨p.done.length,4,s.time,one⟩).2=0:=e2;unfold takeR at e2;rw [hv,hrd] at e2;simp [hst] at e2
  ·exfalso;have e:(takeR h p ⟨p.done.length,2,at_,one⟩).2=36:=e;unfold takeR at e;split at e
   ·simp [hst] at e
   ·simp at e
end Go.Proofs.YtajnanldmhpeaaaGreatDoor.P
end
section
namespace Go.Proofs.YtajnanldmhpeaaaGreatDoor.P
open Go Go.Eng
set_option maxRecDepth 100000
set_option maxHeartbeats 4000000
theorem any_no {α:Type} {p:α→Bool} {l:List α} {k:Nat} {x:α} (hx:l[k]? = some x) (h:p x=true):l.any p=true:=List.any_eq_true.2 ⟨x,List.mem_of_getElem? hx,h⟩
theorem any_next {p:Step→Bool} {l:List Step} {k:Nat} {x:Step} (h:(l.take k).any p=false) (hx:l[k]? = some x) (hp:p x=false):(l.take (k+1)).any p=false:=by
 rw [take_next hx,List.any_append,h];simp [hp]
def realN (h:History) (p:Progress):Int:=if validP h p then applyN h (doneL p.done p.steps) else 1
def realH (h:History) (p:Progress):History:=if validP h p then applyH h (doneL p.done p.steps) else zeroH
theorem done_fits {dn:List Int} {l:List Step} (hs:Steps.Fits l):Steps.Fits (doneL dn l):=by
 refine ⟨fun s h=>?_,?_⟩
 ·obtain ⟨i,hi⟩:=List.getElem?_of_mem h;rw [doneL,List.getElem?_zipWith] at hi;cases h1:dn[i]? with
  |none=>rw [h1] at hi; simp at hi
  |some t =>
   cases h2:l[i]? with
   |none=>rw [h1,h2] at hi; simp at hi
   |some x =>
    rw [h1,h2] at hi;obtain rfl:=Option.some.inj hi;exact hs.each x (List.mem_of_getElem? h2)
 ·have:=hs.few;simp only [doneL,List.length_zipWith];omega
end Go.Proofs.YtajnanldmhpeaaaGreatDoor.P
end
section
namespace Go.Proofs.YtajnanldmhpeaaaGreatDoor.P
open Go Go.Eng
set_option maxRecDepth 100000
set_option maxHeartbeats 4000000
theorem inForm42_p (p:Progress):PCalls E 74 [p.enc] (· = .bool (formB p)):=by
 obtain ⟨st,dn,pa,ov⟩:=p;unfold formB;simp only;show PCalls E _ [DV.agg [.sl (st.map Step.enc),.sl (dn.map (.int .i64)),.bool pa,.bool ov]] _;refine eP Tryz.func74 ?_;repeat' (first | with_reducible refine cY ?_ | with_reducible refine cN ?_ | with_reducible refine caseB_split (fun _=>?_) (fun _=>?_) | refine gA Tryz.func74 ?_ | refine gB ?_ | refine gC ?_ | with_reducible rfl)
 all_goals simp_all
 all_goals omega
theorem right_p (h:History) (r:Report):PCalls E 54 [h.enc,r.enc] (· = .bool (repB h.fin r)):=by
 obtain ⟨hosts,copies,anchor,hints,drift,fin⟩:=h;obtain ⟨r1,r2,r3,r4⟩:=r;unfold repB;simp only;refine eP Tryz.func54 ?_;repeat' (first | with_reducible refine cY ?_ | with_reducible refine cN ?_ | with_reducible refine caseB_split (fun _=>?_) (fun _=>?_) | refine gA Tryz.func54 ?_ | refine gB ?_ | refine gC ?_ | with_reducible rfl)
 all_goals simp_all
 all_goals omega
theorem valid42_p (h:History) (p:Progress) (hf:h.Fits) (hk1:h.copies.length≤1000000) (hs:Steps.Fits p.steps):PCalls E 53 [h.enc,p.enc] (· = .bool (validP h p)):=by
 have hform:=inForm42_p p;have hval:=svalid_p h p.steps hf hk1 hs;unfold validP;obtain ⟨hosts,copies,anchor,hints,drift,fin⟩:=h;obtain ⟨st,dn,pa,ov⟩:=p;simp only at hval ⊢;show PCalls E _ [DV.agg [.sl (hosts.map Host.enc),.sl (copies.map Copy.enc),.str anchor.name,.int .i64 anchor.type,.int .i64 anchor.life,.sl (anchor.data.map Datum.enc),.sl (hints.map (.int .i64)),.int .i64 drift,.int .i64 fin],DV.agg [.sl (st.map Step.enc),.sl (dn.map (.int .i64)),.bool pa,.bool ov]] _;refine eP Tryz.func53 ?_
 with_reducible refine callP_eq (hform) ?_
 refine gO Tryz.func53 ?_;cases hfm:formB ⟨st,dn,pa,ov⟩
 ·refine caseB_true ?_;refine gO Tryz.func53 ?_;refine caseB_true ?_;refine gO Tryz.func53 ?_;rfl
 ·refine caseB_false ?_;refine gO Tryz.func53 ?_
  with_reducible refine callP_eq (hval) ?_
  refine gO Tryz.func53 ?_;simp only [formB,Bool.and_eq_true,decide_eq_true_eq] at hfm;obtain ⟨hst,hdl⟩:=hfm;cases hv:validS ⟨hosts,copies,anchor,hints,drift,fin⟩ st
  ·refine caseB_true ?_;refine gO Tryz.func53 ?_;rfl
  ·refine caseB_false ?_;refine gO Tryz.func53 ?_;have hzl:(dn.zip st).length=dn.length:=by rw [List.length_zip]; omega
   refine AWL.loop (κ:=Nat) ([4,5,6]++rg 21 34) (fun k=>[(21,.d (.int .i64 k))]) (fun _=>[]) (fun k=>k≤dn.length∧chain (doneOK fin) doneLt none (dn.zip st)=chain (doneOK fin) doneLt (prevA (dn.zip st) k) ((dn.zip st).drop k)) (fun k=>dn.length - k) 0 ⟨Nat.zero_le _,rfl⟩ ?_ ?_
   ·(conv=>whnf);repeat (first | exact trivial | (refine sI ?_; conv=>whnf))
   intro k hk IH;refine AWL.head E_ok Tryz.func53 2000 ?_;(conv=>whnf);refine caseB_split (fun h5=>?_) (fun h5=>?_)
   ·have hlt:k<dn.length:=by simpa using h5
    obtain ⟨t,ht⟩:=some_of_lt hlt;obtain ⟨x,hx⟩:=some_of_lt (l:=st) (k:=k) (by omega);have hz:(dn.zip st)[k]? = some (t,x):=by rw [List.getElem?_zip_eq_some]; exact ⟨ht,hx⟩
    have hnext:=chain_next (ok:=doneOK fin) (rel:=doneLt) hz;rw [← hk.2] at hnext;rcases Nat.eq_zero_or_pos k with hk0 | hk0
    ·have hpq:prevA (dn.zip st) k=none:=by simp [prevA,hk0]
     rw [hpq] at hnext;dsimp only at hnext;rw [Bool.and_true] at hnext;repeat' (first | with_reducible refine elemP_at (at_map ht) rfl ?_ | with_reducible refine elemP_at (at_map hx) rfl ?_ | with_reducible refine cY ?_ | with_reducible refine cN ?_ | with_reducible refine caseB_split (fun _=>?_) (fun _=>?_) | refine gA Tryz.func53 ?_ | refine gB ?_ | refine gC ?_ | with_reducible rfl)
     all_goals first
      |(have hno : doneOK fin (t, x) = false := by clear hnext hk IH; simp_all [doneOK, doneLt, prevA] <;> (intros; omega)
        rw [hnext, hno];simp
        done)
      |(exfalso; clear hnext hk IH; simp_all; done)
      |skip
     all_goals
      refine gO Tryz.func53 ?_;refine AWL.back (IH (k+1) ⟨by omega,by rw [hnext,show doneOK fin (t,x)=true by clear hnext hk IH; simp_all [doneOK,doneLt,prevA] <;> omega,Bool.true_and]⟩ (by omega)) ?_;(conv=>whnf);repeat (first | exact trivial | (refine sI ?_; conv=>whnf))
    ·obtain ⟨q,hq,hpq⟩:=prevA_some (l:=dn.zip st) hk0 (by omega);rw [hpq] at hnext;have hq1:dn[k - 1]? = some q.1:=by rw [List.getElem?_zip_eq_some] at hq; exact hq.1
     repeat' (first | with_reducible refine elemP_at (at_map ht) rfl ?_ | with_reducible refine elemP_at (at_map hx) rfl ?_ | with_reducible refine elemP_at (at_prev hq1 hk0 (by omega)) rfl ?_ | with_reducible refine cY ?_ | with_reducible refine cN ?_ | with_reducible refine caseB_split (fun _=>?_) (fun _=>?_) | refine gA Tryz.func53 ?_ | refine gB ?_ | refine gC ?_ | with_reducible rfl)
     all_goals first
      |(have hno : (doneOK fin (t, x) && doneLt q (t, x)) = false := by clear hnext hk IH; simp_all [doneOK, doneLt, prevA] <;> (intros; omega)
        rw [hnext, hno];simp
        done)
      |(exfalso; clear hnext hk IH; simp_all; done)
      |skip
     all_goals
      refine gO Tryz.func53 ?_;refine AWL.back (IH (k+1) ⟨by omega,by rw [hnext,show (doneOK fin (t,x)&&doneLt q (t,x))=true by clear hnext hk IH; simp_all [doneOK,doneLt,prevA] <;> omega,Bool.true_and]⟩ (by omega)) ?_;(conv=>whnf);repeat (first | exact trivial | (refine sI ?_; conv=>whnf))
   ·have hge:dn.length≤k:=by simpa using h5
    have hch:chain (doneOK fin) doneLt none (dn.zip st)=true:=by
     rw [hk.2,List.drop_of_length_le (by omega)];cases prevA (dn.zip st) k <;> rfl
    rw [hch];clear hk IH hch;refine gO Tryz.func53 ?_;refine AWL.draw E_ok E_mixed 24 2000 (by kernel_rfl) ?_;(conv=>whnf);by_cases h0:dn.length=0
    ·have hw:waitB ⟨st,dn,pa,ov⟩=true:=by simp [waitB,h0]
     rw [hw];refine caseB_yes (by simp [h0]) ?_;repeat' (first | with_reducible refine cY ?_ | with_reducible refine cN ?_ | with_reducible refine caseB_split (fun _=>?_) (fun _=>?_) | refine gA Tryz.func53 ?_ | refine gB ?_ | refine gC ?_ | with_reducible rfl)
     all_goals rfl
    ·refine caseB_no (by simp [h0]) ?_;refine gD ?_;by_cases h1:dn.length=st.length
     ·have hw:waitB ⟨st,dn,pa,ov⟩=true:=by simp [waitB,h1]
      rw [hw];refine caseB_yes (by simp [h1]) ?_;repeat' (first | with_reducible refine cY ?_ | with_reducible refine cN ?_ | with_reducible refine caseB_split (fun _=>?_) (fun _=>?_) | refine gA Tryz.func53 ?_ | refine gB ?_ | refine gC ?_ | with_reducible rfl)
      all_goals rfl
     ·obtain ⟨x,hx⟩:=some_of_lt (l:=st) (k:=dn.length) (by omega);obtain ⟨t,ht⟩:=some_of_lt (l:=dn) (k:=dn.length - 1) (by omega);have hw:waitB ⟨st,dn,pa,ov⟩=decide (t<x.time):=by simp [waitB,h0,h1,ht,hx]
      rw [hw];refine caseB_no (by simp; omega) ?_;refine gD ?_;have hlast:At1 (dn.map (DV.int .i64)) (IntKind.i64.wrap (((dn.map (DV.int .i64)).length:Int) - 1)) (.int .i64 t):=by
       rw [List.length_map];exact at_prev ht (by omega) (by omega)
      have hnxt:At1 (st.map Step.enc) ((dn.map (DV.int .i64)).length:Int) x.enc:=by
       rw [List.length_map];exact at_map hx
      refine elemP_at (e := .int .i64 t) hlast rfl ?_;refine gD ?_;refine elemP_at (e:=x.enc) hnxt rfl ?_;refine gD ?_;refine gS ?_;refine gO Tryz.func53 ?_;all_goals rfl
end Go.Proofs.YtajnanldmhpeaaaGreatDoor.P
end
section
namespace Go.Proofs.YtajnanldmhpeaaaGreatDoor.P
open Go Go.Eng
set_option maxRecDepth 100000
set_option maxHeartbeats 4000000
end Go.Proofs.YtajnanldmhpeaaaGreatDoor.P
end
