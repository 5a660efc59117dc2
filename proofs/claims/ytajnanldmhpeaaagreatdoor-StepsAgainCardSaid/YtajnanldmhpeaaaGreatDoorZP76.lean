/- Plain laws of package steps: what is served behind steps, and which histories are valid. No conditions. -/
import Derived.Test.YtajnanldmhpeaaaGreatDoorZO2
set_option linter.unusedVariables false
set_option linter.unusedSimpArgs false
namespace Go.Proofs.YtajnanldmhpeaaaGreatDoor.P
open Go Go.Eng
def servedL (l:List Copy) (t:Int):List Placed:=placedOf (l.filter fun c=>decide (c.frm≤t)&&decide (t<c.upto))
def afterL (l:List Placed) (s:Stage):List Placed:=l.filter (fun p => !decide (p.spot∈s.puts.map Placed.spot))++s.puts.filter (fun p => !stopB p.zone)
theorem served_app (a b:List Copy) (t:Int):servedL (a++b) t=servedL a t++servedL b t:=by
 simp [servedL,placedOf]
theorem served_one (c:Copy) (t:Int):servedL [c] t=if c.frm≤t∧t<c.upto then [⟨c.host,c.zone⟩] else []:=by
 unfold servedL placedOf;by_cases h1:c.frm≤t <;> by_cases h2:t<c.upto <;> simp [h1,h2]
theorem stay_cons {ended:List Spot} {at_:Int} (c:Copy) (cs:List Copy):stayL ended at_ (c::cs)=stay1 ended at_ c++stayL ended at_ cs:=List.flatMap_cons
theorem served_stay {ended:List Spot} {at_ t:Int} (h:at_≤t):∀ (cs:List Copy),servedL (stayL ended at_ cs) t=(servedL cs t).filter (fun p => !decide (p.spot∈ended))
 | []=>rfl
 |c::cs=>by
  have ih:=served_stay (ended:=ended) h cs;have e2:servedL (c::cs) t=servedL [c] t++servedL cs t:=served_app [c] cs t;rw [stay_cons,served_app,ih,e2,List.filter_append]
  congr 1
  unfold stay1;rw [served_one];by_cases hm:c.spot∈ended
  ·have hm2:(⟨c.host,c.zone⟩:Placed).spot∈ended:=hm;have hr:(if c.frm≤t∧t<c.upto then [(⟨c.host,c.zone⟩:Placed)] else []).filter (fun p => !decide (p.spot∈ended))=[]:=by
    split <;> simp [hm2]
   rw [hr,if_pos hm];by_cases h2:c.frm≥at_
   ·rw [if_pos h2]; rfl
   ·rw [if_neg h2,served_one,if_neg];simp only;omega
  ·have hm2:¬ (⟨c.host,c.zone⟩:Placed).spot∈ended:=hm;rw [if_neg hm,served_one];split <;> simp [hm2]
theorem served_new {fin at_ t:Int} (h:at_≤t) (h2:t<fin) (l:List Placed):servedL (newC fin at_ l) t=l.filter (fun p => !stopB p.zone):=by
 have e:(newC fin at_ l).filter (fun c=>decide (c.frm≤t)&&decide (t<c.upto))=newC fin at_ l:=List.filter_eq_self.2 fun c hc=>by
  obtain ⟨p,_,rfl⟩:=List.mem_map.1 hc;simp [h,h2]
 rw [servedL,e,placedOf,newC,List.map_map];exact List.map_id _
theorem served_stay2 {ended:List Spot} {at_ t:Int} (h:t<at_):∀ (cs:List Copy),servedL (stayL ended at_ cs) t=servedL cs t
 | []=>rfl
 |c::cs=>by
  have ih:=served_stay2 (ended:=ended) h cs;have e2:servedL (c::cs) t=servedL [c] t++servedL cs t:=served_app [c] cs t;rw [stay_cons,served_app,ih,e2]
  congr 1
  unfold stay1;rw [served_one];by_cases hm:c.spot∈ended
  ·rw [if_pos hm];by_cases h2:c.frm≥at_
   ·rw [if_pos h2,if_neg (by omega)]; rfl
   ·rw [if_neg h2,served_one];simp only;by_cases h3:c.frm≤t∧t<c.upto
    ·rw [if_pos h3,if_pos (by omega)]
    ·rw [if_neg h3,if_neg (by omega)]
  ·rw [if_neg hm,served_one]
theorem served_new2 {fin at_ t:Int} (h:t<at_) (l:List Placed):servedL (newC fin at_ l) t=[]:=by
 have e:(newC fin at_ l).filter (fun c=>decide (c.frm≤t)&&decide (t<c.upto))=[]:=List.filter_eq_nil_iff.2 fun c hc=>by
  obtain ⟨p,_,rfl⟩:=List.mem_map.1 hc;simp;omega
 rw [servedL,e]; rfl
theorem served_run {fin t:Int} (hf:t<fin):∀ (l:List Step) (cs:List Copy),servedL (runS fin cs l) t=(l.filter (fun s=>decide (s.time≤t))).foldl (fun z s=>afterL z s.stage) (servedL cs t)
 | [],cs=>rfl
 |s::l,cs=>by
  have ih:=served_run hf l (stepTo fin cs s);show servedL (runS fin (stepTo fin cs s) l) t=_;rw [ih];by_cases h:s.time≤t
  ·have e:servedL (stepTo fin cs s) t=afterL (servedL cs t) s.stage:=by
    rw [stepTo,served_app,served_stay h,served_new h hf]; rfl
   rw [e,List.filter_cons,if_pos (by simpa using h)];rfl
  ·have e:servedL (stepTo fin cs s) t=servedL cs t:=by
    rw [stepTo,served_app,served_stay2 (by omega),served_new2 (by omega),List.append_nil]
   rw [e,List.filter_cons,if_neg (by simpa using h)]
theorem stay_mem {ended:List Spot} {at_:Int} {c x:Copy} (h:x∈stay1 ended at_ c):x.host=c.host∧x.zone=c.zone∧x.frm=c.frm∧x.upto≤c.upto∧(c.spot∈ended→x.upto≤at_)∧(c.frm<c.upto→x.frm<x.upto):=by
 unfold stay1 at h;split at h
 ·split at h
  ·simp at h
  ·rename_i h1 h2;simp at h;subst h;simp;omega
 ·rename_i h1;simp at h;subst h;exact ⟨rfl,rfl,rfl,Int.le_refl _,fun e=>absurd e h1,id⟩
theorem stay_spot {ended:List Spot} {at_:Int} {c x:Copy} (h:x∈stay1 ended at_ c):x.spot=c.spot:=by
 obtain ⟨h1,h2,_⟩:=stay_mem h;simp [Copy.spot,h1,h2]
def GoodC (n:Nat) (fin:Int) (cs:List Copy):Prop:=(∀ c∈cs,copyOK n fin c=true)∧cs.Pairwise Apart2
theorem copyOK_iff {n:Nat} {fin:Int} {c:Copy}:copyOK n fin c=true↔0≤c.host∧c.host<n∧0≤c.frm∧c.frm<c.upto∧c.upto≤fin∧zoneR c.zone=true:=by
 simp [copyOK,and_assoc]
theorem stay_good {n:Nat} {fin at_:Int} {ended:List Spot} {cs:List Copy} (h:GoodC n fin cs):GoodC n fin (stayL ended at_ cs):=by
 refine ⟨fun x hx=>?_,?_⟩
 ·obtain ⟨c,hc,e⟩:=List.mem_flatMap.1 hx;obtain ⟨e1,e2,e3,e4,_,e5⟩:=stay_mem e;obtain ⟨q1,q2,q3,q4,q5,q6⟩:=copyOK_iff.1 (h.1 c hc);refine copyOK_iff.2 ⟨by omega,by omega,by omega,e5 q4,by omega,by rw [e2]; exact q6⟩
 ·rw [stayL,List.pairwise_flatMap];refine ⟨fun c _=>?_,h.2.imp fun {a b} hab x hx y hy e=>?_⟩
  ·unfold stay1;split <;> (try split) <;> simp
  ·obtain ⟨_,_,a3,a4,_⟩:=stay_mem hx;obtain ⟨_,_,b3,b4,_⟩:=stay_mem hy;have:=hab (by rw [← stay_spot hx,← stay_spot hy]; exact e);omega
theorem step_good {n:Nat} {fin:Int} {s:Step} {cs:List Copy} (hs:0≤s.time∧s.time<fin∧stageB n s.stage=true) (h:GoodC n fin cs):GoodC n fin (stepTo fin cs s):=by
 obtain ⟨s1,s2,s3⟩:=hs;simp only [stageB,Bool.and_eq_true,decide_eq_true_eq] at s3;obtain ⟨⟨_,s4⟩,s5⟩:=s3;have hst:=stay_good (ended:=s.stage.puts.map Placed.spot) (at_:=s.time) h;have hnew:∀ x∈newC fin s.time s.stage.puts,∃ p∈s.stage.puts,stopB p.zone=false∧x=⟨p.host,s.time,fin,p.zone⟩:=fun x hx=>by
  obtain ⟨p,hp,e⟩:=List.mem_map.1 hx;obtain ⟨h1,h2⟩:=List.mem_filter.1 hp;exact ⟨p,h1,by simpa using h2,e.symm⟩
 refine ⟨fun x hx=>?_,?_⟩
 ·rcases List.mem_append.1 hx with hx | hx
  ·exact hst.1 x hx
  ·obtain ⟨p,hp,h2,rfl⟩:=hnew x hx;have:=List.all_eq_true.1 s4 p hp;simp only [putOK,Bool.and_eq_true,decide_eq_true_eq,h2,Bool.false_or] at this;exact copyOK_iff.2 ⟨this.1.1,this.1.2,s1,s2,Int.le_refl _,this.2⟩
 ·rw [stepTo,List.pairwise_append];refine ⟨hst.2,?_,fun x hx y hy e=>?_⟩
  ·rw [newC,List.pairwise_map];have h1:(s.stage.puts.filter fun p => !stopB p.zone).Pairwise fun a b=>a.spot≠b.spot:=by
    have:s.stage.puts.Pairwise fun a b=>a.spot≠b.spot:=by
     have:=List.nodup_iff_pairwise_ne.1 s5
     rwa [List.pairwise_map] at this
    exact this.sublist List.filter_sublist
   exact h1.imp fun {a b} hab e=>absurd (show a.spot=b.spot from e) hab
  ·obtain ⟨p,hp,h2,rfl⟩:=hnew y hy;obtain ⟨c,hc,e1⟩:=List.mem_flatMap.1 hx;have e2:c.spot=p.spot:=by rw [← stay_spot e1]; exact e
   have:=(stay_mem e1).2.2.2.2.1 (by rw [e2]; exact List.mem_map.2 ⟨p,hp,rfl⟩);simp only;omega
theorem run_good {n:Nat} {fin:Int}:∀ {l:List Step} {cs:List Copy},(∀ s∈l,0≤s.time∧s.time<fin∧stageB n s.stage=true)→GoodC n fin cs→GoodC n fin (runS fin cs l)
 | [],_,_,h=>h
 |s::l,cs,hl,h=>run_good (l:=l) (cs:=stepTo fin cs s) (fun t ht=>hl t (List.mem_cons_of_mem _ ht)) (step_good (hl s (List.mem_cons_self ..)) h)
theorem histB_iff {h:History}:histB h=true↔1≤h.fin∧h.fin≤10000000∧0≤h.drift∧h.drift≤1000∧h.copies.length≤4000∧(hostsB h.hosts=true∧rootB h.anchor h.hints=true)∧GoodC h.hosts.length h.fin h.copies∧apexN h.copies≤500:=by
 simp only [histB,GoodC,Bool.and_eq_true,decide_eq_true_eq,List.all_eq_true,and_assoc]
theorem manyB_no {l:List Copy}:manyB l=false↔l.length≤4000∧apexN l≤500:=by
 simp [manyB]
theorem applyN_zero {h:History} {l:List Step}:applyN h l=0↔validS h l=true∧manyB (runS h.fin h.copies l)=false:=by
 unfold applyN;cases validS h l <;> cases manyB (runS h.fin h.copies l) <;> simp
theorem applyH_zero {h:History} {l:List Step} (h0:applyN h l=0):applyH h l={ h with copies:=runS h.fin h.copies l }:=by rw [applyH,if_pos h0]
theorem applyN_two {h:History} {l:List Step} (hv:validS h l=true):applyN h l=0∨applyN h l=2:=by
 unfold applyN;rw [hv];cases manyB (runS h.fin h.copies l) <;> simp
theorem apply_valid {h:History} {l:List Step} (h0:applyN h l=0):histB (applyH h l)=true:=by
 obtain ⟨hv,hm⟩:=applyN_zero.1 h0;obtain ⟨m1,m2⟩:=manyB_no.1 hm;obtain ⟨v1,v2,v3,v4⟩:=validS_iff.1 hv;obtain ⟨q1,q2,q3,q4,q5,q6,q7,q8⟩:=histB_iff.1 v1;rw [applyH_zero h0];exact histB_iff.2 ⟨q1,q2,q3,q4,m1,q6,run_good v3 q7,m2⟩
theorem validS_sub {h:History} {l m:List Step} (hv:validS h l=true) (hs:m.Sublist l):validS h m=true:=by
 obtain ⟨v1,v2,v3,v4⟩:=validS_iff.1 hv;exact validS_iff.2 ⟨v1,Nat.le_trans hs.length_le v2,fun s h=>v3 s (hs.subset h),v4.sublist hs⟩
theorem apply_nil {h:History} (hv:histB h=true):applyN h []=0∧applyH h []=h:=by
 obtain ⟨q1,q2,q3,q4,q5,q6,q7,q8⟩:=histB_iff.1 hv;have h0:applyN h []=0:=applyN_zero.2 ⟨validS_iff.2 ⟨hv,by simp,fun s hs=>by simp at hs,List.Pairwise.nil⟩,manyB_no.2 ⟨q5,q8⟩⟩;exact ⟨h0,by rw [applyH_zero h0]; rfl⟩
theorem apply_parts {h:History} {l:List Step} {k:Nat} (h1:applyN h l=0) (h2:applyN h (l.take k)=0):applyN (applyH h (l.take k)) (l.drop k)=0∧applyH (applyH h (l.take k)) (l.drop k)=applyH h l:=by
 obtain ⟨hv,hm⟩:=applyN_zero.1 h1;have hv2:=apply_valid h2;have hrun:runS h.fin (runS h.fin h.copies (l.take k)) (l.drop k)=runS h.fin h.copies l:=by
  rw [runS,runS,← List.foldl_append,List.take_append_drop]; rfl
 have e:=applyH_zero h2;obtain ⟨v1,v2,v3,v4⟩:=validS_iff.1 hv;have h3:applyN (applyH h (l.take k)) (l.drop k)=0:=by
  refine applyN_zero.2 ⟨validS_iff.2 ⟨hv2,by simp; omega,fun s hs=>?_,v4.sublist (List.drop_sublist ..)⟩,?_⟩
  ·have:=v3 s (List.mem_of_mem_drop hs);rw [e];exact this
  ·rw [e];show manyB (runS h.fin (runS h.fin h.copies (l.take k)) (l.drop k))=false;rw [hrun]; exact hm
 refine ⟨h3,?_⟩;rw [applyH_zero h3,applyH_zero h1,e];show ({ h with copies:=runS h.fin (runS h.fin h.copies (l.take k)) (l.drop k) }:History)=_;rw [hrun]
theorem parts_served {h:History} {l:List Step} {k:Nat} {t:Int} (hv:validS h l=true) (hf:t<h.fin) (ht:∀ s,l[k]? = some s→t<s.time):servedL (runS h.fin h.copies l) t=servedL (runS h.fin h.copies (l.take k)) t:=by
 obtain ⟨v1,v2,v3,v4⟩:=validS_iff.1 hv;rw [served_run hf,served_run hf]
 congr 1
 have e:l.filter (fun s=>decide (s.time≤t))=(l.take k++l.drop k).filter (fun s=>decide (s.time≤t)):=by rw [List.take_append_drop]
 have e2:(l.drop k).filter (fun s=>decide (s.time≤t))=[]:=List.filter_eq_nil_iff.2 fun s hs=>by
  obtain ⟨i,hi⟩:=List.getElem?_of_mem hs;rw [List.getElem?_drop] at hi;obtain ⟨x,hx⟩:=some_of_lt (l:=l) (k:=k) (by have:=lt_of_getElem? hi; omega);have h1:=ht x hx;by_cases h0:i=0
  ·subst h0;rw [Nat.add_zero,hx] at hi;obtain rfl:=Option.some.inj hi;simp; omega
  ·have:=mono_at v4 (i:=k) (j:=k+i) (by omega) hx hi;simp; omega
 rw [e,List.filter_append,e2,List.append_nil]
theorem others_run {fin:Int} {M:List Spot}:∀ {l:List Step} {cs:List Copy},(∀ s∈l,∀ p∈s.stage.puts,p.spot∈M)→(runS fin cs l).filter (fun c => !decide (c.spot∈M))=cs.filter (fun c => !decide (c.spot∈M))
 | [],_,_=>rfl
 |s::l,cs,h=>by
  have ih:=others_run (fin:=fin) (M:=M) (l:=l) (cs:=stepTo fin cs s) (fun t ht=>h t (List.mem_cons_of_mem _ ht));show (runS fin (stepTo fin cs s) l).filter _=_;rw [ih,stepTo,List.filter_append];have e2:(newC fin s.time s.stage.puts).filter (fun c => !decide (c.spot∈M))=[]:=List.filter_eq_nil_iff.2 fun c hc=>by
   obtain ⟨p,hp,rfl⟩:=List.mem_map.1 hc;have:p.spot∈M:=h s (List.mem_cons_self ..) p (List.mem_filter.1 hp).1;simp only [Bool.not_eq_true',Bool.not_eq_true,Bool.not_eq_false',decide_eq_true_eq,Bool.not_eq_false];exact this
  rw [e2,List.append_nil];have main:∀ cs:List Copy,(stayL (s.stage.puts.map Placed.spot) s.time cs).filter (fun c => !decide (c.spot∈M))=cs.filter (fun c => !decide (c.spot∈M)):=by
   intro cs
   induction cs with
   |nil=>rfl
   |cons c cs ih =>
    rw [stay_cons,List.filter_append,ih,List.filter_cons];by_cases hm:c.spot∈s.stage.puts.map Placed.spot
    ·have hM:c.spot∈M:=by
      obtain ⟨p,hp,e⟩:=List.mem_map.1 hm;rw [← e]; exact h s (List.mem_cons_self ..) p hp
     have e3:(stay1 (s.stage.puts.map Placed.spot) s.time c).filter (fun c => !decide (c.spot∈M))=[]:=List.filter_eq_nil_iff.2 fun x hx=>by
      rw [stay_spot hx];simp [hM]
     rw [e3,if_neg (by simp [hM])];rfl
    ·rw [stay1,if_neg hm];by_cases hM:c.spot∈M
     ·rw [if_neg (by simp [hM])];simp [hM]
     ·rw [if_pos (by simp [hM])];simp [hM]
  exact main cs
end Go.Proofs.YtajnanldmhpeaaaGreatDoor.P
