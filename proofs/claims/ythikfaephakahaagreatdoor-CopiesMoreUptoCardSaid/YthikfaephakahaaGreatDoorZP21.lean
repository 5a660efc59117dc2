/- Zones: zone.Valid says what the reference implementation says. Conditions: lengths that Go allows. -/
import Derived.Test.YthikfaephakahaaGreatDoorZN4
set_option linter.unusedVariables false
set_option linter.unusedSimpArgs false
namespace Go.Proofs.YthikfaephakahaaGreatDoor.P
open Go Go.Eng
set_option maxRecDepth 100000
set_option maxHeartbeats 4000000
theorem before1_trans {a b c:Signed} (h:before1 a b=true) (k:before1 b c=true):before1 a c=true:=by
 simp only [before1,decide_eq_true_eq] at *;rw [← cmpP_ordS] at *;exact cmpP_trans h k
theorem chain_sorted {ok:Signed→Bool}:∀ {l:List Signed} {p:Option Signed},chain ok before1 p l=true→Sorted l∧∀ q,p=some q→∀ x∈l,before1 q x=true
 | [],p,_=>⟨fun i j x y _ h=>by simp at h,fun q _ x hx=>by simp at hx⟩
 |s::l,p,h=>by
  simp only [chain,Bool.and_eq_true] at h;obtain ⟨i1,i2⟩:=chain_sorted h.2;refine ⟨fun i j x y hij hx hy=>?_,fun q hq x hx=>?_⟩
  ·cases j with
   |zero=>omega
   |succ j =>
    rw [List.getElem?_cons_succ] at hy;cases i with
    |zero =>
     simp at hx;subst hx
     simpa [before1] using i2 _ rfl y (List.mem_of_getElem? hy)
    |succ i =>
     rw [List.getElem?_cons_succ] at hx;exact i1 i j x y (by omega) hx hy
  ·subst hq;rcases List.mem_cons.1 hx with rfl | hx
   ·exact h.1.2
   ·exact before1_trans h.1.2 (i2 _ rfl x hx)
theorem ordS_le {a b:RSet} (h:ordS a b<0):ordN a.name b.name≤0:=by
 unfold ordS at h;split at h
 ·omega
 ·rename_i e; simp at e; omega
theorem sorted_asc {l:List Signed} (h:Sorted l):Asc (l.map (·.set.name)):=fun i j x y hij hx hy=>by
 rw [List.getElem?_map] at hx hy;obtain ⟨a,ha,rfl⟩:=Option.map_eq_some_iff.1 hx;obtain ⟨b,hb,rfl⟩:=Option.map_eq_some_iff.1 hy;exact ordS_le (h i j a b hij ha hb)
theorem asc_pairwise {l:List Text}:Asc l↔l.Pairwise (fun x y=>ordN x y≤0):=by
 rw [List.pairwise_iff_getElem];constructor
 ·exact fun h i j hi hj hij=>h i j _ _ hij (by simp [hi]) (by simp [hj])
 ·intro h i j x y hij hx hy;obtain ⟨hi,rfl⟩:=List.getElem?_eq_some_iff.1 hx;obtain ⟨hj,rfl⟩:=List.getElem?_eq_some_iff.1 hy;exact h i j hi hj hij
theorem cuts_asc {apex:Text} {l:List Signed} (h:Asc (l.map (·.set.name))):Asc (cutsL apex l) :=
 asc_pairwise.2 ((asc_pairwise.1 h).sublist (List.Sublist.map _ List.filter_sublist))
theorem lay_behind {z:Zone} (hs:Sorted z.sets) (hne:∀ s∈z.sets,s.set.name≠[]):layZ z=behindZ z:=by
 have hA:=cuts_asc (apex:=z.apex) (sorted_asc hs);obtain ⟨h1,h2,h3⟩:=high_ok _ hA;refine lay_beh h1 h2 highL_mem h3 (fun c hc=>?_) (z.sets.map (·.set.name)) [] [] 0 (by simpa using sorted_asc hs) (fun c hc=>?_) (Nat.zero_le _) rfl (fun m d hm=>by omega)
 ·obtain ⟨s,h,rfl,-⟩:=cutsL_mem hc;exact hne s h
 ·obtain ⟨s,h,rfl,-⟩:=cutsL_mem hc
  simpa using ⟨s,h,rfl⟩
def nextc (q:Signed) (t:Option Signed):Bool:=match t with | none=>true | some t => !(t.set.name==q.set.name&&t.set.type != 8)
theorem alias1_eq {p:Text} {s:Signed} {t:Option Signed}:alias1 (some p) s t=((s.set.type != 3||p != s.set.name)&&(if s.set.type==3 then nextc s t else true)):=by
 unfold alias1 nextc;by_cases h:s.set.type=3
 ·simp [h];rfl
 ·have hb:(s.set.type != 3)=true:=by simpa using h
  have hc:(s.set.type==3)=false:=by simpa using h
  simp [hb,hc]
theorem three_alias:∀ (l:List Signed) (q:Signed) (al:Text),Sorted (q::l)→(∀ s∈q::l,s.set.name≠[]∧s.set.type≤8) →
  ((q.set.type≠3∧(al=[]∨ordN al q.set.name<0))∨(al=q.set.name∧q.set.type=3)∨(al=q.set.name∧q.set.type=8)) →
  ((if q.set.type==3 then nextc q l.head? else true)&&aliasL (some q.set.name) l)=threeL al (some q.set.name) l
 | [],q,al,_,_,_=>by simp [nextc,aliasL,threeL]
 |s::l,q,al,hs,hn,hst=>by
  have hlt:ordS q.set s.set<0:=hs 0 1 q s (by omega) rfl rfl;have hs2:Sorted (s::l):=fun i j x y hij hx hy=>hs (i+1) (j+1) x y (by omega) hx hy;have hn2:∀ t∈s::l,t.set.name≠[]∧t.set.type≤8:=fun t ht=>hn t (List.mem_cons_of_mem _ ht);have hs8:=(hn2 s (List.mem_cons_self ..)).2;have hsn:=(hn2 s (List.mem_cons_self ..)).1;have ih:=three_alias l s (if s.set.type==3 then s.set.name else al) hs2 hn2;have e1:aliasL (some q.set.name) (s::l)=((s.set.type != 3||q.set.name != s.set.name)&&((if s.set.type==3 then nextc s l.head? else true)&&aliasL (some s.set.name) l)):=by
   rw [aliasL,alias1_eq,Bool.and_assoc]
  rw [e1,List.head?_cons,threeL];generalize threeL (if (s.set.type==3)=true then s.set.name else al) (some s.set.name) l=T at *;generalize ((if s.set.type==3 then nextc s l.head? else true)&&aliasL (some s.set.name) l)=A at *;by_cases hqs:q.set.name=s.set.name
  ·have hty:q.set.type<s.set.type:=by
    have:ordS q.set s.set=cmpI q.set.type s.set.type:=by simp [ordS,hqs,ordN_self]
    rw [this] at hlt;unfold cmpI at hlt;split at hlt
    ·assumption
    ·split at hlt <;> omega
   by_cases h3:s.set.type=3
   ·simp [h3,hqs,hsn]
   ·have hb:(s.set.type != 3)=true:=by simpa using h3
    have hc:(s.set.type==3)=false:=by simpa using h3
    have hd:(s.set.name != [])=true:=by simpa using hsn
    rcases hst with ⟨a1,a2⟩ | ⟨a1,a2⟩ | ⟨a1,a2⟩
    ·have hal:al≠s.set.name:=by
      rcases a2 with rfl | a2
      ·exact fun h=>hsn h.symm
      ·rintro rfl;rw [hqs,ordN_self] at a2;omega
     have:=ih (.inl ⟨h3,by simpa [h3,← hqs] using a2⟩);rw [this];have hal':(s.set.name==al)=false:=by simpa using fun h=>hal h.symm
     have hq3:(q.set.type==3)=false:=by simpa using a1
     simp [hb,hc,hd,hq3,hqs,hal']
    ·by_cases h8:s.set.type=8
     ·have:=ih (.inr (.inr ⟨by simp [h3,a1,hqs],h8⟩));rw [this];simp [h8,nextc]
     ·have h8b:(s.set.type != 8)=true:=by simpa using h8
      simp [hb,hc,hd,h8b,nextc,a1,a2,hqs]
    ·omega
  ·have hno:ordN q.set.name s.set.name<0:=by
    have:=ordS_le hlt;rcases Int.lt_or_eq_of_le this with h | h
    ·exact h
    ·exact absurd (ordN_zero h) hqs
   have:=ih (by
    by_cases h3:s.set.type=3
    ·exact .inr (.inl ⟨by simp [h3],h3⟩)
    ·refine .inl ⟨h3,?_⟩;have e:(if (s.set.type==3)=true then s.set.name else al)=al:=by simp [h3]
     rw [e];rcases hst with ⟨-,a | a⟩ | ⟨a,-⟩ | ⟨a,-⟩
     ·exact .inl a
     ·exact .inr (ordN_trans a hno)
     ·rw [a]; exact .inr hno
     ·rw [a]; exact .inr hno)
   rw [this];have e2:nextc q (some s)=true:=by
    have:(s.set.name==q.set.name)=false:=by simpa using fun h=>hqs h.symm
    simp [nextc,this]
   have e3:(q.set.name==s.set.name)=false:=by simpa using hqs
   have e4:(q.set.name != s.set.name)=true:=by simpa using hqs
   rw [e2,e3,e4];simp
theorem alias_three {l:List Signed} (hs:Sorted l) (hn:∀ s∈l,s.set.name≠[]∧s.set.type≤8):aliasL none l=threeL [] none l:=by
 cases l with
 |nil=>rfl
 |cons s l =>
  have:=three_alias l s (if s.set.type==3 then s.set.name else []) hs hn (by
   by_cases h3:s.set.type=3
   ·exact .inr (.inl ⟨by simp [h3],h3⟩)
   ·exact .inl ⟨h3,.inl (by simp [h3])⟩)
  have e1:aliasL none (s::l)=((if s.set.type==3 then nextc s l.head? else true)&&aliasL (some s.set.name) l):=by
   rw [aliasL]
   congr 1
   unfold alias1 nextc;by_cases h3:s.set.type=3
   ·simp [h3];rfl
   ·simp [h3]
  rw [e1,this,threeL];simp
theorem five_split {apex:Text}:∀ (l:List Signed) (B:List Text),l.length=B.length→((l.zip ((l.zip B).map fun p=>own1 p.1 p.2)).all fun p=>five1 apex p.1 p.2)=(((l.zip B).all fun p=>sigs1 p.1 p.2)&&l.all fun s=>sigsB s.sigs apex)
 | [],B,_=>by simp
 |s::l,[],h=>by simp at h
 |s::l,b::B,h=>by
  have ih:=five_split (apex:=apex) l B (by simpa using h);simp only [List.zip_cons_cons,List.map_cons,List.all_cons];rw [ih];unfold five1 sigs1;cases sigsB s.sigs apex <;> cases own1 s b <;> simp [Bool.and_assoc,Bool.and_left_comm]
theorem setOK_type {s:RSet} (h:setOK s=true):s.type≤8:=by
 simp only [setOK,Bool.and_eq_true,decide_eq_true_eq] at h;exact h.1.1.1.1.1.2.2
theorem valid_ne {t:Text} (h:Nm.valid t=true):t≠[]:=by
 rintro rfl
 revert h
 decide
theorem oneB_facts {z:Zone} (h:oneB z=true):Sorted z.sets∧(∀ s∈z.sets,Nm.valid s.set.name=true)∧(∀ s∈z.sets,s.set.name≠[]∧s.set.type≤8):=by
 obtain ⟨-,g2,-⟩:=oneB_sets h;simp only [oneB,Bool.and_eq_true] at h;have g3:∀ s∈z.sets,setOK s.set=true:=fun s hs=>by
  have:=g2 s hs;simp only [ok1,Bool.and_eq_true] at this;exact this.1
 exact ⟨(chain_sorted h.2).1,fun s hs=>setOK_name (g3 s hs),fun s hs=>⟨valid_ne (setOK_name (g3 s hs)),setOK_type (g3 s hs)⟩⟩
theorem zvalid_p (z:Zone) (hf:z.Fits):PCalls E 103 [z.enc] (· = .bool (zoneR z)):=by
 unfold zoneR;cases h1:oneB z
 ·have hone:=ordered_p z hf;rw [h1] at hone;refine eP Tryz.func103 ?_;repeat' (first | with_reducible refine callP_eq (hone) ?_ | with_reducible refine callP1_eq (hone) ?_ | with_reducible refine cY ?_ | with_reducible refine cN ?_ | with_reducible refine caseB_split (fun _=>?_) (fun _=>?_) | refine gA Tryz.func103 ?_ | refine gB ?_ | refine gC ?_ | with_reducible rfl)
  all_goals simp_all
 ·obtain ⟨g1,g2,g3⟩:=oneB_sets h1;obtain ⟨f1,f2,f3⟩:=oneB_facts h1;have gl:z.sets.length≤1000000:=by omega
  have hone:=ordered_p z hf;rw [h1] at hone;have hlay:=lay_p z gl f2;rw [lay_behind f1 (fun s hs=>(f3 s hs).1)] at hlay;have hal:=aliasesHold_p z (behindZ z) gl;rw [alias_three f1 f3] at hal;have hfive:fiveB z=(((z.sets.zip (behindZ z)).all fun p=>sigs1 p.1 p.2)&&z.sets.all fun s=>sigsB s.sigs z.apex):=five_split _ _ (behindZ_len z).symm;rw [hfive];have hcuts:=cutsHold_p z (behindZ z) (behindZ_len z) gl;have hsig:=sigsHold_p z (behindZ z) (behindZ_len z) gl;have hform:=formHolds_p z (behindZ z) gl;change PCalls E _ _ (· = .bool (fourB z)) at hcuts;generalize ((z.sets.zip (behindZ z)).all fun p=>sigs1 p.1 p.2)=S at *;generalize (z.sets.all fun s=>sigsB s.sigs z.apex)=F at *;have htwo:=apexHolds_p z gl f2 g3 f1;clear hfive h1 g1 g2 g3 f1 f2 f3;generalize threeL [] none z.sets=T at *;generalize fourB z=Fo at *;generalize twoB z=Tw at *;generalize behindZ z=B at *;refine eP Tryz.func103 ?_;repeat' (first | with_reducible refine callP_eq (hone) ?_ | with_reducible refine callP1_eq (hone) ?_ | with_reducible refine callP_eq (htwo) ?_ | with_reducible refine callP1_eq (htwo) ?_ | with_reducible refine callP_eq (hlay) ?_ | with_reducible refine callP1_eq (hlay) ?_ | with_reducible refine callP_eq (hal) ?_ | with_reducible refine callP1_eq (hal) ?_ | with_reducible refine callP_eq (hcuts) ?_ | with_reducible refine callP1_eq (hcuts) ?_ | with_reducible refine callP_eq (hsig) ?_ | with_reducible refine callP1_eq (hsig) ?_ | with_reducible refine callP_eq (hform) ?_ | with_reducible refine callP1_eq (hform) ?_ | with_reducible refine cY ?_ | with_reducible refine cN ?_ | with_reducible refine caseB_split (fun _=>?_) (fun _=>?_) | refine gA Tryz.func103 ?_ | refine gB ?_ | refine gC ?_ | with_reducible rfl)
  all_goals simp_all
end Go.Proofs.YthikfaephakahaaGreatDoor.P
