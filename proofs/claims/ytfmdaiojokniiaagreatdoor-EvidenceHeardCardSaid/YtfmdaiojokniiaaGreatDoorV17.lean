/- Several texts of mine, one behind the other. Conditions: as each says. -/
import Derived.Test.YtfmdaiojokniiaaGreatDoorV16
set_option linter.unusedVariables false
set_option linter.unusedSimpArgs false
namespace Go.Proofs.YtfmdaiojokniiaaGreatDoor.P
open Go Go.aw
set_option maxRecDepth 100000
set_option maxHeartbeats 4000000
theorem Q2 {a b c:Signed} (h:fT a b=true) (k:fT b c=true):fT a c=true:=by
 simp only [fT,decide_eq_true_eq] at *;rw [← uV] at *;exact DZ h k
theorem Jr {ok:Signed→Bool}:∀ {l:List Signed} {p:Option Signed},chain ok fT p l=true→fp l∧∀ q,p=some q→∀ x∈l,fT q x=true
 | [],p,_=>⟨fun i j x y _ h=>by simp at h,fun q _ x hx=>by simp at hx⟩
 |s::l,p,h=>by
  simp only [chain,Bool.and_eq_true] at h;obtain ⟨i1,i2⟩:=Jr h.2;refine ⟨fun i j x y dj hx hy=>?_,fun q hq x hx=>?_⟩
  ·cases j with
   |zero=>omega
   |succ j =>
    rw [List.getElem?_cons_succ] at hy;cases i with
    |zero =>
     simp at hx;subst hx
     simpa [fT] using i2 _ rfl y (List.mem_of_getElem? hy)
    |succ i =>
     rw [List.getElem?_cons_succ] at hx;exact i1 i j x y (by omega) hx hy
  ·subst hq;rcases List.mem_cons.1 hx with rfl | hx
   ·exact h.1.2
   ·exact Q2 h.1.2 (i2 _ rfl x hx)
theorem D4 {a b:cS} (h:mG a b<0):bu a.name b.name≤0:=by
 unfold mG at h;split at h
 ·omega
 ·rename_i e; simp at e; omega
theorem Ar {l:List Signed} (h:fp l):hY (l.map (·.set.name)):=fun i j x y dj hx hy=>by
 rw [List.getElem?_map] at hx hy;obtain ⟨a,ha,rfl⟩:=Option.map_eq_some_iff.1 hx;obtain ⟨b,hb,rfl⟩:=Option.map_eq_some_iff.1 hy;exact D4 (h i j a b dj ha hb)
theorem Js {l:List Text}:hY l↔l.Pairwise (fun x y=>bu x y≤0):=by
 rw [List.pairwise_iff_getElem];constructor
 ·exact fun h i j hi hj dj=>h i j _ _ dj (by simp [hi]) (by simp [hj])
 ·intro h i j x y dj hx hy;obtain ⟨hi,rfl⟩:=List.getElem?_eq_some_iff.1 hx;obtain ⟨hj,rfl⟩:=List.getElem?_eq_some_iff.1 hy;exact h i j hi hj dj
theorem Jt {ah:Text} {l:List Signed} (h:hY (l.map (·.set.name))):hY (bV ah l) :=
 Js.2 ((Js.1 h).sublist (List.Sublist.map _ List.filter_sublist))
theorem Q3 {z:aG} (hs:fp z.ab) (aJ:∀ s∈z.ab,s.set.name≠[]):uW z=hU z:=by
 have hA:=Jt (ah:=z.ah) (Ar hs);obtain ⟨h1,h2,h3⟩:=Jm _ hA;refine Jq h1 h2 uQ h3 (fun c hc=>?_) (z.ab.map (·.set.name)) [] [] 0 (by simpa using Ar hs) (fun c hc=>?_) (Nat.zero_le _) rfl (fun m d hm=>by omega)
 ·obtain ⟨s,h,rfl,-⟩:=ou hc;exact aJ s h
 ·obtain ⟨s,h,rfl,-⟩:=ou hc
  simpa using ⟨s,h,rfl⟩
def mK (q:Signed) (t:Option Signed):Bool:=match t with | none=>true | some t => !(t.set.name==q.set.name&&t.set.type != 8)
theorem Q4 {p:Text} {s:Signed} {t:Option Signed}:qT (some p) s t=((s.set.type != 3||p != s.set.name)&&(if s.set.type==3 then mK s t else true)):=by
 unfold qT mK;by_cases h:s.set.type=3
 ·simp [h] <;> rfl
 ·have hb:(s.set.type != 3)=true:=by simpa using h
  have hc:(s.set.type==3)=false:=by simpa using h
  simp [hb,hc]
theorem Ju:∀ (l:List Signed) (q:Signed) (al:Text),fp (q::l)→(∀ s∈q::l,s.set.name≠[]∧s.set.type≤8) →
  ((q.set.type≠3∧(al=[]∨bu al q.set.name<0))∨(al=q.set.name∧q.set.type=3)∨(al=q.set.name∧q.set.type=8)) →
  ((if q.set.type==3 then mK q l.head? else true)&&jd (some q.set.name) l)=kL al (some q.set.name) l
 | [],q,al,_,_,_=>by simp [mK,jd,kL]
 |s::l,q,al,hs,hn,bc=>by
  have aj:mG q.set s.set<0:=hs 0 1 q s (by omega) rfl rfl;have ir:fp (s::l):=fun i j x y dj hx hy=>hs (i+1) (j+1) x y (by omega) hx hy;have fU:∀ t∈s::l,t.set.name≠[]∧t.set.type≤8:=fun t ht=>hn t (List.mem_cons_of_mem _ ht);have Xz:=(fU s (List.mem_cons_self ..)).2;have sR:=(fU s (List.mem_cons_self ..)).1;have ih:=Ju l s (if s.set.type==3 then s.set.name else al) ir fU;have e1:jd (some q.set.name) (s::l)=((s.set.type != 3||q.set.name != s.set.name)&&((if s.set.type==3 then mK s l.head? else true)&&jd (some s.set.name) l)):=by
   rw [jd,Q4,Bool.and_assoc]
  rw [e1,List.head?_cons,kL];generalize kL (if (s.set.type==3)=true then s.set.name else al) (some s.set.name) l=T at *;generalize ((if s.set.type==3 then mK s l.head? else true)&&jd (some s.set.name) l)=A at *;by_cases nx:q.set.name=s.set.name
  ·have IB:q.set.type<s.set.type:=by
    have:mG q.set s.set=iE q.set.type s.set.type:=by simp [mG,nx,nw]
    rw [this] at aj;unfold iE at aj;split at aj
    ·assumption
    ·split at aj <;> omega
   by_cases h3:s.set.type=3
   ·simp [h3,nx,sR]
   ·have hb:(s.set.type != 3)=true:=by simpa using h3
    have hc:(s.set.type==3)=false:=by simpa using h3
    have hd:(s.set.name != [])=true:=by simpa using sR
    rcases bc with ⟨a1,a2⟩ | ⟨a1,a2⟩ | ⟨a1,a2⟩
    ·have px:al≠s.set.name:=by
      rcases a2 with rfl | a2
      ·exact fun h=>sR h.symm
      ·rintro rfl;rw [nx,nw] at a2;omega
     have:=ih (.inl ⟨h3,by simpa [h3,← nx] using a2⟩);rw [this];have Q5:(s.set.name==al)=false:=by simpa using fun h=>px h.symm
     have Q6:(q.set.type==3)=false:=by simpa using a1
     simp [hb,hc,hd,Q6,nx,Q5]
    ·by_cases h8:s.set.type=8
     ·have:=ih (.inr (.inr ⟨by simp [h3,a1,nx],h8⟩));rw [this];simp [h8,mK]
     ·have Q7:(s.set.type != 8)=true:=by simpa using h8
      simp [hb,hc,hd,Q7,mK,a1,a2,nx]
    ·omega
  ·have bL:bu q.set.name s.set.name<0:=by
    have:=D4 aj;rcases Int.lt_or_eq_of_le this with h | h
    ·exact h
    ·exact absurd (ow h) nx
   have:=ih (by
    by_cases h3:s.set.type=3
    ·exact .inr (.inl ⟨by simp [h3],h3⟩)
    ·refine .inl ⟨h3,?_⟩;have e:(if (s.set.type==3)=true then s.set.name else al)=al:=by simp [h3]
     rw [e];rcases bc with ⟨-,a | a⟩ | ⟨a,-⟩ | ⟨a,-⟩
     ·exact .inl a
     ·exact .inr (xJ a bL)
     ·rw [a]; exact .inr bL
     ·rw [a]; exact .inr bL)
   rw [this];have e2:mK q (some s)=true:=by
    have:(s.set.name==q.set.name)=false:=by simpa using fun h=>nx h.symm
    simp [mK,this]
   have e3:(q.set.name==s.set.name)=false:=by simpa using nx
   have e4:(q.set.name != s.set.name)=true:=by simpa using nx
   rw [e2,e3,e4];simp
theorem Q8 {l:List Signed} (hs:fp l) (hn:∀ s∈l,s.set.name≠[]∧s.set.type≤8):jd none l=kL [] none l:=by
 cases l with
 |nil=>rfl
 |cons s l =>
  have:=Ju l s (if s.set.type==3 then s.set.name else []) hs hn (by
   by_cases h3:s.set.type=3
   ·exact .inr (.inl ⟨by simp [h3],h3⟩)
   ·exact .inl ⟨h3,.inl (by simp [h3])⟩)
  have e1:jd none (s::l)=((if s.set.type==3 then mK s l.head? else true)&&jd (some s.set.name) l):=by
   rw [jd]
   congr 1
   unfold qT mK;by_cases h3:s.set.type=3
   ·simp [h3] <;> rfl
   ·simp [h3]
  rw [e1,this,kL];simp
theorem Jv {ah:Text}:∀ (l:List Signed) (B:List Text),l.length=B.length→((l.zip ((l.zip B).map fun p=>pz p.1 p.2)).all fun p=>sO ah p.1 p.2)=(((l.zip B).all fun p=>qS p.1 p.2)&&l.all fun s=>mI s.sigs ah)
 | [],B,_=>by simp
 |s::l,[],h=>by simp at h
 |s::l,b::B,h=>by
  have ih:=Jv (ah:=ah) l B (by simpa using h);simp only [List.zip_cons_cons,List.map_cons,List.all_cons];rw [ih];unfold sO qS;cases mI s.sigs ah <;> cases pz s b <;> simp [Bool.and_assoc,Bool.and_left_comm]
theorem Q9 {s:cS} (h:ez s=true):s.type≤8:=by
 simp only [ez,Bool.and_eq_true,decide_eq_true_eq] at h;exact h.1.1.1.1.1.2.2
theorem Ra {t:Text} (h:Nm.valid t=true):t≠[]:=by
 rintro rfl
 revert h
 decide
theorem Jw {z:aG} (h:lO z=true):fp z.ab∧(∀ s∈z.ab,Nm.valid s.set.name=true)∧(∀ s∈z.ab,s.set.name≠[]∧s.set.type≤8):=by
 obtain ⟨-,g2,-⟩:=uT h;simp only [lO,Bool.and_eq_true] at h;have g3:∀ s∈z.ab,ez s.set=true:=fun s hs=>by
  have:=g2 s hs;simp only [eB,Bool.and_eq_true] at this;exact this.1
 exact ⟨(Jr h.2).1,fun s hs=>sM (g3 s hs),fun s hs=>⟨Ra (sM (g3 s hs)),Q9 (g3 s hs)⟩⟩
theorem sS (z:aG) (hf:z.Fits):aq E 98 [z.enc] (· = .bool (dE z)):=by
 unfold dE;cases h1:lO z
 ·have bX:=Jg z hf;rw [h1] at bX;refine eP Tryz.func98 ?_;repeat' (first | with_reducible refine ao (bX) ?_ | with_reducible refine ay (bX) ?_ | with_reducible refine cY ?_ | with_reducible refine cN ?_ | with_reducible refine ai (fun _=>?_) (fun _=>?_) | refine gA Tryz.func98 ?_ | refine gB ?_ | with_reducible rfl)
  all_goals simp_all
 ·obtain ⟨g1,g2,g3⟩:=uT h1;obtain ⟨f1,f2,f3⟩:=Jw h1;have gl:z.ab.length≤1000000:=by omega
  have bX:=Jg z hf;rw [h1] at bX;have D5:=QV z gl f2;rw [Q3 f1 (fun s hs=>(f3 s hs).1)] at D5;have px:=QG z (hU z) gl;rw [Q8 f1 f3] at px;have Jx:Aj z=(((z.ab.zip (hU z)).all fun p=>qS p.1 p.2)&&z.ab.all fun s=>mI s.sigs z.ah):=Jv _ _ (qP z).symm;rw [Jx];have D6:=QC z (hU z) (qP z) gl;have Jy:=QD z (hU z) (qP z) gl;have Jz:=QE z (hU z) gl;change aq E _ _ (· = .bool (xF z)) at D6;generalize ((z.ab.zip (hU z)).all fun p=>qS p.1 p.2)=S at *;generalize (z.ab.all fun s=>mI s.sigs z.ah)=F at *;have JA:=QS z gl f2 g3 f1;clear Jx h1 g1 g2 g3 f1 f2 f3;generalize kL [] none z.ab=T at *;generalize xF z=Fo at *;generalize qN z=Tw at *;generalize hU z=B at *;refine eP Tryz.func98 ?_;repeat' (first | with_reducible refine ao (bX) ?_ | with_reducible refine ay (bX) ?_ | with_reducible refine ao (JA) ?_ | with_reducible refine ay (JA) ?_ | with_reducible refine ao (D5) ?_ | with_reducible refine ay (D5) ?_ | with_reducible refine ao (px) ?_ | with_reducible refine ay (px) ?_ | with_reducible refine ao (D6) ?_ | with_reducible refine ay (D6) ?_ | with_reducible refine ao (Jy) ?_ | with_reducible refine ay (Jy) ?_ | with_reducible refine ao (Jz) ?_ | with_reducible refine ay (Jz) ?_ | with_reducible refine cY ?_ | with_reducible refine cN ?_ | with_reducible refine ai (fun _=>?_) (fun _=>?_) | refine gA Tryz.func98 ?_ | refine gB ?_ | with_reducible rfl)
  all_goals simp_all
end Go.Proofs.YtfmdaiojokniiaaGreatDoor.P
