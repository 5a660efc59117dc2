/- Several texts of mine, one behind the other. Conditions: as each says. -/
import Derived.Test.YtfmdaiojokniiaaGreatDoorW15
set_option linter.unusedVariables false
set_option linter.unusedSimpArgs false
namespace Go.Proofs.YtfmdaiojokniiaaGreatDoor.P
open Go Go.aw
set_option maxRecDepth 100000
set_option maxHeartbeats 4000000
theorem PA {a b c:Signed} (h:jz a b=true) (k:jz b c=true):jz a c=true:=by
 simp only [jz,decide_eq_true_eq] at *;rw [← tU] at *;exact C2 h k
theorem H6 {ok:Signed→Bool}:∀ {l:List Signed} {p:Option Signed},chain ok jz p l=true→eW l∧∀ q,p=some q→∀ x∈l,jz q x=true
 | [],p,_=>⟨fun i j x y _ h=>by simp at h,fun q _ x hx=>by simp at hx⟩
 |s::l,p,h=>by
  simp only [chain,Bool.and_eq_true] at h;obtain ⟨i1,i2⟩:=H6 h.2;refine ⟨fun i j x y dp hx hy=>?_,fun q hq x hx=>?_⟩
  ·cases j with
   |zero=>omega
   |succ j =>
    rw [List.getElem?_cons_succ] at hy;cases i with
    |zero =>
     simp at hx;subst hx
     simpa [jz] using i2 _ rfl y (List.mem_of_getElem? hy)
    |succ i =>
     rw [List.getElem?_cons_succ] at hx;exact i1 i j x y (by omega) hx hy
  ·subst hq;rcases List.mem_cons.1 hx with rfl | hx
   ·exact h.1.2
   ·exact PA h.1.2 (i2 _ rfl x hx)
theorem C7 {a b:dc} (h:nw a b<0):bO a.name b.name≤0:=by
 unfold nw at h;split at h
 ·omega
 ·rename_i e; simp at e; omega
theorem zp {l:List Signed} (h:eW l):gJ (l.map (·.set.name)):=fun i j x y dp hx hy=>by
 rw [List.getElem?_map] at hx hy;obtain ⟨a,ha,rfl⟩:=Option.map_eq_some_iff.1 hx;obtain ⟨b,hb,rfl⟩:=Option.map_eq_some_iff.1 hy;exact C7 (h i j a b dp ha hb)
theorem H7 {l:List Text}:gJ l↔l.Pairwise (fun x y=>bO x y≤0):=by
 rw [List.pairwise_iff_getElem];constructor
 ·exact fun h i j hi hj dp=>h i j _ _ dp (by simp [hi]) (by simp [hj])
 ·intro h i j x y dp hx hy;obtain ⟨hi,rfl⟩:=List.getElem?_eq_some_iff.1 hx;obtain ⟨hj,rfl⟩:=List.getElem?_eq_some_iff.1 hy;exact h i j hi hj dp
theorem H8 {ai:Text} {l:List Signed} (h:gJ (l.map (·.set.name))):gJ (cx ai l) :=
 H7.2 ((H7.1 h).sublist (List.Sublist.map _ List.filter_sublist))
theorem PB {z:aF} (hs:eW z.ae) (aE:∀ s∈z.ae,s.set.name≠[]):tV z=kO z:=by
 have hA:=H8 (ai:=z.ai) (zp hs);obtain ⟨h1,h2,h3⟩:=HX _ hA;refine H5 h1 h2 y9 h3 (fun c hc=>?_) (z.ae.map (·.set.name)) [] [] 0 (by simpa using zp hs) (fun c hc=>?_) (Nat.zero_le _) rfl (fun m d hm=>by omega)
 ·obtain ⟨s,h,rfl,-⟩:=pU hc;exact aE s h
 ·obtain ⟨s,h,rfl,-⟩:=pU hc
  simpa using ⟨s,h,rfl⟩
def lQ (q:Signed) (t:Option Signed):Bool:=match t with | none=>true | some t => !(t.set.name==q.set.name&&t.set.type != 8)
theorem PC {p:Text} {s:Signed} {t:Option Signed}:pX (some p) s t=((s.set.type != 3||p != s.set.name)&&(if s.set.type==3 then lQ s t else true)):=by
 unfold pX lQ;by_cases h:s.set.type=3
 ·simp [h] <;> rfl
 ·have hb:(s.set.type != 3)=true:=by simpa using h
  have hc:(s.set.type==3)=false:=by simpa using h
  simp [hb,hc]
theorem H9:∀ (l:List Signed) (q:Signed) (al:Text),eW (q::l)→(∀ s∈q::l,s.set.name≠[]∧s.set.type≤8) →
  ((q.set.type≠3∧(al=[]∨bO al q.set.name<0))∨(al=q.set.name∧q.set.type=3)∨(al=q.set.name∧q.set.type=8)) →
  ((if q.set.type==3 then lQ q l.head? else true)&&iF (some q.set.name) l)=oD al (some q.set.name) l
 | [],q,al,_,_,_=>by simp [lQ,iF,oD]
 |s::l,q,al,hs,hn,aV=>by
  have ah:nw q.set s.set<0:=hs 0 1 q s (by omega) rfl rfl;have gU:eW (s::l):=fun i j x y dp hx hy=>hs (i+1) (j+1) x y (by omega) hx hy;have oN:∀ t∈s::l,t.set.name≠[]∧t.set.type≤8:=fun t ht=>hn t (List.mem_cons_of_mem _ ht);have VE:=(oN s (List.mem_cons_self ..)).2;have rP:=(oN s (List.mem_cons_self ..)).1;have ih:=H9 l s (if s.set.type==3 then s.set.name else al) gU oN;have e1:iF (some q.set.name) (s::l)=((s.set.type != 3||q.set.name != s.set.name)&&((if s.set.type==3 then lQ s l.head? else true)&&iF (some s.set.name) l)):=by
   rw [iF,PC,Bool.and_assoc]
  rw [e1,List.head?_cons,oD];generalize oD (if (s.set.type==3)=true then s.set.name else al) (some s.set.name) l=T at *;generalize ((if s.set.type==3 then lQ s l.head? else true)&&iF (some s.set.name) l)=A at *;by_cases mo:q.set.name=s.set.name
  ·have VF:q.set.type<s.set.type:=by
    have:nw q.set s.set=iZ q.set.type s.set.type:=by simp [nw,mo,oG]
    rw [this] at ah;unfold iZ at ah;split at ah
    ·assumption
    ·split at ah <;> omega
   by_cases h3:s.set.type=3
   ·simp [h3,mo,rP]
   ·have hb:(s.set.type != 3)=true:=by simpa using h3
    have hc:(s.set.type==3)=false:=by simpa using h3
    have hd:(s.set.name != [])=true:=by simpa using rP
    rcases aV with ⟨a1,a2⟩ | ⟨a1,a2⟩ | ⟨a1,a2⟩
    ·have rN:al≠s.set.name:=by
      rcases a2 with rfl | a2
      ·exact fun h=>rP h.symm
      ·rintro rfl;rw [mo,oG] at a2;omega
     have:=ih (.inl ⟨h3,by simpa [h3,← mo] using a2⟩);rw [this];have PD:(s.set.name==al)=false:=by simpa using fun h=>rN h.symm
     have PE:(q.set.type==3)=false:=by simpa using a1
     simp [hb,hc,hd,PE,mo,PD]
    ·by_cases h8:s.set.type=8
     ·have:=ih (.inr (.inr ⟨by simp [h3,a1,mo],h8⟩));rw [this];simp [h8,lQ]
     ·have PF:(s.set.type != 8)=true:=by simpa using h8
      simp [hb,hc,hd,PF,lQ,a1,a2,mo]
    ·omega
  ·have cj:bO q.set.name s.set.name<0:=by
    have:=C7 ah;rcases Int.lt_or_eq_of_le this with h | h
    ·exact h
    ·exact absurd (oH h) mo
   have:=ih (by
    by_cases h3:s.set.type=3
    ·exact .inr (.inl ⟨by simp [h3],h3⟩)
    ·refine .inl ⟨h3,?_⟩;have e:(if (s.set.type==3)=true then s.set.name else al)=al:=by simp [h3]
     rw [e];rcases aV with ⟨-,a | a⟩ | ⟨a,-⟩ | ⟨a,-⟩
     ·exact .inl a
     ·exact .inr (zg a cj)
     ·rw [a]; exact .inr cj
     ·rw [a]; exact .inr cj)
   rw [this];have e2:lQ q (some s)=true:=by
    have:(s.set.name==q.set.name)=false:=by simpa using fun h=>mo h.symm
    simp [lQ,this]
   have e3:(q.set.name==s.set.name)=false:=by simpa using mo
   have e4:(q.set.name != s.set.name)=true:=by simpa using mo
   rw [e2,e3,e4];simp
theorem PG {l:List Signed} (hs:eW l) (hn:∀ s∈l,s.set.name≠[]∧s.set.type≤8):iF none l=oD [] none l:=by
 cases l with
 |nil=>rfl
 |cons s l =>
  have:=H9 l s (if s.set.type==3 then s.set.name else []) hs hn (by
   by_cases h3:s.set.type=3
   ·exact .inr (.inl ⟨by simp [h3],h3⟩)
   ·exact .inl ⟨h3,.inl (by simp [h3])⟩)
  have e1:iF none (s::l)=((if s.set.type==3 then lQ s l.head? else true)&&iF (some s.set.name) l):=by
   rw [iF]
   congr 1
   unfold pX lQ;by_cases h3:s.set.type=3
   ·simp [h3] <;> rfl
   ·simp [h3]
  rw [e1,this,oD];simp
theorem Ia {ai:Text}:∀ (l:List Signed) (B:List Text),l.length=B.length→((l.zip ((l.zip B).map fun p=>tS p.1 p.2)).all fun p=>zc ai p.1 p.2)=(((l.zip B).all fun p=>pW p.1 p.2)&&l.all fun s=>nx s.sigs ai)
 | [],B,_=>by simp
 |s::l,[],h=>by simp at h
 |s::l,b::B,h=>by
  have ih:=Ia (ai:=ai) l B (by simpa using h);simp only [List.zip_cons_cons,List.map_cons,List.all_cons];rw [ih];unfold zc pW;cases nx s.sigs ai <;> cases tS s b <;> simp [Bool.and_assoc,Bool.and_left_comm]
theorem PH {s:dc} (h:fF s=true):s.type≤8:=by
 simp only [fF,Bool.and_eq_true,decide_eq_true_eq] at h;exact h.1.1.1.1.1.2.2
theorem PI {t:Text} (h:Nm.valid t=true):t≠[]:=by
 rintro rfl
 revert h
 decide
theorem Ib {z:aF} (h:ny z=true):eW z.ae∧(∀ s∈z.ae,Nm.valid s.set.name=true)∧(∀ s∈z.ae,s.set.name≠[]∧s.set.type≤8):=by
 obtain ⟨-,g2,-⟩:=wM h;simp only [ny,Bool.and_eq_true] at h;have g3:∀ s∈z.ae,fF s.set=true:=fun s hs=>by
  have:=g2 s hs;simp only [jy,Bool.and_eq_true] at this;exact this.1
 exact ⟨(H6 h.2).1,fun s hs=>zb (g3 s hs),fun s hs=>⟨PI (zb (g3 s hs)),PH (g3 s hs)⟩⟩
theorem rQ (z:aF) (hf:z.Fits):au E 98 [z.enc] (· = .bool (ep z)):=by
 unfold ep;cases h1:ny z
 ·have cd:=HR z hf;rw [h1] at cd;refine eP Tryz.func98 ?_;repeat' (first | with_reducible refine ar (cd) ?_ | with_reducible refine aR (cd) ?_ | with_reducible refine cY ?_ | with_reducible refine cN ?_ | with_reducible refine aj (fun _=>?_) (fun _=>?_) | refine gA Tryz.func98 ?_ | refine gB ?_ | with_reducible rfl)
  all_goals simp_all
 ·obtain ⟨g1,g2,g3⟩:=wM h1;obtain ⟨f1,f2,f3⟩:=Ib h1;have gl:z.ae.length≤1000000:=by omega
  have cd:=HR z hf;rw [h1] at cd;have C8:=Pq z gl f2;rw [PB f1 (fun s hs=>(f3 s hs).1)] at C8;have rN:=O8 z (kO z) gl;rw [PG f1 f3] at rN;have Ic:HA z=(((z.ae.zip (kO z)).all fun p=>pW p.1 p.2)&&z.ae.all fun s=>nx s.sigs z.ai):=Ia _ _ (wH z).symm;rw [Ic];have C9:=O4 z (kO z) (wH z) gl;have Ie:=O5 z (kO z) (wH z) gl;have Ig:=O6 z (kO z) gl;change au E _ _ (· = .bool (CX z)) at C9;generalize ((z.ae.zip (kO z)).all fun p=>pW p.1 p.2)=S at *;generalize (z.ae.all fun s=>nx s.sigs z.ai)=F at *;have Ih:=Pn z gl f2 g3 f1;clear Ic h1 g1 g2 g3 f1 f2 f3;generalize oD [] none z.ae=T at *;generalize CX z=Fo at *;generalize wF z=Tw at *;generalize kO z=B at *;refine eP Tryz.func98 ?_;repeat' (first | with_reducible refine ar (cd) ?_ | with_reducible refine aR (cd) ?_ | with_reducible refine ar (Ih) ?_ | with_reducible refine aR (Ih) ?_ | with_reducible refine ar (C8) ?_ | with_reducible refine aR (C8) ?_ | with_reducible refine ar (rN) ?_ | with_reducible refine aR (rN) ?_ | with_reducible refine ar (C9) ?_ | with_reducible refine aR (C9) ?_ | with_reducible refine ar (Ie) ?_ | with_reducible refine aR (Ie) ?_ | with_reducible refine ar (Ig) ?_ | with_reducible refine aR (Ig) ?_ | with_reducible refine cY ?_ | with_reducible refine cN ?_ | with_reducible refine aj (fun _=>?_) (fun _=>?_) | refine gA Tryz.func98 ?_ | refine gB ?_ | with_reducible rfl)
  all_goals simp_all
end Go.Proofs.YtfmdaiojokniiaaGreatDoor.P
