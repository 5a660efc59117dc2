/- Several texts of mine, one behind the other. Conditions: as each says. -/
import Derived.Test.YtfmdaiojokniiaaGreatDoorY16
set_option linter.unusedVariables false
set_option linter.unusedSimpArgs false
namespace Go.Proofs.YtfmdaiojokniiaaGreatDoor.P
open Go Go.ax
set_option maxRecDepth 100000
set_option maxHeartbeats 4000000
theorem Qc {a b c:Signed} (h:fK a b=true) (k:fK b c=true):fK a c=true:=by
 simp only [fK,decide_eq_true_eq] at *;rw [← uA] at *;exact Dw h k
theorem IS {ok:Signed→Bool}:∀ {l:List Signed} {p:Option Signed},chain ok fK p l=true→fc l∧∀ q,p=some q→∀ x∈l,fK q x=true
 | [],p,_=>⟨fun i j x y _ h=>by simp at h,fun q _ x hx=>by simp at hx⟩
 |s::l,p,h=>by
  simp only [chain,Bool.and_eq_true] at h;obtain ⟨i1,i2⟩:=IS h.2;refine ⟨fun i j x y dm hx hy=>?_,fun q hq x hx=>?_⟩
  ·cases j with
   |zero=>omega
   |succ j =>
    rw [List.getElem?_cons_succ] at hy;cases i with
    |zero =>
     simp at hx;subst hx
     simpa [fK] using i2 _ rfl y (List.mem_of_getElem? hy)
    |succ i =>
     rw [List.getElem?_cons_succ] at hx;exact i1 i j x y (by omega) hx hy
  ·subst hq;rcases List.mem_cons.1 hx with rfl | hx
   ·exact h.1.2
   ·exact Qc h.1.2 (i2 _ rfl x hx)
theorem DD {a b:cP} (h:mc a b<0):bp a.name b.name≤0:=by
 unfold mc at h;split at h
 ·omega
 ·rename_i e; simp at e; omega
theorem zX {l:List Signed} (h:fc l):gR (l.map (·.set.name)):=fun i j x y dm hx hy=>by
 rw [List.getElem?_map] at hx hy;obtain ⟨a,ha,rfl⟩:=Option.map_eq_some_iff.1 hx;obtain ⟨b,hb,rfl⟩:=Option.map_eq_some_iff.1 hy;exact DD (h i j a b dm ha hb)
theorem IT {l:List Text}:gR l↔l.Pairwise (fun x y=>bp x y≤0):=by
 rw [List.pairwise_iff_getElem];constructor
 ·exact fun h i j hi hj dm=>h i j _ _ dm (by simp [hi]) (by simp [hj])
 ·intro h i j x y dm hx hy;obtain ⟨hi,rfl⟩:=List.getElem?_eq_some_iff.1 hx;obtain ⟨hj,rfl⟩:=List.getElem?_eq_some_iff.1 hy;exact h i j hi hj dm
theorem IU {aj:Text} {l:List Signed} (h:gR (l.map (·.set.name))):gR (bR aj l) :=
 IT.2 ((IT.1 h).sublist (List.Sublist.map _ List.filter_sublist))
theorem Qd {z:aR} (hs:fc z.ab) (aJ:∀ s∈z.ab,s.set.name≠[]):uB z=gP z:=by
 have hA:=IU (aj:=z.aj) (zX hs);obtain ⟨h1,h2,h3⟩:=IL _ hA;refine IQ h1 h2 uv h3 (fun c hc=>?_) (z.ab.map (·.set.name)) [] [] 0 (by simpa using zX hs) (fun c hc=>?_) (Nat.zero_le _) rfl (fun m d hm=>by omega)
 ·obtain ⟨s,h,rfl,-⟩:=nR hc;exact aJ s h
 ·obtain ⟨s,h,rfl,-⟩:=nR hc
  simpa using ⟨s,h,rfl⟩
def mj (q:Signed) (t:Option Signed):Bool:=match t with | none=>true | some t => !(t.set.name==q.set.name&&t.set.type != 8)
theorem Qe {p:Text} {s:Signed} {t:Option Signed}:qo (some p) s t=((s.set.type != 3||p != s.set.name)&&(if s.set.type==3 then mj s t else true)):=by
 unfold qo mj;by_cases h:s.set.type=3
 ·simp [h] <;> rfl
 ·have hb:(s.set.type != 3)=true:=by simpa using h
  have hc:(s.set.type==3)=false:=by simpa using h
  simp [hb,hc]
theorem IV:∀ (l:List Signed) (q:Signed) (al:Text),fc (q::l)→(∀ s∈q::l,s.set.name≠[]∧s.set.type≤8) →
  ((q.set.type≠3∧(al=[]∨bp al q.set.name<0))∨(al=q.set.name∧q.set.type=3)∨(al=q.set.name∧q.set.type=8)) →
  ((if q.set.type==3 then mj q l.head? else true)&&iU (some q.set.name) l)=kA al (some q.set.name) l
 | [],q,al,_,_,_=>by simp [mj,iU,kA]
 |s::l,q,al,hs,hn,aX=>by
  have ai:mc q.set s.set<0:=hs 0 1 q s (by omega) rfl rfl;have ib:fc (s::l):=fun i j x y dm hx hy=>hs (i+1) (j+1) x y (by omega) hx hy;have gS:∀ t∈s::l,t.set.name≠[]∧t.set.type≤8:=fun t ht=>hn t (List.mem_cons_of_mem _ ht);have V':=(gS s (List.mem_cons_self ..)).2;have sj:=(gS s (List.mem_cons_self ..)).1;have ih:=IV l s (if s.set.type==3 then s.set.name else al) ib gS;have e1:iU (some q.set.name) (s::l)=((s.set.type != 3||q.set.name != s.set.name)&&((if s.set.type==3 then mj s l.head? else true)&&iU (some s.set.name) l)):=by
   rw [iU,Qe,Bool.and_assoc]
  rw [e1,List.head?_cons,kA];generalize kA (if (s.set.type==3)=true then s.set.name else al) (some s.set.name) l=T at *;generalize ((if s.set.type==3 then mj s l.head? else true)&&iU (some s.set.name) l)=A at *;by_cases mS:q.set.name=s.set.name
  ·have HY:q.set.type<s.set.type:=by
    have:mc q.set s.set=iq q.set.type s.set.type:=by simp [mc,mS,mR]
    rw [this] at ai;unfold iq at ai;split at ai
    ·assumption
    ·split at ai <;> omega
   by_cases h3:s.set.type=3
   ·simp [h3,mS,sj]
   ·have hb:(s.set.type != 3)=true:=by simpa using h3
    have hc:(s.set.type==3)=false:=by simpa using h3
    have hd:(s.set.name != [])=true:=by simpa using sj
    rcases aX with ⟨a1,a2⟩ | ⟨a1,a2⟩ | ⟨a1,a2⟩
    ·have o0:al≠s.set.name:=by
      rcases a2 with rfl | a2
      ·exact fun h=>sj h.symm
      ·rintro rfl;rw [mS,mR] at a2;omega
     have:=ih (.inl ⟨h3,by simpa [h3,← mS] using a2⟩);rw [this];have Qf:(s.set.name==al)=false:=by simpa using fun h=>o0 h.symm
     have IW:(q.set.type==3)=false:=by simpa using a1
     simp [hb,hc,hd,IW,mS,Qf]
    ·by_cases h8:s.set.type=8
     ·have:=ih (.inr (.inr ⟨by simp [h3,a1,mS],h8⟩));rw [this];simp [h8,mj]
     ·have Qg:(s.set.type != 8)=true:=by simpa using h8
      simp [hb,hc,hd,Qg,mj,a1,a2,mS]
    ·omega
  ·have bL:bp q.set.name s.set.name<0:=by
    have:=DD ai;rcases Int.lt_or_eq_of_le this with h | h
    ·exact h
    ·exact absurd (nT h) mS
   have:=ih (by
    by_cases h3:s.set.type=3
    ·exact .inr (.inl ⟨by simp [h3],h3⟩)
    ·refine .inl ⟨h3,?_⟩;have e:(if (s.set.type==3)=true then s.set.name else al)=al:=by simp [h3]
     rw [e];rcases aX with ⟨-,a | a⟩ | ⟨a,-⟩ | ⟨a,-⟩
     ·exact .inl a
     ·exact .inr (xi a bL)
     ·rw [a]; exact .inr bL
     ·rw [a]; exact .inr bL)
   rw [this];have e2:mj q (some s)=true:=by
    have:(s.set.name==q.set.name)=false:=by simpa using fun h=>mS h.symm
    simp [mj,this]
   have e3:(q.set.name==s.set.name)=false:=by simpa using mS
   have e4:(q.set.name != s.set.name)=true:=by simpa using mS
   rw [e2,e3,e4];simp
theorem Qh {l:List Signed} (hs:fc l) (hn:∀ s∈l,s.set.name≠[]∧s.set.type≤8):iU none l=kA [] none l:=by
 cases l with
 |nil=>rfl
 |cons s l =>
  have:=IV l s (if s.set.type==3 then s.set.name else []) hs hn (by
   by_cases h3:s.set.type=3
   ·exact .inr (.inl ⟨by simp [h3],h3⟩)
   ·exact .inl ⟨h3,.inl (by simp [h3])⟩)
  have e1:iU none (s::l)=((if s.set.type==3 then mj s l.head? else true)&&iU (some s.set.name) l):=by
   rw [iU]
   congr 1
   unfold qo mj;by_cases h3:s.set.type=3
   ·simp [h3] <;> rfl
   ·simp [h3]
  rw [e1,this,kA];simp
theorem IX {aj:Text}:∀ (l:List Signed) (B:List Text),l.length=B.length→((l.zip ((l.zip B).map fun p=>o3 p.1 p.2)).all fun p=>sf aj p.1 p.2)=(((l.zip B).all fun p=>qm p.1 p.2)&&l.all fun s=>ln s.sigs aj)
 | [],B,_=>by simp
 |s::l,[],h=>by simp at h
 |s::l,b::B,h=>by
  have ih:=IX (aj:=aj) l B (by simpa using h);simp only [List.zip_cons_cons,List.map_cons,List.all_cons];rw [ih];unfold sf qm;cases ln s.sigs aj <;> cases o3 s b <;> simp [Bool.and_assoc,Bool.and_left_comm]
theorem Qi {s:cP} (h:ev s=true):s.type≤8:=by
 simp only [ev,Bool.and_eq_true,decide_eq_true_eq] at h;exact h.1.1.1.1.1.2.2
theorem Qj {t:Text} (h:Nm.valid t=true):t≠[]:=by
 rintro rfl
 revert h
 decide
theorem IY {z:aR} (h:mg z=true):fc z.ab∧(∀ s∈z.ab,Nm.valid s.set.name=true)∧(∀ s∈z.ab,s.set.name≠[]∧s.set.type≤8):=by
 obtain ⟨-,g2,-⟩:=uy h;simp only [mg,Bool.and_eq_true] at h;have g3:∀ s∈z.ab,ev s.set=true:=fun s hs=>by
  have:=g2 s hs;simp only [eC,Bool.and_eq_true] at this;exact this.1
 exact ⟨(IS h.2).1,fun s hs=>sd (g3 s hs),fun s hs=>⟨Qj (sd (g3 s hs)),Qi (g3 s hs)⟩⟩
theorem sk (z:aR) (hf:z.Fits):aq E 98 [z.enc] (· = .bool (dI z)):=by
 unfold dI;cases h1:mg z
 ·have bZ:=IE z hf;rw [h1] at bZ;refine eP Tryz.func98 ?_;repeat' (first | with_reducible refine ao (bZ) ?_ | with_reducible refine au (bZ) ?_ | with_reducible refine cY ?_ | with_reducible refine cN ?_ | with_reducible refine ah (fun _=>?_) (fun _=>?_) | refine gA Tryz.func98 ?_ | refine gB ?_ | with_reducible rfl)
  all_goals simp_all
 ·obtain ⟨g1,g2,g3⟩:=uy h1;obtain ⟨f1,f2,f3⟩:=IY h1;have gl:z.ab.length≤1000000:=by omega
  have bZ:=IE z hf;rw [h1] at bZ;have DE:=P6 z gl f2;rw [Qd f1 (fun s hs=>(f3 s hs).1)] at DE;have o0:=PQ z (gP z) gl;rw [Qh f1 f3] at o0;have IZ:zO z=(((z.ab.zip (gP z)).all fun p=>qm p.1 p.2)&&z.ab.all fun s=>ln s.sigs z.aj):=IX _ _ (qj z).symm;rw [IZ];have DF:=PL z (gP z) (qj z) gl;have I0:=PM z (gP z) (qj z) gl;have I1:=PN z (gP z) gl;change aq E _ _ (· = .bool (xf z)) at DF;generalize ((z.ab.zip (gP z)).all fun p=>qm p.1 p.2)=S at *;generalize (z.ab.all fun s=>ln s.sigs z.aj)=F at *;have I2:=P3 z gl f2 g3 f1;clear IZ h1 g1 g2 g3 f1 f2 f3;generalize kA [] none z.ab=T at *;generalize xf z=Fo at *;generalize oZ z=Tw at *;generalize gP z=B at *;refine eP Tryz.func98 ?_;repeat' (first | with_reducible refine ao (bZ) ?_ | with_reducible refine au (bZ) ?_ | with_reducible refine ao (I2) ?_ | with_reducible refine au (I2) ?_ | with_reducible refine ao (DE) ?_ | with_reducible refine au (DE) ?_ | with_reducible refine ao (o0) ?_ | with_reducible refine au (o0) ?_ | with_reducible refine ao (DF) ?_ | with_reducible refine au (DF) ?_ | with_reducible refine ao (I0) ?_ | with_reducible refine au (I0) ?_ | with_reducible refine ao (I1) ?_ | with_reducible refine au (I1) ?_ | with_reducible refine cY ?_ | with_reducible refine cN ?_ | with_reducible refine ah (fun _=>?_) (fun _=>?_) | refine gA Tryz.func98 ?_ | refine gB ?_ | with_reducible rfl)
  all_goals simp_all
end Go.Proofs.YtfmdaiojokniiaaGreatDoor.P
