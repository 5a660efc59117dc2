/- Several texts of mine, one behind the other. Conditions: as each says. -/
import Derived.Test.YtcmnpelmmekdkaaGreatDoorY10
set_option linter.unusedVariables false
set_option linter.unusedSimpArgs false
namespace Go.Proofs.YtcmnpelmmekdkaaGreatDoor.P
open Go Go.ax
set_option maxRecDepth 100000
set_option maxHeartbeats 4000000
theorem WC {a b c:Signed} (h:gY a b=true) (k:gY b c=true):gY a c=true:=by
 simp only [gY,decide_eq_true_eq] at *;rw [← xk] at *;exact G5 h k
theorem NK {ok:Signed→Bool}:∀ {l:List Signed} {p:Option Signed},chain ok gY p l=true→fI l∧∀ q,p=some q→∀ x∈l,gY q x=true
 | [],p,_=>⟨fun i j x y _ h=>by simp at h,fun q _ x hx=>by simp at hx⟩
 |s::l,p,h=>by
  simp only [chain,Bool.and_eq_true] at h;obtain ⟨i1,i2⟩:=NK h.2;refine ⟨fun i j x y dA hx hy=>?_,fun q hq x hx=>?_⟩
  ·cases j with
   |zero=>omega
   |succ j =>
    rw [List.getElem?_cons_succ] at hy;cases i with
    |zero =>
     simp at hx;subst hx
     simpa [gY] using i2 _ rfl y (List.mem_of_getElem? hy)
    |succ i =>
     rw [List.getElem?_cons_succ] at hx;exact i1 i j x y (by omega) hx hy
  ·subst hq;rcases List.mem_cons.1 hx with rfl | hx
   ·exact h.1.2
   ·exact WC h.1.2 (i2 _ rfl x hx)
theorem G9 {a b:eu} (h:nJ a b<0):bA a.name b.name≤0:=by
 unfold nJ at h;split at h
 ·omega
 ·rename_i e; simp at e; omega
theorem C7 {l:List Signed} (h:fI l):iW (l.map (·.set.name)):=fun i j x y dA hx hy=>by
 rw [List.getElem?_map] at hx hy;obtain ⟨a,ha,rfl⟩:=Option.map_eq_some_iff.1 hx;obtain ⟨b,hb,rfl⟩:=Option.map_eq_some_iff.1 hy;exact G9 (h i j a b dA ha hb)
theorem NL {l:List Text}:iW l↔l.Pairwise (fun x y=>bA x y≤0):=by
 rw [List.pairwise_iff_getElem];constructor
 ·exact fun h i j hi hj dA=>h i j _ _ dA (by simp [hi]) (by simp [hj])
 ·intro h i j x y dA hx hy;obtain ⟨hi,rfl⟩:=List.getElem?_eq_some_iff.1 hx;obtain ⟨hj,rfl⟩:=List.getElem?_eq_some_iff.1 hy;exact h i j hi hj dA
theorem NM {ab:Text} {l:List Signed} (h:iW (l.map (·.set.name))):iW (bN ab l) :=
 NL.2 ((NL.1 h).sublist (List.Sublist.map _ List.filter_sublist))
theorem WD {z:aU} (hs:fI z.af) (aJ:∀ s∈z.af,s.set.name≠[]):xl z=iV z:=by
 have hA:=NM (ab:=z.ab) (C7 hs);obtain ⟨h1,h2,h3⟩:=NF _ hA;refine NJ h1 h2 xb h3 (fun c hc=>?_) (z.af.map (·.set.name)) [] [] 0 (by simpa using C7 hs) (fun c hc=>?_) (Nat.zero_le _) rfl (fun m d hm=>by omega)
 ·obtain ⟨s,h,rfl,-⟩:=oH hc;exact aJ s h
 ·obtain ⟨s,h,rfl,-⟩:=oH hc
  simpa using ⟨s,h,rfl⟩
def nO (q:Signed) (t:Option Signed):Bool:=match t with | none=>true | some t => !(t.set.name==q.set.name&&t.set.type != 8)
theorem WE {p:Text} {s:Signed} {t:Option Signed}:sO (some p) s t=((s.set.type != 3||p != s.set.name)&&(if s.set.type==3 then nO s t else true)):=by
 unfold sO nO;by_cases h:s.set.type=3
 ·simp [h];rfl
 ·have hb:(s.set.type != 3)=true:=by simpa using h
  have hc:(s.set.type==3)=false:=by simpa using h
  simp [hb,hc]
theorem NN:∀ (l:List Signed) (q:Signed) (al:Text),fI (q::l)→(∀ s∈q::l,s.set.name≠[]∧s.set.type≤8) →
  ((q.set.type≠3∧(al=[]∨bA al q.set.name<0))∨(al=q.set.name∧q.set.type=3)∨(al=q.set.name∧q.set.type=8)) →
  ((if q.set.type==3 then nO q l.head? else true)&&jV (some q.set.name) l)=l8 al (some q.set.name) l
 | [],q,al,_,_,_=>by simp [nO,jV,l8]
 |s::l,q,al,hs,hn,aR=>by
  have ai:nJ q.set s.set<0:=hs 0 1 q s (by omega) rfl rfl;have iN:fI (s::l):=fun i j x y dA hx hy=>hs (i+1) (j+1) x y (by omega) hx hy;have iu:∀ t∈s::l,t.set.name≠[]∧t.set.type≤8:=fun t ht=>hn t (List.mem_cons_of_mem _ ht);have hs8:=(iu s (List.mem_cons_self ..)).2;have oN:=(iu s (List.mem_cons_self ..)).1;have ih:=NN l s (if s.set.type==3 then s.set.name else al) iN iu;have e1:jV (some q.set.name) (s::l)=((s.set.type != 3||q.set.name != s.set.name)&&((if s.set.type==3 then nO s l.head? else true)&&jV (some s.set.name) l)):=by
   rw [jV,WE,Bool.and_assoc]
  rw [e1,List.head?_cons,l8];generalize l8 (if (s.set.type==3)=true then s.set.name else al) (some s.set.name) l=T at *;generalize ((if s.set.type==3 then nO s l.head? else true)&&jV (some s.set.name) l)=A at *;by_cases mU:q.set.name=s.set.name
  ·have MG:q.set.type<s.set.type:=by
    have:nJ q.set s.set=fZ q.set.type s.set.type:=by simp [nJ,mU,mb]
    rw [this] at ai;unfold fZ at ai;split at ai
    ·assumption
    ·split at ai <;> omega
   by_cases h3:s.set.type=3
   ·simp [h3,mU,oN]
   ·have hb:(s.set.type != 3)=true:=by simpa using h3
    have hc:(s.set.type==3)=false:=by simpa using h3
    have hd:(s.set.name != [])=true:=by simpa using oN
    rcases aR with ⟨a1,a2⟩ | ⟨a1,a2⟩ | ⟨a1,a2⟩
    ·have ri:al≠s.set.name:=by
      rcases a2 with rfl | a2
      ·exact fun h=>oN h.symm
      ·rintro rfl;rw [mU,mb] at a2;omega
     have:=ih (.inl ⟨h3,by simpa [h3,← mU] using a2⟩);rw [this];have WG:(s.set.name==al)=false:=by simpa using fun h=>ri h.symm
     have WH:(q.set.type==3)=false:=by simpa using a1
     simp [hb,hc,hd,WH,mU,WG]
    ·by_cases h8:s.set.type=8
     ·have:=ih (.inr (.inr ⟨by simp [h3,a1,mU],h8⟩));rw [this];simp [h8,nO]
     ·have WI:(s.set.type != 8)=true:=by simpa using h8
      simp [hb,hc,hd,WI,nO,a1,a2,mU]
    ·omega
  ·have dQ:bA q.set.name s.set.name<0:=by
    have:=G9 ai;rcases Int.lt_or_eq_of_le this with h | h
    ·exact h
    ·exact absurd (pI h) mU
   have:=ih (by
    by_cases h3:s.set.type=3
    ·exact .inr (.inl ⟨by simp [h3],h3⟩)
    ·refine .inl ⟨h3,?_⟩;have e:(if (s.set.type==3)=true then s.set.name else al)=al:=by simp [h3]
     rw [e];rcases aR with ⟨-,a | a⟩ | ⟨a,-⟩ | ⟨a,-⟩
     ·exact .inl a
     ·exact .inr (pJ a dQ)
     ·rw [a]; exact .inr dQ
     ·rw [a]; exact .inr dQ)
   rw [this];have e2:nO q (some s)=true:=by
    have:(s.set.name==q.set.name)=false:=by simpa using fun h=>mU h.symm
    simp [nO,this]
   have e3:(q.set.name==s.set.name)=false:=by simpa using mU
   have e4:(q.set.name != s.set.name)=true:=by simpa using mU
   rw [e2,e3,e4];simp
theorem WJ {l:List Signed} (hs:fI l) (hn:∀ s∈l,s.set.name≠[]∧s.set.type≤8):jV none l=l8 [] none l:=by
 cases l with
 |nil=>rfl
 |cons s l =>
  have:=NN l s (if s.set.type==3 then s.set.name else []) hs hn (by
   by_cases h3:s.set.type=3
   ·exact .inr (.inl ⟨by simp [h3],h3⟩)
   ·exact .inl ⟨h3,.inl (by simp [h3])⟩)
  have e1:jV none (s::l)=((if s.set.type==3 then nO s l.head? else true)&&jV (some s.set.name) l):=by
   rw [jV]
   congr 1
   unfold sO nO;by_cases h3:s.set.type=3
   ·simp [h3];rfl
   ·simp [h3]
  rw [e1,this,l8];simp
theorem NO {ab:Text}:∀ (l:List Signed) (B:List Text),l.length=B.length→((l.zip ((l.zip B).map fun p=>jU p.1 p.2)).all fun p=>uP ab p.1 p.2)=(((l.zip B).all fun p=>sN p.1 p.2)&&l.all fun s=>nL s.sigs ab)
 | [],B,_=>by simp
 |s::l,[],h=>by simp at h
 |s::l,b::B,h=>by
  have ih:=NO (ab:=ab) l B (by simpa using h);simp only [List.zip_cons_cons,List.map_cons,List.all_cons];rw [ih];unfold uP sN;cases nL s.sigs ab <;> cases jU s b <;> simp [Bool.and_assoc,Bool.and_left_comm]
theorem WK {s:eu} (h:fc s=true):s.type≤8:=by
 simp only [fc,Bool.and_eq_true,decide_eq_true_eq] at h;exact h.1.1.1.1.1.2.2
theorem WL {t:Text} (h:Nm.valid t=true):t≠[]:=by
 rintro rfl
 revert h
 decide
theorem G' {z:aU} (h:nM z=true):fI z.af∧(∀ s∈z.af,Nm.valid s.set.name=true)∧(∀ s∈z.af,s.set.name≠[]∧s.set.type≤8):=by
 obtain ⟨-,g2,-⟩:=uQ h;simp only [nM,Bool.and_eq_true] at h;have g3:∀ s∈z.af,fc s.set=true:=fun s hs=>by
  have:=g2 s hs;simp only [fo,Bool.and_eq_true] at this;exact this.1
 exact ⟨(NK h.2).1,fun s hs=>uO (g3 s hs),fun s hs=>⟨WL (uO (g3 s hs)),WK (g3 s hs)⟩⟩
theorem Ha (z:aU) (hf:z.Fits):aA E 90 [z.enc] (· = .bool (eV z)):=by
 unfold eV;cases h1:nM z
 ·have cg:=Ny z hf;rw [h1] at cg;refine eP Tryz.func90 ?_;repeat' (first | with_reducible refine ar (cg) ?_ | with_reducible refine bg (cg) ?_ | with_reducible refine cY ?_ | with_reducible refine cN ?_ | with_reducible refine aw (fun _=>?_) (fun _=>?_) | refine gA Tryz.func90 ?_ | refine gB ?_ | refine gC ?_ | with_reducible rfl)
  all_goals simp_all
 ·obtain ⟨g1,g2,g3⟩:=uQ h1;obtain ⟨f1,f2,f3⟩:=G' h1;have gl:z.af.length≤1000000:=by omega
  have cg:=Ny z hf;rw [h1] at cg;have Hb:=Wu z gl f2;rw [WD f1 (fun s hs=>(f3 s hs).1)] at Hb;have ri:=Wl z (iV z) gl;rw [WJ f1 f3] at ri;have NP:CU z=(((z.af.zip (iV z)).all fun p=>sN p.1 p.2)&&z.af.all fun s=>nL s.sigs z.ab):=NO _ _ (sM z).symm;rw [NP];have Hc:=Wh z (iV z) (sM z) gl;have NQ:=Wi z (iV z) (sM z) gl;have F9:=Wj z (iV z) gl;change aA E _ _ (· = .bool (zU z)) at Hc;generalize ((z.af.zip (iV z)).all fun p=>sN p.1 p.2)=S at *;generalize (z.af.all fun s=>nL s.sigs z.ab)=F at *;have NR:=Wr z gl f2 g3 f1;clear NP h1 g1 g2 g3 f1 f2 f3;generalize l8 [] none z.af=T at *;generalize zU z=Fo at *;generalize rh z=Tw at *;generalize iV z=B at *;refine eP Tryz.func90 ?_;repeat' (first | with_reducible refine ar (cg) ?_ | with_reducible refine bg (cg) ?_ | with_reducible refine ar (NR) ?_ | with_reducible refine bg (NR) ?_ | with_reducible refine ar (Hb) ?_ | with_reducible refine bg (Hb) ?_ | with_reducible refine ar (ri) ?_ | with_reducible refine bg (ri) ?_ | with_reducible refine ar (Hc) ?_ | with_reducible refine bg (Hc) ?_ | with_reducible refine ar (NQ) ?_ | with_reducible refine bg (NQ) ?_ | with_reducible refine ar (F9) ?_ | with_reducible refine bg (F9) ?_ | with_reducible refine cY ?_ | with_reducible refine cN ?_ | with_reducible refine aw (fun _=>?_) (fun _=>?_) | refine gA Tryz.func90 ?_ | refine gB ?_ | refine gC ?_ | with_reducible rfl)
  all_goals simp_all
end Go.Proofs.YtcmnpelmmekdkaaGreatDoor.P
