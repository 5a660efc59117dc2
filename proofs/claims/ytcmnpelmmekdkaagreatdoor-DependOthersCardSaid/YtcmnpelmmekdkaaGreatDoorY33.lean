/- Several texts of mine, one behind the other. Conditions: as each says. -/
import Derived.Test.YtcmnpelmmekdkaaGreatDoorY25
import Derived.Test.YtcmnpelmmekdkaaGreatDoorY32
set_option linter.unusedVariables false
set_option linter.unusedSimpArgs false
namespace Go.Proofs.YtcmnpelmmekdkaaGreatDoor.P
open Go Go.ax
set_option maxRecDepth 100000
theorem Pq (z:aU) (q:aS):(ja z q).kind≠4:=by
 unfold ja;repeat' split
 all_goals simp
theorem Ii {z:aU} {q:aS} (h:(bO z q).kind=4):Nm.under q.name z.ab=true∧∃ c,lu z q.name=some c∧bO z q=⟨4,dI z.af (iJ z.af c),c⟩:=by
 unfold bO at h ⊢;by_cases hu:Nm.under q.name z.ab=true
 ·rw [if_pos hu] at h;rw [if_pos hu];refine ⟨hu,?_⟩;cases hc:lu z q.name with
  |none=>rw [hc] at h; exact absurd h (Pq z q)
  |some c =>
   rw [hc] at h;simp only at h ⊢;by_cases e:q.name=c∧(q.type=6∨q.type=8)
   ·rw [if_pos e] at h; exact absurd h (Pq z q)
   ·exact ⟨c,rfl,by rw [if_neg e]⟩
 ·rw [if_neg hu] at h; simp at h
theorem YL {c a:Text} (hu:Nm.under c a=true) (aJ:c≠a):dep a<dep c:=by
 have h1:=sG.1 hu;have h2:=h1.length_le;rcases Nat.lt_or_ge (dep a) (dep c) with h | h
 ·exact h
 ·exfalso;have e:=h1.eq_of_length (by simp [dep] at h h2 ⊢; omega);apply aJ;have e2:Nm.labels a=Nm.labels c:=by simpa using e
  rw [← vb c,← e2,vb]
theorem Pr {z:aU} {q:aS} (V:gd z) (h:(bO z q).kind=4):Nm.under q.name (bO z q).cut=true∧dep z.ab<dep (bO z q).cut∧Nm.valid (bO z q).cut=true:=by
 obtain ⟨-,c,h1,h2⟩:=Ii h;rw [h2];have h3:Nm.under q.name c=true:=by have:=List.find?_some h1; simpa using this
 obtain ⟨s,hs,e,hc⟩:=oH (List.mem_of_find?_eq_some h1);simp only [ir,Bool.and_eq_true,beq_iff_eq,bne_iff_ne] at hc;have:=V.under s hs;subst e;exact ⟨h3,YL this hc.2,V.names s hs⟩
theorem AE {l:List aB} {ab:Text} {z:aU} (h:dz l ab=some z):z.ab=ab∧∃ p∈l,p.ay=z:=by
 obtain ⟨k,q,-,h2,rfl⟩:=Dw h;exact ⟨h2.home,q,List.mem_of_getElem? h2.at_,rfl⟩
def dW (l:List aB):Prop:=∀ p∈l,eV p.ay=true
theorem dW.at_ {l:List aB} (H:dW l) {ab:Text} {z:aU} (h:dz l ab=some z):eV z=true∧z.ab=ab:=by
 obtain ⟨e,p,hp,rfl⟩:=AE h;exact ⟨H p hp,e⟩
theorem Ij {l:List aB} (H:dW l):Fair l:=fun ab z q hz h4=>by
 obtain ⟨h0,e⟩:=H.at_ hz;obtain ⟨h1,h2,-⟩:=Pr (lv h0) h4;exact ⟨h1,by rw [← e]; exact h2⟩
theorem Ps {l:List Signed} {ps:List Int} {s:Signed} (h:s∈dI l ps):s∈l:=by
 obtain ⟨p,-,e⟩:=get_mem.1 h;exact List.mem_of_getElem? e
theorem YM {z:aU} {q:aS} {s:Signed}:s∈(ja z q).af→s∈z.af:=by
 unfold ja;repeat' split
 all_goals exact Ps
theorem Ik {z:aU} {q:aS} {s:Signed}:s∈(bO z q).af→s∈z.af:=by
 unfold bO;repeat' split
 all_goals first | exact YM | exact Ps | (intro h; simp at h)
theorem YN {p:Int} {r:List Int} (h:0≤p):∃ r',cV (p::r)=p::r':=by
 have main:∀ (r acc:List Int),∃ r',r.foldl ic (p::acc)=p::r':=by
  intro r
  induction r with
  |nil=>intro acc; exact ⟨acc,rfl⟩
  |cons x r ih =>
   intro acc;rw [List.foldl_cons];unfold ic;split
   ·exact ih acc
   ·exact ih (acc++[x])
 have e:ic [] p=[p]:=by unfold ic; rw [if_neg (by rintro (e | e); omega; simp at e)]; rfl
 rw [cV,List.foldl_cons,e];exact main r []
theorem Pt {l:List Signed} {q:aS} {r:List Int} (h:0≤aO l q):∃ s r' m,cV (aO l q::r)=aO l q::r'∧m=dI l r'∧dI l (cV (aO l q::r))=s::m∧s∈l∧dp q s=true∧l[(aO l q).toNat]? = some s:=by
 obtain ⟨s,h1,h2⟩:=rA h;obtain ⟨r',e⟩:=YN (r:=r) h;refine ⟨s,r',dI l r',e,rfl,?_,List.mem_of_getElem? h1,h2,h1⟩;rw [e,dI,List.filterMap_cons,h1];rfl
theorem YO {z:aU} {q:aS}:(ja z q).kind=3→∃ s m,(ja z q).af=s::m∧s∈z.af∧s.set.type=3:=by
 have key:∀ (n:Text) (r:List Int),0≤aO z.af ⟨n,3⟩→∃ s m,dI z.af (cV (aO z.af ⟨n,3⟩::r))=s::m∧s∈z.af∧s.set.type=3:=fun n r h=>by
  obtain ⟨s,r',m,-,-,e,h1,h2,-⟩:=Pt (r:=r) h;exact ⟨s,m,e,h1,(congrArg aS.type (uZ h2)).symm⟩
 unfold ja;by_cases h1:0≤aO z.af q
 ·rw [if_pos h1]; intro h; simp at h
 rw [if_neg h1];by_cases h2:0≤aO z.af ⟨q.name,3⟩∧q.type≠8
 ·rw [if_pos h2];intro _;have:=key q.name [] h2.1;rw [H8 h2.1] at this;exact this
 rw [if_neg h2];by_cases h3:jA z.af q.name=true
 ·rw [if_pos h3]; intro h; simp at h
 rw [if_neg h3];cases hw:rB z.af q.name with
 |none=>intro h; simp at h
 |some w =>
  simp only;by_cases h4:0≤aO z.af ⟨w,q.type⟩
  ·rw [if_pos h4]; intro h; simp at h
  rw [if_neg h4];by_cases h5:0≤aO z.af ⟨w,3⟩∧q.type≠8
  ·rw [if_pos h5];intro _;exact key w _ h5.1
  rw [if_neg h5];split <;> (intro h; simp at h)
theorem YP {z:aU} {q:aS} (h:(bO z q).kind=3):∃ s m,(bO z q).af=s::m∧s∈z.af∧s.set.type=3:=by
 revert h
 unfold bO;repeat' split
 all_goals first | exact YO | (intro h; simp at h)
theorem YQ {ps:List Int}:(cV ps).Nodup:=by
 have main:∀ (ps acc:List Int),acc.Nodup→(ps.foldl ic acc).Nodup:=by
  intro ps
  induction ps with
  |nil=>intro acc h; exact h
  |cons x ps ih =>
   intro acc h;rw [List.foldl_cons];apply ih;unfold ic;split
   ·exact h
   ·rename_i hn;rw [List.nodup_append];exact ⟨h,by simp,fun a ha c hc e=>by simp at hc; subst hc; subst e; exact hn (.inr ha)⟩
 exact main ps [] List.nodup_nil
theorem Il {α β:Type} {f:α→List β} {s:α}:∀ {l:List α} {k:Nat},l[k]? = some s→(∀ i x,l[i]? = some x→i≠k→f x=[])→l.flatMap f=f s
 | [],k,h,_=>by simp at h
 |x::l,0,h,ho=>by
  simp at h;subst h;rw [List.flatMap_cons];have:l.flatMap f=[]:=by
   rw [List.flatMap_eq_nil_iff];intro y hy;obtain ⟨i,hi⟩:=List.getElem?_of_mem hy;exact ho (i+1) y (by simpa using hi) (by omega)
  rw [this,List.append_nil]
 |x::l,k+1,h,ho=>by
  rw [List.flatMap_cons,ho 0 x rfl (by omega),List.nil_append];exact Il (k:=k) (by simpa using h) fun i y hi hn=>ho (i+1) y (by simpa using hi) (by omega)
def kI (ab:Text) (D:List Datum):List cu:=D.map fun d=>⟨⟨ab,2⟩,d.text⟩
theorem Pu {l:List Signed} {ab:Text} {s:Signed} (hs:fI l) (h:0≤aO l ⟨ab,2⟩) (hx:l[(aO l ⟨ab,2⟩).toNat]? = some s):dZ ab l=kI ab s.set.data:=by
 obtain ⟨s',h1,h2⟩:=rA h;rw [hx] at h1;cases h1;have e:=uZ h2;have e1:s.set.name=ab:=(congrArg aS.name e).symm;have e2:s.set.type=2:=(congrArg aS.type e).symm;rw [dZ,Il hx]
 ·rw [if_pos ⟨e1,e2⟩]; rfl
 ·intro i x hi hn;refine if_neg fun ⟨c1,c2⟩=>hn ?_;have:=Dc hs hi;rw [c1,c2] at this;omega
theorem Im {z:aU} {q:aS} (V:gd z) (h4:(bO z q).kind=4):∃ s m,(bO z q).af=s::m∧s∈z.af∧s.set.name=(bO z q).cut∧s.set.type=2∧dZ (bO z q).cut (bO z q).af=kI (bO z q).cut s.set.data:=by
 obtain ⟨-,c,h1,h2⟩:=Ii h4;rw [h2];simp only;obtain ⟨-,g2⟩:=H7 V h1;obtain ⟨s,r',m,e1,rfl,e2,h3,h5,h6⟩:=Pt (r:=oS z.af c::me z.af c) g2;have e:=uZ h5;have n1:s.set.name=c:=(congrArg aS.name e).symm;have n2:s.set.type=2:=(congrArg aS.type e).symm;refine ⟨s,_,e2,h3,n1,n2,?_⟩;rw [iJ,e2,dZ,Il (k:=0) rfl]
 ·rw [if_pos ⟨n1,n2⟩]; rfl
 ·intro i x hi hn;refine if_neg fun ⟨c1,c2⟩=>?_;obtain ⟨i,rfl⟩:∃ j,i=j+1:=⟨i - 1,by omega⟩;have hm:x∈dI z.af r':=List.mem_of_getElem? (by simpa using hi);obtain ⟨p,hp,hx⟩:=get_mem.1 hm;have Pv:=Dc V.sorted hx;rw [c1,c2] at Pv;have fm:=YQ (ps:=aO z.af ⟨c,2⟩::oS z.af c::me z.af c);have cW:=(Ov.1 (show p∈cV (aO z.af ⟨c,2⟩::oS z.af c::me z.af c) by rw [e1]; exact List.mem_cons_of_mem _ hp)).1;rw [e1,List.nodup_cons] at fm;apply fm.1;rw [Pv,Int.toNat_of_nonneg cW];exact hp
theorem Io {s:eu} (h:fc s=true) (ht:s.type=2∨s.type=3):∀ d∈s.data,Nm.valid d.text=true:=fun d hd=>by
 simp only [fc,Bool.and_eq_true] at h;have:=Cw h.2 d hd;rcases ht with ht | ht;all_goals
  rw [ht] at this;simp only [jv,Bool.and_eq_true] at this;have:=this.2;simp [lZ,fA] at this;exact this.1
def univ (l:List aB):List Text:=l.flatMap fun p=>p.ay.af.flatMap fun s=>s.set.data.map (·.text)
theorem Pw {l:List aB} {t:Text}:t∈univ l↔∃ p∈l,∃ s∈p.ay.af,∃ d∈s.set.data,d.text=t:=by simp [univ,List.mem_flatMap]
theorem Ip {z:aU} {q:aS} (V:gd z) (h:(bO z q).kind=3):∃ s m d D,(bO z q).af=s::m∧s∈z.af∧s.set.type=3∧s.set.data=d::D∧vk (bO z q)=d.text∧Nm.valid d.text=true:=by
 obtain ⟨s,m,h1,h2,h3⟩:=YP h;have aK:=V.af s h2;have hlen:=(wZ aK).2.2.1;obtain ⟨d,D,hd⟩:∃ d D,s.set.data=d::D:=by
  cases e:s.set.data with
  |nil=>rw [e] at hlen; simp at hlen
  |cons d D=>exact ⟨d,D,rfl⟩
 refine ⟨s,m,d,D,h1,h2,h3,hd,?_,Io aK (.inr h3) d (by rw [hd]; simp)⟩;rw [vk,h1];simp only;rw [hd]
theorem AF {l:List aB} (H:dW l) {s:Text}:∀ {n:Nat} {ab:Text} {x:cu},x∈(cJ l s n ab).2→x.other∈univ l∧Nm.valid x.other=true
 | 0,ab,x,h=>by simp [cJ] at h
 |n+1,ab,x,h=>by
  rw [cJ] at h;cases e:dz l ab with
  |none=>rw [e] at h; simp at h
  |some Y =>
   rw [e] at h;simp only at h;obtain ⟨-,p,hp,rfl⟩:=AE e;have V:=lv (H p hp);have sv:∀ {a:Text} {L:List Signed},(∀ y∈L,y∈p.ay.af)→x∈dZ a L→x.other∈univ l∧Nm.valid x.other=true:=fun hL hx=>by
    obtain ⟨-,y,hy,-,ht,d,hd,eA⟩:=AD.1 hx;exact ⟨Pw.2 ⟨p,hp,y,hL y hy,d,hd,eA⟩,by rw [← eA]; exact Io (V.af y (hL y hy)) (.inl ht) d hd⟩
   split at h
   ·rename_i h4;simp only [List.mem_append] at h;rcases h with h | h | h
    ·exact sv (fun y hy=>hy) h
    ·exact sv (fun y hy=>Ik hy) h
    ·exact AF H h
   ·rcases List.mem_append.1 h with h | h
    ·exact sv (fun y hy=>hy) h
    ·unfold rG at h;split at h
     ·rename_i h3;simp at h;subst h;obtain ⟨y,m,d,D,g1,g2,g3,g4,g5,g6⟩:=Ip V h3;simp only;rw [g5];exact ⟨Pw.2 ⟨p,hp,y,g2,d,by rw [g4]; simp,rfl⟩,g6⟩
     ·simp at h
theorem Dy {l:List aB} (H:dW l) {s:Text}:∀ {n:Nat} {ab:Text},Nm.valid ab=true→∀ z∈(cJ l s n ab).1,Nm.valid z=true
 | 0,ab,ha,z,h=>by simp [cJ] at h; subst h; exact ha
 |n+1,ab,ha,z,h=>by
  rw [cJ] at h;cases e:dz l ab with
  |none=>rw [e] at h; simp at h; subst h; exact ha
  |some Y =>
   rw [e] at h;simp only at h;split at h
   ·rename_i h4;rcases List.mem_cons.1 h with h | h
    ·subst h; exact ha
    ·exact Dy H (Pr (lv (H.at_ e).1) h4).2.2 z h
   ·simp at h; subst h; exact ha
theorem Iq {l:List aB} (H:dW l) (s:Text):rF (gz l) (s::univ l):=fun n _ x hx=>List.mem_cons_of_mem _ (AF H (vp.1 hx)).1
def rH (l:List aB):Nat:=(univ l).length+2
def dM (l:List aB) (s:Text):List bK:=kH (gz l) (rH l) [] [⟨s,[],-1,⟨[],0⟩,[]⟩]
theorem lB {l:List aB} (H:dW l) (s:Text):ev (gz l) s (dM l s) []:=Pe (U:=s::univ l) (List.mem_cons_self ..) (Iq H s) _ _ _ ev.init (by simp [rH])
theorem YR {l:List aB} (H:dW l) {s:Text} (hs:Nm.valid s=true):∀ v∈dM l s,Nm.valid v.name=true:=fun v hv=>by
 have:=(lB H s).least ((s::univ l).filter fun t=>Nm.valid t) (by simp [hs]) (fun n _ x hx=>by
  obtain ⟨h1,h2⟩:=AF H (vp.1 hx)
  simp [h1,h2]) v (by simpa using hv)
 simpa using (List.mem_filter.1 this).2
theorem AG {l:List aB} (H:dW l) (s:Text):(dM l s).length≤(univ l).length+1:=by
 have:=Dn (U:=s::univ l) (List.mem_cons_self ..) (Iq H s) (lB H s)
 simpa using this
def jc (a b:Text):Bool:=decide (bA a b<0)
def cB (l:List aB) (s:Text):List Text:=nV (lt:=jc) [] (fL (dM l s))
theorem Dz (a b c:Text) (h:jc a b=true) (k:jc b c=true):jc a c=true:=by
 simp only [jc,decide_eq_true_eq] at *;exact pJ h k
theorem Px (a b:Text) (aJ:a≠b) (h:jc a b=false):jc b a=true:=by
 simp only [jc,decide_eq_true_eq,decide_eq_false_iff_not] at *;rcases AB aJ with h1 | h1
 ·exact absurd h1 h
 ·exact h1
theorem Py (a:Text):jc a a=false:=by simp [jc,mb]
theorem lC {l:List aB} {s z:Text}:z∈cB l s↔z∈fL (dM l s):=by
 rw [cB,Dr]; simp
theorem Ir {l:List aB} {s:Text}:(cB l s).Pairwise fun a b=>jc a b=true:=Ds Dz Px List.Pairwise.nil
theorem AH {l:List aB} {s:Text} (H:dW l):s∈(dM l s).map bK.name:=by simpa using (lB H s).start
theorem DA {l:List aB} {s:Text} (H:dW l):[46]∈cB l s:=lC.2 ((lB H s).s6.2 ⟨s,AH H,vq⟩)
theorem Is {l:List aB} {s:Text} (H:dW l):∀ z∈cB l s,Nm.valid z=true:=fun z hz=>by
 obtain ⟨n,-,h⟩:=(lB H s).s6.1 (lC.1 hz);exact Dy H (by decide) z h
end Go.Proofs.YtcmnpelmmekdkaaGreatDoor.P
