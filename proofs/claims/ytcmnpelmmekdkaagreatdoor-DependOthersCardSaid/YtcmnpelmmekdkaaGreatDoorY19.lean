/- Several texts of mine, one behind the other. Conditions: as each says. -/
import Derived.Test.YtcmnpelmmekdkaaGreatDoorY17
import Derived.Test.YtcmnpelmmekdkaaGreatDoorY18
set_option linter.unusedVariables false
set_option linter.unusedSimpArgs false
namespace Go.Proofs.YtcmnpelmmekdkaaGreatDoor.P
open Go Go.ax
set_option maxRecDepth 100000
structure ia where
 kind:Int
 af:List Signed
 cut:Text
 deriving DecidableEq
@[reducible] def ia.enc (a : ia) : DV := .agg [.int .i64 a.kind, .sl (a.af.map Signed.enc), .str a.cut]
theorem Xo {x y:Signed}:nJ y.set x.set=0↔dp ⟨x.set.name,x.set.type⟩ y=true:=by
 rw [← C2,← xk];show _↔(nN y.set.name y.set.type x.set.name x.set.type==0)=true;simp
theorem Dc {l:List Signed} (h:fI l) {k:Nat} {x:Signed} (hx:l[k]? = some x):aO l ⟨x.set.name,x.set.type⟩=k :=
 MS (fun j y hj hy=>by
  have h1:=h j k y x hj hy hx;cases e:dp ⟨x.set.name,x.set.type⟩ y
  ·rfl
  ·rw [Xo.2 e] at h1; omega) hx (by simp [dp])
theorem rA {l:List Signed} {q:aS} (h:0≤aO l q):∃ s,l[(aO l q).toNat]? = some s∧dp q s=true:=by
 unfold aO at h ⊢;cases e:l.findIdx? (dp q) with
 |none=>rw [e] at h; simp at h
 |some k =>
  obtain ⟨h1,h2,_⟩:=List.findIdx?_eq_some_iff_getElem.1 e;exact ⟨l[k],by simp,h2⟩
theorem ib {l:List Signed} {q:aS} : -1≤aO l q∧aO l q<l.length:=by
 unfold aO;cases e:l.findIdx? (dp q) with
 |none=>exact ⟨Int.le_refl _,by show (-1:Int)<l.length; omega⟩
 |some k =>
  obtain ⟨h1,h2,_⟩:=List.findIdx?_eq_some_iff_getElem.1 e;exact ⟨by show (-1:Int)≤(k:Int); omega,by show (k:Int)<l.length; omega⟩
theorem uZ {q:aS} {s:Signed} (h:dp q s=true):q=⟨s.set.name,s.set.type⟩:=by
 obtain ⟨n,t⟩:=q;simp [dp] at h;rw [h.1,h.2]
def dI (l:List Signed) (ps:List Int):List Signed:=ps.filterMap fun p=>l[p.toNat]?
def ic (ps:List Int) (p:Int):List Int:=if p<0∨p∈ps then ps else ps++[p]
def cV (ps:List Int):List Int:=ps.foldl ic []
def Ap (l:List Signed) (ps:List Int):Prop:=∀ p∈ps,0≤p∧p<l.length
theorem Ap.nil {l:List Signed}:Ap l []:=fun p hp=>by simp at hp
theorem Ap.add {l:List Signed} {ps:List Int} {p:Int} (h:Ap l ps) (hp:p<l.length):Ap l (ic ps p):=by
 unfold ic;split
 ·exact h
 ·rename_i hn;intro q hq;rcases List.mem_append.1 hq with hq | hq
  ·exact h q hq
  ·rw [List.mem_singleton.1 hq];exact ⟨by omega,hp⟩
theorem Xp {ps:List Int} {p:Int}:cV (ps++[p])=ic (cV ps) p:=by rw [cV,List.foldl_append]; rfl
theorem Ou {ps:List Int} {k:Nat} {p:Int} (h:ps[k]? = some p):cV (ps.take (k+1))=ic (cV (ps.take k)) p:=by rw [eI h,Xp]
theorem Ov {p:Int}:∀ {ps:List Int},p∈cV ps↔0≤p∧p∈ps:=by
 have main:∀ (ps acc:List Int),(∀ q∈acc,0≤q)→(p∈ps.foldl ic acc↔p∈acc∨(0≤p∧p∈ps)):=by
  intro ps
  induction ps with
  |nil=>intro acc _; simp
  |cons x ps ih =>
   intro acc ha;rw [List.foldl_cons,ih]
   ·unfold ic;split
    ·rename_i hx;constructor
     ·rintro (h | h)
      ·exact .inl h
      ·exact .inr ⟨h.1,List.mem_cons_of_mem _ h.2⟩
     ·rintro (h | ⟨h1,h2⟩)
      ·exact .inl h
      ·rcases List.mem_cons.1 h2 with rfl | h2
       ·rcases hx with hx | hx
        ·omega
        ·exact .inl hx
       ·exact .inr ⟨h1,h2⟩
    ·rename_i hx;simp only [List.mem_append,List.mem_cons,List.not_mem_nil,or_false];constructor
     ·rintro ((h | rfl) | h)
      ·exact .inl h
      ·exact .inr ⟨by omega,.inl rfl⟩
      ·exact .inr ⟨h.1,.inr h.2⟩
     ·rintro (h | ⟨h1,h2⟩)
      ·exact .inl (.inl h)
      ·rcases h2 with rfl | h2
       ·exact .inl (.inr rfl)
       ·exact .inr ⟨h1,h2⟩
   ·intro q hq;unfold ic at hq;split at hq
    ·exact ha q hq
    ·rename_i hx;rcases List.mem_append.1 hq with hq | hq
     ·exact ha q hq
     ·rw [List.mem_singleton.1 hq]; omega
 intro ps;have:=main ps [] (fun q hq=>by simp at hq)
 simpa [cV] using this
theorem Hu {ps:List Int}:(cV ps).length≤ps.length:=by
 have main:∀ (ps acc:List Int),(ps.foldl ic acc).length≤acc.length+ps.length:=by
  intro ps
  induction ps with
  |nil=>intro acc; simp
  |cons x ps ih =>
   intro acc;rw [List.foldl_cons];refine Nat.le_trans (ih _) ?_;have:(ic acc x).length≤acc.length+1:=by unfold ic; split <;> simp
   simp; omega
 have:=main ps []
 simpa [cV] using this
theorem Dd {l:List Signed} {ps:List Int}:(dI l ps).length≤ps.length:=List.length_filterMap_le ..
theorem Xq {l:List Signed} {ps:List Int} {p:Int} {s:Signed} (h0:0≤p) (hs:l[p.toNat]? = some s):dI l (ic ps p)=if p∈ps then dI l ps else dI l ps++[s]:=by
 unfold ic;by_cases h:p∈ps
 ·rw [if_pos (.inr h),if_pos h]
 ·rw [if_neg (by rintro (e | e); omega; exact h e),if_neg h,dI,List.filterMap_append];simp [dI,hs]
theorem get_mem {l:List Signed} {ps:List Int} {s:Signed}:s∈dI l ps↔∃ p∈ps,l[p.toNat]? = some s:=by simp [dI,List.mem_filterMap]
def jA (l:List Signed) (n:Text):Bool:=l.any fun s=>Nm.under s.set.name n
def iv (P:Signed→Bool) (l:List Signed):Nat:=(l.takeWhile P).length
theorem Aq {P:Signed→Bool} {l:List Signed}:iv P l≤l.length:=by
 unfold iv;exact (List.takeWhile_sublist P).length_le
theorem Hv {P:Signed→Bool}:∀ {l:List Signed} (_:∀ (i j:Nat) (x y:Signed),i<j→l[i]? = some x→l[j]? = some y→P y=true→P x=true) {i:Nat} {x:Signed} (_:l[i]? = some x),P x=true↔i<iv P l
 | [],_,i,x,hx=>by simp at hx
 |a::l,hd,i,x,hx=>by
  unfold iv;rw [List.takeWhile_cons];cases ha:P a
  ·simp only [Bool.false_eq_true,if_false,List.length_nil,Nat.not_lt_zero,iff_false];intro e;cases i with
   |zero=>simp at hx; subst hx; rw [ha] at e; cases e
   |succ i =>
    have:=hd 0 (i+1) a x (by omega) rfl hx e;rw [ha] at this; cases this
  ·rw [if_pos rfl,List.length_cons];cases i with
   |zero=>simp at hx; subst hx; simp [ha]
   |succ i =>
    have:=Hv (P:=P) (l:=l) (fun i j x y h h1 h2=>hd (i+1) (j+1) x y (by omega) h1 h2) (i:=i) (x:=x) (by simpa using hx);unfold iv at this;rw [this];omega
theorem Xr {a b c:Text} (h:bA a b≤0) (k:bA b c<0):bA a c<0:=by
 rcases Int.lt_or_eq_of_le h with h | h
 ·exact pJ h k
 ·rw [pI h]; exact k
theorem Hw {l:List Signed} (hs:fI l) {i j:Nat} {x y:Signed} (h:i<j) (hx:l[i]? = some x) (hy:l[j]? = some y):bA x.set.name y.set.name≤0:=G9 (hs i j x y h hx hy)
def iZ (n:Text) (s:Signed):Bool:=decide (bA s.set.name n<0)
def jB (n:Text) (s:Signed):Bool:=decide (bA s.set.name n≤0)
theorem lt_iff {l:List Signed} (hs:fI l) {n:Text} {i:Nat} {x:Signed} (hx:l[i]? = some x):bA x.set.name n<0↔i<iv (iZ n) l:=by
 rw [← Hv (P:=iZ n) (fun i j x y h h1 h2 h3=>by
  simp only [iZ,decide_eq_true_eq] at h3 ⊢
  exact Xr (Hw hs h h1 h2) h3) hx]
 simp [iZ]
theorem le_iff {l:List Signed} (hs:fI l) {n:Text} {i:Nat} {x:Signed} (hx:l[i]? = some x):bA x.set.name n≤0↔i<iv (jB n) l:=by
 rw [← Hv (P:=jB n) (fun i j x y h h1 h2 h3=>by
  simp only [jB,decide_eq_true_eq] at h3 ⊢
  exact C5 (Hw hs h h1 h2) h3) hx]
 simp [jB]
theorem Xs {l:List Signed} (hs:fI l) {n:Text}:jA l n=match l[iv (iZ n) l]? with
  |some s=>Nm.under s.set.name n
  |none=>false:=by
 rw [Bool.eq_iff_iff];constructor
 ·intro h;obtain ⟨x,hx,hu⟩:=List.any_eq_true.1 h;obtain ⟨j,hj⟩:=List.getElem?_of_mem hx;have h1:=xj hu;have h2:¬ bA x.set.name n<0:=by rw [uR]; omega
  have h3:iv (iZ n) l≤j:=by have:=(lt_iff hs (n:=n) hj); omega
  obtain ⟨s,iN⟩:=aY (l:=l) (k:=iv (iZ n) l) (by have:=(List.getElem?_eq_some_iff.1 hj).1; omega);rw [iN];show Nm.under s.set.name n=true;rcases Nat.lt_or_eq_of_le h3 with h3 | h3
  ·have h4:¬ bA s.set.name n<0:=fun e=>by have:=(lt_iff hs (n:=n) iN).1 e; omega
   exact xi (by rw [uR]; omega) (Hw hs h3 iN hj) hu
  ·rw [← h3,iN] at hj; cases hj; exact hu
 ·intro h;cases e:l[iv (iZ n) l]? with
  |none=>rw [e] at h; cases h
  |some s=>rw [e] at h; exact List.any_eq_true.2 ⟨s,List.mem_of_getElem? e,h⟩
def pO (P:Nat→Bool):Nat→Int
 | 0 => -1
 |n+1=>if P n then (n:Int) else pO P n
theorem Ow {P:Nat→Bool}:∀ {n:Nat},-1≤pO P n∧pO P n<n
 | 0=>by simp [pO]
 |n+1=>by
  have:=Ow (P:=P) (n:=n);rw [pO];split <;> omega
def xA (l:List Signed) (i:Nat):Bool:=match l[i]? with
 |some s=>s.set.type==8
 |none=>false
def eM (l:List Signed) (n:Text):Int:=pO (xA l) (iv (jB n) l)
theorem va {l:List Signed} {n:Text} : -1≤eM l n∧eM l n<l.length:=by
 have h1:=Ow (P:=xA l) (n:=iv (jB n) l);have h2:=Aq (P:=jB n) (l:=l);unfold eM;omega
def gL (L:List Text):Text:=if L=[] then [46] else Nm.glue L
theorem vb (s:Text):gL (Nm.labels s)=s:=by
 unfold gL Nm.labels;by_cases h:s=[46]
 ·rw [if_pos h,if_pos rfl,h]
 ·rw [if_neg h,if_neg (Nm.nC s),Nm.uE]
def mW (l:List Signed):List Text→List Text
 | []=>[]
 |x::r=>if jA l (gL (x::r)) then x::r else mW l r
def oR (M:List Text):Option Text:=if Nm.parts M&&decide ((gL M).length≤60) then some (gL M) else none
def rB (l:List Signed) (s:Text):Option Text:=oR ([42]::mW l (Nm.labels s))
def lu (z:aU) (n:Text):Option Text:=(bN z.ab z.af).find? fun c=>Nm.under n c
def oS (l:List Signed) (c:Text):Int:=if aO l ⟨c,6⟩<0 then aO l ⟨c,8⟩ else aO l ⟨c,6⟩
def De (l:List Signed) (c:Text):List Datum:=match l[(aO l ⟨c,2⟩).toNat]? with
 |some s=>s.set.data
 |none=>[]
def me (l:List Signed) (c:Text):List Int:=((De l c).filter fun d=>Nm.under d.text c).map fun d=>aO l ⟨d.text,1⟩
def iJ (l:List Signed) (c:Text):List Int:=cV (aO l ⟨c,2⟩::oS l c::me l c)
def ja (z:aU) (q:aS):ia :=
 if 0≤aO z.af q then ⟨1,dI z.af [aO z.af q],[]⟩
 else if 0≤aO z.af ⟨q.name,3⟩∧q.type≠8 then ⟨3,dI z.af [aO z.af ⟨q.name,3⟩],[]⟩
 else if jA z.af q.name then ⟨5,dI z.af (cV [aO z.af ⟨z.ab,4⟩,eM z.af q.name]),[]⟩
 else match rB z.af q.name with
  |none=>⟨6,dI z.af (cV [aO z.af ⟨z.ab,4⟩,eM z.af q.name]),[]⟩
  |some w =>
   if 0≤aO z.af ⟨w,q.type⟩ then ⟨2,dI z.af (cV [aO z.af ⟨w,q.type⟩,eM z.af q.name]),[]⟩
   else if 0≤aO z.af ⟨w,3⟩∧q.type≠8 then ⟨3,dI z.af (cV [aO z.af ⟨w,3⟩,eM z.af q.name]),[]⟩
   else if jA z.af w then ⟨5,dI z.af (cV [aO z.af ⟨z.ab,4⟩,eM z.af q.name,eM z.af w]),[]⟩
   else ⟨6,dI z.af (cV [aO z.af ⟨z.ab,4⟩,eM z.af q.name,eM z.af w]),[]⟩
def bO (z:aU) (q:aS):ia :=
 if Nm.under q.name z.ab then
  match lu z q.name with
  |some c=>if q.name=c∧(q.type=6∨q.type=8) then ja z q else ⟨4,dI z.af (iJ z.af c),c⟩
  |none=>ja z q
 else ⟨7,[],[]⟩
def fp (q:aS):Bool:=Nm.valid q.name&&(decide (1≤q.type)&&decide (q.type≤8))
def pP (z:aU) (q:aS):Int:=if eV z&&fp q then 0 else 1
def pQ (z:aU) (q:aS):ia:=if pP z q=0 then bO z q else ⟨0,[],[]⟩
structure gd (z:aU):Prop where
 sorted:fI z.af
 names:∀ s∈z.af,Nm.valid s.set.name=true
 af:∀ s∈z.af,fc s.set=true
 ab:Nm.valid z.ab=true
 under:∀ s∈z.af,Nm.under s.set.name z.ab=true
 len:z.af.length≤20000
 start:0≤aO z.af ⟨z.ab,4⟩
 c9:∀ c∈bN z.ab z.af,∀ d∈bN z.ab z.af,∀ n,Nm.under n c=true→Nm.under n d=true→c=d
theorem lv {z:aU} (h:eV z=true):gd z:=by
 have h0:=h;simp only [eV,Bool.and_eq_true] at h;obtain ⟨h1,-,-,h4,-⟩:=h;obtain ⟨hs,hv,hn⟩:=G' h1;obtain ⟨hl,aK,Ox⟩:=uQ h1;have aJ:∀ s∈z.af,s.set.name≠[]:=fun s h=>(hn s h).1;have hA:=NM (ab:=z.ab) (C7 hs);obtain ⟨g1,g2,g3⟩:=NF _ hA;have Oy:∀ c∈bN z.ab z.af,c≠[]:=fun c hc=>by
  obtain ⟨s,h,rfl,-⟩:=oH hc;exact aJ s h
 have aT:∀ c∈bN z.ab z.af,c∈([]:List Text)++z.af.map (·.set.name):=fun c hc=>by
  obtain ⟨s,h,rfl,-⟩:=oH hc
  simpa using ⟨s,h,rfl⟩
 have bT:=Ot g1 g2 xb g3 Oy (z.af.map (·.set.name)) [] [] 0 (by simpa using C7 hs) aT (Nat.zero_le _) rfl (fun m d hm=>by omega);have dT:∀ c∈bN z.ab z.af,c∈fe (bN z.ab z.af):=fun c hc=>by
  obtain ⟨s,Xt,rfl,hcut⟩:=oH hc;obtain ⟨i,hi⟩:=List.getElem?_of_mem Xt;have ai:=aZ hi;obtain ⟨b,hb⟩:=aY (l:=iV z) (k:=i) (by rw [sM]; exact ai);have hF:=bT i s.set.name b (by simp [hi]) hb;obtain ⟨d,hd,hu⟩:=g3 _ hc;rcases hF with ⟨k1,k2⟩ | ⟨-,k2⟩
  ·have hz:=List.all_eq_true.1 h4 (s,b) (List.mem_of_getElem? (xd hi hb));have iG:b≠[]:=Oy b (xb b k1);have ht:s.set.type=2:=by
    simp only [ir,Bool.and_eq_true,beq_iff_eq] at hcut;exact hcut.1
   simp only [pG,Bool.and_eq_true] at hz;have h5:=hz.1.1;simp [iG,ht] at h5;rw [h5];exact k1
  ·rw [k2 d hd] at hu; cases hu
 obtain ⟨k,s,d,e1,-⟩:=Hs h0;refine ⟨hs,hv,fun s h=>?_,Ox,fun s h=>?_,hl,by rw [e1]; omega,fun c hc d hd n eB rq=>NG g1 g2 (dT c hc) (dT d hd) eB rq⟩
 ·have:=aK s h; simp only [fo,Bool.and_eq_true] at this; exact this.1
 ·have:=aK s h; simp only [fo,Bool.and_eq_true] at this; exact this.2
theorem gd.Xu {z:aU} (V:gd z):jA z.af z.ab=true:=by
 obtain ⟨s,h1,h2⟩:=rA V.start;exact List.any_eq_true.2 ⟨s,List.mem_of_getElem? h1,V.under s (List.mem_of_getElem? h1)⟩
end Go.Proofs.YtcmnpelmmekdkaaGreatDoor.P
