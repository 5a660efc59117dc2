/- Several texts of mine, one behind the other. Conditions: as each says. -/
import Derived.Test.YtfmdaiojokniiaaGreatDoorY19
import Derived.Test.YtfmdaiojokniiaaGreatDoorY23
set_option linter.unusedVariables false
set_option linter.unusedSimpArgs false
namespace Go.Proofs.YtfmdaiojokniiaaGreatDoor.P
open Go Go.ax
set_option maxRecDepth 100000
theorem TZ {x y:Signed}:mc y.set x.set=0↔cE ⟨x.set.name,x.set.type⟩ y=true:=by
 rw [← zR,← uA];show _↔(mi y.set.name y.set.type x.set.name x.set.type==0)=true;simp
theorem T0 {l:List Signed} (h:fc l) {k:Nat} {x:Signed} (hx:l[k]? = some x):aU l ⟨x.set.name,x.set.type⟩=k :=
 H9 (fun j y hj hy=>by
  have h1:=h j k y x hj hy hx;cases e:cE ⟨x.set.name,x.set.type⟩ y
  ·rfl
  ·rw [TZ.2 e] at h1; omega) hx (by simp [cE])
theorem Ex {l:List Signed} {q:bw} (h:0≤aU l q):∃ s,l[(aU l q).toNat]? = some s∧cE q s=true:=by
 unfold aU at h ⊢;cases e:l.findIdx? (cE q) with
 |none=>rw [e] at h; simp at h
 |some k =>
  obtain ⟨h1,h2,_⟩:=List.findIdx?_eq_some_iff_getElem.1 e;exact ⟨l[k],by simp,h2⟩
theorem fP {l:List Signed} {q:bw} : -1≤aU l q∧aU l q<l.length:=by
 unfold aU;cases e:l.findIdx? (cE q) with
 |none=>exact ⟨Int.le_refl _,by show (-1:Int)<l.length; omega⟩
 |some k =>
  obtain ⟨h1,h2,_⟩:=List.findIdx?_eq_some_iff_getElem.1 e;exact ⟨by show (-1:Int)≤(k:Int); omega,by show (k:Int)<l.length; omega⟩
theorem Ey {q:bw} {s:Signed} (h:cE q s=true):q=⟨s.set.name,s.set.type⟩:=by
 obtain ⟨n,t⟩:=q;simp [cE] at h;rw [h.1,h.2]
def dV (l:List Signed) (ps:List Int):List Signed:=ps.filterMap fun p=>l[p.toNat]?
def jA (ps:List Int) (p:Int):List Int:=if p<0∨p∈ps then ps else ps++[p]
def cF (ps:List Int):List Int:=ps.foldl jA []
def xT (l:List Signed) (ps:List Int):Prop:=∀ p∈ps,0≤p∧p<l.length
theorem xT.nil {l:List Signed}:xT l []:=fun p hp=>by simp at hp
theorem xT.add {l:List Signed} {ps:List Int} {p:Int} (h:xT l ps) (hp:p<l.length):xT l (jA ps p):=by
 unfold jA;split
 ·exact h
 ·rename_i hn;intro q hq;rcases List.mem_append.1 hq with hq | hq
  ·exact h q hq
  ·rw [List.mem_singleton.1 hq];exact ⟨by omega,hp⟩
theorem T1 {ps:List Int} {p:Int}:cF (ps++[p])=jA (cF ps) p:=by rw [cF,List.foldl_append]; rfl
theorem Ku {ps:List Int} {k:Nat} {p:Int} (h:ps[k]? = some p):cF (ps.take (k+1))=jA (cF (ps.take k)) p:=by rw [cQ h,T1]
theorem T2 {p:Int}:∀ {ps:List Int},p∈cF ps↔0≤p∧p∈ps:=by
 have main:∀ (ps acc:List Int),(∀ q∈acc,0≤q)→(p∈ps.foldl jA acc↔p∈acc∨(0≤p∧p∈ps)):=by
  intro ps
  induction ps with
  |nil=>intro acc _; simp
  |cons x ps ih =>
   intro acc ha;rw [List.foldl_cons,ih]
   ·unfold jA;split
    ·rename_i hx;constructor
     ·rintro (h | h)
      ·exact .inl h
      ·exact .inr ⟨h.1,List.mem_cons_of_mem _ h.2⟩
     ·rintro (h | ⟨h1,h2⟩)
      ·exact .inl h
      ·rcases List.mem_cons.1 h2 with rfl | h2
       ·rcases hx with hx | hx
        ·omega
        ·exact .inl hx
       ·exact .inr ⟨h1,h2⟩
    ·rename_i hx;simp only [List.mem_append,List.mem_cons,List.not_mem_nil,or_false];constructor
     ·rintro ((h | rfl) | h)
      ·exact .inl h
      ·exact .inr ⟨by omega,.inl rfl⟩
      ·exact .inr ⟨h.1,.inr h.2⟩
     ·rintro (h | ⟨h1,h2⟩)
      ·exact .inl (.inl h)
      ·rcases h2 with rfl | h2
       ·exact .inl (.inr rfl)
       ·exact .inr ⟨h1,h2⟩
   ·intro q hq;unfold jA at hq;split at hq
    ·exact ha q hq
    ·rename_i hx;rcases List.mem_append.1 hq with hq | hq
     ·exact ha q hq
     ·rw [List.mem_singleton.1 hq]; omega
 intro ps;have:=main ps [] (fun q hq=>by simp at hq)
 simpa [cF] using this
theorem T3 {ps:List Int}:(cF ps).length≤ps.length:=by
 have main:∀ (ps acc:List Int),(ps.foldl jA acc).length≤acc.length+ps.length:=by
  intro ps
  induction ps with
  |nil=>intro acc; simp
  |cons x ps ih =>
   intro acc;rw [List.foldl_cons];refine Nat.le_trans (ih _) ?_;have:(jA acc x).length≤acc.length+1:=by unfold jA; split <;> simp
   simp; omega
 have:=main ps []
 simpa [cF] using this
theorem T4 {l:List Signed} {ps:List Int}:(dV l ps).length≤ps.length:=List.length_filterMap_le ..
theorem T5 {l:List Signed} {ps:List Int} {p:Int} {s:Signed} (h0:0≤p) (hs:l[p.toNat]? = some s):dV l (jA ps p)=if p∈ps then dV l ps else dV l ps++[s]:=by
 unfold jA;by_cases h:p∈ps
 ·rw [if_pos (.inr h),if_pos h]
 ·rw [if_neg (by rintro (e | e); omega; exact h e),if_neg h,dV,List.filterMap_append];simp [dV,hs]
def jc (l:List Signed) (n:Text):Bool:=l.any fun s=>Nm.under s.set.name n
def gh (P:Signed→Bool) (l:List Signed):Nat:=(l.takeWhile P).length
theorem xU {P:Signed→Bool} {l:List Signed}:gh P l≤l.length:=by
 unfold gh;exact (List.takeWhile_sublist P).length_le
theorem Ez {P:Signed→Bool}:∀ {l:List Signed} (_:∀ (i j:Nat) (x y:Signed),i<j→l[i]? = some x→l[j]? = some y→P y=true→P x=true) {i:Nat} {x:Signed} (_:l[i]? = some x),P x=true↔i<gh P l
 | [],_,i,x,hx=>by simp at hx
 |a::l,hd,i,x,hx=>by
  unfold gh;rw [List.takeWhile_cons];cases ha:P a
  ·simp only [Bool.false_eq_true,if_false,List.length_nil,Nat.not_lt_zero,iff_false];intro e;cases i with
   |zero=>simp at hx; subst hx; rw [ha] at e; cases e
   |succ i =>
    have:=hd 0 (i+1) a x (by omega) rfl hx e;rw [ha] at this; cases this
  ·rw [if_pos rfl,List.length_cons];cases i with
   |zero=>simp at hx; subst hx; simp [ha]
   |succ i =>
    have:=Ez (P:=P) (l:=l) (fun i j x y h h1 h2=>hd (i+1) (j+1) x y (by omega) h1 h2) (i:=i) (x:=x) (by simpa using hx);unfold gh at this;rw [this];omega
theorem T6 {a b c:Text} (h:bp a b≤0) (k:bp b c<0):bp a c<0:=by
 rcases Int.lt_or_eq_of_le h with h | h
 ·exact xi h k
 ·rw [nT h]; exact k
theorem EA {l:List Signed} (hs:fc l) {i j:Nat} {x y:Signed} (h:i<j) (hx:l[i]? = some x) (hy:l[j]? = some y):bp x.set.name y.set.name≤0:=DD (hs i j x y h hx hy)
def gY (n:Text) (s:Signed):Bool:=decide (bp s.set.name n<0)
def iv (n:Text) (s:Signed):Bool:=decide (bp s.set.name n≤0)
theorem lt_iff {l:List Signed} (hs:fc l) {n:Text} {i:Nat} {x:Signed} (hx:l[i]? = some x):bp x.set.name n<0↔i<gh (gY n) l:=by
 rw [← Ez (P:=gY n) (fun i j x y h h1 h2 h3=>by
  simp only [gY,decide_eq_true_eq] at h3 ⊢
  exact T6 (EA hs h h1 h2) h3) hx]
 simp [gY]
theorem le_iff {l:List Signed} (hs:fc l) {n:Text} {i:Nat} {x:Signed} (hx:l[i]? = some x):bp x.set.name n≤0↔i<gh (iv n) l:=by
 rw [← Ez (P:=iv n) (fun i j x y h h1 h2 h3=>by
  simp only [iv,decide_eq_true_eq] at h3 ⊢
  exact zV (EA hs h h1 h2) h3) hx]
 simp [iv]
theorem T7 {l:List Signed} (hs:fc l) {n:Text}:jc l n=match l[gh (gY n) l]? with
  |some s=>Nm.under s.set.name n
  |none=>false:=by
 rw [Bool.eq_iff_iff];constructor
 ·intro h;obtain ⟨x,hx,hu⟩:=List.any_eq_true.1 h;obtain ⟨j,hj⟩:=List.getElem?_of_mem hx;have h1:=xj hu;have h2:¬ bp x.set.name n<0:=by rw [xh]; omega
  have h3:gh (gY n) l≤j:=by have:=(lt_iff hs (n:=n) hj); omega
  obtain ⟨s,ib⟩:=aD (l:=l) (k:=gh (gY n) l) (by have:=(List.getElem?_eq_some_iff.1 hj).1; omega);rw [ib];show Nm.under s.set.name n=true;rcases Nat.lt_or_eq_of_le h3 with h3 | h3
  ·have h4:¬ bp s.set.name n<0:=fun e=>by have:=(lt_iff hs (n:=n) ib).1 e; omega
   exact uz (by rw [xh]; omega) (EA hs h3 ib hj) hu
  ·rw [← h3,ib] at hj; cases hj; exact hu
 ·intro h;cases e:l[gh (gY n) l]? with
  |none=>rw [e] at h; cases h
  |some s=>rw [e] at h; exact List.any_eq_true.2 ⟨s,List.mem_of_getElem? e,h⟩
def n' (P:Nat→Bool):Nat→Int
 | 0 => -1
 |n+1=>if P n then (n:Int) else n' P n
theorem Kv {P:Nat→Bool}:∀ {n:Nat},-1≤n' P n∧n' P n<n
 | 0=>by simp [n']
 |n+1=>by
  have:=Kv (P:=P) (n:=n);rw [n'];split <;> omega
def uU (l:List Signed) (i:Nat):Bool:=match l[i]? with
 |some s=>s.set.type==8
 |none=>false
def eb (l:List Signed) (n:Text):Int:=n' (uU l) (gh (iv n) l)
theorem sE {l:List Signed} {n:Text} : -1≤eb l n∧eb l n<l.length:=by
 have h1:=Kv (P:=uU l) (n:=gh (iv n) l);have h2:=xU (P:=iv n) (l:=l);unfold eb;omega
def fC (L:List Text):Text:=if L=[] then [46] else Nm.glue L
theorem xV (s:Text):fC (Nm.labels s)=s:=by
 unfold fC Nm.labels;by_cases h:s=[46]
 ·rw [if_pos h,if_pos rfl,h]
 ·rw [if_neg h,if_neg (Nm.l7 s),Nm.rT]
def lD (l:List Signed):List Text→List Text
 | []=>[]
 |x::r=>if jc l (fC (x::r)) then x::r else lD l r
def na (M:List Text):Option Text:=if Nm.parts M&&decide ((fC M).length≤60) then some (fC M) else none
def qB (l:List Signed) (s:Text):Option Text:=na ([42]::lD l (Nm.labels s))
def lE (z:aR) (n:Text):Option Text:=(bR z.aj z.ab).find? fun c=>Nm.under n c
def sF (l:List Signed) (c:Text):Int:=if aU l ⟨c,6⟩<0 then aU l ⟨c,8⟩ else aU l ⟨c,6⟩
def EB (l:List Signed) (c:Text):List Datum:=match l[(aU l ⟨c,2⟩).toNat]? with
 |some s=>s.set.data
 |none=>[]
def sG (l:List Signed) (c:Text):List Int:=((EB l c).filter fun d=>Nm.under d.text c).map fun d=>aU l ⟨d.text,1⟩
def ka (l:List Signed) (c:Text):List Int:=cF (aU l ⟨c,2⟩::sF l c::sG l c)
def oa (z:aR) (q:bw):dP :=
 if 0≤aU z.ab q then ⟨1,dV z.ab [aU z.ab q],[]⟩
 else if 0≤aU z.ab ⟨q.name,3⟩∧q.type≠8 then ⟨3,dV z.ab [aU z.ab ⟨q.name,3⟩],[]⟩
 else if jc z.ab q.name then ⟨5,dV z.ab (cF [aU z.ab ⟨z.aj,4⟩,eb z.ab q.name]),[]⟩
 else match qB z.ab q.name with
  |none=>⟨6,dV z.ab (cF [aU z.ab ⟨z.aj,4⟩,eb z.ab q.name]),[]⟩
  |some w =>
   if 0≤aU z.ab ⟨w,q.type⟩ then ⟨2,dV z.ab (cF [aU z.ab ⟨w,q.type⟩,eb z.ab q.name]),[]⟩
   else if 0≤aU z.ab ⟨w,3⟩∧q.type≠8 then ⟨3,dV z.ab (cF [aU z.ab ⟨w,3⟩,eb z.ab q.name]),[]⟩
   else if jc z.ab w then ⟨5,dV z.ab (cF [aU z.ab ⟨z.aj,4⟩,eb z.ab q.name,eb z.ab w]),[]⟩
   else ⟨6,dV z.ab (cF [aU z.ab ⟨z.aj,4⟩,eb z.ab q.name,eb z.ab w]),[]⟩
def qC (z:aR) (q:bw):dP :=
 if Nm.under q.name z.aj then
  match lE z q.name with
  |some c=>if q.name=c∧(q.type=6∨q.type=8) then oa z q else ⟨4,dV z.ab (ka z.ab c),c⟩
  |none=>oa z q
 else ⟨7,[],[]⟩
def pr (z:aR) (q:bw):Int:=if dI z&&gg q then 0 else 1
def nb (z:aR) (q:bw):dP:=if pr z q=0 then qC z q else ⟨0,[],[]⟩
structure gv (z:aR):Prop where
 sorted:fc z.ab
 names:∀ s∈z.ab,Nm.valid s.set.name=true
 ab:∀ s∈z.ab,ev s.set=true
 aj:Nm.valid z.aj=true
 under:∀ s∈z.ab,Nm.under s.set.name z.aj=true
 len:z.ab.length≤20000
 start:0≤aU z.ab ⟨z.aj,4⟩
 cu:∀ c∈bR z.aj z.ab,∀ d∈bR z.aj z.ab,∀ n,Nm.under n c=true→Nm.under n d=true→c=d
theorem Kw {z:aR} (h:dI z=true):gv z:=by
 have h0:=h;simp only [dI,Bool.and_eq_true] at h;obtain ⟨h1,-,-,h4,-⟩:=h;obtain ⟨hs,hv,hn⟩:=IY h1;obtain ⟨hl,aM,uK⟩:=uy h1;have aJ:∀ s∈z.ab,s.set.name≠[]:=fun s h=>(hn s h).1;have hA:=IU (aj:=z.aj) (zX hs);obtain ⟨g1,g2,g3⟩:=IL _ hA;have Kx:∀ c∈bR z.aj z.ab,c≠[]:=fun c hc=>by
  obtain ⟨s,h,rfl,-⟩:=nR hc;exact aJ s h
 have aH:∀ c∈bR z.aj z.ab,c∈([]:List Text)++z.ab.map (·.set.name):=fun c hc=>by
  obtain ⟨s,h,rfl,-⟩:=nR hc
  simpa using ⟨s,h,rfl⟩
 have bD:=Kt g1 g2 uv g3 Kx (z.ab.map (·.set.name)) [] [] 0 (by simpa using zX hs) aH (Nat.zero_le _) rfl (fun m d hm=>by omega);have gJ:∀ c∈bR z.aj z.ab,c∈ew (bR z.aj z.ab):=fun c hc=>by
  obtain ⟨s,Ay,rfl,hcut⟩:=nR hc;obtain ⟨i,hi⟩:=List.getElem?_of_mem Ay;have ai:=aT hi;obtain ⟨b,hb⟩:=aD (l:=gP z) (k:=i) (by rw [qj]; exact ai);have hF:=bD i s.set.name b (by simp [hi]) hb;obtain ⟨d,hd,hu⟩:=g3 _ hc;rcases hF with ⟨k1,k2⟩ | ⟨-,k2⟩
  ·have hz:=List.all_eq_true.1 h4 (s,b) (List.mem_of_getElem? (uw hi hb));have mF:b≠[]:=Kx b (uv b k1);have ht:s.set.type=2:=by
    simp only [gu,Bool.and_eq_true,beq_iff_eq] at hcut;exact hcut.1
   simp only [nS,Bool.and_eq_true] at hz;have h5:=hz.1.1;simp [mF,ht] at h5;rw [h5];exact k1
  ·rw [k2 d hd] at hu; cases hu
 obtain ⟨k,s,d,e1,-⟩:=TY h0;refine ⟨hs,hv,fun s h=>?_,uK,fun s h=>?_,hl,by rw [e1]; omega,fun c hc d hd n dy o9=>IM g1 g2 (gJ c hc) (gJ d hd) dy o9⟩
 ·have:=aM s h; simp only [eC,Bool.and_eq_true] at this; exact this.1
 ·have:=aM s h; simp only [eC,Bool.and_eq_true] at this; exact this.2
theorem gv.T8 {z:aR} (V:gv z):jc z.ab z.aj=true:=by
 obtain ⟨s,h1,h2⟩:=Ex V.start;exact List.any_eq_true.2 ⟨s,List.mem_of_getElem? h1,V.under s (List.mem_of_getElem? h1)⟩
end Go.Proofs.YtfmdaiojokniiaaGreatDoor.P
