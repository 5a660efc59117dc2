/- Several texts of mine, one behind the other. Conditions: as each says. -/
import Derived.Test.YtfmdaiojokniiaaGreatDoorV19
import Derived.Test.YtfmdaiojokniiaaGreatDoorV24
set_option linter.unusedVariables false
set_option linter.unusedSimpArgs false
namespace Go.Proofs.YtfmdaiojokniiaaGreatDoor.P
open Go Go.aw
set_option maxRecDepth 100000
theorem Uh {x y:Signed}:mG y.set x.set=0↔cE ⟨x.set.name,x.set.type⟩ y=true:=by
 rw [← Al,← uV];show _↔(mJ y.set.name y.set.type x.set.name x.set.type==0)=true;simp
theorem Ui {l:List Signed} (h:fp l) {k:Nat} {x:Signed} (hx:l[k]? = some x):aU l ⟨x.set.name,x.set.type⟩=k :=
 IL (fun j y hj hy=>by
  have h1:=h j k y x hj hy hx;cases e:cE ⟨x.set.name,x.set.type⟩ y
  ·rfl
  ·rw [Uh.2 e] at h1; omega) hx (by simp [cE])
theorem EZ {l:List Signed} {q:bj} (h:0≤aU l q):∃ s,l[(aU l q).toNat]? = some s∧cE q s=true:=by
 unfold aU at h ⊢;cases e:l.findIdx? (cE q) with
 |none=>rw [e] at h; simp at h
 |some k =>
  obtain ⟨h1,h2,_⟩:=List.findIdx?_eq_some_iff_getElem.1 e;exact ⟨l[k],by simp,h2⟩
theorem fX {l:List Signed} {q:bj} : -1≤aU l q∧aU l q<l.length:=by
 unfold aU;cases e:l.findIdx? (cE q) with
 |none=>exact ⟨Int.le_refl _,by show (-1:Int)<l.length; omega⟩
 |some k =>
  obtain ⟨h1,h2,_⟩:=List.findIdx?_eq_some_iff_getElem.1 e;exact ⟨by show (-1:Int)≤(k:Int); omega,by show (k:Int)<l.length; omega⟩
theorem E0 {q:bj} {s:Signed} (h:cE q s=true):q=⟨s.set.name,s.set.type⟩:=by
 obtain ⟨n,t⟩:=q;simp [cE] at h;rw [h.1,h.2]
def dq (l:List Signed) (ps:List Int):List Signed:=ps.filterMap fun p=>l[p.toNat]?
def gL (ps:List Int) (p:Int):List Int:=if p<0∨p∈ps then ps else ps++[p]
def cA (ps:List Int):List Int:=ps.foldl gL []
def yj (l:List Signed) (ps:List Int):Prop:=∀ p∈ps,0≤p∧p<l.length
theorem yj.nil {l:List Signed}:yj l []:=fun p hp=>by simp at hp
theorem yj.add {l:List Signed} {ps:List Int} {p:Int} (h:yj l ps) (hp:p<l.length):yj l (gL ps p):=by
 unfold gL;split
 ·exact h
 ·rename_i hn;intro q hq;rcases List.mem_append.1 hq with hq | hq
  ·exact h q hq
  ·rw [List.mem_singleton.1 hq];exact ⟨by omega,hp⟩
theorem Uj {ps:List Int} {p:Int}:cA (ps++[p])=gL (cA ps) p:=by rw [cA,List.foldl_append]; rfl
theorem KQ {ps:List Int} {k:Nat} {p:Int} (h:ps[k]? = some p):cA (ps.take (k+1))=gL (cA (ps.take k)) p:=by rw [cI h,Uj]
theorem Uk {p:Int}:∀ {ps:List Int},p∈cA ps↔0≤p∧p∈ps:=by
 have main:∀ (ps acc:List Int),(∀ q∈acc,0≤q)→(p∈ps.foldl gL acc↔p∈acc∨(0≤p∧p∈ps)):=by
  intro ps
  induction ps with
  |nil=>intro acc _; simp
  |cons x ps ih =>
   intro acc ha;rw [List.foldl_cons,ih]
   ·unfold gL;split
    ·rename_i hx;constructor
     ·rintro (h | h)
      ·exact .inl h
      ·exact .inr ⟨h.1,List.mem_cons_of_mem _ h.2⟩
     ·rintro (h | ⟨h1,h2⟩)
      ·exact .inl h
      ·rcases List.mem_cons.1 h2 with rfl | h2
       ·rcases hx with hx | hx
        ·omega
        ·exact .inl hx
       ·exact .inr ⟨h1,h2⟩
    ·rename_i hx;simp only [List.mem_append,List.mem_cons,List.not_mem_nil,or_false];constructor
     ·rintro ((h | rfl) | h)
      ·exact .inl h
      ·exact .inr ⟨by omega,.inl rfl⟩
      ·exact .inr ⟨h.1,.inr h.2⟩
     ·rintro (h | ⟨h1,h2⟩)
      ·exact .inl (.inl h)
      ·rcases h2 with rfl | h2
       ·exact .inl (.inr rfl)
       ·exact .inr ⟨h1,h2⟩
   ·intro q hq;unfold gL at hq;split at hq
    ·exact ha q hq
    ·rename_i hx;rcases List.mem_append.1 hq with hq | hq
     ·exact ha q hq
     ·rw [List.mem_singleton.1 hq]; omega
 intro ps;have:=main ps [] (fun q hq=>by simp at hq)
 simpa [cA] using this
theorem Ul {ps:List Int}:(cA ps).length≤ps.length:=by
 have main:∀ (ps acc:List Int),(ps.foldl gL acc).length≤acc.length+ps.length:=by
  intro ps
  induction ps with
  |nil=>intro acc; simp
  |cons x ps ih =>
   intro acc;rw [List.foldl_cons];refine Nat.le_trans (ih _) ?_;have:(gL acc x).length≤acc.length+1:=by unfold gL; split <;> simp
   simp; omega
 have:=main ps []
 simpa [cA] using this
theorem Um {l:List Signed} {ps:List Int}:(dq l ps).length≤ps.length:=List.length_filterMap_le ..
theorem Un {l:List Signed} {ps:List Int} {p:Int} {s:Signed} (h0:0≤p) (hs:l[p.toNat]? = some s):dq l (gL ps p)=if p∈ps then dq l ps else dq l ps++[s]:=by
 unfold gL;by_cases h:p∈ps
 ·rw [if_pos (.inr h),if_pos h]
 ·rw [if_neg (by rintro (e | e); omega; exact h e),if_neg h,dq,List.filterMap_append];simp [dq,hs]
def jm (l:List Signed) (n:Text):Bool:=l.any fun s=>Nm.under s.set.name n
def gv (P:Signed→Bool) (l:List Signed):Nat:=(l.takeWhile P).length
theorem yk {P:Signed→Bool} {l:List Signed}:gv P l≤l.length:=by
 unfold gv;exact (List.takeWhile_sublist P).length_le
theorem E1 {P:Signed→Bool}:∀ {l:List Signed} (_:∀ (i j:Nat) (x y:Signed),i<j→l[i]? = some x→l[j]? = some y→P y=true→P x=true) {i:Nat} {x:Signed} (_:l[i]? = some x),P x=true↔i<gv P l
 | [],_,i,x,hx=>by simp at hx
 |a::l,hd,i,x,hx=>by
  unfold gv;rw [List.takeWhile_cons];cases ha:P a
  ·simp only [Bool.false_eq_true,if_false,List.length_nil,Nat.not_lt_zero,iff_false];intro e;cases i with
   |zero=>simp at hx; subst hx; rw [ha] at e; cases e
   |succ i =>
    have:=hd 0 (i+1) a x (by omega) rfl hx e;rw [ha] at this; cases this
  ·rw [if_pos rfl,List.length_cons];cases i with
   |zero=>simp at hx; subst hx; simp [ha]
   |succ i =>
    have:=E1 (P:=P) (l:=l) (fun i j x y h h1 h2=>hd (i+1) (j+1) x y (by omega) h1 h2) (i:=i) (x:=x) (by simpa using hx);unfold gv at this;rw [this];omega
theorem Uo {a b c:Text} (h:bu a b≤0) (k:bu b c<0):bu a c<0:=by
 rcases Int.lt_or_eq_of_le h with h | h
 ·exact xJ h k
 ·rw [ow h]; exact k
theorem E2 {l:List Signed} (hs:fp l) {i j:Nat} {x y:Signed} (h:i<j) (hx:l[i]? = some x) (hy:l[j]? = some y):bu x.set.name y.set.name≤0:=D4 (hs i j x y h hx hy)
def ic (n:Text) (s:Signed):Bool:=decide (bu s.set.name n<0)
def iG (n:Text) (s:Signed):Bool:=decide (bu s.set.name n≤0)
theorem lt_iff {l:List Signed} (hs:fp l) {n:Text} {i:Nat} {x:Signed} (hx:l[i]? = some x):bu x.set.name n<0↔i<gv (ic n) l:=by
 rw [← E1 (P:=ic n) (fun i j x y h h1 h2 h3=>by
  simp only [ic,decide_eq_true_eq] at h3 ⊢
  exact Uo (E2 hs h h1 h2) h3) hx]
 simp [ic]
theorem le_iff {l:List Signed} (hs:fp l) {n:Text} {i:Nat} {x:Signed} (hx:l[i]? = some x):bu x.set.name n≤0↔i<gv (iG n) l:=by
 rw [← E1 (P:=iG n) (fun i j x y h h1 h2 h3=>by
  simp only [iG,decide_eq_true_eq] at h3 ⊢
  exact Ap (E2 hs h h1 h2) h3) hx]
 simp [iG]
theorem Up {l:List Signed} (hs:fp l) {n:Text}:jm l n=match l[gv (ic n) l]? with
  |some s=>Nm.under s.set.name n
  |none=>false:=by
 rw [Bool.eq_iff_iff];constructor
 ·intro h;obtain ⟨x,hx,hu⟩:=List.any_eq_true.1 h;obtain ⟨j,hj⟩:=List.getElem?_of_mem hx;have h1:=xK hu;have h2:¬ bu x.set.name n<0:=by rw [xI]; omega
  have h3:gv (ic n) l≤j:=by have:=(lt_iff hs (n:=n) hj); omega
  obtain ⟨s,ir⟩:=aL (l:=l) (k:=gv (ic n) l) (by have:=(List.getElem?_eq_some_iff.1 hj).1; omega);rw [ir];show Nm.under s.set.name n=true;rcases Nat.lt_or_eq_of_le h3 with h3 | h3
  ·have h4:¬ bu s.set.name n<0:=fun e=>by have:=(lt_iff hs (n:=n) ir).1 e; omega
   exact uU (by rw [xI]; omega) (E2 hs h3 ir hj) hu
  ·rw [← h3,ir] at hj; cases hj; exact hu
 ·intro h;cases e:l[gv (ic n) l]? with
  |none=>rw [e] at h; cases h
  |some s=>rw [e] at h; exact List.any_eq_true.2 ⟨s,List.mem_of_getElem? e,h⟩
def oG (P:Nat→Bool):Nat→Int
 | 0 => -1
 |n+1=>if P n then (n:Int) else oG P n
theorem KR {P:Nat→Bool}:∀ {n:Nat},-1≤oG P n∧oG P n<n
 | 0=>by simp [oG]
 |n+1=>by
  have:=KR (P:=P) (n:=n);rw [oG];split <;> omega
def vu (l:List Signed) (i:Nat):Bool:=match l[i]? with
 |some s=>s.set.type==8
 |none=>false
def ea (l:List Signed) (n:Text):Int:=oG (vu l) (gv (iG n) l)
theorem s9 {l:List Signed} {n:Text} : -1≤ea l n∧ea l n<l.length:=by
 have h1:=KR (P:=vu l) (n:=gv (iG n) l);have h2:=yk (P:=iG n) (l:=l);unfold ea;omega
def fI (L:List Text):Text:=if L=[] then [46] else Nm.glue L
theorem yl (s:Text):fI (Nm.labels s)=s:=by
 unfold fI Nm.labels;by_cases h:s=[46]
 ·rw [if_pos h,if_pos rfl,h]
 ·rw [if_neg h,if_neg (Nm.mA s),Nm.sy]
def lY (l:List Signed):List Text→List Text
 | []=>[]
 |x::r=>if jm l (fI (x::r)) then x::r else lY l r
def nH (M:List Text):Option Text:=if Nm.parts M&&decide ((fI M).length≤60) then some (fI M) else none
def rh (l:List Signed) (s:Text):Option Text:=nH ([42]::lY l (Nm.labels s))
def lZ (z:aG) (n:Text):Option Text:=(bV z.ah z.ab).find? fun c=>Nm.under n c
def rj (l:List Signed) (c:Text):Int:=if aU l ⟨c,6⟩<0 then aU l ⟨c,8⟩ else aU l ⟨c,6⟩
def ym (l:List Signed) (c:Text):List Datum:=match l[(aU l ⟨c,2⟩).toNat]? with
 |some s=>s.set.data
 |none=>[]
def oH (l:List Signed) (c:Text):List Int:=((ym l c).filter fun d=>Nm.under d.text c).map fun d=>aU l ⟨d.text,1⟩
def ki (l:List Signed) (c:Text):List Int:=cA (aU l ⟨c,2⟩::rj l c::oH l c)
def kX (z:aG) (q:bj):dC :=
 if 0≤aU z.ab q then ⟨1,dq z.ab [aU z.ab q],[]⟩
 else if 0≤aU z.ab ⟨q.name,3⟩∧q.type≠8 then ⟨3,dq z.ab [aU z.ab ⟨q.name,3⟩],[]⟩
 else if jm z.ab q.name then ⟨5,dq z.ab (cA [aU z.ab ⟨z.ah,4⟩,ea z.ab q.name]),[]⟩
 else match rh z.ab q.name with
  |none=>⟨6,dq z.ab (cA [aU z.ab ⟨z.ah,4⟩,ea z.ab q.name]),[]⟩
  |some w =>
   if 0≤aU z.ab ⟨w,q.type⟩ then ⟨2,dq z.ab (cA [aU z.ab ⟨w,q.type⟩,ea z.ab q.name]),[]⟩
   else if 0≤aU z.ab ⟨w,3⟩∧q.type≠8 then ⟨3,dq z.ab (cA [aU z.ab ⟨w,3⟩,ea z.ab q.name]),[]⟩
   else if jm z.ab w then ⟨5,dq z.ab (cA [aU z.ab ⟨z.ah,4⟩,ea z.ab q.name,ea z.ab w]),[]⟩
   else ⟨6,dq z.ab (cA [aU z.ab ⟨z.ah,4⟩,ea z.ab q.name,ea z.ab w]),[]⟩
def nI (z:aG) (q:bj):dC :=
 if Nm.under q.name z.ah then
  match lZ z q.name with
  |some c=>if q.name=c∧(q.type=6∨q.type=8) then kX z q else ⟨4,dq z.ab (ki z.ab c),c⟩
  |none=>kX z q
 else ⟨7,[],[]⟩
def kj (z:aG) (q:bj):Int:=if dE z&&gr q then 0 else 1
def fJ (z:aG) (q:bj):dC:=if kj z q=0 then nI z q else ⟨0,[],[]⟩
structure gM (z:aG):Prop where
 sorted:fp z.ab
 names:∀ s∈z.ab,Nm.valid s.set.name=true
 ab:∀ s∈z.ab,ez s.set=true
 ah:Nm.valid z.ah=true
 under:∀ s∈z.ab,Nm.under s.set.name z.ah=true
 len:z.ab.length≤20000
 start:0≤aU z.ab ⟨z.ah,4⟩
 cq:∀ c∈bV z.ah z.ab,∀ d∈bV z.ah z.ab,∀ n,Nm.under n c=true→Nm.under n d=true→c=d
theorem KS {z:aG} (h:dE z=true):gM z:=by
 have h0:=h;simp only [dE,Bool.and_eq_true] at h;obtain ⟨h1,-,-,h4,-⟩:=h;obtain ⟨hs,hv,hn⟩:=Jw h1;obtain ⟨hl,aO,vj⟩:=uT h1;have aJ:∀ s∈z.ab,s.set.name≠[]:=fun s h=>(hn s h).1;have hA:=Jt (ah:=z.ah) (Ar hs);obtain ⟨g1,g2,g3⟩:=Jm _ hA;have KT:∀ c∈bV z.ah z.ab,c≠[]:=fun c hc=>by
  obtain ⟨s,h,rfl,-⟩:=ou hc;exact aJ s h
 have aW:∀ c∈bV z.ah z.ab,c∈([]:List Text)++z.ab.map (·.set.name):=fun c hc=>by
  obtain ⟨s,h,rfl,-⟩:=ou hc
  simpa using ⟨s,h,rfl⟩
 have bK:=KP g1 g2 uQ g3 KT (z.ab.map (·.set.name)) [] [] 0 (by simpa using Ar hs) aW (Nat.zero_le _) rfl (fun m d hm=>by omega);have fO:∀ c∈bV z.ah z.ab,c∈eA (bV z.ah z.ab):=fun c hc=>by
  obtain ⟨s,AO,rfl,hcut⟩:=ou hc;obtain ⟨i,hi⟩:=List.getElem?_of_mem AO;have aj:=aR hi;obtain ⟨b,hb⟩:=aL (l:=hU z) (k:=i) (by rw [qP]; exact aj);have hF:=bK i s.set.name b (by simp [hi]) hb;obtain ⟨d,hd,hu⟩:=g3 _ hc;rcases hF with ⟨k1,k2⟩ | ⟨-,k2⟩
  ·have hz:=List.all_eq_true.1 h4 (s,b) (List.mem_of_getElem? (uR hi hb));have nb:b≠[]:=KT b (uQ b k1);have ht:s.set.type=2:=by
    simp only [gH,Bool.and_eq_true,beq_iff_eq] at hcut;exact hcut.1
   simp only [ov,Bool.and_eq_true] at hz;have h5:=hz.1.1;simp [nb,ht] at h5;rw [h5];exact k1
  ·rw [k2 d hd] at hu; cases hu
 obtain ⟨k,s,d,e1,-⟩:=Ug h0;refine ⟨hs,hv,fun s h=>?_,vj,fun s h=>?_,hl,by rw [e1]; omega,fun c hc d hd n dA pF=>Jn g1 g2 (fO c hc) (fO d hd) dA pF⟩
 ·have:=aO s h; simp only [eB,Bool.and_eq_true] at this; exact this.1
 ·have:=aO s h; simp only [eB,Bool.and_eq_true] at this; exact this.2
theorem gM.Uq {z:aG} (V:gM z):jm z.ab z.ah=true:=by
 obtain ⟨s,h1,h2⟩:=EZ V.start;exact List.any_eq_true.2 ⟨s,List.mem_of_getElem? h1,V.under s (List.mem_of_getElem? h1)⟩
end Go.Proofs.YtfmdaiojokniiaaGreatDoor.P
