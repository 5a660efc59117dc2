/- Several texts of mine, one behind the other. Conditions: as each says. -/
import Derived.Test.YtfmdaiojokniiaaGreatDoorW18
import Derived.Test.YtfmdaiojokniiaaGreatDoorW24
set_option linter.unusedVariables false
set_option linter.unusedSimpArgs false
namespace Go.Proofs.YtfmdaiojokniiaaGreatDoor.P
open Go Go.aw
set_option maxRecDepth 100000
theorem Sz {x y:Signed}:nw y.set x.set=0↔cP ⟨x.set.name,x.set.type⟩ y=true:=by
 rw [← zh,← tU];show _↔(lP y.set.name y.set.type x.set.name x.set.type==0)=true;simp
theorem SA {l:List Signed} (h:eW l) {k:Nat} {x:Signed} (hx:l[k]? = some x):aO l ⟨x.set.name,x.set.type⟩=k :=
 O1 (fun j y hj hy=>by
  have h1:=h j k y x hj hy hx;cases e:cP ⟨x.set.name,x.set.type⟩ y
  ·rfl
  ·rw [Sz.2 e] at h1; omega) hx (by simp [cP])
theorem DT {l:List Signed} {q:br} (h:0≤aO l q):∃ s,l[(aO l q).toNat]? = some s∧cP q s=true:=by
 unfold aO at h ⊢;cases e:l.findIdx? (cP q) with
 |none=>rw [e] at h; simp at h
 |some k =>
  obtain ⟨h1,h2,_⟩:=List.findIdx?_eq_some_iff_getElem.1 e;exact ⟨l[k],by simp,h2⟩
theorem fJ {l:List Signed} {q:br} : -1≤aO l q∧aO l q<l.length:=by
 unfold aO;cases e:l.findIdx? (cP q) with
 |none=>exact ⟨Int.le_refl _,by show (-1:Int)<l.length; omega⟩
 |some k =>
  obtain ⟨h1,h2,_⟩:=List.findIdx?_eq_some_iff_getElem.1 e;exact ⟨by show (-1:Int)≤(k:Int); omega,by show (k:Int)<l.length; omega⟩
theorem DU {q:br} {s:Signed} (h:cP q s=true):q=⟨s.set.name,s.set.type⟩:=by
 obtain ⟨n,t⟩:=q;simp [cP] at h;rw [h.1,h.2]
def dn (l:List Signed) (ps:List Int):List Signed:=ps.filterMap fun p=>l[p.toNat]?
def gb (ps:List Int) (p:Int):List Int:=if p<0∨p∈ps then ps else ps++[p]
def cz (ps:List Int):List Int:=ps.foldl gb []
def xm (l:List Signed) (ps:List Int):Prop:=∀ p∈ps,0≤p∧p<l.length
theorem xm.nil {l:List Signed}:xm l []:=fun p hp=>by simp at hp
theorem xm.add {l:List Signed} {ps:List Int} {p:Int} (h:xm l ps) (hp:p<l.length):xm l (gb ps p):=by
 unfold gb;split
 ·exact h
 ·rename_i hn;intro q hq;rcases List.mem_append.1 hq with hq | hq
  ·exact h q hq
  ·rw [List.mem_singleton.1 hq];exact ⟨by omega,hp⟩
theorem SB {ps:List Int} {p:Int}:cz (ps++[p])=gb (cz ps) p:=by rw [cz,List.foldl_append]; rfl
theorem JB {ps:List Int} {k:Nat} {p:Int} (h:ps[k]? = some p):cz (ps.take (k+1))=gb (cz (ps.take k)) p:=by rw [dm h,SB]
theorem SC {p:Int}:∀ {ps:List Int},p∈cz ps↔0≤p∧p∈ps:=by
 have main:∀ (ps acc:List Int),(∀ q∈acc,0≤q)→(p∈ps.foldl gb acc↔p∈acc∨(0≤p∧p∈ps)):=by
  intro ps
  induction ps with
  |nil=>intro acc _; simp
  |cons x ps ih =>
   intro acc ha;rw [List.foldl_cons,ih]
   ·unfold gb;split
    ·rename_i hx;constructor
     ·rintro (h | h)
      ·exact .inl h
      ·exact .inr ⟨h.1,List.mem_cons_of_mem _ h.2⟩
     ·rintro (h | ⟨h1,h2⟩)
      ·exact .inl h
      ·rcases List.mem_cons.1 h2 with rfl | h2
       ·rcases hx with hx | hx
        ·omega
        ·exact .inl hx
       ·exact .inr ⟨h1,h2⟩
    ·rename_i hx;simp only [List.mem_append,List.mem_cons,List.not_mem_nil,or_false];constructor
     ·rintro ((h | rfl) | h)
      ·exact .inl h
      ·exact .inr ⟨by omega,.inl rfl⟩
      ·exact .inr ⟨h.1,.inr h.2⟩
     ·rintro (h | ⟨h1,h2⟩)
      ·exact .inl (.inl h)
      ·rcases h2 with rfl | h2
       ·exact .inl (.inr rfl)
       ·exact .inr ⟨h1,h2⟩
   ·intro q hq;unfold gb at hq;split at hq
    ·exact ha q hq
    ·rename_i hx;rcases List.mem_append.1 hq with hq | hq
     ·exact ha q hq
     ·rw [List.mem_singleton.1 hq]; omega
 intro ps;have:=main ps [] (fun q hq=>by simp at hq)
 simpa [cz] using this
theorem SD {ps:List Int}:(cz ps).length≤ps.length:=by
 have main:∀ (ps acc:List Int),(ps.foldl gb acc).length≤acc.length+ps.length:=by
  intro ps
  induction ps with
  |nil=>intro acc; simp
  |cons x ps ih =>
   intro acc;rw [List.foldl_cons];refine Nat.le_trans (ih _) ?_;have:(gb acc x).length≤acc.length+1:=by unfold gb; split <;> simp
   simp; omega
 have:=main ps []
 simpa [cz] using this
theorem SE {l:List Signed} {ps:List Int}:(dn l ps).length≤ps.length:=List.length_filterMap_le ..
theorem SF {l:List Signed} {ps:List Int} {p:Int} {s:Signed} (h0:0≤p) (hs:l[p.toNat]? = some s):dn l (gb ps p)=if p∈ps then dn l ps else dn l ps++[s]:=by
 unfold gb;by_cases h:p∈ps
 ·rw [if_pos (.inr h),if_pos h]
 ·rw [if_neg (by rintro (e | e); omega; exact h e),if_neg h,dn,List.filterMap_append];simp [dn,hs]
def iM (l:List Signed) (n:Text):Bool:=l.any fun s=>Nm.under s.set.name n
def fS (P:Signed→Bool) (l:List Signed):Nat:=(l.takeWhile P).length
theorem xn {P:Signed→Bool} {l:List Signed}:fS P l≤l.length:=by
 unfold fS;exact (List.takeWhile_sublist P).length_le
theorem DW {P:Signed→Bool}:∀ {l:List Signed} (_:∀ (i j:Nat) (x y:Signed),i<j→l[i]? = some x→l[j]? = some y→P y=true→P x=true) {i:Nat} {x:Signed} (_:l[i]? = some x),P x=true↔i<fS P l
 | [],_,i,x,hx=>by simp at hx
 |a::l,hd,i,x,hx=>by
  unfold fS;rw [List.takeWhile_cons];cases ha:P a
  ·simp only [Bool.false_eq_true,if_false,List.length_nil,Nat.not_lt_zero,iff_false];intro e;cases i with
   |zero=>simp at hx; subst hx; rw [ha] at e; cases e
   |succ i =>
    have:=hd 0 (i+1) a x (by omega) rfl hx e;rw [ha] at this; cases this
  ·rw [if_pos rfl,List.length_cons];cases i with
   |zero=>simp at hx; subst hx; simp [ha]
   |succ i =>
    have:=DW (P:=P) (l:=l) (fun i j x y h h1 h2=>hd (i+1) (j+1) x y (by omega) h1 h2) (i:=i) (x:=x) (by simpa using hx);unfold fS at this;rw [this];omega
theorem SG {a b c:Text} (h:bO a b≤0) (k:bO b c<0):bO a c<0:=by
 rcases Int.lt_or_eq_of_le h with h | h
 ·exact zg h k
 ·rw [oH h]; exact k
theorem DX {l:List Signed} (hs:eW l) {i j:Nat} {x y:Signed} (h:i<j) (hx:l[i]? = some x) (hy:l[j]? = some y):bO x.set.name y.set.name≤0:=C7 (hs i j x y h hx hy)
def gM (n:Text) (s:Signed):Bool:=decide (bO s.set.name n<0)
def hU (n:Text) (s:Signed):Bool:=decide (bO s.set.name n≤0)
theorem lt_iff {l:List Signed} (hs:eW l) {n:Text} {i:Nat} {x:Signed} (hx:l[i]? = some x):bO x.set.name n<0↔i<fS (gM n) l:=by
 rw [← DW (P:=gM n) (fun i j x y h h1 h2 h3=>by
  simp only [gM,decide_eq_true_eq] at h3 ⊢
  exact SG (DX hs h h1 h2) h3) hx]
 simp [gM]
theorem le_iff {l:List Signed} (hs:eW l) {n:Text} {i:Nat} {x:Signed} (hx:l[i]? = some x):bO x.set.name n≤0↔i<fS (hU n) l:=by
 rw [← DW (P:=hU n) (fun i j x y h h1 h2 h3=>by
  simp only [hU,decide_eq_true_eq] at h3 ⊢
  exact zn (DX hs h h1 h2) h3) hx]
 simp [hU]
theorem SH {l:List Signed} (hs:eW l) {n:Text}:iM l n=match l[fS (gM n) l]? with
  |some s=>Nm.under s.set.name n
  |none=>false:=by
 rw [Bool.eq_iff_iff];constructor
 ·intro h;obtain ⟨x,hx,hu⟩:=List.any_eq_true.1 h;obtain ⟨j,hj⟩:=List.getElem?_of_mem hx;have h1:=wO hu;have h2:¬ bO x.set.name n<0:=by rw [zf]; omega
  have h3:fS (gM n) l≤j:=by have:=(lt_iff hs (n:=n) hj); omega
  obtain ⟨s,gU⟩:=aU (l:=l) (k:=fS (gM n) l) (by have:=(List.getElem?_eq_some_iff.1 hj).1; omega);rw [gU];show Nm.under s.set.name n=true;rcases Nat.lt_or_eq_of_le h3 with h3 | h3
  ·have h4:¬ bO s.set.name n<0:=fun e=>by have:=(lt_iff hs (n:=n) gU).1 e; omega
   exact tT (by rw [zf]; omega) (DX hs h3 gU hj) hu
  ·rw [← h3,gU] at hj; cases hj; exact hu
 ·intro h;cases e:l[fS (gM n) l]? with
  |none=>rw [e] at h; cases h
  |some s=>rw [e] at h; exact List.any_eq_true.2 ⟨s,List.mem_of_getElem? e,h⟩
def nM (P:Nat→Bool):Nat→Int
 | 0 => -1
 |n+1=>if P n then (n:Int) else nM P n
theorem JC {P:Nat→Bool}:∀ {n:Nat},-1≤nM P n∧nM P n<n
 | 0=>by simp [nM]
 |n+1=>by
  have:=JC (P:=P) (n:=n);rw [nM];split <;> omega
def uk (l:List Signed) (i:Nat):Bool:=match l[i]? with
 |some s=>s.set.type==8
 |none=>false
def dW (l:List Signed) (n:Text):Int:=nM (uk l) (fS (hU n) l)
theorem sc {l:List Signed} {n:Text} : -1≤dW l n∧dW l n<l.length:=by
 have h1:=JC (P:=uk l) (n:=fS (hU n) l);have h2:=xn (P:=hU n) (l:=l);unfold dW;omega
def fu (L:List Text):Text:=if L=[] then [46] else Nm.glue L
theorem xo (s:Text):fu (Nm.labels s)=s:=by
 unfold fu Nm.labels;by_cases h:s=[46]
 ·rw [if_pos h,if_pos rfl,h]
 ·rw [if_neg h,if_neg (Nm.lH s),Nm.rz]
def kW (l:List Signed):List Text→List Text
 | []=>[]
 |x::r=>if iM l (fu (x::r)) then x::r else kW l r
def mC (M:List Text):Option Text:=if Nm.parts M&&decide ((fu M).length≤60) then some (fu M) else none
def qi (l:List Signed) (s:Text):Option Text:=mC ([42]::kW l (Nm.labels s))
def kX (z:aF) (n:Text):Option Text:=(cx z.ai z.ae).find? fun c=>Nm.under n c
def qj (l:List Signed) (c:Text):Int:=if aO l ⟨c,6⟩<0 then aO l ⟨c,8⟩ else aO l ⟨c,6⟩
def xp (l:List Signed) (c:Text):List Datum:=match l[(aO l ⟨c,2⟩).toNat]? with
 |some s=>s.set.data
 |none=>[]
def nN (l:List Signed) (c:Text):List Int:=((xp l c).filter fun d=>Nm.under d.text c).map fun d=>aO l ⟨d.text,1⟩
def jF (l:List Signed) (c:Text):List Int:=cz (aO l ⟨c,2⟩::qj l c::nN l c)
def lU (z:aF) (q:br):dj :=
 if 0≤aO z.ae q then ⟨1,dn z.ae [aO z.ae q],[]⟩
 else if 0≤aO z.ae ⟨q.name,3⟩∧q.type≠8 then ⟨3,dn z.ae [aO z.ae ⟨q.name,3⟩],[]⟩
 else if iM z.ae q.name then ⟨5,dn z.ae (cz [aO z.ae ⟨z.ai,4⟩,dW z.ae q.name]),[]⟩
 else match qi z.ae q.name with
  |none=>⟨6,dn z.ae (cz [aO z.ae ⟨z.ai,4⟩,dW z.ae q.name]),[]⟩
  |some w =>
   if 0≤aO z.ae ⟨w,q.type⟩ then ⟨2,dn z.ae (cz [aO z.ae ⟨w,q.type⟩,dW z.ae q.name]),[]⟩
   else if 0≤aO z.ae ⟨w,3⟩∧q.type≠8 then ⟨3,dn z.ae (cz [aO z.ae ⟨w,3⟩,dW z.ae q.name]),[]⟩
   else if iM z.ae w then ⟨5,dn z.ae (cz [aO z.ae ⟨z.ai,4⟩,dW z.ae q.name,dW z.ae w]),[]⟩
   else ⟨6,dn z.ae (cz [aO z.ae ⟨z.ai,4⟩,dW z.ae q.name,dW z.ae w]),[]⟩
def oW (z:aF) (q:br):dj :=
 if Nm.under q.name z.ai then
  match kX z q.name with
  |some c=>if q.name=c∧(q.type=6∨q.type=8) then lU z q else ⟨4,dn z.ae (jF z.ae c),c⟩
  |none=>lU z q
 else ⟨7,[],[]⟩
def mD (z:aF) (q:br):Int:=if ep z&&iI q then 0 else 1
def jG (z:aF) (q:br):dj:=if mD z q=0 then oW z q else ⟨0,[],[]⟩
structure gd (z:aF):Prop where
 sorted:eW z.ae
 names:∀ s∈z.ae,Nm.valid s.set.name=true
 ae:∀ s∈z.ae,fF s.set=true
 ai:Nm.valid z.ai=true
 under:∀ s∈z.ae,Nm.under s.set.name z.ai=true
 len:z.ae.length≤20000
 start:0≤aO z.ae ⟨z.ai,4⟩
 gH:∀ c∈cx z.ai z.ae,∀ d∈cx z.ai z.ae,∀ n,Nm.under n c=true→Nm.under n d=true→c=d
theorem JD {z:aF} (h:ep z=true):gd z:=by
 have h0:=h;simp only [ep,Bool.and_eq_true] at h;obtain ⟨h1,-,-,h4,-⟩:=h;obtain ⟨hs,hv,hn⟩:=Ib h1;obtain ⟨hl,aJ,zF⟩:=wM h1;have aE:∀ s∈z.ae,s.set.name≠[]:=fun s h=>(hn s h).1;have hA:=H8 (ai:=z.ai) (zp hs);obtain ⟨g1,g2,g3⟩:=HX _ hA;have JE:∀ c∈cx z.ai z.ae,c≠[]:=fun c hc=>by
  obtain ⟨s,h,rfl,-⟩:=pU hc;exact aE s h
 have a7:∀ c∈cx z.ai z.ae,c∈([]:List Text)++z.ae.map (·.set.name):=fun c hc=>by
  obtain ⟨s,h,rfl,-⟩:=pU hc
  simpa using ⟨s,h,rfl⟩
 have bH:=JA g1 g2 y9 g3 JE (z.ae.map (·.set.name)) [] [] 0 (by simpa using zp hs) a7 (Nat.zero_le _) rfl (fun m d hm=>by omega);have ix:∀ c∈cx z.ai z.ae,c∈ja (cx z.ai z.ae):=fun c hc=>by
  obtain ⟨s,zN,rfl,hcut⟩:=pU hc;obtain ⟨i,hi⟩:=List.getElem?_of_mem zN;have ah:=aP hi;obtain ⟨b,hb⟩:=aU (l:=kO z) (k:=i) (by rw [wH]; exact ah);have hF:=bH i s.set.name b (by simp [hi]) hb;obtain ⟨d,hd,hu⟩:=g3 _ hc;rcases hF with ⟨k1,k2⟩ | ⟨-,k2⟩
  ·have hz:=List.all_eq_true.1 h4 (s,b) (List.mem_of_getElem? (CW hi hb));have A9:b≠[]:=JE b (y9 b k1);have ht:s.set.type=2:=by
    simp only [ke,Bool.and_eq_true,beq_iff_eq] at hcut;exact hcut.1
   simp only [rL,Bool.and_eq_true] at hz;have h5:=hz.1.1;simp [A9,ht] at h5;rw [h5];exact k1
  ·rw [k2 d hd] at hu; cases hu
 obtain ⟨k,s,d,e1,-⟩:=Sy h0;refine ⟨hs,hv,fun s h=>?_,zF,fun s h=>?_,hl,by rw [e1]; omega,fun c hc d hd n eB oL=>HY g1 g2 (ix c hc) (ix d hd) eB oL⟩
 ·have:=aJ s h; simp only [jy,Bool.and_eq_true] at this; exact this.1
 ·have:=aJ s h; simp only [jy,Bool.and_eq_true] at this; exact this.2
theorem gd.SI {z:aF} (V:gd z):iM z.ae z.ai=true:=by
 obtain ⟨s,h1,h2⟩:=DT V.start;exact List.any_eq_true.2 ⟨s,List.mem_of_getElem? h1,V.under s (List.mem_of_getElem? h1)⟩
end Go.Proofs.YtfmdaiojokniiaaGreatDoor.P
