/- Several texts of mine, one behind the other. Conditions: as each says. -/
import Derived.Test.YtcmnpelmmekdkaaGreatDoorY31
set_option linter.unusedVariables false
set_option linter.unusedSimpArgs false
section
namespace Go.Proofs.YtcmnpelmmekdkaaGreatDoor.P
open Go Go.ax
set_option maxRecDepth 100000
def dep (t:Text):Nat:=(Nm.labels t).length
def Fair (l:List aB):Prop:=∀ (ab:Text) (z:aU) (q:aS),dz l ab=some z→(bO z q).kind=4→Nm.under q.name (bO z q).cut=true∧dep ab<dep (bO z q).cut
theorem Ig {s z:Text} (h:Nm.under s z=true):dep z≤dep s:=by
 have:=(sG.1 h).length_le
 simpa [dep] using this
theorem vq {l:List aB} {s:Text}:∀ {n:Nat} {ab:Text},ab∈(cJ l s n ab).1
 | 0,ab=>by simp [cJ]
 |n+1,ab=>by
  rw [cJ];split
  ·simp
  ·split <;> simp
theorem Pl {l m:List aB} {s:Text}:∀ {n:Nat} {ab:Text},(∀ z∈(cJ l s n ab).1,dz m z=dz l z)→cJ m s n ab=cJ l s n ab
 | 0,ab,_=>rfl
 |n+1,ab,h=>by
  have h0:=h ab vq;rw [cJ] at h;rw [cJ,cJ,h0];split
  ·rfl
  ·rename_i z hz;rw [hz] at h;simp only at h;split
   ·rename_i h4;rw [if_pos h4] at h;rw [Pl fun y hy=>h y (List.mem_cons_of_mem _ hy)]
   ·rfl
theorem Pm {l:List aB} {s:Text} (F:Fair l):∀ {n:Nat} {ab:Text},Nm.under s ab=true→dep s<n+dep ab→∀ {z:Text} {Z:aU},z∈(cJ l s n ab).1→dz l z=some Z→∀ x∈dZ z Z.af,x∈(cJ l s n ab).2
 | 0,ab,hu,hd,z,Z,_,_=>by have:=Ig hu; omega
 |n+1,ab,hu,hd,z,Z,hz,hZ=>by
  intro x hx;rw [cJ] at hz ⊢;cases e:dz l ab with
  |none =>
   rw [e] at hz;simp at hz;subst hz;rw [e] at hZ; cases hZ
  |some Y =>
   rw [e] at hz;simp only at hz ⊢;split
   ·rename_i h4;rw [if_pos h4] at hz;obtain ⟨g1,g2⟩:=F ab Y ⟨s,1⟩ e h4;rcases List.mem_cons.1 hz with hz | hz
    ·subst hz;rw [e] at hZ; cases hZ;exact List.mem_append_left _ hx
    ·exact List.mem_append_right _ (List.mem_append_right _ (Pm (s:=s) F g1 (by omega) hz hZ x hx))
   ·rename_i h4;rw [if_neg h4] at hz;simp at hz;subst hz;rw [e] at hZ; cases hZ;exact List.mem_append_left _ hx
theorem Ih {l:List aB} {s:Text}:∀ {n:Nat} {ab:Text} {x:cu},x∈(cJ l s n ab).2→(x.bH.type=2∧x.bH.name∈(cJ l s n ab).1)∨x.bH=⟨s,3⟩
 | 0,ab,x,h=>by simp [cJ] at h
 |n+1,ab,x,h=>by
  rw [cJ] at h ⊢;cases e:dz l ab with
  |none=>rw [e] at h; simp at h
  |some Y =>
   rw [e] at h;simp only at h ⊢;split
   ·rename_i h4;rw [if_pos h4] at h;simp only [List.mem_append] at h;rcases h with h | h | h
    ·obtain ⟨h1,_⟩:=AD.1 h;rw [h1];exact .inl ⟨rfl,by simp⟩
    ·obtain ⟨h1,_⟩:=AD.1 h;rw [h1];exact .inl ⟨rfl,List.mem_cons_of_mem _ vq⟩
    ·rcases Ih h with ⟨h1,h2⟩ | h1
     ·exact .inl ⟨h1,List.mem_cons_of_mem _ h2⟩
     ·exact .inr h1
   ·rename_i h4;rw [if_neg h4] at h;rcases List.mem_append.1 h with h | h
    ·obtain ⟨h1,_⟩:=AD.1 h;rw [h1];exact .inl ⟨rfl,by simp⟩
    ·unfold rG at h;split at h
     ·simp at h; subst h; exact .inr rfl
     ·simp at h
theorem YK {l:List aB} {s ab:Text} {z:aU} {n:Nat} (h:dz l ab=some z) (h4:(bO z ⟨s,1⟩).kind=4):(bO z ⟨s,1⟩).cut∈(cJ l s (n+1) ab).1:=by
 rw [cJ,h];simp only;rw [if_pos h4];exact List.mem_cons_of_mem _ vq
def fB (l:List aB) (q:aS):Nat→Text→Option ia
 | 0,_=>none
 |n+1,ab=>match dz l ab with
  |none=>none
  |some z=>if (bO z q).kind=4 then fB l q n (bO z q).cut else some (bO z q)
theorem Pn {l:List aB} {s:Text} {a:ia}:∀ {n:Nat} {ab:Text},fB l ⟨s,1⟩ n ab=some a→a.kind=3→(⟨⟨s,3⟩,vk a⟩:cu)∈(cJ l s n ab).2
 | 0,ab,h,_=>by simp [fB] at h
 |n+1,ab,h,h3=>by
  rw [fB] at h;rw [cJ];cases e:dz l ab with
  |none=>rw [e] at h; cases h
  |some Y =>
   rw [e] at h;simp only at h ⊢;split
   ·rename_i h4;rw [if_pos h4] at h;exact List.mem_append_right _ (List.mem_append_right _ (Pn h h3))
   ·rename_i h4;rw [if_neg h4] at h;cases h;refine List.mem_append_right _ ?_;rw [rG,if_pos h3];simp
theorem Po {l m:List aB} {s:Text}:∀ {n:Nat} {ab:Text},(∀ z∈(cJ l s n ab).1,dz m z=dz l z)→fB m ⟨s,1⟩ n ab=fB l ⟨s,1⟩ n ab
 | 0,ab,_=>rfl
 |n+1,ab,h=>by
  have h0:=h ab vq;rw [cJ] at h;rw [fB,fB,h0];split
  ·rfl
  ·rename_i z hz;rw [hz] at h;simp only at h;split
   ·rename_i h4;rw [if_pos h4] at h;exact Po fun y hy=>h y (List.mem_cons_of_mem _ hy)
   ·rfl
def ix (l:List aB) (t:Int):Nat→List Signed→Text→ia × Int
 | 0,_,_=>(⟨0,[],[]⟩,33)
 |n+1,kept,s=>match fB l ⟨s,t⟩ 64 [46] with
  |none=>(⟨0,[],[]⟩,34)
  |some a=>if a.kind=3 then ix l t n (kept++a.af.take 1) (vk a) else (⟨a.kind,kept++a.af,a.cut⟩,0)
theorem Pp {l m:List aB} {s:Text} {R:List bK} (H:ev (gz l) s R []) (hz:∀ z∈fL R,dz m z=dz l z):∀ (n:Nat) (kept:List Signed) (t:Text),t∈R.map bK.name→ix m 1 n kept t=ix l 1 n kept t
 | 0,_,_,_=>rfl
 |n+1,kept,t,ht=>by
  have h1:fB m ⟨t,1⟩ 64 [46]=fB l ⟨t,1⟩ 64 [46]:=Po fun z gg=>hz z (H.s6.2 ⟨t,ht,gg⟩);rw [ix,ix,h1];split
  ·rfl
  ·rename_i a ha;split
   ·rename_i h3;exact Pp H hz n _ _ (H.closed t ht _ (vp.2 (Pn ha h3)))
   ·rfl
end Go.Proofs.YtcmnpelmmekdkaaGreatDoor.P
end
section
namespace Go.ax
open Go Go.RowKit
section
variable {E:Env} {ops:Array Oper} {F:List Nat} {P:List ag→Prop}
def IJ (ops:Array Oper) (F:List Nat):Bool :=
 Nat.blt 0 ops.size && !bV (ops.size - 1) F&&(List.range (ops.size - 1)).all fun i=>((bits ops.toList []).getD (ops.size - 1) 0).testBit i
theorem IM (h:IJ ops F=true):0<ops.size∧bV (ops.size - 1) F=false∧∀ i,i<ops.size - 1→ku ops i (ops.size - 1):=by
 simp only [IJ,Bool.and_eq_true,Bool.not_eq_true'] at h;obtain ⟨⟨h1,h2⟩,h3⟩:=h;exact ⟨r8 h1,h2,fun i hi=>zk ops ops.toList [] rfl (fun j i h=>by simp at h) _ i (List.all_eq_true.1 h3 i (List.mem_range.2 hi))⟩
def da (E:Env) (ops:Array Oper) (F:List Nat) (P:List ag→Prop) (K:List AV→List ag→Prop):Nat→List Oper→List AV→List ag→Prop
 |_,[],s,h=>K s h
 |j,o::l,s,h=>match bV j F with
  |true=>∃ v,(∀ h',P h'→dB E ops o s h' v)∧da E ops F P K (j+1) l (bG s o.dst v) h
  |false=>∃ v h',dq E ops o s h v h'∧(l=[]∨P h')∧da E ops F P K (j+1) l (bG s o.dst v) h'
structure LP (E:Env) (ops:Array Oper) (F:List Nat) (P:List ag→Prop) (i0:Nat) (s:List AV) (pl:List (Oper × AV)) (hp:Nat→List ag):Prop where
 lV:∀ j o v,bV (i0+j) F=true→pl[j]? = some (o,v)→(∀ h',P h'→dB E ops o (cur pl (fun k=>decide (k<j)) 0 s) h' v)∧hp (j+1)=hp j
 sT:∀ j o v,bV (i0+j) F=false→pl[j]? = some (o,v)→dq E ops o (cur pl (fun k=>decide (k<j)) 0 s) (hp j) v (hp (j+1))
 hid:∀ j,j<pl.length→P (hp j)
theorem da.lay {K:List AV→List ag→Prop}:∀ {l:List Oper} {i0:Nat} {s:List AV} {h:List ag},(l=[]∨P h)→da E ops F P K i0 l s h →
  ∃ (pl:List (Oper × AV)) (hp:Nat→List ag),pl.map (·.1)=l∧hp 0=h∧K (cur pl (fun k=>decide (k<pl.length)) 0 s) (hp pl.length)∧LP E ops F P i0 s pl hp
 | [],i0,s,h,hX,H=>⟨[],fun _=>h,rfl,rfl,H,⟨fun j o v _ hj=>by simp at hj,fun j o v _ hj=>by simp at hj,fun j hj=>by simp at hj⟩⟩
 |o::l,i0,s,h,hX,H=>by
  simp only [da] at H;have shift:∀ (pl:List (Oper × AV)) (n:Nat) (s:List AV),cur pl (fun k=>decide (k<n+1)) (0+1) s=cur pl (fun k=>decide (k<n)) 0 s:=fun pl n s=>by
   rw [wR 1]
   congr 1
   funext k;simp
  have build:∀ (v:AV) (h':List ag),(l=[]∨P h')→da E ops F P K (i0+1) l (bG s o.dst v) h'→(bV i0 F=true→(∀ h',P h'→dB E ops o s h' v)∧h'=h)→(bV i0 F=false→dq E ops o s h v h') →
    ∃ (pl:List (Oper × AV)) (hp:Nat→List ag),pl.map (·.1)=o::l∧hp 0=h∧K (cur pl (fun k=>decide (k<pl.length)) 0 s) (hp pl.length)∧LP E ops F P i0 s pl hp:=by
   intro v h' Ad H' f1 f2;obtain ⟨pl,hp,k1,k2,k3,k4⟩:=da.lay Ad H';refine ⟨(o,v)::pl,fun n=>match n with | 0=>h | n+1=>hp n,by simp [k1],rfl,?_,⟨fun j o' v' hm hj=>?_,fun j o' v' hm hj=>?_,fun j hj=>?_⟩⟩
   ·rw [cur];simp only [List.length_cons,Nat.zero_lt_succ,decide_true,if_true];rw [shift];exact k3
   ·cases j with
    |zero =>
     simp at hj;obtain ⟨rfl,rfl⟩:=hj;rw [jN _ _ _ _ (fun k _=>decide_eq_false (by omega))];obtain ⟨g1,g2⟩:=f1 hm;exact ⟨g1,k2.trans g2⟩
    |succ j =>
     have:=k4.lV j o' v' (by rwa [show i0+1+j=i0+(j+1) by omega]) (by simpa using hj);rw [cur];simp only [Nat.zero_lt_succ,decide_true,if_true];rw [shift];exact this
   ·cases j with
    |zero =>
     simp at hj;obtain ⟨rfl,rfl⟩:=hj;rw [jN _ _ _ _ (fun k _=>decide_eq_false (by omega))];simp only [k2];exact f2 hm
    |succ j =>
     have:=k4.sT j o' v' (by rwa [show i0+1+j=i0+(j+1) by omega]) (by simpa using hj);rw [cur];simp only [Nat.zero_lt_succ,decide_true,if_true];rw [shift];exact this
   ·cases j with
    |zero=>exact hX.resolve_left (by simp)
    |succ j=>exact k4.hid j (by simpa using hj)
  split at H
  ·rename_i q;obtain ⟨v,h1,h2⟩:=H;exact build v h (.inr (hX.resolve_left (by simp))) h2 (fun _=>⟨h1,rfl⟩) (fun e=>by rw [q] at e; cases e)
  ·rename_i q;obtain ⟨v,h',h1,h2,h3⟩:=H;exact build v h' h2 h3 (fun e=>by rw [q] at e; cases e) (fun _=>h1)
theorem ZK {J0:Nat} (hc:xu ops F J0) (jq:0<ops.size) (IN:bV (ops.size - 1) F=false) (ZL:∀ i,i<ops.size - 1→ku ops i (ops.size - 1)) {s0:List AV} {pl:List (Oper × AV)} {hp:Nat→List ag} (lL:pl.map (·.1)=ops.toList) (hx  : LP E ops F P 0 s0 pl hp)
  {Q:Exit→Act→World→Prop} {Kf:List AV→List ag→Prop} {c0:Cx} (fy:Kf (cur pl (fun k=>decide (k<pl.length)) 0 s0) (hp ops.size))
  (hQ:∀ (a:Act) (c:Cx) (s:List AV) (h:List ag),Kf s h→aE E.G c→c.heap=h→a.defers=[]→VS c s a.tmps→Step c0 c→Q .normal a c.w) :
  ∀ (f:Nat) (listed:Array Bool) (a:Act) (c:Cx) (J:Nat),J0≤J→J≤ops.size→aE E.G c→c.heap=hp J→a.defers=[]→VS c (cur pl (aN listed) 0 s0) a.tmps→Step c0 c→DC ops listed →
   (∀ i,i<ops.size→i<J→bV i F=false→aN listed i=true)→(∀ i,J≤i→bV i F=false→aN listed i=false)→(∀ i,ops.size≤i→aN listed i=false)→er (aN listed) ops.size≤f→wpAny E.P .any ops Q f listed a c.w:=by
 obtain ⟨hlen,dH⟩:=qR lL;have same:∀ d J,J+d≤ops.size→(∀ i,J≤i→i<J+d→bV i F=true)→hp (J+d)=hp J:=by
  intro d
  induction d with
  |zero=>intro J _ _; rfl
  |succ d ih =>
   intro J hJ hm;have h1:=ih J (by omega) (fun i h1 h2=>hm i h1 (by omega));have ai:J+d<pl.length:=by omega
   have h2:=(hx.lV (J+d) (pl[J+d]).1 (pl[J+d]).2 (by rw [Nat.zero_add]; exact hm (J+d) (by omega) (by omega)) (by simp [ai])).2;rw [show J+(d+1)=J+d+1 by omega,h2,h1]
 have oP:∀ i,bV i F=true∨bV i F=false:=fun i=>by cases bV i F <;> simp
 have done:∀ (listed:Array Bool) (a:Act) (c:Cx) (J:Nat),J≤ops.size→aE E.G c→c.heap=hp J→a.defers=[]→VS c (cur pl (aN listed) 0 s0) a.tmps→Step c0 c→(∀ i,J≤i→bV i F=false→aN listed i=false)→(∀ i,ops.size≤i→aN listed i=false)→(∀ i,i<ops.size→aN listed i=true)→Q .normal a c.w:=by
  intro listed a c J hJ h1 h2 h3 h4 h5 hn ho aT
  have hs:hp (J+(ops.size - J))=hp J:=same (ops.size - J) J (by omega) (fun i g1 g2=>by
   rcases oP i with h | h
   ·exact h
   ·have:=hn i g1 h; rw [aT i (by omega)] at this; cases this)
  rw [show J+(ops.size - J)=ops.size by omega] at hs;have e:cur pl (aN listed) 0 s0=cur pl (fun k=>decide (k<pl.length)) 0 s0:=by
   congr 1
   funext i;rcases Nat.lt_or_ge i ops.size with h | h
   ·rw [aT i h]; simp [hlen,h]
   ·rw [ho i h]; simp [hlen]; omega
  rw [e] at h4;exact hQ a c _ _ fy h1 (h2.trans hs.symm) h3 h4 h5
 intro f
 induction f with
 |zero =>
  intro listed a c J sU hJ h1 h2 h3 h4 h5 hd gw fa ho iH;have aT:∀ i,i<ops.size→aN listed i=true:=fun i hi=>zq iH hi;refine ⟨?_,done listed a c J hJ h1 h2 h3 h4 h5 fa ho aT⟩;apply List.eq_nil_iff_forall_not_mem.2;intro i hi;obtain ⟨k1,k2⟩:=mJ hd hi;rw [aT i k2] at k1;cases k1
 |succ f ih =>
  intro listed a c J sU hJ h1 h2 h3 h4 h5 hd gw fa ho iH;refine ⟨fun hr=>?_,fun i hi=>?_⟩
  ·refine done listed a c J hJ h1 h2 h3 h4 h5 fa ho (fun i hi=>?_);cases hl:aN listed i with
   |true=>rfl
   |false =>
    obtain ⟨k,-,hk⟩:=uu hc.pn hd hi hl;rw [hr] at hk;cases hk
  obtain ⟨dF,dT⟩:=mJ hd hi;obtain ⟨⟨o,v⟩,dj⟩:∃ p,pl[i]? = some p:=⟨pl[i]'(by omega),by rw [List.getElem?_eq_getElem]⟩;have ec:=dH i o v dj;obtain ⟨lg,kx⟩:=wQ hc.pair dH hd hi dj h4;have bP:i<listed.size:=by rw [hd.1]; exact dT
  have cL:=fun q=>sq (i:=q) bP;have lW:er (aN (listed.setIfInBounds i true)) ops.size≤f:=by
   have:=(uv (L:=aN listed) (L':=aN (listed.setIfInBounds i true)) (j:=i) (fun q hq=>by rw [cL]; simp [hq]) dF (by rw [cL]; simp) ops.size).1 dT;omega
  have mK:∀ u:Value,(a.put o.dst u).defers=[]:=fun u=>by cases gV:o.dst <;> simp [Act.put,h3]
  have cQ:∀ q,ops.size≤q→aN (listed.setIfInBounds i true) q=false:=fun q hq=>by rw [cL,ho q hq]; simp; omega
  rcases oP i with hm | hm
  ·have acB:J<ops.size:=by
    rcases Nat.lt_or_ge J ops.size with h | h
    ·exact h
    ·have h6:=gw (ops.size - 1) (by omega) (by omega) IN;have aJ:i≠ops.size - 1:=fun e=>by subst e; rw [hm] at IN; cases IN
     have h7:=hd.dep (ZL i (by omega)) h6;rw [dF] at h7; cases h7
   have qQ:=(hx.lV i o v (by rw [Nat.zero_add]; exact hm) dj).1 (hp J) (hx.hid J (by omega));refine qQ c a h1 h2 h3 kx i ec _ _ (fun c' u k1 k2 k3 k4=>?_);refine ih _ _ c' J sU hJ k1 k2 (mK u) (lg c' u (fun _ _=>k3.vr) k4) (h5.trans k3) (hd.set hi) (fun q hq oA eo=>by rw [cL,gw q hq oA eo]; simp) (fun q hq eo=>?_) cQ lW;rw [cL,fa q hq eo];have:q≠i:=fun e=>by subst e; rw [hm] at eo; cases eo
   simp [this]
  ·have aP:J≤i:=by
    rcases Nat.lt_or_ge i J with h | h
    ·have:=gw i dT h hm; rw [dF] at this; cases this
    ·exact h
   have sV:∀ q,J≤q→q<i→bV q F=true:=fun q g1 g2=>by
    rcases oP q with h | h
    ·exact h
    ·have ai:q<ops.size:=by omega
     have h6:=hd.ready hi (hc.spine q i ops[q] o (by omega) g2 (by simp [ai]) ec h hm);rw [fa q g1 h] at h6;cases h6
   have hs:hp (J+(i - J))=hp J:=same (i - J) J (by omega) (fun q g1 g2=>sV q g1 (by omega));rw [show J+(i - J)=i by omega] at hs;refine (hx.sT i o v (by rw [Nat.zero_add]; exact hm) dj) c a h1 (h2.trans hs.symm) h3 kx i ec _ _ (fun c' u k1 k2 k3 k4=>?_);refine ih _ _ c' (i+1) (by omega) (by omega) k1 k2 (mK u) (lg c' u (fun _ _=>k3.vr) k4) (h5.trans k3) (hd.set hi) (fun q hq oA eo=>?_) (fun q hq eo=>by rw [cL,fa q (by omega) eo]; simp; omega) cQ lW;by_cases lX:q=i
   ·subst lX; rw [cL]; simp
   ·rcases Nat.lt_or_ge q J with h | h
    ·rw [cL,gw q hq h eo]; simp
    ·have:=sV q h (by omega); rw [eo] at this; cases this
end
section
variable {E:Env} {ae:FuncId} {R:bY} {ops:Array Oper} {k:List aG} {F:List Nat} {P:List ag→Prop} {lits:List Nat} {s:List AV} {h:List ag}
theorem IP:∀ {l:List Oper} {j:Nat} {s:List AV} {h:List ag},da E ops F P (fun s2 h2=>aa E ae R [] k s2 h2) j l s h→da E ops F P (fun s2 h2=>AW E R.fx.f0 ⟨⟨ae,R.fx.cE,R.fx.aH⟩,k,s2⟩ R.fx.cls h2 R) j l s h
 | [],_,_,_,H=>aa.to H
 |o::l,j,s,h,H=>by
  unfold da at H ⊢;split at H
  ·obtain ⟨v,h1,h2⟩:=H; exact ⟨v,h1,IP h2⟩
  ·obtain ⟨v,h',h1,h2,h3⟩:=H; exact ⟨v,h',h1,h2,IP h3⟩
theorem aa.P8 (hE:E.OK) (hm:E.P.follows .mixedOrders=true) (F:List Nat) (P:List ag→Prop) {id:Nat} (jP:C9 ops F=true) (IQ:IJ ops F=true) (h0:P h)
  (H:da E ops F P (fun s2 h2=>aa E ae R [] k s2 h2) 0 ops.toList s h) (dL:R.fx.cE=none:=by rfl) (dJ:R.fx.aH=[]:=by rfl):aa E ae R lits (.code (.region id ops true)::k) s h:=by
 obtain ⟨pl,hp,p1,p2,p3,p4⟩:=da.lay (E:=E) (ops:=ops) (F:=F) (.inr h0) (IP H);obtain ⟨hlen,dH⟩:=qR p1;refine .of (AW.zu hm dL dJ fun c t Q hQ h1 h2 h4=>?_);rw [hlen] at p3;refine ZK (He jP) (IM IQ).1 (IM IQ).2.1 (IM IQ).2.2 p1 p4 (Kf:=fun s2 h2=>AW E R.fx.f0 ⟨⟨ae,R.fx.cE,R.fx.aH⟩,k,s2⟩ R.fx.cls h2 R) (by rw [hlen]; exact p3) hQ ops.size _ ⟨t,[]⟩ c 0 (Nat.le_refl _) (Nat.zero_le _) h1 (h2.trans p2.symm) rfl ?_ (Step.refl c h1.bD) ⟨by simp,fun j o e _ hl=>by rw [ky] at hl; cases hl⟩ (fun i _ hi=>by omega) (fun i _ _=>ky _ i) (fun i _=>ky _ i) (Ce _ _);rw [jN _ 0 s _ (fun i _=>ky _ _)];exact h4
theorem da.float {K:List AV→List ag→Prop} {j:Nat} {o:Oper} {l:List Oper} (v:AV) (hF:bV j F=true) (hg:o.guard=none) (hf:∀ h',P h'→aQ E o.op (bZ (b9 ops o) 0 s) h' v h') (H:bJ s o.dst v fun s'=>da E ops F P K (j+1) l s' h):da E ops F P K j (o::l) s h:=by
 rw [di] at H;unfold da;rw [hF];exact ⟨v,fun h' hp=>dB.of (eO hg) (hf h' hp),H⟩
theorem da.op {K:List AV→List ag→Prop} {j:Nat} {o:Oper} {l:List Oper} (v:AV) (h':List ag) (hF:bV j F=false) (hg:o.guard=none) (hf:aQ E o.op (bZ (b9 ops o) 0 s) h v h') (hP:l=[]∨P h') (H:bJ s o.dst v fun s'=>da E ops F P K (j+1) l s' h'):da E ops F P K j (o::l) s h:=by
 rw [di] at H;unfold da;rw [hF];exact ⟨v,h',dq.of (eO hg) hf,hP,H⟩
theorem da.fin {K:List AV→List ag→Prop} {j:Nat} (H:K s h):da E ops F P K j [] s h:=H
end
attribute [irreducible] da
end Go.ax
end
section
namespace Go.ax
open Go Go.RowKit
section
variable {E:Env} {s:List AV} {h:List ag}
def Qz (E:Env) (s:List AV) (h:List ag) (o:Oper) (k:List AV→List ag→Prop):Prop:=match o.op with
 | .insert t m x v=>aV E.T t False fun ti=>match ti.k with
  | .map kt _=>cH E.G s m False fun
   | .map b=>aV h b False fun
    | .map es=>cH E.G s x False fun
     | .d y=>cH E.G s v False fun
      | .d z=>yS E kt False fun kd=>need (ef E.T kd y∧∀ p∈es,ef E.T kd p.1) (fN h b (.map (cD y z es)) fun h'=>bJ s o.dst (.d .undef) fun s'=>k s' h')
      |_=>False
     |_=>False
    |_=>False
   |_=>False
  |_=>False
 |_=>False
theorem aa.insert (hE:E.OK) {ae:FuncId} {R:bY} {ops:Array Oper} {td:List aG} {lits:List Nat} {o:Oper} {r:List Oper} (hg:o.guard=none)
  (H:Qz E s h o fun s' h'=>aa E ae R lits (.bE ops r::td) s' h'):aa E ae R lits (.bE ops (o::r)::td) s h:=by
 unfold Qz at H;split at H
 case h_2=>exact H.elim
 rename_i t m x v cm;rcases bj H with H | ⟨ti,cj,H⟩
 ·exact H.elim
 split at H
 case h_2=>exact H.elim
 rename_i kt e hk;rcases cI H with H | ⟨a,ha,H⟩
 ·exact H.elim
 split at H
 case h_2=>exact H.elim
 rename_i b;rcases bj H with H | ⟨bx,hb,H⟩
 ·exact H.elim
 split at H
 case h_2=>exact H.elim
 rename_i es;rcases cI H with H | ⟨y,hy,H⟩
 ·exact H.elim
 split at H
 case h_2=>exact H.elim
 rename_i y;rcases cI H with H | ⟨z,hz,H⟩
 ·exact H.elim
 split at H
 case h_2=>exact H.elim
 rename_i z;rcases E5 H with H | ⟨kd,hT,H⟩
 ·exact H.elim
 obtain ⟨⟨f1,f2⟩,H⟩:=nn H;rw [gQ,di] at H;exact .of (.op (eO hg) (Kh hE (.inr cm) cj hk hT hb ha hy hz f1 f2) H.to)
end
end Go.ax
end
section
namespace Go.ax
open Go Go.RowKit
theorem xU {h h':List ag} {K:Prop} (H:K):∀ (D:List Nat),wH h h' (D.map .mark) K
 | []=>H
 |_::D=>xU H D
section
variable {E:Env} {ae:FuncId} {R:bY} {k:List aG} {s:List AV} {h:List ag}
@[reducible] def DR (R : bY) (D : List Nat) : bY := ⟨R.n, R.Q, R.rows, ⟨R.fx.f0, none, D, [], D.map .mark, R.fx.inl⟩⟩
theorem aa.aaK {lits:List Nat} {b:Code} {κ:Type} (fk:List Nat) (vars:κ→List (Nat × AV)) (boxes:κ→List (Nat × ag)) (Φ:κ→Prop) (μ:κ→Nat) (x0:κ) (h0:Φ x0) (hR:R=DR R [])
  (lS:qN fk (mI (boxes x0)) (vars x0) (boxes x0) s h fun s' h'=>uj R.n h s h' s')
  (sn:∀ (D:List Nat) x,Φ x→(∀ (D':List Nat) y,Φ y→μ y<μ x→aa E ae (DR R D') [] (.inLoop b::k) (k8 (vars y) (anyS fk (la (mI (boxes x0)) s))) (k9 (boxes y) h))→aa E ae (DR R D) [] (.code b :: .inLoop b::k) (k8 (vars x) (anyS fk (la (mI (boxes x0)) s))) (k9 (boxes x) h)) :
  aa E ae R lits (.code (.loop b)::k) s h:=by
 have main:∀ n (D:List Nat) x,μ x<n→Φ x→aa E ae (DR R D) [] (.inLoop b::k) (k8 (vars x) (anyS fk (la (mI (boxes x0)) s))) (k9 (boxes x) h):=by
  intro n
  induction n with
  |zero=>intro D x hx; omega
  |succ n ih=>intro D x hx hP; exact .of (.inLoop (sn D x hP fun D' y hy hm=>ih D' y (by omega) hy).to)
 rw [wK] at lS;rw [hR];exact .of (.loop (.weaken lS (sn [] x0 h0 fun D' y hy _=>main (μ y+1) D' y (by omega) hy).to))
end
end Go.ax
end
