/- Several texts of mine, one behind the other. Conditions: as each says. -/
import Derived.Test.YtcmnpelmmekdkaaGreatDoorY15
import Derived.Shelf.SlSortCmp.WholeK
import Derived.Shelf.SortM.Plain
set_option linter.unusedVariables false
set_option linter.unusedSimpArgs false
section
namespace Go.ax
open Go Go.RowKit
section
variable {E:Env} {ae:FuncId} {R:bY} {s:List AV} {h:List ag} {ops:Array Oper} {o:Oper} {l:List Oper} {k:List aG}
end
end Go.ax
namespace Go.ax
open Go Go.RowKit
theorem bh {G:List (Nat × DV)} {s:List AV} {i:Nat} {v:AV} (h:s[i]? = some v):bp G s (.tmp i) v:=fun c a _ hs=>by
 have hl:i<a.tmps.size:=by rw [← hs.1]; exact aZ h
 have:a.eval (.tmp i)=a.tmps[i]:=by simp [Act.eval,hl]
 rw [this];exact hs.2 i v _ h (by simp [hl])
end Go.ax
end
section
namespace Go.ax
open Go Go.RowKit
section
variable {E:Env} {ae:FuncId} {R:bY} {td:List aG} {s:List AV} {h:List ag}
theorem aa.forget {lits:List Nat} (fk ks:List Nat) (vars:List (Nat × AV)) (boxes:List (Nat × ag)) (hs:qN fk ks vars boxes s h fun s' h'=>wI h h' R.fx (uj R.n h s h' s'))
  (H:qN fk ks vars boxes s h fun s' h'=>aa E ae R [] td s' h'):aa E ae R lits td s h:=by
 rw [wK] at hs H;exact .of (.weaken hs H.to)
end
end Go.ax
end
section
namespace Go.ax
open Go Go.RowKit
section
variable {E:Env} {s:List AV} {h:List ag} {c:Cx} {G:List (Nat × DV)}
theorem aE.rest (h3:aE G c) {b g:Nat} {ts:Nat × Nat} {l:List DV} (hb:c.heap[b]? = some (.arr g ts l)):∃ c':Cx,c'.heap=c.heap.set b .gone∧c'.w=c.w∧aE G c'∧Step c c'∧∀ v,VR c (.own b g) v→VR c' (.d (.sl l)) v:=by
 have ez:=aZ hb
 let c':Cx:={ c with own:=fun i=>if i=b then none else c.own i,heap:=c.heap.set b .gone }
 have fz:c'.heap[b]? = some .gone:=by show (c.heap.set b .gone)[b]? = _; rw [List.getElem?_set_self ez]
 have oo:∀ i,i≠b→c'.heap[i]? = c.heap[i]? := fun i hi=>by show (c.heap.set b .gone)[i]? = _; rw [List.getElem?_set_ne (Ne.symm hi)]
 have bC:∀ i,i≠b→c'.own i=c.own i:=fun i hi=>by simp only [c',if_neg hi]
 have jk:∀ i p,c'.own i=some p→i≠b∧c.own i=some p:=fun i p hp=>by
  simp only [c'] at hp;split at hp
  ·cases hp
  ·rename_i q; exact ⟨q,hp⟩
 have aR:Step c c':=⟨rfl,h3.bD,rfl,rfl,rfl,Nat.le_refl _,fun _ _ _=>rfl,fun i x n hi _=>⟨n,(jk i _ hi).2⟩,fun i bx hi=>by
  by_cases bL:i=b
  ·subst bL;cases bx with
   |cells cs=>exact .inr fz
   |arr g sz l=>exact .inr fz
   |map es=>exact .inr fz
   |gone=>exact fz
  ·exact ni hi (oo i bL) (bC i bL)⟩
 refine ⟨c',rfl,rfl,?_,aR,fun v hv=>?_⟩
 ·refine h3.next aR (fun i x n hi=>?_) (fun i j x n m hi hj=>h3.inj i j x n m (jk i _ hi).2 (jk j _ hj).2) (fun i bx hi=>?_)
  ·have:=h3.bI i x n (jk i _ hi).2;refine ⟨this.1,?_⟩;show i<(c.heap.set b .gone).length;rw [List.length_set];exact this.2
  ·by_cases bL:i=b
   ·subst bL;right;rw [fz] at hi;cases hi;show c'.own i=none;simp [c']
   ·rw [oo i bL] at hi;exact .inl ⟨hi,bC i bL,fun _ _ _=>rfl⟩
 ·obtain ⟨q0,q1,q2⟩:=h3.box b _ hb;rcases oh hb hv with ⟨blk,cap,r1,rfl⟩ | ⟨rfl,rfl,r1⟩
  ·rcases q2 with ⟨q2,-⟩ | ⟨lI,ki,vs,q2,q3,q4,q5,q6,q7⟩
   ·rw [r1] at q2; cases q2
   rw [r1] at q2; cases q2;refine .d _ _ (.sl l blk 0 cap ts.2 (fun i j=>(vs[i*ts.2+j]?).getD undef) (fun _ im=>?_) q0 q5 (fun i e he=>q1 i e he) (fun i j e x he hx=>?_) (fun i j e x he hx=>?_) (fun i j e x he hx=>?_))
   ·rcases im with im | ⟨i,n,hi⟩
    ·exact h3.sep b blk cap r1 im
    ·obtain ⟨k1,k2⟩:=jk i _ hi;exact k1 (h3.inj i b blk n cap k2 r1)
   ·obtain ⟨v,p1,p2,p3⟩:=q7 i j e x he hx;rw [p1,Option.getD_some];exact ng q3 _ v (by simpa using p1)
   ·obtain ⟨v,p1,p2,p3⟩:=q7 i j e x he hx;simp only [p1,Option.getD_some];exact aR.vd p3
   ·obtain ⟨v,p1,p2,p3⟩:=q7 i j e x he hx;simp only [p1,Option.getD_some];exact p2
  ·exact .d _ _ .slnil
end
end Go.ax
end
section
namespace Go.ax
open Go Go.RowKit
section
variable {E:Env} {ops:Array Oper} {F:List Nat} {P:List ag→Prop}
def dv (E:Env) (ops:Array Oper) (F:List Nat) (P:List ag→Prop) (K:List AV→List ag→Prop):Nat→List Oper→List AV→List ag→Prop
 |_,[],s,h=>K s h
 |j,o::l,s,h=>match bV j F with
  |true=>∃ v,(∀ h',P h'→dB E ops o s h' v)∧dv E ops F P K (j+1) l (bG s o.dst v) h
  |false=>∃ v h',dq E ops o s h v h'∧P h'∧dv E ops F P K (j+1) l (bG s o.dst v) h'
structure PP (E:Env) (ops:Array Oper) (F:List Nat) (P:List ag→Prop) (i0:Nat) (s:List AV) (pl:List (Oper × AV)) (hp:Nat→List ag):Prop where
 lV:∀ j o v,bV (i0+j) F=true→pl[j]? = some (o,v)→(∀ h',P h'→dB E ops o (cur pl (fun k=>decide (k<j)) 0 s) h' v)∧hp (j+1)=hp j
 sT:∀ j o v,bV (i0+j) F=false→pl[j]? = some (o,v)→dq E ops o (cur pl (fun k=>decide (k<j)) 0 s) (hp j) v (hp (j+1))
 hid:∀ j,j≤pl.length→P (hp j)
theorem dv.lay {K:List AV→List ag→Prop}:∀ {l:List Oper} {i0:Nat} {s:List AV} {h:List ag},P h→dv E ops F P K i0 l s h →
  ∃ (pl:List (Oper × AV)) (hp:Nat→List ag),pl.map (·.1)=l∧hp 0=h∧K (cur pl (fun k=>decide (k<pl.length)) 0 s) (hp pl.length)∧PP E ops F P i0 s pl hp
 | [],i0,s,h,hX,H=>⟨[],fun _=>h,rfl,rfl,H,⟨fun j o v _ hj=>by simp at hj,fun j o v _ hj=>by simp at hj,fun j _=>hX⟩⟩
 |o::l,i0,s,h,hX,H=>by
  simp only [dv] at H;have shift:∀ (pl:List (Oper × AV)) (n:Nat) (s:List AV),cur pl (fun k=>decide (k<n+1)) (0+1) s=cur pl (fun k=>decide (k<n)) 0 s:=fun pl n s=>by
   rw [wR 1]
   congr 1
   funext k;simp
  have build:∀ (v:AV) (h':List ag),P h'→dv E ops F P K (i0+1) l (bG s o.dst v) h'→(bV i0 F=true→(∀ h',P h'→dB E ops o s h' v)∧h'=h)→(bV i0 F=false→dq E ops o s h v h') →
    ∃ (pl:List (Oper × AV)) (hp:Nat→List ag),pl.map (·.1)=o::l∧hp 0=h∧K (cur pl (fun k=>decide (k<pl.length)) 0 s) (hp pl.length)∧PP E ops F P i0 s pl hp:=by
   intro v h' Ad H' f1 f2;obtain ⟨pl,hp,k1,k2,k3,k4⟩:=dv.lay Ad H';refine ⟨(o,v)::pl,fun n=>match n with | 0=>h | n+1=>hp n,by simp [k1],rfl,?_,⟨fun j o' v' hm hj=>?_,fun j o' v' hm hj=>?_,fun j hj=>?_⟩⟩
   ·rw [cur];simp only [List.length_cons,Nat.zero_lt_succ,decide_true,if_true];rw [shift];exact k3
   ·cases j with
    |zero =>
     simp at hj;obtain ⟨rfl,rfl⟩:=hj;rw [jN _ _ _ _ (fun k _=>decide_eq_false (by omega))];obtain ⟨g1,g2⟩:=f1 hm;exact ⟨g1,k2.trans g2⟩
    |succ j =>
     have:=k4.lV j o' v' (by rwa [show i0+1+j=i0+(j+1) by omega]) (by simpa using hj);rw [cur];simp only [Nat.zero_lt_succ,decide_true,if_true];rw [shift];exact this
   ·cases j with
    |zero =>
     simp at hj;obtain ⟨rfl,rfl⟩:=hj;rw [jN _ _ _ _ (fun k _=>decide_eq_false (by omega))];simp only [k2];exact f2 hm
    |succ j =>
     have:=k4.sT j o' v' (by rwa [show i0+1+j=i0+(j+1) by omega]) (by simpa using hj);rw [cur];simp only [Nat.zero_lt_succ,decide_true,if_true];rw [shift];exact this
   ·cases j with
    |zero=>exact hX
    |succ j=>exact k4.hid j (by simpa using hj)
  split at H
  ·rename_i q;obtain ⟨v,h1,h2⟩:=H;exact build v h hX h2 (fun _=>⟨h1,rfl⟩) (fun e=>by rw [q] at e; cases e)
  ·rename_i q;obtain ⟨v,h',h1,h2,h3⟩:=H;exact build v h' h2 h3 (fun e=>by rw [q] at e; cases e) (fun _=>h1)
theorem ZA {J0:Nat} (hc:xu ops F J0) {s0:List AV} {pl:List (Oper × AV)} {hp:Nat→List ag} (lL:pl.map (·.1)=ops.toList) (hx  : PP E ops F P 0 s0 pl hp)
  {Q:Exit→Act→World→Prop} {Kf:List AV→List ag→Prop} {c0:Cx} (fy:Kf (cur pl (fun k=>decide (k<pl.length)) 0 s0) (hp ops.size))
  (hQ:∀ (a:Act) (c:Cx) (s:List AV) (h:List ag),Kf s h→aE E.G c→c.heap=h→a.defers=[]→VS c s a.tmps→Step c0 c→Q .normal a c.w) :
  ∀ (f:Nat) (listed:Array Bool) (a:Act) (c:Cx) (J:Nat),J0≤J→J≤ops.size→aE E.G c→c.heap=hp J→a.defers=[]→VS c (cur pl (aN listed) 0 s0) a.tmps→Step c0 c→DC ops listed →
   (∀ i,i<ops.size→i<J→bV i F=false→aN listed i=true)→(∀ i,J≤i→bV i F=false→aN listed i=false)→(∀ i,ops.size≤i→aN listed i=false)→er (aN listed) ops.size≤f→wpAny E.P .any ops Q f listed a c.w:=by
 obtain ⟨hlen,dH⟩:=qR lL;have same:∀ d J,J+d≤ops.size→(∀ i,J≤i→i<J+d→bV i F=true)→hp (J+d)=hp J:=by
  intro d
  induction d with
  |zero=>intro J _ _; rfl
  |succ d ih =>
   intro J hJ hm;have h1:=ih J (by omega) (fun i h1 h2=>hm i h1 (by omega));have ai:J+d<pl.length:=by omega
   have h2:=(hx.lV (J+d) (pl[J+d]).1 (pl[J+d]).2 (by rw [Nat.zero_add]; exact hm (J+d) (by omega) (by omega)) (by simp [ai])).2;rw [show J+(d+1)=J+d+1 by omega,h2,h1]
 have oP:∀ i,bV i F=true∨bV i F=false:=fun i=>by cases bV i F <;> simp
 have done:∀ (listed:Array Bool) (a:Act) (c:Cx) (J:Nat),J≤ops.size→aE E.G c→c.heap=hp J→a.defers=[]→VS c (cur pl (aN listed) 0 s0) a.tmps→Step c0 c→(∀ i,J≤i→bV i F=false→aN listed i=false)→(∀ i,ops.size≤i→aN listed i=false)→(∀ i,i<ops.size→aN listed i=true)→Q .normal a c.w:=by
  intro listed a c J hJ h1 h2 h3 h4 h5 hn ho aT
  have hs:hp (J+(ops.size - J))=hp J:=same (ops.size - J) J (by omega) (fun i g1 g2=>by
   rcases oP i with h | h
   ·exact h
   ·have:=hn i g1 h; rw [aT i (by omega)] at this; cases this)
  rw [show J+(ops.size - J)=ops.size by omega] at hs;have e:cur pl (aN listed) 0 s0=cur pl (fun k=>decide (k<pl.length)) 0 s0:=by
   congr 1
   funext i;rcases Nat.lt_or_ge i ops.size with h | h
   ·rw [aT i h]; simp [hlen,h]
   ·rw [ho i h]; simp [hlen]; omega
  rw [e] at h4;exact hQ a c _ _ fy h1 (h2.trans hs.symm) h3 h4 h5
 intro f
 induction f with
 |zero =>
  intro listed a c J sU hJ h1 h2 h3 h4 h5 hd gw fa ho iH;have aT:∀ i,i<ops.size→aN listed i=true:=fun i hi=>zq iH hi;refine ⟨?_,done listed a c J hJ h1 h2 h3 h4 h5 fa ho aT⟩;apply List.eq_nil_iff_forall_not_mem.2;intro i hi;obtain ⟨k1,k2⟩:=mJ hd hi;rw [aT i k2] at k1;cases k1
 |succ f ih =>
  intro listed a c J sU hJ h1 h2 h3 h4 h5 hd gw fa ho iH;refine ⟨fun hr=>?_,fun i hi=>?_⟩
  ·refine done listed a c J hJ h1 h2 h3 h4 h5 fa ho (fun i hi=>?_);cases hl:aN listed i with
   |true=>rfl
   |false =>
    obtain ⟨k,-,hk⟩:=uu hc.pn hd hi hl;rw [hr] at hk;cases hk
  obtain ⟨dF,dT⟩:=mJ hd hi;obtain ⟨⟨o,v⟩,dj⟩:∃ p,pl[i]? = some p:=⟨pl[i]'(by omega),by rw [List.getElem?_eq_getElem]⟩;have ec:=dH i o v dj;obtain ⟨lg,kx⟩:=wQ hc.pair dH hd hi dj h4;have bP:i<listed.size:=by rw [hd.1]; exact dT
  have cL:=fun q=>sq (i:=q) bP;have lW:er (aN (listed.setIfInBounds i true)) ops.size≤f:=by
   have:=(uv (L:=aN listed) (L':=aN (listed.setIfInBounds i true)) (j:=i) (fun q hq=>by rw [cL]; simp [hq]) dF (by rw [cL]; simp) ops.size).1 dT;omega
  have mK:∀ u:Value,(a.put o.dst u).defers=[]:=fun u=>by cases gV:o.dst <;> simp [Act.put,h3]
  have cQ:∀ q,ops.size≤q→aN (listed.setIfInBounds i true) q=false:=fun q hq=>by rw [cL,ho q hq]; simp; omega
  rcases oP i with hm | hm
  ·have qQ:=(hx.lV i o v (by rw [Nat.zero_add]; exact hm) dj).1 (hp J) (hx.hid J (by omega));refine qQ c a h1 h2 h3 kx i ec _ _ (fun c' u k1 k2 k3 k4=>?_);refine ih _ _ c' J sU hJ k1 k2 (mK u) (lg c' u (fun _ _=>k3.vr) k4) (h5.trans k3) (hd.set hi) (fun q hq oA eo=>by rw [cL,gw q hq oA eo]; simp) (fun q hq eo=>?_) cQ lW;rw [cL,fa q hq eo];have:q≠i:=fun e=>by subst e; rw [hm] at eo; cases eo
   simp [this]
  ·have aP:J≤i:=by
    rcases Nat.lt_or_ge i J with h | h
    ·have:=gw i dT h hm; rw [dF] at this; cases this
    ·exact h
   have sV:∀ q,J≤q→q<i→bV q F=true:=fun q g1 g2=>by
    rcases oP q with h | h
    ·exact h
    ·have ai:q<ops.size:=by omega
     have h6:=hd.ready hi (hc.spine q i ops[q] o (by omega) g2 (by simp [ai]) ec h hm);rw [fa q g1 h] at h6;cases h6
   have hs:hp (J+(i - J))=hp J:=same (i - J) J (by omega) (fun q g1 g2=>sV q g1 (by omega));rw [show J+(i - J)=i by omega] at hs;refine (hx.sT i o v (by rw [Nat.zero_add]; exact hm) dj) c a h1 (h2.trans hs.symm) h3 kx i ec _ _ (fun c' u k1 k2 k3 k4=>?_);refine ih _ _ c' (i+1) (by omega) (by omega) k1 k2 (mK u) (lg c' u (fun _ _=>k3.vr) k4) (h5.trans k3) (hd.set hi) (fun q hq oA eo=>?_) (fun q hq eo=>by rw [cL,fa q (by omega) eo]; simp; omega) cQ lW;by_cases lX:q=i
   ·subst lX; rw [cL]; simp
   ·rcases Nat.lt_or_ge q J with h | h
    ·rw [cL,gw q hq h eo]; simp
    ·have:=sV q h (by omega); rw [eo] at this; cases this
end
section
variable {E:Env} {ae:FuncId} {R:bY} {ops:Array Oper} {k:List aG} {F:List Nat} {P:List ag→Prop} {lits:List Nat} {s:List AV} {h:List ag}
theorem IA:∀ {l:List Oper} {j:Nat} {s:List AV} {h:List ag},dv E ops F P (fun s2 h2=>aa E ae R [] k s2 h2) j l s h→dv E ops F P (fun s2 h2=>AW E R.fx.f0 ⟨⟨ae,R.fx.cE,R.fx.aH⟩,k,s2⟩ R.fx.cls h2 R) j l s h
 | [],_,_,_,H=>aa.to H
 |o::l,j,s,h,H=>by
  unfold dv at H ⊢;split at H
  ·obtain ⟨v,h1,h2⟩:=H; exact ⟨v,h1,IA h2⟩
  ·obtain ⟨v,h',h1,h2,h3⟩:=H; exact ⟨v,h',h1,h2,IA h3⟩
theorem aa.P1 (hE:E.OK) (hm:E.P.follows .mixedOrders=true) (F:List Nat) (P:List ag→Prop) {id:Nat} (jP:C9 ops F=true) (h0:P h)
  (H:dv E ops F P (fun s2 h2=>aa E ae R [] k s2 h2) 0 ops.toList s h) (dL:R.fx.cE=none:=by rfl) (dJ:R.fx.aH=[]:=by rfl):aa E ae R lits (.code (.region id ops true)::k) s h:=by
 obtain ⟨pl,hp,p1,p2,p3,p4⟩:=dv.lay (E:=E) (ops:=ops) (F:=F) h0 (IA H);obtain ⟨hlen,dH⟩:=qR p1;refine .of (AW.zu hm dL dJ fun c t Q hQ h1 h2 h4=>?_);rw [hlen] at p3;refine ZA (He jP) p1 p4 (Kf:=fun s2 h2=>AW E R.fx.f0 ⟨⟨ae,R.fx.cE,R.fx.aH⟩,k,s2⟩ R.fx.cls h2 R) (by rw [hlen]; exact p3) hQ ops.size _ ⟨t,[]⟩ c 0 (Nat.le_refl _) (Nat.zero_le _) h1 (h2.trans p2.symm) rfl ?_ (Step.refl c h1.bD) ⟨by simp,fun j o e _ hl=>by rw [ky] at hl; cases hl⟩ (fun i _ hi=>by omega) (fun i _ _=>ky _ i) (fun i _=>ky _ i) (Ce _ _);rw [jN _ 0 s _ (fun i _=>ky _ _)];exact h4
theorem aQ.run (hE:E.OK) {o:Op} {v:AV} {h':List ag} (H:eX E.T E.G o s h (oq E o s h (fU E o s h False fun v2 h2=>v2=v∧h2=h') fun v2 h2=>v2=v∧h2=h') fun v2 h2=>v2=v∧h2=h'):aQ E o s h v h':=by
 rcases tE hE H with H | ⟨v2,h2,⟨rfl,rfl⟩,ho⟩
 ·rcases yL hE H with H | ⟨v2,h2,⟨rfl,rfl⟩,ho⟩
  ·rcases tW hE H with H | ⟨v2,h2,⟨rfl,rfl⟩,ho⟩
   ·exact H.elim
   ·exact ho
  ·exact ho
 ·exact ho
theorem dv.float {K:List AV→List ag→Prop} {j:Nat} {o:Oper} {l:List Oper} (v:AV) (hF:bV j F=true) (hg:o.guard=none) (hf:∀ h',P h'→aQ E o.op (bZ (b9 ops o) 0 s) h' v h') (H:dv E ops F P K (j+1) l (bG s o.dst v) h):dv E ops F P K j (o::l) s h:=by
 unfold dv;rw [hF];exact ⟨v,fun h' hp=>dB.of (eO hg) (hf h' hp),H⟩
theorem dv.op {K:List AV→List ag→Prop} {j:Nat} {o:Oper} {l:List Oper} (v:AV) (h':List ag) (hF:bV j F=false) (hg:o.guard=none) (hf:aQ E o.op (bZ (b9 ops o) 0 s) h v h') (hP:P h') (H:dv E ops F P K (j+1) l (bG s o.dst v) h'):dv E ops F P K j (o::l) s h:=by
 unfold dv;rw [hF];exact ⟨v,h',dq.of (eO hg) hf,hP,H⟩
theorem dv.fin {K:List AV→List ag→Prop} {j:Nat} (H:K s h):dv E ops F P K j [] s h:=H
end
end Go.ax
end
section
namespace Go.ax
open Go Go.RowKit
section
variable {E:Env} {s:List AV} {h:List ag}
variable {ae:FuncId} {R:bY} {ops:Array Oper} {o:Oper} {l:List Oper} {k:List aG} {lits:List Nat}
theorem cZ.op {v:AV} {h':List ag} (hg:o.guard=none) (ho:aQ E o.op (bZ (b9 ops o) 0 s) h v h') (hn:∀ t,o.op ≠ .alloc t) (H:bJ s o.dst v fun s'=>cZ E ae R ops k lits l s' h'):cZ E ae R ops k lits (o::l) s h:=by
 rw [di] at H;have H:=H.to;unfold cZ;exact ⟨v,h',dq.of (eO hg) ho,fun t e=>absurd e (hn t),H⟩
end
end Go.ax
end
section
namespace Go.Proofs.YtcmnpelmmekdkaaGreatDoor.P
open Go Go.ax Go.Sort Go.RowKit
theorem ZT {bad:Nat→Prop} {w:World} {k:IntKind} {n:Int} {v:Value} (h:VD bad w (.int k n) v):v = .int k n:=by cases h; rfl
end Go.Proofs.YtcmnpelmmekdkaaGreatDoor.P
end
section
namespace Go.Proofs.YtcmnpelmmekdkaaGreatDoor.P
open Go Go.ax Go.Sort Go.RowKit
def jC (l:List Int):List Int:=l.mergeSort fun x y=>decide (x≤y)
theorem A3 (l:List Int):(jC l).Perm l:=List.mergeSort_perm ..
theorem aaR (l:List Int):(jC l).Pairwise (· ≤ ·):=by
 have:=List.pairwise_mergeSort (le:=fun x y=>decide (x≤y)) (by intro a b c; simp; omega) (by intro a b; simp; omega) l;exact this.imp fun {a b} h=>by simpa using h
def QJ (P:Program) (f:Nat):Prop:=∀ (blk cap:Nat) (zs:List Int) (w:World),Holds (Value.int .i64) w blk 0 zs.toArray→blk<w.heap.size→zs.length<4611686018427387904 →
 Calls P f #[.slice (some ⟨blk,0,none⟩) zs.length cap] w fun e w'=>e = .returned (.tuple #[])∧∃ n os,w'=grow (putRow (Value.int .i64) (Sort.ahead w n) blk 0 (jC zs).toArray) os
theorem aaS {w:World} {blk n:Nat} {d:Array Int} {os:Array Obj} {vs:Array Value} {ty:TypeId} (hb:w.heap[blk]? = some (.cells vs ty (0,0))) :
  let w':=grow (putRow (Value.int .i64) (Sort.ahead w n) blk 0 d) os
  w'.os=w.os∧w'.tape=w.tape∧w'.output=w.output∧w.heap.size≤w'.heap.size∧(∀ b,b<w.heap.size→b≠blk→w'.heap[b]? = w.heap[b]?)∧w'.heap[blk]? = some (.cells (putCells (Value.int .i64) 0 d vs) ty (0,0)):=by
 intro w';have ai:blk<w.heap.size:=by
  rcases Nat.lt_or_ge blk w.heap.size with h | h
  ·exact h
  ·rw [Array.getElem?_eq_none h] at hb; cases hb
 have bP:(putRow (Value.int .i64) (Sort.ahead w n) blk 0 d).heap.size=w.heap.size:=by simp [putRow,mapBlock]
 refine ⟨rfl,rfl,rfl,?_,fun b cP aJ=>?_,?_⟩
 ·show w.heap.size≤(grow _ os).heap.size;rw [size_grow,bP]; omega
 ·show (grow _ os).heap[b]? = _;rw [heap_grow_old _ _ (by rw [bP]; exact cP)];simp [putRow,mapBlock,Array.getElem?_modify,Ne.symm aJ]
 ·show (grow _ os).heap[blk]? = _;rw [heap_grow_old _ _ (by rw [bP]; exact ai)];simp [putRow,mapBlock,Array.getElem?_modify,hb,onCells]
theorem aaT {E:Env} {f:FuncId} {t:Nat} (hS:QJ E.P f) (im:qu E.P f) (l:List Int) (hl:l≠[]) (hlen:l.length<4611686018427387904) :
  aC E f [.arr 0 (t,1) (l.map (DV.int .i64))] [.own 0 0] (fun a b=>a = .aL []∧b=[.arr 0 (t,1) ((jC l).map (DV.int .i64))]):=by
 unfold aC;refine ⟨im,sk rfl,fun c vs h1 h2 h3=>?_⟩;obtain ⟨v1,rfl⟩:∃ v1,vs=[v1]:=by
  have:=h3.1
  match vs,this with
  | [a],_=>exact ⟨a,rfl⟩
 have xT:=h3.2 0 _ v1 rfl rfl;have dX:c.heap[0]? = some (.arr 0 (t,1) (l.map (DV.int .i64))):=by rw [h1]; rfl
 rcases oh dX xT with ⟨blk,cap,r1,rfl⟩ | ⟨sr,-,-⟩
 case inr=>exact absurd (List.map_eq_nil_iff.1 sr) hl
 obtain ⟨q0,q1,q2⟩:=h2.box 0 _ dX;rcases q2 with ⟨q2,-⟩ | ⟨lI,ki,cX,q2,q3,q4,q5,q6,q7⟩
 ·rw [r1] at q2; cases q2
 rw [r1] at q2;cases q2;simp only at q3 q4 q7;have dP:∀ (i:Nat) (x:Int),l[i]? = some x→cX[i]? = some (.int .i64 x):=fun i x hx=>by
  have he:(l.map (DV.int .i64))[i]? = some (DV.int .i64 x):=by simp [hx]
  obtain ⟨v,a1,a2,a3⟩:=q7 i 0 (DV.int .i64 x) (.int .i64 x) he rfl;rw [ZT a3] at a1
  simpa using a1
 have hH:Holds (Value.int .i64) c.w blk 0 l.toArray:=by
  intro j hj;have dK:j<l.length:=by simpa using hj
  obtain ⟨x,hx⟩:∃ x,l[j]? = some x:=⟨l[j]'(by omega),by rw [List.getElem?_eq_getElem]⟩;have dJ:l.toArray[j]! = x:=by
   rw [getElem!_pos l.toArray j (by simpa using dK)];have:=List.getElem?_eq_some_iff.1 hx
   simpa using this.2
  refine ⟨?_,by simp [World.frozen?,q3]⟩;rw [dJ];exact ng q3 _ _ (by simpa using dP j x hx)
 have hblk:=(h2.bI 0 blk cap r1).1;have iS:=hS blk cap l c.w hH hblk hlen;have jK:([Value.slice (some ⟨blk,0,none⟩) (l.map (DV.int .i64)).length cap]:List Value).toArray = #[.slice (some ⟨blk,0,none⟩) l.length cap]:=by simp
 rw [jK];refine iS.mono fun e w' ⟨he,n,os,hw⟩=>?_;subst he;have fE:(jC l).length=l.length:=(A3 l).length_eq;obtain ⟨a1,a2,a3,a4,a5,a6⟩:=aaS (n:=n) (d:=(jC l).toArray) (os:=os) q3;rw [← hw] at a1 a2 a3 a4 a5 a6
 let c':Cx:={ c with heap:=[.arr 0 (t,1) ((jC l).map (DV.int .i64))],w:=w' }
 have cg:∀ i bx,c.heap[i]? = some bx→i=0∧bx = .arr 0 (t,1) (l.map (DV.int .i64)):=fun i bx hi=>by
  rw [h1] at hi;cases i with
  |zero=>simp at hi; exact ⟨rfl,hi.symm⟩
  |succ i=>simp at hi
 have kU:((jC l).map (DV.int .i64)).length=(l.map (DV.int .i64)).length:=by simp [fE]
 have aR:Step c c':=⟨rfl,h2.bD,a1,a2,a3,a4,fun b hb hn=>a5 b hb (fun e=>by subst e; exact hn 0 cap r1),fun i b n hi _=>⟨n,hi⟩,fun i bx hi=>by
  obtain ⟨rfl,rfl⟩:=cg i bx hi
  exact .inl ⟨0,_,rfl,.inr ⟨rfl,kU,rfl⟩⟩⟩
 have aK:aE E.G c':=h2.next aR (fun i b n hi=>by
   have:=h2.bI i b n hi;refine ⟨Nat.lt_of_lt_of_le this.1 a4,?_⟩;have h0:c.heap.length=1:=by rw [h1]; rfl
   show i<1;omega) h2.inj (fun i bx hi=>by
  right;cases i with
  |succ i=>simp [c'] at hi
  |zero =>
   simp [c'] at hi;subst hi;refine ⟨q0,fun i e he=>?_,.inr ⟨blk,cap,_,r1,a6,?_,?_,q6,fun i j e x he hx=>?_⟩⟩
   ·simp only [List.getElem?_map] at he;cases hq:(jC l)[i]? with
    |none=>rw [hq] at he; cases he
    |some y=>rw [hq] at he; cases he; rfl
   ·simp [putCells,q4]
   ·rw [kU]; exact q5
   ·simp only [List.getElem?_map] at he;cases hq:(jC l)[i]? with
    |none=>rw [hq] at he; cases he
    |some y =>
     rw [hq] at he;cases he;have hi:i<l.length:=by have:=aZ hq; omega
     have gh:cX.size=cap*1:=q4;have eh:(l.map (DV.int .i64)).length=l.length:=by simp
     have sW:l.length≤cap:=by rw [← eh]; exact q5
     have hy:(jC l).toArray[i]! = y:=by
      rw [getElem!_pos (jC l).toArray i (by simp; omega)];have:=List.getElem?_eq_some_iff.1 hq
      simpa using this.2
     have at_:(putCells (Value.int .i64) 0 (jC l).toArray cX)[i]? = some (.int .i64 y):=by
      have h5:i<cX.size:=by omega
      simp only [putCells,Array.getElem?_mapIdx,Array.getElem?_eq_getElem h5,Option.map_some];rw [if_pos ⟨Nat.zero_le _,by simp; omega⟩,Nat.sub_zero,hy]
     match j with
     | 0 =>
      simp [DV.cells] at hx;subst hx;exact ⟨_,by simpa using at_,rfl,.int _ _⟩
     |j+1=>simp [DV.cells] at hx)
 refine ⟨c',.aL [],.tuple #[],rfl,rfl,⟨rfl,rfl⟩,.aL [] #[] rfl (fun j x v hx=>by simp at hx),aK,?_⟩
 exact ⟨rfl,a1,a2,a3,a4,fun b hb hn=>a5 b hb (fun e=>by subst e; exact hn 0 cap r1),fun i b n hi _=>⟨n,hi⟩,fun i bx hi=>by
  obtain ⟨rfl,rfl⟩:=cg i bx hi
  exact .inl ⟨0,_,rfl,.inr ⟨rfl,kU,rfl⟩⟩⟩
end Go.Proofs.YtcmnpelmmekdkaaGreatDoor.P
end
