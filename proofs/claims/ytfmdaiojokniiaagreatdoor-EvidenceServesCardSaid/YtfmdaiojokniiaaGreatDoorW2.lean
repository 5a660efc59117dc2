/- Several texts of mine, one behind the other. Conditions: as each says. -/
import Derived.Test.YtfmdaiojokniiaaGreatDoorW1
set_option linter.unusedVariables false
set_option linter.unusedSimpArgs false
section
namespace Go.aw
open Go Go.RowKit
def cI:List Nat→Nat→Option Nat
 | [],_=>none
 |a::l,j=>match Nat.beq a j with
  |true=>some 0
  |false=>(cI l j).map (· + 1)
theorem iq:∀ {l:List Nat} {j i:Nat},cI l j=some i→l[i]? = some j
 |a::l,j,i,h=>by
  simp only [cI] at h;split at h
  ·rename_i q; cases h; simp [Nat.eq_of_beq_eq_true q]
  ·cases hx:cI l j with
   |none=>rw [hx] at h; cases h
   |some k=>rw [hx] at h; cases h; simpa using iq hx
theorem qU:∀ {l:List Nat} {j i:Nat},l.Nodup→l[i]? = some j→cI l j=some i
 | [],_,_,_,h=>by simp at h
 |a::l,j,0,_,h=>by simp at h; subst h; simp [cI]
 |a::l,j,i+1,hn,h=>by
  have hl:l[i]? = some j:=by simpa using h
  have aE:(Nat.beq a j)=false:=by
   cases hb:Nat.beq a j with
   |false=>rfl
   |true =>
    have:=Nat.eq_of_beq_eq_true hb;subst this;exact absurd (List.mem_of_getElem? hl) (List.nodup_cons.1 hn).1
  simp only [cI,aE,qU (List.nodup_cons.1 hn).2 hl];rfl
theorem Bl {l:List Nat} {j:Nat} (h:cI l j=none) (hn:l.Nodup):j ∉ l:=fun hm=>by
 obtain ⟨i,hi,he⟩:=List.getElem_of_mem hm;rw [qU hn (i:=i) (by simp [hi,he])] at h;cases h
def kE (h:List ab) (j:Nat):Nat:=match db h j with
 |some (.arr g _ _)=>g
 |_=>0
section
variable (J:List Nat) (h:List ab)
def fo:AV→AV
 | .own j g=>match cI J j with
  |some i=>match db h j with
   |some (.arr g' _ _)=>match Nat.beq g g' with
    |true => .own i 0
    |false => .any
   |_ => .any
  |none => .any
 | .ptr j off=>match cI J j with
  |some i=>match db h j with
   |some (.cells _) => .ptr i off
   |_ => .any
  |none => .any
 | .cA j g k off=>match cI J j with
  |some i=>match db h j with
   |some (.arr g' _ _)=>match Nat.beq g g' with
    |true => .cA i 0 k off
    |false => .any
   |_ => .any
  |none => .any
 | .cut j g k q=>match cI J j with
  |some i=>match db h j with
   |some (.arr g' _ _)=>match Nat.beq g g' with
    |true => .cut i 0 k q
    |false => .any
   |_ => .any
  |none => .any
 | .map j=>match cI J j with
  |some i=>match db h j with
   |some (.map _) => .map i
   |_ => .any
  |none => .any
 | .d x => .d x
 | .bD e off => .bD e off
 |_ => .any
def eO:AV→AV
 | .agg l => .agg (l.map (fo J h))
 | .az l => .az (l.map (fo J h))
 | .fn f a b => .fn f (a.map (fo J h)) (b.map (fo J h))
 |x=>fo J h x
def ma:ab→ab
 | .arr _ ts l => .arr 0 ts l
 | .cells cs => .cells (cs.map (fo J h))
 |b=>b
def dH:List ab:=J.map fun j=>match db h j with
 |some b=>ma J h b
 |none => .gone
def eQ (i:Nat):Nat:=match db J i with
 |some j=>j
 |none=>h.length+(i - J.length)
def lD (i:Nat):Nat:=match db J i with
 |some j=>kE h j
 |none=>0
def iR:AV→AV
 | .own i g => .own (eQ J h i) (lD J h i+g)
 | .ptr i off => .ptr (eQ J h i) off
 | .cA i g k off => .cA (eQ J h i) (lD J h i+g) k off
 | .cut i g k q => .cut (eQ J h i) (lD J h i+g) k q
 | .map i => .map (eQ J h i)
 | .d x => .d x
 | .bD e off => .bD e off
 |_ => .any
def s4:AV→AV
 | .agg l => .agg (l.map (iR J h))
 | .az l => .az (l.map (iR J h))
 | .fn f a b => .fn f (a.map (iR J h)) (b.map (iR J h))
 |x=>iR J h x
def gz:AV→AV
 | .az l => .az (l.map (s4 J h))
 |x=>s4 J h x
def jU (g0:Nat):ab→ab
 | .arr g ts l => .arr (g0+g) ts l
 | .cells cs => .cells (cs.map (iR J h))
 |b=>b
def mZ (h1:List ab):Nat→List ab→List ab
 |_,[]=>[]
 |j,b::r=>(match cI J j with
  |some i=>match db h1 i with
   |some b1=>jU J h (kE h j) b1
   |none => .gone
  |none=>b)::mZ h1 (j+1) r
def ee (h1:List ab):List ab:=mZ J h h1 0 h++(h1.drop J.length).map (jU J h 0)
end
section
variable {J:List Nat} {h:List ab}
theorem s5 (h1:List ab):∀ (j:Nat) (r:List ab),(mZ J h h1 j r).length=r.length
 |_,[]=>rfl
 |j,b::r=>by simp [mZ,s5 h1 (j+1) r]
theorem Bm (h1:List ab):∀ (j k:Nat) (r:List ab),(mZ J h h1 j r)[k]? = (r[k]?).map fun b=>match cI J (j+k) with
  |some i=>match db h1 i with
   |some b1=>jU J h (kE h (j+k)) b1
   |none => .gone
  |none=>b
 |_,_,[]=>by simp [mZ]
 |j,0,b::r=>by simp [mZ]
 |j,k+1,b::r=>by
  simp only [mZ,List.getElem?_cons_succ];rw [Bm h1 (j+1) k r,show j+1+k=j+(k+1) by omega]
theorem pt (h1:List ab):(ee J h h1).length=h.length+(h1.length - J.length):=by simp [ee,s5]
theorem Bn {h1:List ab} {j:Nat} (hj:j<h.length) (hn:cI J j=none):(ee J h h1)[j]? = h[j]? := by
 rw [ee,List.getElem?_append_left (by rw [s5]; exact hj),Bm,Nat.zero_add,hn];simp
theorem Fq {h1:List ab} {i j:Nat} (hj:j<h.length) (hi:cI J j=some i) {b:ab} (hb:h1[i]? = some b):(ee J h h1)[j]? = some (jU J h (kE h j) b):=by
 rw [ee,List.getElem?_append_left (by rw [s5]; exact hj),Bm,Nat.zero_add,hi];simp [dA,hb,hj]
theorem ME {h1:List ab} {k:Nat}:(ee J h h1)[h.length+k]? = (h1[J.length+k]?).map (jU J h 0):=by
 rw [ee,List.getElem?_append_right (by rw [s5]; omega),s5];simp
def Cx.dN (c:Cx) (J:List Nat):Cx:=⟨fun i=>match J[i]? with | some j=>c.own j | none=>none,dH J c.heap,fun b=>c.ax b∨∃ j n,j ∉ J∧c.own j=some (b,n),c.w⟩
def eR (w:List Nat) (src dst:List ab):List ab:=dst.mapIdx fun j b=>if j∈w then src[j]?.getD b else b
theorem Fs {w:List Nat} {src dst:List ab}:(eR w src dst).length=dst.length:=by simp [eR]
theorem oe {w:List Nat} {src dst:List ab} {j:Nat}:(eR w src dst)[j]? = dst[j]?.map fun b=>if j∈w then src[j]?.getD b else b:=by simp [eR]
theorem na {w:List Nat} {src dst:List ab} {j:Nat} (h:j ∉ w):(eR w src dst)[j]? = dst[j]? := by
 rw [oe];simp [h]
theorem vt {w:List Nat} {src dst:List ab} {j:Nat} {b:ab} (h:j∈w) (hl:j<dst.length) (hb:src[j]? = some b):(eR w src dst)[j]? = some b:=by
 rw [oe,List.getElem?_eq_getElem hl];simp [h,hb]
def dg (J:List Nat) (h h1:List ab):List Nat:=List.range' h.length (h1.length - J.length)
theorem mb {J:List Nat} {h h1:List ab} {j:Nat}:j∈dg J h h1↔h.length≤j∧j<h.length+(h1.length - J.length):=by simp [dg]
def Cx.take (c c1:Cx) (J:List Nat) (h:List ab):Cx:=⟨fun j=>match cI J j with | some i=>c1.own i | none=>if j∈dg J h c1.heap then c1.own (J.length+(j - h.length)) else c.own j,eR (J++dg J h c1.heap) (ee J h c1.heap) c.heap,c.ax,c1.w⟩
variable {c c1:Cx} {G:List (Nat × DV)}
theorem Ft (b:Nat):(c.dN J).bad b↔c.bad b:=by
 constructor
 ·rintro ((hb | ⟨j,n,-,hj⟩) | ⟨i,n,hi⟩)
  ·exact .inl hb
  ·exact .inr ⟨j,n,hj⟩
  ·simp only [Cx.dN] at hi;split at hi
   ·exact .inr ⟨_,n,hi⟩
   ·cases hi
 ·rintro (hb | ⟨j,n,hj⟩)
  ·exact .inl (.inl hb)
  ·by_cases hm:j∈J
   ·obtain ⟨i,hi,he⟩:=List.getElem_of_mem hm;refine .inr ⟨i,n,?_⟩;simp only [Cx.dN];rw [show J[i]? = some j by simp [hi,he]];exact hj
   ·exact .inl (.inr ⟨j,n,hm,hj⟩)
theorem vu {x:DV} {v:Value} (hv:VD c.bad c.w x v):VD (c.dN J).bad (c.dN J).w x v:=hv.mono fun b _ hn=>⟨fun hb=>hn ((Ft b).1 hb),rfl⟩
theorem pv {i j:Nat} {b:ab} (hi:J[i]? = some j) (hb:h[j]? = some b):(dH J h)[i]? = some (ma J h b):=by
 simp [dH,hi,dA,hb]
theorem pw {i j:Nat} (hi:J[i]? = some j):(c.dN J).own i=c.own j:=by simp only [Cx.dN,hi]
theorem Bo {x:AV} {v:Value} (hv:VR c x v):VR (c.dN J) (fo J c.heap x) v:=by
 unfold fo;split
 ·rename_i j g;split
  ·rename_i i hi;have hi:=iq hi;rw [dA];split
   ·rename_i g' ts l hb;split
    ·rename_i q;have q:=Nat.eq_of_beq_eq_true q;subst q;have bT:=pv hi hb;cases hv with
     |own _ _ _ l' blk cap k1 k2=>rw [hb] at k1; cases k1; exact .own i 0 ts l blk cap bT ((pw hi).trans k2)
     |fU _ _ _ k1 k2=>rw [hb] at k1; cases k1; exact .fU i 0 ts bT ((pw hi).trans k2)
     |iN _ _ g2 _ _ _ k1 k2 _=>rw [hb] at k1; cases k1; omega
     |hY _ _ _ k1 _=>rw [hb] at k1; cases k1
     |kn _ _ _ _ _ _ k1 _ _=>rw [hb] at k1; cases k1
    ·exact .any _
   ·exact .any _
  ·exact .any _
 ·rename_i j off;split
  ·rename_i i hi;have hi:=iq hi;rw [dA];split
   ·rename_i cs hb;have bT:=pv hi hb;cases hv with
    |ptr _ _ cs' blk cap k1 k2=>exact .ptr i off _ blk cap bT ((pw hi).trans k2)
    |gQ _ _ _ k1 _=>rw [hb] at k1; cases k1
   ·exact .any _
  ·exact .any _
 ·rename_i j g k off;split
  ·rename_i i hi;have hi:=iq hi;rw [dA];split
   ·rename_i g' ts l hb;split
    ·rename_i q;have q:=Nat.eq_of_beq_eq_true q;subst q;have bT:=pv hi hb;cases hv with
     |cA _ _ _ _ _ l' blk cap k1 k2 k3=>rw [hb] at k1; cases k1; exact .cA i 0 k off ts l blk cap bT ((pw hi).trans k2) k3
     |jJ _ _ g2 _ _ _ _ _ k1 k2 _=>rw [hb] at k1; cases k1; omega
     |jK _ _ _ _ _ k1 _=>rw [hb] at k1; cases k1
    ·exact .any _
   ·exact .any _
  ·exact .any _
 ·rename_i j g k qq;split
  ·rename_i i hi;have hi:=iq hi;rw [dA];split
   ·rename_i g' ts l hb;split
    ·rename_i q;have q:=Nat.eq_of_beq_eq_true q;subst q;have bT:=pv hi hb;cases hv with
     |cut _ _ _ _ _ l' blk cap o k1 k2 k3 k4 k5=>rw [hb] at k1; cases k1; exact .cut i 0 k qq ts l blk cap o bT ((pw hi).trans k2) k3 k4 k5
     |kZ _ _ g2 _ _ _ _ _ k1 k2 _=>rw [hb] at k1; cases k1; omega
     |la _ _ _ _ _ k1 _=>rw [hb] at k1; cases k1
    ·exact .any _
   ·exact .any _
  ·exact .any _
 ·rename_i j;split
  ·rename_i i hi;have hi:=iq hi;rw [dA];split
   ·rename_i es hb;have bT:=pv hi hb;cases hv with
    |map _ cX blk cap k1 k2=>exact .map i _ blk cap bT ((pw hi).trans k2)
    |lb _ _ k1 _=>rw [hb] at k1; cases k1
   ·exact .any _
  ·exact .any _
 ·cases hv with | d _ _ hx=>exact .d _ _ (vu hx)
 ·cases hv with
  |bD _ _ blk o f k1 k2 k3 k4=>exact .bD _ _ blk o f (fun hb=>k1 ((Ft _).1 hb)) k2 k3 (fun j x hx=>vu (k4 j x hx))
 ·exact .any _
theorem vv {l:List AV} {vs:List Value} (hv:VL c l vs):VL (c.dN J) (l.map (fo J c.heap)) vs :=
 ⟨by simpa using hv.1,fun j x v hx hu=>by
  rw [List.getElem?_map] at hx;cases hy:l[j]? with
  |none=>rw [hy] at hx; cases hx
  |some y=>rw [hy] at hx; cases hx; exact Bo (hv.2 j y v hy hu)⟩
theorem vw {l:List AV} {v:Value} (h:VR c (.az l) v):∃ vs:List Value,v = .tuple vs.toArray∧VL c l vs:=by
 cases h with
 |az _ vs hl hv=>exact ⟨vs.toList,by simp,by simpa using hl,fun j x v hx hu=>hv j x v hx (by simpa using hu)⟩
theorem vx {l:List AV} {vs:List Value} (h:VL c l vs):VR c (.az l) (.tuple vs.toArray) :=
 .az l vs.toArray (by simpa using h.1) (fun j x v hx hv=>h.2 j x v hx (by simpa using hv))
theorem Bp {f:Fn} {a b:List AV} {v1 v2:List Value} (h1:VL c a v1) (h2:VL c b v2):VR c (.fn f a b) (.func f v1.toArray v2.toArray) :=
 .fn _ _ _ _ _ (by simpa using h1.1) (by simpa using h2.1) (fun j x v hx hv=>h1.2 j x v hx (by simpa using hv)) (fun j x v hx hv=>h2.2 j x v hx (by simpa using hv))
theorem Fu {x:AV} {v:Value} (hv:VR c x v):VR (c.dN J) (eO J c.heap x) v:=by
 unfold eO;split
 ·obtain ⟨vs,rfl,h1⟩:=mO hv; exact sx (vv h1)
 ·obtain ⟨vs,rfl,h1⟩:=vw hv; exact vx (vv h1)
 ·obtain ⟨v1,v2,rfl,h1,h2⟩:=jn hv; exact Bp (vv h1) (vv h2)
 ·exact Bo hv
theorem Fv {l:List AV} {vs:List Value} (hv:VL c l vs):VL (c.dN J) (l.map (eO J c.heap)) vs :=
 ⟨by simpa using hv.1,fun j x v hx hu=>by
  rw [List.getElem?_map] at hx;cases hy:l[j]? with
  |none=>rw [hy] at hx; cases hx
  |some y=>rw [hy] at hx; cases hx; exact Fu (hv.2 j y v hy hu)⟩
theorem Fw {l:List Nat} (hn:l.Nodup) {i j a:Nat} (hi:l[i]? = some a) (hj:l[j]? = some a):i=j:=by
 have h1:=qU hn hi;have h2:=qU hn hj;rw [h1] at h2;cases h2; rfl
theorem aC.dN (ho:aC G c) (hn:J.Nodup):aC G (c.dN J) where
 bG:=fun b hb=>hb.elim (ho.bG b) fun ⟨j,n,_,hj⟩=>(ho.bk j b n hj).1
 bk:=fun i b n hi=>by
  simp only [Cx.dN] at hi;split at hi
  ·rename_i j hj;exact ⟨(ho.bk j b n hi).1,by show i<(dH J c.heap).length; simp only [dH,List.length_map]; exact aP hj⟩
  ·cases hi
 inj:=fun i j b n m hi hj=>by
  simp only [Cx.dN] at hi hj;split at hi
  ·rename_i a ha;split at hj
   ·rename_i a' Bq;have:=ho.inj a a' b n m hi hj;subst this;exact Fw hn ha Bq
   ·cases hj
  ·cases hi
 sep:=fun i b n hi hb=>by
  simp only [Cx.dN] at hi;split at hi
  ·rename_i a ha;rcases hb with hb | ⟨j,m,hj,hb⟩
   ·exact ho.sep a b n hi hb
   ·have:=ho.inj a j b n m hi hb;subst this;exact hj (List.mem_of_getElem? ha)
  ·cases hi
 box:=fun i bx hi=>by
  have bS:(dH J c.heap)[i]? = some bx:=hi;simp only [dH,List.getElem?_map] at bS;cases hs:J[i]? with
  |none=>rw [hs] at bS; cases bS
  |some j =>
   rw [hs] at bS;simp only [Option.map_some,Option.some.injEq,dA] at bS;have bz:=pw (c:=c) hs;cases hb:c.heap[j]? with
   |none =>
    rw [hb] at bS;subst bS;show (c.dN J).own i=none;rw [bz];cases hx:c.own j with
    |none=>rfl
    |some p=>have:=(ho.bk j p.1 p.2 hx).2; rw [List.getElem?_eq_none_iff] at hb; omega
   |some b =>
    rw [hb] at bS;subst bS;have cM:=ho.box j b hb;cases b with
    |cells cs =>
     obtain ⟨blk,cap,vs,ty,k1,k2,k3⟩:=ho.cells hb;have:=vv (J:=J) k3;exact ⟨blk,cap,vs,ty,bz.trans k1,k2,by simpa using this.1.symm,fun j x v hx hv=>this.2 j x v hx (by simpa using hv)⟩
    |arr g ts l =>
     obtain ⟨q0,q1,q2⟩:=cM;refine ⟨q0,q1,?_⟩;rcases q2 with ⟨q2,q3⟩ | ⟨blk,cap,vs,q2,q3,q4,q5,q6,q7⟩
     ·exact .inl ⟨bz.trans q2,q3⟩
     ·refine .inr ⟨blk,cap,vs,bz.trans q2,q3,q4,q5,q6,fun i j e x he hx=>?_⟩;obtain ⟨v,r1,r2,r3⟩:=q7 i j e x he hx;exact ⟨v,r1,r2,vu r3⟩
    |map es =>
     obtain ⟨blk,cap,en,ck,k1,k2,k3,k4⟩:=cM;exact ⟨blk,cap,en,ck,bz.trans k1,k2,k3,fun j k x m hx hm=>⟨vu (k4 j k x m hx hm).1,vu (k4 j k x m hx hm).2⟩⟩
    |gone=>exact bz.trans cM
    |hole=>exact bz.trans cM
 eJ:=fun g e hg=>by
  have:=Bo (J:=J) (ho.eJ g e hg);exact this
theorem MF:sG (dH J h):=fun i g ts l hi=>by
 simp only [dH,List.getElem?_map] at hi;cases hs:J[i]? with
 |none=>rw [hs] at hi; cases hi
 |some j =>
  rw [hs] at hi;simp only [Option.map_some,Option.some.injEq] at hi;split at hi
  ·rename_i b _;cases b <;> simp [ma] at hi;exact hi.1.symm
  ·cases hi
structure js (c c1:Cx) (J:List Nat) (h:List ab):Prop where
 nodup:J.Nodup
 lt:∀ j∈J,j<h.length
 len:h.length+(c1.heap.length - J.length)≤c.heap.length
 same:∀ j∈J,c.heap[j]? = h[j]?
 new:∀ j∈dg J h c1.heap,c.heap[j]? = some .hole
 rel:Rel (c.dN J) c1
 own:∀ i b n,c1.own i=some (b,n)→i<c1.heap.length
theorem MG {h1:List ab} {j:Nat} (ah:∀ j∈J,j<h.length) (hj:j∈dg J h h1):cI J j=none:=by
 cases hx:cI J j with
 |none=>rfl
 |some i=>have:=ah _ (List.mem_of_getElem? (iq hx)); have:=mb.1 hj; omega
theorem Fx {i j:Nat} (hn:J.Nodup) (hi:J[i]? = some j):(c.take c1 J h).own j=c1.own i:=by
 simp only [Cx.take,qU hn hi]
theorem Br {j:Nat} (hn:cI J j=none) (hj:j ∉ dg J h c1.heap):(c.take c1 J h).own j=c.own j:=by
 simp only [Cx.take,hn,if_neg hj]
theorem Fy {i:Nat} (hs:J[i]? = none) (hi:i<c1.heap.length):h.length+(i - J.length)∈dg J h c1.heap:=by
 rw [List.getElem?_eq_none_iff] at hs;rw [mb];omega
theorem Bs (hb:js c c1 J h) {i:Nat} (hi:i<c1.heap.length):(c.take c1 J h).own (eQ J h i)=c1.own i:=by
 unfold eQ;rw [dA];split
 ·rename_i j hj; exact Fx hb.nodup hj
 ·rename_i hj;have hm:=Fy (h:=h) hj hi;rw [List.getElem?_eq_none_iff] at hj;simp only [Cx.take,MG hb.lt hm,if_pos hm]
  congr 1
  omega
theorem x7 (hb:js c c1 J h) {i:Nat} {b:ab} (hi:c1.heap[i]? = some b):(c.take c1 J h).heap[eQ J h i]? = some (jU J h (lD J h i) b):=by
 unfold eQ lD;rw [dA];show (eR _ (ee J h c1.heap) c.heap)[_]? = _;have hlen:=hb.len;split
 ·rename_i j hj;have hl:=hb.lt j (List.mem_of_getElem? hj);exact vt (List.mem_append_left _ (List.mem_of_getElem? hj)) (by omega) (Fq hl (qU hb.nodup hj) hi)
 ·rename_i hj;have hm:=Fy (h:=h) hj (aP hi);have MI:=mb.1 hm;rw [List.getElem?_eq_none_iff] at hj;exact vt (List.mem_append_right _ hm) (by omega) (by rw [ME,show J.length+(i - J.length)=i by omega,hi]; rfl)
theorem s6 (hb:js c c1 J h) {i j:Nat} {b:ab} (hi:J[i]? = some j) (h1:c1.heap[i]? = some b):(c.take c1 J h).heap[j]? = some (jU J h (kE h j) b):=by
 have:=x7 hb h1
 simpa only [eQ,lD,dA,hi] using this
theorem Fz {j:Nat} (hn:cI J j=none) (eS:J.Nodup) (hj:j ∉ dg J h c1.heap):(c.take c1 J h).heap[j]? = c.heap[j]? :=
 na fun hm=>(List.mem_append.1 hm).elim (Bl hn eS) hj
theorem s7 (hb:js c c1 J h) {j b n:Nat} (hj:(c.take c1 J h).own j=some (b,n)):(∃ i,j=eQ J h i∧i<c1.heap.length∧c1.own i=some (b,n))∨(cI J j=none∧j ∉ dg J h c1.heap∧c.own j=some (b,n)):=by
 simp only [Cx.take] at hj;split at hj
 ·rename_i i hi;exact .inl ⟨i,by simp only [eQ,dA,iq hi],hb.own i b n hj,hj⟩
 ·rename_i hx;split at hj
  ·rename_i hm;have hm:=mb.1 hm;refine .inl ⟨_,?_,hb.own _ b n hj,hj⟩;have:J[J.length+(j - h.length)]? = none:=List.getElem?_eq_none (by omega);simp only [eQ,dA,this];omega
  ·rename_i hm; exact .inr ⟨hx,hm,hj⟩
theorem FA (ho:aC G c) (hb:js c c1 J h) (b:Nat):(c.take c1 J h).bad b↔c1.bad b:=by
 constructor
 ·rintro (hx | ⟨j,n,hx⟩)
  ·refine .inl ?_; rw [hb.rel.ax]; exact .inl hx
  ·rcases s7 hb hx with ⟨i,-,-,hi⟩ | ⟨h1,-,h3⟩
   ·exact .inr ⟨i,n,hi⟩
   ·refine .inl ?_; rw [hb.rel.ax]; exact .inr ⟨j,n,Bl h1 hb.nodup,h3⟩
 ·rintro (hx | ⟨i,n,hx⟩)
  ·rw [hb.rel.ax] at hx;rcases hx with hx | ⟨j,n,hj,hx⟩
   ·exact .inl hx
   ·refine .inr ⟨j,n,?_⟩;have h1:cI J j=none:=by
     cases hi:cI J j with
     |none=>rfl
     |some i=>exact absurd (List.mem_of_getElem? (iq hi)) hj
    rw [Br h1 (fun hm=>by have:=ho.box j _ (hb.new j hm); rw [show c.own j=none from this] at hx; cases hx)];exact hx
  ·exact .inr ⟨_,n,(Bs hb (hb.own i b n hx)).trans hx⟩
theorem vy (ho:aC G c) (hb:js c c1 J h) {x:DV} {v:Value} (hv:VD c1.bad c1.w x v):VD (c.take c1 J h).bad (c.take c1 J h).w x v :=
 hv.mono fun b _ hn=>⟨fun h=>hn ((FA ho hb b).1 h),rfl⟩
theorem FB (ho:aC G c) (hb:js c c1 J h) {x:AV} {v:Value} (hv:VR c1 x v):VR (c.take c1 J h) (iR J h x) v:=by
 have hp:∀ {i:Nat} {b:ab},c1.heap[i]? = some b→(c.take c1 J h).heap[eQ J h i]? = some (jU J h (lD J h i) b):=fun k=>x7 hb k;have hw:∀ {i:Nat} {b:ab},c1.heap[i]? = some b→(c.take c1 J h).own (eQ J h i)=c1.own i:=fun k=>Bs hb (aP k);unfold iR;split
 ·rename_i i g;cases hv with
  |own _ _ ts l blk cap k1 k2=>exact .own _ _ ts l blk cap (hp k1) ((hw k1).trans k2)
  |fU _ _ ts k1 k2=>exact .fU _ _ ts (hp k1) ((hw k1).trans k2)
  |iN _ _ g2 ts l _ k1 k2 k3=>exact .iN _ _ _ ts l _ (hp k1) (by omega) k3
  |hY _ _ _ k1 k3=>exact .hY _ _ _ (hp k1) k3
  |kn _ _ cs blk cap m k1 k2 k3=>exact .kn _ _ _ blk cap m (hp k1) ((hw k1).trans k2) (by simpa using k3)
 ·rename_i i off;cases hv with
  |ptr _ _ cs blk cap k1 k2=>exact .ptr _ _ _ blk cap (hp k1) ((hw k1).trans k2)
  |gQ _ _ _ k1 k3=>exact .gQ _ _ _ (hp k1) k3
 ·rename_i i g k off;cases hv with
  |cA _ _ _ _ ts l blk cap k1 k2 k3=>exact .cA _ _ _ _ ts l blk cap (hp k1) ((hw k1).trans k2) k3
  |jJ _ _ g2 _ _ ts l _ k1 k2 k3=>exact .jJ _ _ _ _ _ ts l _ (hp k1) (by omega) k3
  |jK _ _ _ _ _ k1 k3=>exact .jK _ _ _ _ _ (hp k1) k3
 ·rename_i i g k qq;cases hv with
  |cut _ _ _ _ ts l blk cap o k1 k2 k3 k4 k5=>exact .cut _ _ _ _ ts l blk cap o (hp k1) ((hw k1).trans k2) k3 k4 k5
  |kZ _ _ g2 _ _ ts l _ k1 k2 k3=>exact .kZ _ _ _ _ _ ts l _ (hp k1) (by omega) k3
  |la _ _ _ _ _ k1 k3=>exact .la _ _ _ _ _ (hp k1) k3
 ·rename_i i;cases hv with
  |map _ es blk cap k1 k2=>exact .map _ es blk cap (hp k1) ((hw k1).trans k2)
  |lb _ _ k1 k3=>exact .lb _ _ (hp k1) k3
 ·cases hv with | d _ _ hx=>exact .d _ _ (vy ho hb hx)
 ·cases hv with
  |bD _ _ blk o f k1 k2 k3 k4=>exact .bD _ _ blk o f (fun h=>k1 ((FA ho hb _).1 h)) k2 k3 (fun j x hx=>vy ho hb (k4 j x hx))
 ·exact .any _
theorem px {c c':Cx} {f:AV→AV} (hf:∀ {x:AV} {v:Value},VR c x v→VR c' (f x) v) {l:List AV} {vs:List Value} (hv:VL c l vs):VL c' (l.map f) vs :=
 ⟨by simpa using hv.1,fun j x v hx hu=>by
  rw [List.getElem?_map] at hx;cases hy:l[j]? with
  |none=>rw [hy] at hx; cases hx
  |some y=>rw [hy] at hx; cases hx; exact hf (hv.2 j y v hy hu)⟩
theorem FC (ho:aC G c) (hb:js c c1 J h) {x:AV} {v:Value} (hv:VR c1 x v):VR (c.take c1 J h) (s4 J h x) v:=by
 have hA:∀ {x:AV} {v:Value},VR c1 x v→VR (c.take c1 J h) (iR J h x) v:=fun h=>FB ho hb h;unfold s4;split
 ·obtain ⟨vs,rfl,h1⟩:=mO hv; exact sx (px hA h1)
 ·obtain ⟨vs,rfl,h1⟩:=vw hv; exact vx (px hA h1)
 ·obtain ⟨v1,v2,rfl,h1,h2⟩:=jn hv; exact Bp (px hA h1) (px hA h2)
 ·exact hA hv
theorem Bt (ho:aC G c) (hb:js c c1 J h) {x:AV} {v:Value} (hv:VR c1 x v):VR (c.take c1 J h) (gz J h x) v:=by
 unfold gz;split
 ·obtain ⟨vs,rfl,h1⟩:=vw hv; exact vx (px (fun h=>FC ho hb h) h1)
 ·exact FC ho hb hv
theorem ia.take (ho:aC G c) (hb:js c c1 J h) {i g:Nat} {b:ab} (hi:i<c1.heap.length) (cM:ia c1 i b):ia (c.take c1 J h) (eQ J h i) (jU J h g b):=by
 have bz:=Bs hb hi;cases b with
 |cells cs =>
  obtain ⟨blk,cap,vs,ty,k1,k2,k3,k4⟩:=cM;have:VL (c.take c1 J h) (cs.map (iR J h)) vs.toList:=px (fun h=>FB ho hb h) ⟨by simpa using k3.symm,fun j x v hx hv=>k4 j x v hx (by simpa using hv)⟩;exact ⟨blk,cap,vs,ty,bz.trans k1,k2,by simpa using this.1.symm,fun j x v hx hv=>this.2 j x v hx (by simpa using hv)⟩
 |arr g ts l =>
  obtain ⟨q0,q1,q2⟩:=cM;refine ⟨q0,q1,?_⟩;rcases q2 with ⟨q2,q3⟩ | ⟨blk,cap,vs,q2,q3,q4,q5,q6,q7⟩
  ·exact .inl ⟨bz.trans q2,q3⟩
  ·refine .inr ⟨blk,cap,vs,bz.trans q2,q3,q4,q5,q6,fun i j e x he hx=>?_⟩;obtain ⟨v,r1,r2,r3⟩:=q7 i j e x he hx;exact ⟨v,r1,r2,vy ho hb r3⟩
 |map es =>
  obtain ⟨blk,cap,en,ck,k1,k2,k3,k4⟩:=cM;exact ⟨blk,cap,en,ck,bz.trans k1,k2,k3,fun j k x m hx hm=>⟨vy ho hb (k4 j k x m hx hm).1,vy ho hb (k4 j k x m hx hm).2⟩⟩
 |gone=>exact bz.trans cM
 |hole=>exact bz.trans cM
theorem Bu {i b n:Nat} (hi:(c.dN J).own i=some (b,n)):∃ k,J[i]? = some k∧c.own k=some (b,n):=by
 simp only [Cx.dN] at hi;split at hi
 ·rename_i k hs; exact ⟨k,hs,hi⟩
 ·cases hi
theorem x8 (ho:aC G c) (hb:js c c1 J h):Step c (c.take c1 J h) where
 ax:=rfl
 bG:=ho.bG
 os:=hb.rel.os
 tape:=hb.rel.tape
 output:=hb.rel.output
 size:=hb.rel.size
 keep:=fun b ah hn=>hb.rel.keep b ah (fun i n hi=>by obtain ⟨k,-,hk⟩:=Bu hi; exact hn k n hk)
 da:=fun j b n hj ah=>by
  rcases s7 hb hj with ⟨i,rfl,-,hi⟩ | ⟨-,-,h3⟩
  ·obtain ⟨m,hk⟩:=hb.rel.da i b n hi ah;obtain ⟨k,hs,hk⟩:=Bu hk;exact ⟨m,by simpa only [eQ,dA,hs] using hk⟩
  ·exact ⟨n,h3⟩
 boxes:=fun j bx hj=>by
  cases hx:cI J j with
  |none =>
   by_cases hm:j∈dg J h c1.heap
   ·rw [hb.new j hm] at hj;cases hj;exact ⟨_,oe.trans (by rw [hb.new j hm]; rfl)⟩
   have h':(c.take c1 J h).heap[j]? = some bx:=(Fz hx hb.nodup hm).trans hj;have cF:=Br (c:=c) (c1:=c1) hx hm;cases bx with
   |cells cs=>exact .inl ⟨cs,h',cF,rfl⟩
   |arr g sz l=>exact .inl ⟨g,l,h',.inr ⟨rfl,rfl,cF⟩⟩
   |map es=>exact .inl ⟨es,h',cF⟩
   |gone=>exact h'
   |hole=>exact ⟨_,h'⟩
  |some i =>
   have hi:=iq hx;have MJ:=hb.same j (List.mem_of_getElem? hi);have h1:=hb.rel.boxes i _ (pv hi hj);have cF:=Fx (c:=c) (c1:=c1) (h:=h) hb.nodup hi;have qV:=pw (c:=c) hi;have ea:c1.heap[i]? = some .gone→(c.take c1 J h).heap[j]? = some .gone:=fun h=>s6 hb hi h;cases bx with
   |cells cs =>
    rcases h1 with ⟨cs',h1,h2,h3⟩ | h1
    ·exact .inl ⟨_,s6 hb hi h1,cF.trans (h2.trans qV),by simpa [ma] using h3⟩
    ·exact .inr (ea h1)
   |arr g ts l =>
    rcases h1 with ⟨g',l',h1,h2⟩ | h1
    ·have aK:kE h j=g:=by simp only [kE,dA,← MJ,hj]
     have h3:=s6 hb hi h1;simp only [jU,aK] at h3;refine .inl ⟨g+g',l',h3,?_⟩;rcases h2 with h2 | ⟨h2,h4,h5⟩
     ·left; omega
     ·exact .inr ⟨by omega,h4,cF.trans (h5.trans qV)⟩
    ·exact .inr (ea h1)
   |map es =>
    rcases h1 with ⟨cX,h1,h2⟩ | h1
    ·exact .inl ⟨cX,s6 hb hi h1,cF.trans (h2.trans qV)⟩
    ·exact .inr (ea h1)
   |gone=>exact ea h1
   |hole=>obtain ⟨b,h1⟩:=h1; exact ⟨_,s6 hb hi h1⟩
theorem aC.take (ho:aC G c) (vz:aC G c1) (hb:js c c1 J h):aC G (c.take c1 J h):=by
 refine ho.next (x8 ho hb) (fun j b n hj=>?_) (fun j j' b n m hj dC=>?_) (fun j bx hj=>?_)
 ·rcases s7 hb hj with ⟨i,rfl,h2,hi⟩ | ⟨-,-,h3⟩
  ·exact ⟨(vz.bk i b n hi).1,aP (x7 hb (List.getElem?_eq_getElem h2))⟩
  ·exact ⟨Nat.lt_of_lt_of_le (ho.bk j b n h3).1 hb.rel.size,by show j<(eR _ _ _).length; rw [Fs]; exact (ho.bk j b n h3).2⟩
 ·have FD:∀ j i n m,cI J j=none→c.own j=some (b,n)→c1.own i=some (b,m)→False:=fun j i n m hx hj hi=>by
   refine vz.sep i b m hi ?_;rw [hb.rel.ax];exact .inr ⟨j,n,Bl hx hb.nodup,hj⟩
  rcases s7 hb hj with ⟨i,rfl,-,hi⟩ | ⟨hx,-,FE⟩
  ·rcases s7 hb dC with ⟨i',rfl,-,bS⟩ | ⟨eK,-,Bv⟩
   ·rw [vz.inj i i' b n m hi bS]
   ·exact (FD j' i m n eK Bv hi).elim
  ·rcases s7 hb dC with ⟨i',rfl,-,bS⟩ | ⟨eK,-,Bv⟩
   ·exact (FD j i' n m hx FE bS).elim
   ·exact ho.inj j j' b n m FE Bv
 ·cases hx:cI J j with
  |none =>
   by_cases hm:j∈dg J h c1.heap
   ·right;have MI:=mb.1 hm;have hl:J.length+(j - h.length)<c1.heap.length:=by omega
    have FF:eQ J h (J.length+(j - h.length))=j:=by
     have:J[J.length+(j - h.length)]? = none:=List.getElem?_eq_none (by omega);simp only [eQ,dA,this];omega
    have h2:=x7 hb (List.getElem?_eq_getElem hl);rw [FF,hj] at h2;cases h2;have:=(vz.box _ _ (List.getElem?_eq_getElem hl)).take (g:=lD J h (J.length+(j - h.length))) ho hb hl
    rwa [FF] at this
   ·left;rw [Fz hx hb.nodup hm] at hj;refine ⟨hj,Br hx hm,fun b n bT=>hb.rel.keep b (ho.bk j b n bT).1 (fun i m hi=>?_)⟩;obtain ⟨k,hs,hk⟩:=Bu hi;have:=ho.inj j k b n m bT hk;subst this;rw [qU hb.nodup hs] at hx;cases hx
  |some i =>
   right;have hi:=iq hx;have hl:=hb.lt j (List.mem_of_getElem? hi);obtain ⟨b1,nb⟩:∃ b1,c1.heap[i]? = some b1:=by
    have MK:c.heap[j]? = some h[j]:=(hb.same j (List.mem_of_getElem? hi)).trans (List.getElem?_eq_getElem hl);have py:=hb.rel.boxes i _ (pv hi MK);generalize ma J c.heap h[j]=bb at py;cases bb with
    |cells cs=>rcases py with ⟨_,h,_⟩ | h <;> exact ⟨_,h⟩
    |arr g ts l=>rcases py with ⟨_,_,h,_⟩ | h <;> exact ⟨_,h⟩
    |map es=>rcases py with ⟨_,h,_⟩ | h <;> exact ⟨_,h⟩
    |gone=>exact ⟨_,py⟩
    |hole=>exact py
   rw [s6 hb hi nb] at hj;cases hj;have:=(vz.box i b1 nb).take (g:=kE h j) ho hb (aP nb)
   rwa [show eQ J h i=j by simp only [eQ,dA,hi]] at this
theorem FG {H:List ab} (hs:∀ j∈J,H[j]? = h[j]?) (x:AV):fo J H x=fo J h x:=by
 have e:∀ {j i:Nat},cI J j=some i→db H j=db h j:=fun hi=>by rw [dA,dA]; exact hs _ (List.mem_of_getElem? (iq hi))
 cases x <;> simp only [fo];all_goals
  split
  ·rename_i hi; rw [e hi]
  ·rfl
theorem FH {H:List ab} (hs:∀ j∈J,H[j]? = h[j]?) (x:AV):eO J H x=eO J h x:=by
 have e:fo J H=fo J h:=funext (FG hs);unfold eO;rw [e]
theorem Bw {H:List ab} (hs:∀ j∈J,H[j]? = h[j]?):dH J H=dH J h:=by
 have e:fo J H=fo J h:=funext (FG hs);refine List.map_congr_left fun j hj=>?_;rw [dA,dA,hs j hj];split
 ·unfold ma; rw [e]
 ·rfl
theorem aq.ML {E:Env} {f:FuncId} {args:List AV} {Q:AV→List ab→Prop} (H:aq E f (dH J h) (args.map (eO J h)) Q) (hn:J.Nodup) (ah:∀ j∈J,j<h.length) (hs:∀ j∈J,c.heap[j]? = h[j]?)
  (hr:∀ r h1,Q r h1→h.length+(h1.length - J.length)≤c.heap.length∧∀ j∈dg J h h1,c.heap[j]? = some .hole) (ho:aC E.G c) {vs:List Value} (hv:VL c args vs) :
  Calls E.P f vs.toArray c.w fun e w'=>∃ (c':Cx) (r:AV) (h1:List ab) (v:Value),e = .returned v∧c'.w=w'∧Q r h1∧c'.heap=eR (J++dg J h h1) (ee J h h1) c.heap∧VR c' (gz J h r) v∧aC E.G c'∧Step c c':=by
 unfold aq at H;have eA:=Fv (J:=J) hv;rw [show eO J c.heap=eO J h from funext (FH hs)] at eA;refine (H.2.2 (c.dN J) vs (Bw hs) (ho.dN hn) eA).mono fun e w' ⟨c1,r,v,k1,k2,k3,k4,k5,k6⟩=>?_;obtain ⟨h1,h2⟩:=hr _ _ k3;have hb:js c c1 J h:=⟨hn,ah,h1,hs,h2,k6,fun i b n hi=>(k5.bk i b n hi).2⟩;exact ⟨c.take c1 J h,r,c1.heap,v,k1,k2,k3,rfl,Bt ho hb k4,ho.take k5 hb,x8 ho hb⟩
def Cx.pad (c:Cx) (k:Nat):Cx:={ c with heap:=c.heap++List.replicate k .hole }
theorem x9 {k i:Nat} {bx:ab} (hi:c.heap[i]? = some bx):(c.pad k).heap[i]? = some bx:=(List.getElem?_append_left (aP hi)).trans hi
theorem Bx {k i:Nat} (h1:c.heap.length≤i) (h2:i<c.heap.length+k):(c.pad k).heap[i]? = some .hole:=by
 show (c.heap++_)[i]? = _;rw [List.getElem?_append_right h1,List.getElem?_replicate,if_pos (by omega)]
theorem ya (ho:aC G c) (k:Nat):Step c (c.pad k):=⟨rfl,ho.bG,rfl,rfl,rfl,Nat.le_refl _,fun _ _ _=>rfl,fun i b n h _=>⟨n,h⟩,fun i bx hi=>by
  have h':=x9 (k:=k) hi;cases bx with
  |cells cs=>exact .inl ⟨cs,h',rfl,rfl⟩
  |arr g sz l=>exact .inl ⟨g,l,h',.inr ⟨rfl,rfl,rfl⟩⟩
  |map es=>exact .inl ⟨es,h',rfl⟩
  |gone=>exact h'
  |hole=>exact ⟨_,h'⟩⟩
theorem aC.pad (ho:aC G c) (k:Nat):aC G (c.pad k):=by
 refine ho.next (ya ho k) (fun i b n hi=>⟨(ho.bk i b n hi).1,?_⟩) ho.inj fun i bx hi=>?_
 ·have:=(ho.bk i b n hi).2;show i<(c.heap++_).length;rw [List.length_append];omega
 ·rcases Nat.lt_or_ge i c.heap.length with hl | hl
  ·exact .inl ⟨by rw [← hi,x9 (List.getElem?_eq_getElem hl)]; exact List.getElem?_eq_getElem hl,rfl,fun _ _ _=>rfl⟩
  ·have h2:=aP hi;rw [show (c.pad k).heap.length=c.heap.length+k by simp [Cx.pad]] at h2;rw [Bx hl h2] at hi;cases hi;right;show c.own i=none;cases hx:c.own i with
   |none=>rfl
   |some p=>have:=(ho.bk i p.1 p.2 hx).2; omega
theorem aq.at {E:Env} {f:FuncId} {args:List AV} {Q:AV→List ab→Prop} (H:aq E f (dH J h) (args.map (eO J h)) Q) (hn:J.Nodup) (ah:∀ j∈J,j<h.length) (hh:c.heap=h) (ho:aC E.G c) {vs:List Value} (hv:VL c args vs) :
  Calls E.P f vs.toArray c.w fun e w'=>∃ (c':Cx) (r:AV) (h1:List ab) (v:Value),e = .returned v∧c'.w=w'∧Q r h1∧c'.heap=ee J h h1∧VR c' (gz J h r) v∧aC E.G c'∧Step c c':=by
 subst hh;unfold aq at H;refine (H.2.2 (c.dN J) vs rfl (ho.dN hn) (Fv hv)).mono fun e w' ⟨c1,r,v,k1,k2,k3,k4,k5,k6⟩=>?_;have hs:∀ j∈J,(c.pad (c1.heap.length - J.length)).heap[j]? = c.heap[j]? := fun j hj=>List.getElem?_append_left (ah j hj);have hg:(c.pad (c1.heap.length - J.length)).dN J=c.dN J:=by
  simp only [Cx.dN,Bw hs];rfl
 have hb:js (c.pad (c1.heap.length - J.length)) c1 J c.heap:=⟨hn,ah,by simp [Cx.pad],hs,fun j hj=>have hj:=mb.1 hj; Bx hj.1 hj.2,by rw [hg]; exact k6,fun i b n hi=>(k5.bk i b n hi).2⟩;have vA:=ho.pad (c1.heap.length - J.length);refine ⟨(c.pad (c1.heap.length - J.length)).take c1 J c.heap,r,c1.heap,v,k1,k2,k3,?_,Bt vA hb k4,vA.take k5 hb,(ya ho _).trans (x8 vA hb)⟩;refine List.ext_getElem? fun j=>?_;show (eR _ _ _)[j]? = _;by_cases hm:j∈J++dg J c.heap c1.heap
 ·have hl:j<c.heap.length+(c1.heap.length - J.length):=(List.mem_append.1 hm).elim (fun h=>by have:=ah j h; omega) fun h=>(mb.1 h).2;obtain ⟨b,hr⟩:∃ b,(ee J c.heap c1.heap)[j]? = some b:=⟨_,List.getElem?_eq_getElem (by rw [pt]; exact hl)⟩;rw [vt hm (by show j<(c.heap++_).length; rw [List.length_append,List.length_replicate]; exact hl) hr,hr]
 ·rw [na hm];have iS:cI J j=none:=by
   cases hx:cI J j with
   |none=>rfl
   |some i=>exact absurd (List.mem_append_left _ (List.mem_of_getElem? (iq hx))) hm
  rcases Nat.lt_or_ge j c.heap.length with hl | hl
  ·rw [Bn hl iS,x9 (List.getElem?_eq_getElem hl),List.getElem?_eq_getElem hl]
  ·have:¬ j<c.heap.length+(c1.heap.length - J.length):=fun h=>hm (List.mem_append_right _ (mb.2 ⟨hl,h⟩));rw [List.getElem?_eq_none (by show (c.heap++_).length≤j; rw [List.length_append,List.length_replicate]; omega),List.getElem?_eq_none (by rw [pt]; omega)]
end
end Go.aw
end
section
namespace Go.aw
open Go Go.RowKit
universe u
section Af
variable {α:Sort u} {β γ:Type}
def gZ (f:β→(γ→α)→α):List β→(List γ→α)→α
 | [],k=>k []
 |a::l,k=>f a fun b=>gZ f l fun l'=>k (b::l')
theorem nd {f:β→(γ→α)→α} {g:β→γ} (h:∀ x k,f x k=k (g x)):∀ (l:List β) (k:List γ→α),gZ f l k=k (l.map g)
 | [],_=>rfl
 |a::l,k=>by simp only [gZ,h,nd h l,List.map_cons]
def pz:List β→List β→(List β→α)→α
 | [],m,k=>k m
 |a::l,m,k=>pz l m fun l'=>k (a::l')
theorem s8:∀ (l m:List β) (k:List β→α),pz l m k=k (l++m)
 | [],_,_=>rfl
 |a::l,m,k=>by simp only [pz,s8 l,List.cons_append]
def mc:List β→Nat→(Nat→α)→α
 | [],n,k=>k n
 |_::l,n,k=>mc l (n+1) k
theorem qW:∀ (l:List β) (n:Nat) (k:Nat→α),mc l n k=k (n+l.length)
 | [],_,_=>rfl
 |_::l,n,k=>by rw [mc,qW l,List.length_cons]; congr 1; omega
def og:List Nat→Nat→Nat→α→(Nat→α)→α
 | [],_,_,no,_=>no
 |a::l,j,n,no,k=>match Nat.beq a j with
  |true=>k n
  |false=>og l j (n+1) no k
theorem By:∀ (l:List Nat) (j n:Nat) (no:α) (k:Nat→α),og l j n no k=match cI l j with
  |some i=>k (n+i)
  |none=>no
 | [],_,_,_,_=>rfl
 |a::l,j,n,no,k=>by
  simp only [og,cI];cases Nat.beq a j with
  |true=>rfl
  |false =>
   rw [By l];cases cI l j with
   |none=>rfl
   |some i=>simp only [Option.map_some]; congr 1; omega
theorem s9 {l:List β} {i:Nat} {no:α} {k:β→α}:aI l i no k=match db l i with
  |some x=>k x
  |none=>no:=by
 rw [dA];cases h:l[i]? with
 |none=>exact Er h no k
 |some x=>exact xz h no k
def pA (J:List Nat) (h:List ab) (x:AV) (k:AV→α):α :=
 match x with
 | .own j g=>og J j 0 (k .any) fun i=>aI h j (k .any) fun
  | .arr g' _ _=>match Nat.beq g g' with
   |true=>k (.own i 0)
   |false=>k .any
  |_=>k .any
 | .ptr j off=>og J j 0 (k .any) fun i=>aI h j (k .any) fun
  | .cells _=>k (.ptr i off)
  |_=>k .any
 | .cA j g n off=>og J j 0 (k .any) fun i=>aI h j (k .any) fun
  | .arr g' _ _=>match Nat.beq g g' with
   |true=>k (.cA i 0 n off)
   |false=>k .any
  |_=>k .any
 | .cut j g n q=>og J j 0 (k .any) fun i=>aI h j (k .any) fun
  | .arr g' _ _=>match Nat.beq g g' with
   |true=>k (.cut i 0 n q)
   |false=>k .any
  |_=>k .any
 | .map j=>og J j 0 (k .any) fun i=>aI h j (k .any) fun
  | .map _=>k (.map i)
  |_=>k .any
 | .d x=>k (.d x)
 | .bD e off=>k (.bD e off)
 |_=>k .any
theorem Bz (J:List Nat) (h:List ab) (x:AV) (k:AV→α):pA J h x k=k (fo J h x):=by
 unfold pA fo;simp only [By,s9,Nat.zero_add];cases x with
 |own j g =>
  dsimp only;generalize cI J j=a;generalize db h j=o;cases a with
  |none=>rfl
  |some i=>cases o with
   |none=>rfl
   |some b=>cases b with
    |arr g' _ _=>dsimp only; cases Nat.beq g g' <;> rfl
    |_=>rfl
 |ptr j off =>
  dsimp only;generalize cI J j=a;generalize db h j=o;cases a with
  |none=>rfl
  |some i=>cases o with
   |none=>rfl
   |some b=>cases b <;> rfl
 |cut j g n q =>
  dsimp only;generalize cI J j=a;generalize db h j=o;cases a with
  |none=>rfl
  |some i=>cases o with
   |none=>rfl
   |some b=>cases b with
    |arr g' _ _=>dsimp only; cases Nat.beq g g' <;> rfl
    |_=>rfl
 |cA j g n off =>
  dsimp only;generalize cI J j=a;generalize db h j=o;cases a with
  |none=>rfl
  |some i=>cases o with
   |none=>rfl
   |some b=>cases b with
    |arr g' _ _=>dsimp only; cases Nat.beq g g' <;> rfl
    |_=>rfl
 |map j =>
  dsimp only;generalize cI J j=a;generalize db h j=o;cases a with
  |none=>rfl
  |some i=>cases o with
   |none=>rfl
   |some b=>cases b <;> rfl
 |_=>rfl
def vB (J:List Nat) (h:List ab) (x:AV) (k:AV→α):α :=
 match x with
 | .agg l=>gZ (pA J h) l fun l'=>k (.agg l')
 | .az l=>gZ (pA J h) l fun l'=>k (.az l')
 | .fn f a b=>gZ (pA J h) a fun a'=>gZ (pA J h) b fun b'=>k (.fn f a' b')
 |x=>pA J h x k
theorem BA (J:List Nat) (h:List ab) (x:AV) (k:AV→α):vB J h x k=k (eO J h x):=by
 unfold vB eO;cases x <;> simp only [nd (Bz J h),Bz]
def BB (J:List Nat) (h:List ab) (b:ab) (k:ab→α):α :=
 match b with
 | .arr _ ts l=>k (.arr 0 ts l)
 | .cells cs=>gZ (pA J h) cs fun cs'=>k (.cells cs')
 | .map es=>k (.map es)
 | .gone=>k .gone
 | .hole=>k .hole
theorem MM (J:List Nat) (h:List ab) (b:ab) (k:ab→α):BB J h b k=k (ma J h b):=by
 unfold BB ma;cases b <;> simp only [nd (Bz J h)]
def BC (J:List Nat) (h:List ab) (j:Nat) (k:ab→α):α:=aI h j (k .gone) fun b=>BB J h b k
theorem MN (J:List Nat) (h:List ab) (j:Nat) (k:ab→α):BC J h j k=k (match db h j with | some b=>ma J h b | none => .gone):=by
 unfold BC;rw [s9];generalize db h j=o;cases o with
 |none=>rfl
 |some b=>exact MM J h b k
def vC (J:List Nat) (h:List ab) (k:List ab→α):α:=gZ (BC J h) J k
theorem BD (J:List Nat) (h:List ab) (k:List ab→α):vC J h k=k (dH J h):=by
 unfold vC dH;rw [nd (MN J h)];all_goals rfl
def qX (J:List Nat) (h:List ab) (i:Nat) (k:Nat→α):α:=aI J i (mc h 0 fun n=>mc J 0 fun m=>k (n+(i - m))) k
theorem MO (J:List Nat) (h:List ab) (i:Nat) (k:Nat→α):qX J h i k=k (eQ J h i):=by
 unfold qX eQ;rw [s9];simp only [qW,Nat.zero_add];generalize db J i=o;cases o <;> rfl
def yb (h:List ab) (j:Nat) (k:Nat→α):α:=aI h j (k 0) fun
 | .arr g _ _=>k g
 |_=>k 0
theorem FI (h:List ab) (j:Nat) (k:Nat→α):yb h j k=k (kE h j):=by
 unfold yb kE;rw [s9];generalize db h j=o;cases o with
 |none=>rfl
 |some b=>cases b <;> rfl
def vD (J:List Nat) (h:List ab) (i:Nat) (k:Nat→α):α:=aI J i (k 0) fun j=>yb h j k
theorem MP (J:List Nat) (h:List ab) (i:Nat) (k:Nat→α):vD J h i k=k (lD J h i):=by
 unfold vD lD;rw [s9];generalize db J i=o;cases o with
 |none=>rfl
 |some b=>exact FI h b k
def pB (J:List Nat) (h:List ab) (x:AV) (k:AV→α):α :=
 match x with
 | .own i g=>qX J h i fun j=>vD J h i fun g0=>k (.own j (g0+g))
 | .ptr i off=>qX J h i fun j=>k (.ptr j off)
 | .cA i g n off=>qX J h i fun j=>vD J h i fun g0=>k (.cA j (g0+g) n off)
 | .cut i g n q=>qX J h i fun j=>vD J h i fun g0=>k (.cut j (g0+g) n q)
 | .map i=>qX J h i fun j=>k (.map j)
 | .d x=>k (.d x)
 | .bD e off=>k (.bD e off)
 |_=>k .any
theorem BE (J:List Nat) (h:List ab) (x:AV) (k:AV→α):pB J h x k=k (iR J h x):=by
 unfold pB iR;cases x <;> simp only [MO,MP]
def yc (J:List Nat) (h:List ab) (x:AV) (k:AV→α):α :=
 match x with
 | .agg l=>gZ (pB J h) l fun l'=>k (.agg l')
 | .az l=>gZ (pB J h) l fun l'=>k (.az l')
 | .fn f a b=>gZ (pB J h) a fun a'=>gZ (pB J h) b fun b'=>k (.fn f a' b')
 |x=>pB J h x k
theorem FJ (J:List Nat) (h:List ab) (x:AV) (k:AV→α):yc J h x k=k (s4 J h x):=by
 unfold yc s4;cases x <;> simp only [nd (BE J h),BE]
def eC (J:List Nat) (h:List ab) (x:AV) (k:AV→α):α :=
 match x with
 | .az l=>gZ (yc J h) l fun l'=>k (.az l')
 |x=>yc J h x k
theorem kF (J:List Nat) (h:List ab) (x:AV) (k:AV→α):eC J h x k=k (gz J h x):=by
 unfold eC gz;cases x <;> simp only [nd (FJ J h),FJ]
def yd (J:List Nat) (h:List ab) (g0:Nat) (b:ab) (k:ab→α):α :=
 match b with
 | .arr g ts l=>k (.arr (g0+g) ts l)
 | .cells cs=>gZ (pB J h) cs fun cs'=>k (.cells cs')
 | .map es=>k (.map es)
 | .gone=>k .gone
 | .hole=>k .hole
theorem FK (J:List Nat) (h:List ab) (g0:Nat) (b:ab) (k:ab→α):yd J h g0 b k=k (jU J h g0 b):=by
 unfold yd jU;cases b <;> simp only [nd (BE J h)]
def ta (J:List Nat) (h h1:List ab):Nat→List ab→(List ab→α)→α
 |_,[],k=>k []
 |j,b::r,k=>og J j 0 (ta J h h1 (j+1) r fun r'=>k (b::r')) fun i=>aI h1 i (ta J h h1 (j+1) r fun r'=>k (.gone::r')) fun b1=>yb h j fun g=>yd J h g b1 fun b2=>ta J h h1 (j+1) r fun r'=>k (b2::r')
theorem FL (J:List Nat) (h h1:List ab):∀ (j:Nat) (r:List ab) (k:List ab→α),ta J h h1 j r k=k (mZ J h h1 j r)
 |_,[],_=>rfl
 |j,b::r,k=>by
  simp only [ta,By,s9,FI,FK,FL J h h1 (j+1) r,Nat.zero_add,mZ];generalize cI J j=a;cases a with
  |none=>rfl
  |some i =>
   dsimp only;generalize db h1 i=o;cases o <;> rfl
def hI (J:List Nat) (h h1:List ab) (k:List ab→α):α:=ta J h h1 0 h fun a=>mc J 0 fun n=>qo n h1 fun h2=>gZ (yd J h 0) h2 fun b=>pz a b k
theorem oh (J:List Nat) (h h1:List ab) (k:List ab→α):hI J h h1 k=k (ee J h h1):=by
 unfold hI ee;simp only [FL,qW,Nat.zero_add,Ag,nd (FK J h 0),s8]
def qY (d:Nat):List Nat→Bool
 | []=>false
 |a::l=>match Nat.beq a d with
  |true=>true
  |false=>qY d l
def qZ (j:Nat) (J:List Nat) (k:List Nat→α):α:=match qY j J with
 |true=>k J
 |false=>pz J [j] k
def ye (h:List ab) (x:AV) (J:List Nat) (k:List Nat→α):α :=
 match x with
 | .own j g=>aI h j (k J) fun
  | .arr g' _ _=>match Nat.beq g g' with
   |true=>qZ j J k
   |false=>k J
  |_=>k J
 | .ptr j _=>aI h j (k J) fun
  | .cells _=>qZ j J k
  |_=>k J
 | .cA j g _ _=>aI h j (k J) fun
  | .arr g' _ _=>match Nat.beq g g' with
   |true=>qZ j J k
   |false=>k J
  |_=>k J
 | .cut j g _ _=>aI h j (k J) fun
  | .arr g' _ _=>match Nat.beq g g' with
   |true=>qZ j J k
   |false=>k J
  |_=>k J
 | .map j=>aI h j (k J) fun
  | .map _=>qZ j J k
  |_=>k J
 |_=>k J
def pC (h:List ab):List AV→List Nat→(List Nat→α)→α
 | [],J,k=>k J
 |x::l,J,k=>ye h x J fun kG=>pC h l kG k
def om (h:List ab):List AV→List Nat→(List Nat→α)→α
 | [],J,k=>k J
 |x::l,J,k=>match x with
  | .agg c=>pC h c J fun kG=>om h l kG k
  | .az c=>pC h c J fun kG=>om h l kG k
  | .fn _ a b=>pC h a J fun kG=>pC h b kG fun MQ=>om h l MQ k
  |x=>ye h x J fun kG=>om h l kG k
def pD (h:List ab):Nat→Nat→List Nat→(List Nat→α)→α
 | 0,_,J,k=>k J
 |n+1,p,J,k=>aI J p (k J) fun j=>aI h j (pD h n (p+1) J k) fun
  | .cells cs=>pC h cs J fun kG=>pD h n (p+1) kG k
  |_=>pD h n (p+1) J k
def tc (n:Nat):List Nat→Bool
 | []=>true
 |j::l=>match qY j l,Nat.blt j n with
  |false,true=>tc n l
  |_,_=>false
end Af
theorem yf {d:Nat}:∀ {l:List Nat},qY d l=true↔d∈l
 | []=>by simp [qY]
 |a::l=>by
  simp only [qY];split
  ·rename_i q; simp [Nat.eq_of_beq_eq_true q]
  ·rename_i q;have aE:d≠a:=fun e=>by rw [e,Nat.beq_refl] at q; cases q
   rw [yf (l:=l)];simp [aE]
theorem yg {n:Nat}:∀ {l:List Nat},tc n l=true→l.Nodup∧∀ j∈l,j<n
 | [],_=>⟨.nil,fun j hj=>by simp at hj⟩
 |j::l,H=>by
  simp only [tc] at H;split at H
  ·rename_i q1 q2;obtain ⟨h1,h2⟩:=yg H;refine ⟨List.nodup_cons.2 ⟨fun hm=>?_,h1⟩,fun i hi=>?_⟩
   ·rw [yf.2 hm] at q1; cases q1
   ·rcases List.mem_cons.1 hi with rfl | hi
    ·exact Nat.le_of_ble_eq_true q2
    ·exact h2 i hi
  ·cases H
@[irreducible] def vE (E : Env) (f : FuncId) (h0 : List ab) (args : List AV) (K : AV → List ab → Prop) : Prop := ∃ Q, aq E f h0 args Q ∧ ∀ r h1, Q r h1 → K r h1
theorem iT {E:Env} {f:FuncId} {h0:List ab} {args:List AV} {K Q:AV→List ab→Prop} (H:aq E f h0 args Q) (hk:∀ r h1,Q r h1→K r h1):vE E f h0 args K:=by unfold vE; exact ⟨Q,H,hk⟩
theorem bC {E:Env} {f:FuncId} {h0:List ab} {args:List AV} {K:AV→List ab→Prop} {r:AV} {h1:List ab} (H:aq E f h0 args (fun a b=>a=r∧b=h1)) (hk:K r h1):vE E f h0 args K:=iT H fun _ _ ⟨e1,e2⟩=>by subst e1; subst e2; exact hk
def yh (E:Env) (f:FuncId) (fM:List AV) (h:List ab) (stop:Prop) (k:AV→List ab→Prop):Prop :=
 om h fM [] fun vF=>pD h 20 0 vF fun J=>mc h 0 fun n=>match tc n J with
  |true=>vC J h fun h0=>gZ (vB J h) fM fun BF=>vE E f h0 BF fun r h1=>eC J h r fun v=>hI J h h1 fun h'=>k v h'
  |false=>stop
theorem FM {h:List ab} {x:AV} {J:List Nat} {k:List Nat→Prop} (H:ye h x J k):∃ l,k l:=by
 have yi:∀ {j:Nat},qZ j J k→∃ l,k l:=fun {j} H=>by
  unfold qZ at H;split at H
  ·exact ⟨_,H⟩
  ·rw [s8] at H; exact ⟨_,H⟩
 unfold ye at H;split at H;all_goals first
  |exact ⟨_,H⟩
  |(rcases aS H with H | ⟨_, _, H⟩
    · exact ⟨_, H⟩
    split at H
    · first
      | exact yi H
      | (split at H
         · exact yi H
         · exact ⟨_, H⟩)
    · exact ⟨_, H⟩)
theorem te {h:List ab}:∀ {l:List AV} {J:List Nat} {k:List Nat→Prop},pC h l J k→∃ l,k l
 | [],_,_,H=>⟨_,H⟩
 |_::_,_,_,H=>by
  simp only [pC] at H;obtain ⟨_,H⟩:=FM H;exact te H
theorem ra {h:List ab}:∀ {l:List AV} {J:List Nat} {k:List Nat→Prop},om h l J k→∃ l,k l
 | [],_,_,H=>⟨_,H⟩
 |x::_,_,_,H=>by
  simp only [om] at H;split at H
  ·obtain ⟨_,H⟩:=te H; exact ra H
  ·obtain ⟨_,H⟩:=te H; exact ra H
  ·obtain ⟨_,H⟩:=te H; obtain ⟨_,H⟩:=te H; exact ra H
  ·obtain ⟨_,H⟩:=FM H; exact ra H
theorem tf {h:List ab}:∀ {n p:Nat} {J:List Nat} {k:List Nat→Prop},pD h n p J k→∃ l,k l
 | 0,_,_,_,H=>⟨_,H⟩
 |n+1,p,J,k,H=>by
  simp only [pD] at H;rcases aS H with H | ⟨j,_,H⟩
  ·exact ⟨_,H⟩
  rcases aS H with H | ⟨b,_,H⟩
  ·exact tf H
  split at H
  ·obtain ⟨_,H⟩:=te H; exact tf H
  ·exact tf H
theorem MR {E:Env} {f:FuncId} {fM:List AV} {h:List ab} {stop:Prop} {k:AV→List ab→Prop} (H:yh E f fM h stop k):stop∨∃ (J:List Nat) (Q:AV→List ab→Prop),
  aq E f (dH J h) (fM.map (eO J h)) Q∧J.Nodup∧(∀ j∈J,j<h.length)∧∀ r h1,Q r h1→k (gz J h r) (ee J h h1):=by
 unfold yh at H;obtain ⟨s0,H⟩:=ra H;obtain ⟨J,H⟩:=tf H;rw [qW,Nat.zero_add] at H;split at H
 ·rename_i q;obtain ⟨h1,h2⟩:=yg q;rw [BD,nd (BA J h)] at H;unfold vE at H;obtain ⟨Q,h3,h4⟩:=H;refine .inr ⟨J,Q,h3,h1,h2,fun r h1 hq=>?_⟩;have:=h4 r h1 hq;dsimp only at this;rw [kF,oh] at this;exact this
 ·exact .inl H
section
variable {E:Env} {f0:FuncId} {af:gm} {k:List aH} {s:List AV} {cls:List bP} {h:List ab} {R:cu}
theorem AW.FN {ops:Array Oper} {o:Oper} {l:List Oper} {fx:Operand} {args:Array Operand} {ts:Array TypeId} {f:FuncId} {a1 a2 av:List AV} {J:List Nat} {Q:AV→List ab→Prop} (hw:ig ops o s true) (ho:o.op = .call { callee := .value fx,args:=args,argTypes:=ts })
  (hf:aQ E.G s fx (.fn (.func f) a1 a2)) (ha:gS E.G s args.toList av) (hc:aq E f (dH J h) ((a1++av++a2).map (eO J h)) Q) (hn:J.Nodup) (ah:∀ j∈J,j<h.length)
  (H:∀ r h1,Q r h1→AW E f0 ⟨af,.a8 ops l::k,bX s o.dst (gz J h r)⟩ cls (ee J h h1) R):AW E f0 ⟨af,.a8 ops (o::l)::k,s⟩ cls h R:=by
 unfold AW at H ⊢;intro c0 c t ts h0 h1 h2 h3 hr bE h4 h5 cs;obtain ⟨i,hi,eB,aJ⟩:=ku (h1 _ (List.mem_cons_self ..));obtain ⟨v1,v2,e1,e2,e3⟩:=jn (hf c ⟨t,marks af.aA⟩ h3 h4);have e4:=ha c ⟨t,marks af.aA⟩ h3 h4;have e5:=(e2.append e4).append e3;have hb:pf E.P f:=by unfold aq at hc; exact hc.1
 obtain ⟨e,w',fr,⟨c',r,hp,v,rfl,rfl,hQ,yj,hv,cF,aV⟩,AK,AL,AM⟩:=hc.at (c:=c) hn ah h2 h3 e5 ((bf af).atR ⟨t,marks af.aA⟩ (.inRegion ops (i::(List.range ops.size).drop (ops.size - l.length))::k.map aH.bA)::(ev cls ts++cs));have l5:VS c' (bX s o.dst (gz J h r)) ((⟨t,marks af.aA⟩:Act).put o.dst v).tmps:=VS.bX (a:=⟨t,marks af.aA⟩) (aV.vs h4) o.dst hv;obtain ⟨c2,qJ,r2,u2,q1,q2,q3,uS,q4,q5,q6⟩:=H r hp hQ c0 c' _ ts h0 (fm aJ (dE h1)) yj cF (hr.step aV) (bE.step h3 aV) l5 (aV.cr h5) cs;refine ⟨c2,qJ,r2,u2,q1,q2,q3,uS,?_,q5,q6⟩;have cn:=uQ (P:=E.P) (w:=c.w) (a:=⟨t,marks af.aA⟩) ho e1 hb;have gq:(v1.toArray++args.map (⟨t,marks af.aA⟩:Act).eval++v2.toArray)=(v1++args.toList.map (⟨t,marks af.aA⟩:Act).eval++v2).toArray:=by
  apply Array.ext';simp
 rw [gq] at cn;have s1:=AJ (P:=E.P) (b:=bf af) (k:=k.map aH.bA) (cs:=ev cls ts++cs) (rest:=(List.range ops.size).drop (ops.size - l.length)) hi (hw c t h4) cn;have s2:=step_leave_returned (c:=(bf af).atR ⟨t,marks af.aA⟩ (.inRegion ops (i::(List.range ops.size).drop (ops.size - l.length))::k.map aH.bA)) (cs:=ev cls ts++cs) AM;rw [Frame.finish_atR,hi] at s2;have AN:(⟨af,.a8 ops (o::l)::k,s⟩:bP).bA t=(bf af).atR ⟨t,marks af.aA⟩ (.inRegion ops (i::(List.range ops.size).drop (ops.size - l.length))::k.map aH.bA):=by
  simp only [bP.bA,List.map_cons,eB]
 rw [AN];refine .head s1 (Steps.trans AK (.head s2 ?_));have bB:(bf af).atR ((⟨t,marks af.aA⟩:Act).put ((some o).bind (·.dst)) v) (.inRegion ops ((List.range ops.size).drop (ops.size - l.length))::k.map aH.bA)=(⟨af,.a8 ops l::k,bX s o.dst (gz J h r)⟩:bP).bA ((⟨t,marks af.aA⟩:Act).put o.dst v).tmps:=by
  simp only [bP.bA,List.map_cons,aH.bA,Option.bind_some];rw [put_defers]
 rw [bB];exact q4
end
end Go.aw
end
section
namespace Go.aw
open Go Go.RowKit
@[irreducible] def kH (b : Bool) (A B : Prop) : Prop := (b = true → A) ∧ (b = false → B)
theorem aj {b:Bool} {A B:Prop} (h1:b=true→A) (h2:b=false→B):kH b A B:=by unfold kH; exact ⟨h1,h2⟩
theorem aY {A B:Prop} (h:A):kH true A B:=aj (fun _=>h) (fun h=>by cases h)
theorem aN {A B:Prop} (h:B):kH false A B:=aj (fun h=>by cases h) (fun _=>h)
theorem bg {b:Bool} {A B:Prop} (hb:b=true) (h:A):kH b A B:=by subst hb; exact aY h
theorem aW {b:Bool} {A B:Prop} (hb:b=false) (h:B):kH b A B:=by subst hb; exact aN h
theorem BG {b:Bool} {A B C:Prop} (h:kH b A B) (h1:b=true→A→C) (h2:b=false→B→C):C:=by
 unfold kH at h;cases hb:b
 ·exact h2 hb (h.2 hb)
 ·exact h1 hb (h.1 hb)
@[irreducible] def oo (E : Env) (f : FuncId) (ds : List DV) (h : List ab) (K : AV → List ab → Prop) : Prop :=
 (∃ R1,au E f ds R1∧∀ r,R1 r→K (.d r) h)∨∃ Q,aq E f [] (ds.map .d) Q∧∀ r h1,Q r h1→K (gz [] h r) (ee [] h h1)
theorem vG {E:Env} {f:FuncId} {ds:List DV} {h:List ab} {K:AV→List ab→Prop} {R1:DV→Prop} (hc:au E f ds R1) (hk:∀ r,R1 r→K (.d r) h):oo E f ds h K:=by unfold oo; exact .inl ⟨R1,hc,hk⟩
theorem ar {E:Env} {f:FuncId} {ds:List DV} {h:List ab} {K:AV→List ab→Prop} {r:DV} (hc:au E f ds (· = r)) (hk:K (.d r) h):oo E f ds h K:=vG hc fun _ e=>e ▸ hk
theorem FO {E:Env} {f:FuncId} {ds:List DV} {h:List ab} {K:AV→List ab→Prop} {Q:AV→List ab→Prop} (hc:aq E f [] (ds.map .d) Q) (hk:∀ r h1,Q r h1→eC [] h r fun v=>hI [] h h1 fun h'=>K v h'):oo E f ds h K:=by
 unfold oo;refine .inr ⟨Q,hc,fun r h1 hq=>?_⟩;have:=hk r h1 hq;rw [kF,oh] at this;exact this
theorem vH {E:Env} {f:FuncId} {ds:List DV} {h:List ab} {K:AV→List ab→Prop} {r:AV} {h1:List ab} {args:List AV} (hc:aq E f [] args (fun a b=>a=r∧b=h1)) (ha:args=ds.map .d) (hk:eC [] h r fun v=>hI [] h h1 fun h'=>K v h'):oo E f ds h K :=
 FO (ha ▸ hc) fun _ _ ⟨e1,e2⟩=>by subst e1; subst e2; exact hk
def ir (d:Nat):List Nat→Bool
 | []=>false
 |a::l=>match Nat.beq a d with
  |true=>true
  |false=>ir d l
def vI (G:List (Nat × DV)) (s:List AV) (o:Oper) (stop:Prop) (k:FuncId→List AV→Prop):Prop :=
 match o.op with
 | .call { callee := .value fx,args:=args,.. }=>bR G s fx stop fun
  | .fn (.func f) a1 a2=>qs G s args.toList stop fun av=>pz a1 av fun a3=>pz a3 a2 fun a4=>k f a4
  | .d (.fn (.func f))=>qs G s args.toList stop fun av=>k f av
  |_=>stop
 |_=>stop
def BH (inl:List FuncId) (E:Env) (s:List AV) (h:List ab) (o:Oper) (stop:Prop) (k:AV→List ab→Prop):Prop :=
 vI E.G s o stop fun f fM=>match ir f inl with
  |true=>stop
  |false=>nQ fM (yh E f fM h stop k) fun ds=>oo E f ds h k
theorem FP {G:List (Nat × DV)} {s:List AV} {o:Oper} {stop:Prop} {k:FuncId→List AV→Prop} (H:vI G s o stop k):stop∨∃ (fx:Operand) (args:Array Operand) (ts:Array TypeId) (f:FuncId) (a1 av a2:List AV),
  o.op = .call { callee := .value fx,args:=args,argTypes:=ts }∧aQ G s fx (.fn (.func f) a1 a2)∧gS G s args.toList av∧k f (a1++av++a2):=by
 unfold vI at H;split at H
 ·rename_i fx args ts bZ;rcases bW H with H | ⟨v,hv,H⟩
  ·exact .inl H
  split at H
  ·rename_i f a1 a2;rcases uH H with H | ⟨av,lE,H⟩
   ·exact .inl H
   rw [s8,s8] at H;exact .inr ⟨fx,args,ts,f,a1,av,a2,bZ,hv,lE,H⟩
  ·rename_i f;rcases uH H with H | ⟨av,lE,H⟩
   ·exact .inl H
   refine .inr ⟨fx,args,ts,f,[],av,[],bZ,fun c a h1 h2=>?_,lE,by simpa using H⟩;have:=hv c a h1 h2;generalize a.eval fx=u at this;cases this with
   |d _ _ hx =>
    cases hx;exact .fn _ _ _ _ _ rfl rfl (fun j x v hx=>by simp at hx) (fun j x v hx=>by simp at hx)
  ·exact .inl H
 ·exact .inl H
def yk (ops:Array Oper) (g:Option (Nat × Bool)) (no stop:Prop) (k:Nat→Bool→Prop):Prop :=
 match g with
 |none=>no
 |some (j,b)=>aI ops.toList j stop fun o=>match o.dst with
  |some d=>k d b
  |none=>stop
def FQ:Bool→Bool→Bool
 |true,true=>true
 |false,false=>true
 |_,_=>false
def vJ (id:Nat):List aH→(stop:Prop)→(List aH→Prop)→Prop
 | .inBlock i::r,stop,k=>match Nat.beq i id with
  |true=>k r
  |false=>vJ id r stop k
 |_::r,stop,k=>vJ id r stop k
 | [],stop,_=>stop
theorem rf {id:Nat} {stop:Prop} {k:List aH→Prop}:∀ {l:List aH},vJ id l stop k→stop∨∃ r,kr id l=some r∧k r
 | [],H => .inl H
 | .inBlock i::l,H=>by
  simp only [vJ] at H;split at H
  ·rename_i q; exact .inr ⟨l,by simp only [kr,q],H⟩
  ·rename_i q;rcases rf H with h | ⟨r,hr,h⟩
   ·exact .inl h
   ·exact .inr ⟨r,by simp only [kr,q]; exact hr,h⟩
 | .code c::l,H=>rf (l:=l) H
 | .inLoop c::l,H=>rf (l:=l) H
 | .mR c::l,H=>rf (l:=l) H
 | .nX::l,H=>rf (l:=l) H
 | .a8 ops q::l,H=>rf (l:=l) H
@[irreducible] def I (E : Env) (af : FuncId) (R : cu) (MS : List Nat) (td : List aH) (s : List AV) (h : List ab) : Prop := AW E R.fx.f0 ⟨⟨af, R.fx.cy, R.fx.aA⟩, td, s⟩ R.fx.cls h R
theorem I.of {E:Env} {af:FuncId} {R:cu} {lits:List Nat} {td:List aH} {s:List AV} {h:List ab} (H:AW E R.fx.f0 ⟨⟨af,R.fx.cy,R.fx.aA⟩,td,s⟩ R.fx.cls h R):I E af R lits td s h:=by unfold I; exact H
theorem I.to {E:Env} {af:FuncId} {R:cu} {lits:List Nat} {td:List aH} {s:List AV} {h:List ab} (H:I E af R lits td s h):AW E R.fx.f0 ⟨⟨af,R.fx.cy,R.fx.aA⟩,td,s⟩ R.fx.cls h R:=by unfold I at H; exact H
def vK (af:FuncId) (x:FX):Bool:=match x.cy,x.aA,x.cls with
 |none,[],[]=>Nat.beq x.f0 af
 |_,_,_=>false
theorem MT {af:FuncId} {x:FX} (h:vK af x=true):x.cy=none∧x.aA=[]∧x.cls=[]∧x.f0=af:=by
 unfold vK at h;split at h
 ·rename_i a b c; exact ⟨a,b,c,Nat.eq_of_beq_eq_true h⟩
 ·cases h
def runK (E:Env) (af:FuncId) (rs:List ResultVar) (R:cu):Nat→List Nat→List aH→List AV→List ab→Prop
 | 0,lits,td,s,h=>I E af R lits td s h
 |n+1,lits,td,s,h =>
  match td with
  | []=>match vK af R.fx with
   |true=>lx E.T s h rs (I E af R lits td s h) R.Q
   |false=>I E af R lits td s h
  | .inBlock _::r=>runK E af rs R n lits r s h
  | .inLoop _::_=>I E af R lits td s h
  | .mR _::_=>I E af R lits td s h
  | .nX::_=>I E af R lits td s h
  | .code c::r=>match c with
   | .skip=>runK E af rs R n lits r s h
   | .seq a b=>runK E af rs R n lits (.code a :: .code b::r) s h
   | .block id b=>runK E af rs R n lits (.code b :: .inBlock id::r) s h
   | .exit id=>vJ id r (I E af R lits td s h) fun r'=>runK E af rs R n lits r' s h
   | .region _ ops false=>runK E af rs R n lits (.a8 ops ops.toList::r) s h
   | .ret=>match vK af R.fx with
    |true=>lx E.T s h rs (I E af R lits td s h) R.Q
    |false=>I E af R lits td s h
   | .cond x a b=>bR E.G s x (I E af R lits td s h) fun
    | .d (.bool t)=>kH t (I E af R lits (.code a::r) s h) (I E af R lits (.code b::r) s h)
    |_=>I E af R lits td s h
   |_=>I E af R lits td s h
  | .a8 _ []::r=>runK E af rs R n lits r s h
  | .a8 ops (o::l)::r =>
   let go:Prop:=jL E.T E.G o.op s h (vg E o.op s h (mY E o.op s h (BH R.fx.inl E s h o (I E af R lits td s h) fun v h'=>bY s o.dst v fun s'=>I E af R lits (.a8 ops l::r) s' h')
     fun v h'=>bY s o.dst v fun s'=>I E af R lits (.a8 ops l::r) s' h')
     fun v h'=>bY s o.dst v fun s'=>runK E af rs R n lits (.a8 ops l::r) s' h')
    fun v h'=>bY s o.dst v fun s'=>runK E af rs R n lits (.a8 ops l::r) s' h'
   yk ops o.guard go (I E af R lits td s h) fun d b=>aI s d (I E af R lits td s h) fun
    | .d (.bool t)=>match ir d lits with
     |false=>kH t (fe s d (.d (.bool true)) fun s'=>I E af R (d::lits) td s' h) (fe s d (.d (.bool false)) fun s'=>I E af R (d::lits) td s' h)
     |true=>match FQ t b with
      |true=>go
      |false=>bY s o.dst (.d .undef) fun s'=>runK E af rs R n lits (.a8 ops l::r) s' h
    | .d .undef=>bY s o.dst (.d .undef) fun s'=>runK E af rs R n lits (.a8 ops l::r) s' h
    |_=>I E af R lits td s h
section
variable {E:Env} {af:FuncId} {R:cu}
theorem vL {β:Type}:∀ {l:List β} {d:Nat} {x:β},l[d]? = some x→l.set d x=l
 | [],_,_,h=>by simp at h
 |a::l,0,x,h=>by simp at h; subst h; rfl
 |a::l,d+1,x,h=>by simp only [List.set_cons_succ]; rw [vL (by simpa using h)]
theorem BI (hE:E.OK) {fn:Func} (hf:E.P.funcs[af]? = some fn):∀ (n:Nat) (lits:List Nat) (td:List aH) (s:List AV) (h:List ab),
  runK E af fn.results.toList R n lits td s h→AW E R.fx.f0 ⟨⟨af,R.fx.cy,R.fx.aA⟩,td,s⟩ R.fx.cls h R:=by
 have ret:∀ (lits:List Nat) (td:List aH) (s:List AV) (h:List ab),(td=[]∨∃ r,td = .code .ret::r)→(match vK af R.fx with | true=>lx E.T s h fn.results.toList (I E af R lits td s h) R.Q | false=>I E af R lits td s h)→AW E R.fx.f0 ⟨⟨af,R.fx.cy,R.fx.aA⟩,td,s⟩ R.fx.cls h R:=by
  intro lits td s h l6 H;split at H
  ·rename_i q;by_cases hA:I E af R lits td s h
   ·exact hA.to
   ·rw [eq_false hA] at H;obtain ⟨q1,q2,q3,q4⟩:=MT q;rw [q1,q2,q3,q4];rcases l6 with rfl | ⟨r,rfl⟩
    ·exact .LA hE hf H
    ·exact .ret hE hf H
  ·exact H.to
 intro n
 induction n with
 |zero=>intro lits td s h H; exact I.to H
 |succ n ih =>
  intro lits td s h H;unfold runK at H;split at H
  ·exact ret _ _ s h (.inl rfl) H
  ·exact .inBlock (ih _ _ _ _ H)
  ·exact I.to H
  ·exact I.to H
  ·exact I.to H
  ·rename_i c r;split at H
   ·exact .skip (ih _ _ _ _ H)
   ·exact .seq (ih _ _ _ _ H)
   ·exact .block (ih _ _ _ _ H)
   ·rcases rf H with h' | ⟨r',hr,H⟩
    ·exact h'.to
    ·exact .exit hr (ih _ _ _ _ H)
   ·exact .region (ih _ _ _ _ H)
   ·exact ret _ _ s h (.inr ⟨_,rfl⟩) H
   ·rcases bW H with h' | ⟨v,hv,H⟩
    ·exact h'.to
    split at H
    ·rename_i t;refine BG H (fun e H2=>?_) (fun e H2=>?_)
     ·subst e; exact .cond hv (by simpa using H2.to)
     ·subst e; exact .cond hv (by simpa using H2.to)
    ·exact I.to H
   ·exact I.to H
  ·exact .Lq (ih _ _ _ _ H)
  ·rename_i ops o l r
   have go : ig ops o s true → (jL E.T E.G o.op s h (vg E o.op s h (mY E o.op s h (BH R.fx.inl E s h o (I E af R lits (.a8 ops (o :: l) :: r) s h) fun v h' => bY s o.dst v fun s' => I E af R lits (.a8 ops l :: r) s' h')
         fun v h' => bY s o.dst v fun s' => I E af R lits (.a8 ops l :: r) s' h')
         fun v h' => bY s o.dst v fun s' => runK E af fn.results.toList R n lits (.a8 ops l :: r) s' h')
     fun v h'=>bY s o.dst v fun s'=>runK E af fn.results.toList R n lits (.a8 ops l::r) s' h')→AW E R.fx.f0 ⟨⟨af,R.fx.cy,R.fx.aA⟩,.a8 ops (o::l)::r,s⟩ R.fx.cls h R:=by
    intro hw H;rcases AB hE H with H | ⟨v,h',H,ho⟩
    ·rcases Ff hE H with H | ⟨v,h',H,ho⟩
     case inr =>
      rw [dF] at H;exact .op hw ho (ih _ _ _ _ H)
     rcases Bk hE H with H | ⟨v,h',H,ho⟩
     case inr =>
      rw [dF] at H;exact .op hw ho H.to
     unfold BH at H;rcases FP H with H | ⟨fx,args,ts,f,a1,av,a2,bZ,hv,lE,H⟩
     ·exact I.to H
     split at H
     ·exact I.to H
     rcases uB (a1++av++a2) (yh E f (a1++av++a2) h (I E af R lits (.a8 ops (o::l)::r) s h) fun v h'=>bY s o.dst v fun s'=>I E af R lits (.a8 ops l::r) s' h') (fun ds=>oo E f ds h fun v h'=>bY s o.dst v fun s'=>I E af R lits (.a8 ops l::r) s' h') with ⟨ds,e1,e2⟩ | e2
     ·rw [e2] at H;unfold oo at H;rcases H with ⟨R1,hc,hk⟩ | ⟨Q,hc,hk⟩
      ·refine .call hw bZ hv lE e1 hc fun u hu=>?_;have:=hk u hu;simp only [dF] at this;exact this.to
      ·refine .FN (J:=[]) hw bZ hv lE (Q:=Q) ?_ List.nodup_nil (fun j hj=>by simp at hj) fun u h1 hu=>?_
       ·have e3:(a1++av++a2).map (eO [] h)=ds.map .d:=by rw [e1,List.map_map]; rfl
        rw [e3];exact hc
       ·have:=hk u h1 hu;simp only [dF] at this;exact this.to
     ·rw [e2] at H;rcases MR H with H | ⟨J,Q,hc,hn,ah,hk⟩
      ·exact I.to H
      refine .FN hw bZ hv lE hc hn ah fun u h1 hu=>?_;have:=hk u h1 hu;simp only [dF] at this;exact this.to
    ·rw [dF] at H;exact .op hw ho (ih _ _ _ _ H)
   dsimp only at H;unfold yk at H;split at H
   ·rename_i hg;exact go (fA hg) H
   ·rename_i j b hg;rcases aS H with H | ⟨oj,tg,H⟩
    ·exact I.to H
    split at H
    ·rename_i d hd;rcases aS H with H | ⟨x,hx,H⟩
     ·exact I.to H
     split at H
     ·rename_i t;split at H
      ·refine BG H (fun e H2=>?_) (fun e H2=>?_)
       ·subst e;rw [fK,vL hx] at H2;exact I.to H2
       ·subst e;rw [fK,vL hx] at H2;exact I.to H2
      ·have hw:=AH hg tg hd hx;split at H
       ·rename_i q;have:(t==b)=true:=by cases t <;> cases b <;> first | rfl | cases q
        rw [this] at hw;exact go hw H
       ·rename_i q;have:(t==b)=false:=by cases t <;> cases b <;> first | rfl | cases q
        rw [this] at hw;rw [dF] at H;exact .EJ hw (ih _ _ _ _ H)
     ·rw [dF] at H;exact .EJ (EI hg tg hd hx) (ih _ _ _ _ H)
     ·exact I.to H
    ·exact I.to H
theorem I.run (hE:E.OK) {fn:Func} (hf:E.P.funcs[af]? = some fn) (n:Nat) {lits:List Nat} {td:List aH} {s:List AV} {h:List ab} (H:runK E af fn.results.toList R n lits td s h):I E af R lits td s h := .of (BI hE hf n lits td s h H)
theorem au.run (hE : E.OK) {fn : Func} (hf : E.P.funcs[af]? = some fn) {body : Code} (hb : fn.body = some body) (hn : (fn.name == "runtime.NumGoroutine") = false) (n : Nat) {args : List DV} {R : DV → Prop}
  (H:lZ .d args fun a=>runK E af fn.results.toList ⟨0,sM R,[],⟨af,none,[],[],[],[]⟩⟩ n [] [.code body] (lu a fn.ntmps) []):au E af args R:=by
 rw [qp] at H;exact .Ly (.EK hf hb hn (fun i g ts l h=>by simp at h) (BI hE hf n _ _ _ _ H))
def oq:List ab→Bool
 | []=>true
 | .arr g _ _::l=>match Nat.beq g 0 with
  |true=>oq l
  |false=>false
 |_::l=>oq l
theorem kI:∀ {h:List ab},oq h=true→sG h
 | [],_=>fun i g ts l h=>by simp at h
 |b::r,H=>by
  have hr:oq r=true:=by
   unfold oq at H;split at H
   ·rename_i e; cases e
   ·rename_i e; cases e; split at H
    ·exact H
    ·cases H
   ·rename_i e; cases e; exact H
  intro i g ts l h;cases i with
  |zero =>
   simp at h;subst h;simp only [oq] at H;split at H
   ·rename_i q; exact Nat.eq_of_beq_eq_true q
   ·cases H
  |succ i=>exact kI hr i g ts l (by simpa using h)
theorem aq.run (hE : E.OK) {fn : Func} (hf : E.P.funcs[af]? = some fn) {body : Code} (hb : fn.body = some body) (hn : (fn.name == "runtime.NumGoroutine") = false) (n : Nat) {h : List ab} (lv : oq h = true) {args : List AV} {Q : AV → List ab → Prop}
  (H:runK E af fn.results.toList ⟨h.length,Q,[],⟨af,none,[],[],[],[]⟩⟩ n [] [.code body] (lu args fn.ntmps) h):aq E af h args Q :=
 .EK hf hb hn (kI lv) (BI hE hf n _ _ _ _ H)
end
end Go.aw
end
section
namespace Go.aw
open Go Go.RowKit
def th (h h':List ab) (x y:AV) (K:Prop):Prop :=
 match y with
 | .any=>K
 | .d b=>match x with
  | .d a=>a=b∧K
  |_=>False
 | .own b' g'=>match x with
  | .own b g=>match Nat.beq b b' with
   |true=>aI h b False fun
    | .arr g0 _ _=>aI h' b False fun
     | .arr g1 _ _=>match Nat.beq g g0,Nat.beq g' g1 with
      |true,true=>K
      |_,_=>False
     |_=>False
    |_=>False
   |false=>False
  |_=>False
 | .ptr b' BJ=>match x with
  | .ptr b off=>match Nat.beq b b',Nat.beq off BJ with
   |true,true=>aI h b False fun
    | .cells _=>aI h' b False fun
     | .cells _=>K
     |_=>False
    |_=>False
   |_,_=>False
  |_=>False
 | .bD e' BJ=>match x with
  | .bD e off=>match Nat.beq off BJ with
   |true=>e=e'∧K
   |false=>False
  |_=>False
 | .map b'=>match x with
  | .map b=>match Nat.beq b b' with
   |true=>aI h b False fun
    | .map _=>aI h' b False fun
     | .map _=>K
     |_=>False
    |_=>False
   |false=>False
  |_=>False
 | .cut b' g' k' q'=>match x with
  | .cut b g k q=>match Nat.beq b b' with
   |true=>aI h b False fun
    | .arr g0 _ _=>aI h' b False fun
     | .arr g1 _ _=>match Nat.beq g g0,Nat.beq g' g1 with
      |true,true=>k=k'∧q=q'∧K
      |_,_=>False
     |_=>False
    |_=>False
   |false=>False
  |_=>False
 |_=>False
def pE (h h':List ab):List AV→List AV→Prop→Prop
 | [],[],K=>K
 |x::l,y::l',K=>th h h' x y (pE h h' l l' K)
 |_,_,_=>False
def vM (h h':List ab) (x y:AV) (K:Prop):Prop :=
 match y with
 | .agg l'=>match x with
  | .agg l=>pE h h' l l' K
  |_=>False
 | .az l'=>match x with
  | .az l=>pE h h' l l' K
  |_=>False
 | .fn f' a' b'=>match x with
  | .fn f a b=>f=f'∧pE h h' a a' (pE h h' b b' K)
  |_=>False
 |y=>th h h' x y K
def rh (h h':List ab):List AV→List AV→Prop→Prop
 | [],[],K=>K
 |x::l,y::l',K=>vM h h' x y (rh h h' l l' K)
 |_,_,_=>False
def FR (g g':Nat):Bool:=match Nat.beq g' 0 with
 |true=>Nat.beq g 0
 |false=>true
theorem MU {g g':Nat} (h:FR g g'=true):g'=0→g=0:=fun e=>by
 subst e;exact Nat.eq_of_beq_eq_true h
def yl (h h':List ab) (x y:ab) (K:Prop):Prop :=
 match y with
 | .gone=>K
 | .cells l'=>match x with
  | .cells l=>rh h h' l l' K
  |_=>False
 | .arr g' dD l'=>match x with
  | .arr g ts l=>match FR g g' with
   |true=>ts=dD∧l=l'∧K
   |false=>False
  |_=>False
 | .map cX=>match x with
  | .map es=>es=cX∧K
  |_=>False
 | .hole=>False
def pF (h h':List ab):List ab→List ab→Prop→Prop
 |_,[],K=>K
 |x::l,y::l',K=>yl h h' x y (pF h h' l l' K)
 |_,_,_=>False
def ym (own:Nat→Option (Nat × Nat)) (h':List ab) (i:Nat):Option (Nat × Nat):=match h'[i]? with
 |none=>none
 |some .gone=>none
 |some _=>own i
def Cx.cut (c:Cx) (h':List ab):Cx:={ c with own:=ym c.own h',heap:=h' }
def FT (x y:ab):Prop:=match y with
 | .gone=>True
 | .cells l'=>∃ l,x = .cells l∧l.length=l'.length
 | .arr g' dD l'=>∃ g,x = .arr g dD l'∧(g'=0→g=0)
 | .map cX=>x = .map cX
 | .hole=>False
def HSub (h h':List ab):Prop:=∀ (i:Nat) (y:ab),h'[i]? = some y→∃ x,h[i]? = some x∧FT x y
theorem jt {c:Cx} {h':List ab} {i:Nat} {y:ab} (hy:h'[i]? = some y) (hg:y ≠ .gone):(c.cut h').own i=c.own i:=by
 simp only [Cx.cut,ym,hy]
theorem ot {c:Cx} {h':List ab} {i:Nat} {p:Nat × Nat} (hi:(c.cut h').own i=some p):c.own i=some p∧∃ y,h'[i]? = some y∧y ≠ .gone:=by
 simp only [Cx.cut,ym] at hi;split at hi
 ·cases hi
 ·cases hi
 ·rename_i y aE hy; exact ⟨hi,y,hy,fun e=>aE (by rw [← e])⟩
theorem nf {c:Cx} {h':List ab} {x:DV} {v:Value} (hv:VD c.bad c.w x v):VD (c.cut h').bad (c.cut h').w x v :=
 hv.mono fun _ _ hn=>⟨fun hb=>hn (hb.elim .inl fun ⟨i,n,hi⟩ => .inr ⟨i,n,(ot hi).1⟩),rfl⟩
theorem FU {h h':List ab} {x y:AV} {K:Prop} (H:th h h' x y K) (hs:HSub h h'):K∧∀ (c:Cx) (v:Value),c.heap=h→VR c x v→VR (c.cut h') y v:=by
 unfold th at H;split at H
 ·exact ⟨H,fun c v _ _ => .any v⟩
 ·split at H
  ·obtain ⟨rfl,H⟩:=H;exact ⟨H,fun c v _ hv=>by cases hv with | d _ _ hv=>exact .d _ _ (nf hv)⟩
  ·exact H.elim
 ·rename_i b' g';split at H
  ·rename_i b g;split at H
   ·rename_i q;have:=Nat.eq_of_beq_eq_true q;subst this;rcases aS H with H1 | ⟨bx,hb,H1⟩
    ·exact H1.elim
    clear H;split at H1
    ·rename_i g0 ts l;rcases aS H1 with H2 | ⟨BK,bT,H2⟩
     ·exact H2.elim
     clear H1;split at H2
     ·rename_i g1 dD l';split at H2
      ·rename_i q1 q2;have q1:=Nat.eq_of_beq_eq_true q1;have q2:=Nat.eq_of_beq_eq_true q2;subst q1; subst q2;refine ⟨H2,fun c v hc hv=>?_⟩;obtain ⟨x0,k1,gx,k2,-⟩:=hs b _ bT;rw [hb] at k1;cases k1;cases k2;subst hc;have ho:=jt (c:=c) bT (by simp);rcases kz hb hv with ⟨blk,cap,r1,rfl⟩ | ⟨rfl,rfl,r1⟩
       ·exact .own b _ _ _ blk cap bT (ho.trans r1)
       ·exact .fU b _ _ bT (ho.trans r1)
      ·exact H2.elim
     ·exact H2.elim
    ·exact H1.elim
   ·exact H.elim
  ·exact H.elim
 ·split at H
  ·split at H
   ·rename_i q1 q2;have q1:=Nat.eq_of_beq_eq_true q1;have q2:=Nat.eq_of_beq_eq_true q2;subst q1; subst q2;rcases aS H with H | ⟨bx,hb,H⟩
    ·exact H.elim
    split at H
    ·rcases aS H with H | ⟨BK,bT,H⟩
     ·exact H.elim
     split at H
     ·refine ⟨H,fun c v hc hv=>?_⟩;subst hc;have ho:=jt (c:=c) bT (by simp);cases hv with
      |ptr _ _ cs blk cap k1 k2=>exact .ptr _ _ _ blk cap bT (ho.trans k2)
      |gQ _ _ _ k1 _=>rw [hb] at k1; cases k1
     ·exact H.elim
    ·exact H.elim
   ·exact H.elim
  ·exact H.elim
 ·split at H
  ·split at H
   ·rename_i q;have:=Nat.eq_of_beq_eq_true q;subst this;obtain ⟨rfl,H⟩:=H;refine ⟨H,fun c v hc hv=>?_⟩;cases hv with
    |bD _ _ blk o f k1 k2 k3 k4=>exact .bD _ _ blk o f (fun hb=>k1 (hb.elim .inl fun ⟨i,n,hi⟩ => .inr ⟨i,n,(ot hi).1⟩)) k2 k3 (fun j x hx=>nf (k4 j x hx))
   ·exact H.elim
  ·exact H.elim
 ·split at H
  ·split at H
   ·rename_i q1;have q1:=Nat.eq_of_beq_eq_true q1;subst q1;rcases aS H with H | ⟨bx,hb,H⟩
    ·exact H.elim
    split at H
    ·rcases aS H with H | ⟨BK,bT,H⟩
     ·exact H.elim
     split at H
     ·refine ⟨H,fun c v hc hv=>?_⟩;subst hc;have ho:=jt (c:=c) bT (by simp);cases hv with
      |map _ es blk cap k1 k2=>exact .map _ _ blk cap bT (ho.trans k2)
      |lb _ _ k1 _=>rw [hb] at k1; cases k1
     ·exact H.elim
    ·exact H.elim
   ·exact H.elim
  ·exact H.elim
 ·rename_i b' g' k' q';split at H
  ·rename_i b g k qq;split at H
   ·rename_i q;have:=Nat.eq_of_beq_eq_true q;subst this;rcases aS H with H1 | ⟨bx,hb,H1⟩
    ·exact H1.elim
    clear H;split at H1
    ·rename_i g0 ts l;rcases aS H1 with H2 | ⟨BK,bT,H2⟩
     ·exact H2.elim
     clear H1;split at H2
     ·rename_i g1 dD l';split at H2
      ·rename_i q1 q2;have q1:=Nat.eq_of_beq_eq_true q1;have q2:=Nat.eq_of_beq_eq_true q2;subst q1; subst q2;obtain ⟨rfl,rfl,H2⟩:=H2;refine ⟨H2,fun c v hc hv=>?_⟩;obtain ⟨x0,k1,gx,k2,-⟩:=hs b _ bT;rw [hb] at k1;cases k1;cases k2;subst hc;have ho:=jt (c:=c) bT (by simp);cases hv with
       |cut _ _ _ _ _ l2 blk cap o r1 r2 r3 r4 r5=>rw [hb] at r1; cases r1; exact .cut b _ k _ _ _ blk cap o bT (ho.trans r2) r3 r4 r5
       |kZ _ _ g2 _ _ _ _ _ r1 r2 _=>rw [hb] at r1; cases r1; omega
       |la _ _ _ _ _ r1 _=>rw [hb] at r1; cases r1
      ·exact H2.elim
     ·exact H2.elim
    ·exact H1.elim
   ·exact H.elim
  ·exact H.elim
 ·exact H.elim
theorem vN {h h':List ab} {K:Prop} (hs:HSub h h'):∀ {l l':List AV},pE h h' l l' K→K∧l.length=l'.length∧∀ (c:Cx) (vs:List Value),c.heap=h→VL c l vs→VL (c.cut h') l' vs
 | [],[],H=>⟨H,rfl,fun c vs _ hv=>⟨hv.1,fun j x v hx=>by simp at hx⟩⟩
 |x::l,y::l',H=>by
  simp only [pE] at H;obtain ⟨H,h1⟩:=FU H hs;obtain ⟨H,h2,h3⟩:=vN hs H;refine ⟨H,by simp [h2],fun c vs hc hv=>?_⟩;cases vs with
  |nil=>have:=hv.1; simp at this
  |cons v vs=>exact .cons (h1 c v hc hv.head.1) (h3 c vs hc hv.head.2)
 | [],_::_,H=>H.elim
 |_::_,[],H=>H.elim
theorem MV {h h':List ab} {x y:AV} {K:Prop} (H:vM h h' x y K) (hs:HSub h h'):K∧∀ (c:Cx) (v:Value),c.heap=h→VR c x v→VR (c.cut h') y v:=by
 unfold vM at H;split at H
 ·split at H
  ·obtain ⟨H,-,h1⟩:=vN hs H;refine ⟨H,fun c v hc hv=>?_⟩;obtain ⟨vs,rfl,ie⟩:=mO hv;exact sx (h1 c vs hc ie)
  ·exact H.elim
 ·split at H
  ·obtain ⟨H,-,h1⟩:=vN hs H;refine ⟨H,fun c v hc hv=>?_⟩;cases hv with
   |az _ vs hl bH =>
    have:=h1 c vs.toList hc ⟨by simpa using hl,fun j x v hx hv=>bH j x v hx (by simpa using hv)⟩;exact .az _ vs (by simpa using this.1) (fun j x v hx hv=>this.2 j x v hx (by simpa using hv))
  ·exact H.elim
 ·split at H
  ·obtain ⟨rfl,H⟩:=H;obtain ⟨H,-,h1⟩:=vN hs H;obtain ⟨H,-,h2⟩:=vN hs H;refine ⟨H,fun c v hc hv=>?_⟩;obtain ⟨v1,v2,rfl,r1,r2⟩:=jn hv;have r1:=h1 c v1 hc r1;have r2:=h2 c v2 hc r2;exact .fn _ _ _ _ _ (by simpa using r1.1) (by simpa using r2.1) (fun j x v hx hv=>r1.2 j x v hx (by simpa using hv)) (fun j x v hx hv=>r2.2 j x v hx (by simpa using hv))
  ·exact H.elim
 ·exact FU H hs
theorem BL {h h':List ab} {K:Prop} (hs:HSub h h'):∀ {l l':List AV},rh h h' l l' K→K∧∀ (c:Cx) (vs:List Value),c.heap=h→VL c l vs→VL (c.cut h') l' vs
 | [],[],H=>⟨H,fun c vs _ hv=>⟨hv.1,fun j x v hx=>by simp at hx⟩⟩
 |x::l,y::l',H=>by
  simp only [rh] at H;obtain ⟨H,h1⟩:=MV H hs;obtain ⟨H,h3⟩:=BL hs H;refine ⟨H,fun c vs hc hv=>?_⟩;cases vs with
  |nil=>have:=hv.1; simp at this
  |cons v vs=>exact .cons (h1 c v hc hv.head.1) (h3 c vs hc hv.head.2)
 | [],_::_,H=>H.elim
 |_::_,[],H=>H.elim
theorem FV {h h':List ab} {x y:AV} {Q:Prop} (H:th h h' x y Q):Q:=by
 unfold th at H;repeat' split at H
 all_goals first
  |exact H
  |exact H.elim
  |exact H.2
  |(rcases aS H with H | ⟨_, _, H⟩
    · exact H.elim
    split at H
    · rcases aS H with H | ⟨_, _, H⟩
      · exact H.elim
      repeat' split at H
      all_goals first | exact H | exact H.elim | exact H.2.2 | exact H.2
    all_goals exact H.elim)
theorem yn {h h':List ab} {K:Prop}:∀ {l l':List AV},pE h h' l l' K→K
 | [],[],H=>H
 |_::_,_::_,H=>yn (FV H)
 | [],_::_,H=>H.elim
 |_::_,[],H=>H.elim
theorem BM {h h':List ab} {K:Prop}:∀ {l l':List AV},rh h h' l l' K→l.length=l'.length∧K
 | [],[],H=>⟨rfl,H⟩
 |x::l,y::l',H=>by
  have hK:∀ {Q:Prop},vM h h' x y Q→Q:=fun {Q} H=>by
   unfold vM at H;repeat' split at H
   all_goals first
    |exact H.elim
    |exact yn H
    |exact yn (yn H.2)
    |exact FV H
  simp only [rh] at H;obtain ⟨h1,h2⟩:=BM (hK H);exact ⟨by simp [h1],h2⟩
 | [],_::_,H=>H.elim
 |_::_,[],H=>H.elim
theorem FW {h h':List ab} {K:Prop}:∀ {l l':List ab},pF h h' l l' K→HSub l l'∧K
 | [],[],H=>⟨fun i y hy=>by simp at hy,H⟩
 |_::_,[],H=>⟨fun i y hy=>by simp at hy,H⟩
 |x::l,y::l',H=>by
  simp only [pF] at H;have key:FT x y∧pF h h' l l' K:=by
   unfold yl at H;split at H
   ·exact ⟨trivial,H⟩
   ·split at H
    ·obtain ⟨h1,h2⟩:=BM H; exact ⟨⟨_,rfl,h1⟩,h2⟩
    ·exact H.elim
   ·split at H
    ·split at H
     ·rename_i q; obtain ⟨rfl,rfl,H⟩:=H; exact ⟨⟨_,rfl,MU q⟩,H⟩
     ·exact H.elim
    ·exact H.elim
   ·split at H
    ·obtain ⟨rfl,H⟩:=H; exact ⟨rfl,H⟩
    ·exact H.elim
   ·exact H.elim
  obtain ⟨h1,h2⟩:=FW key.2;refine ⟨fun i z hz=>?_,h2⟩;cases i with
  |zero=>simp at hz; subst hz; exact ⟨x,rfl,key.1⟩
  |succ i=>obtain ⟨w,k1,k2⟩:=h1 i z (by simpa using hz); exact ⟨w,by simpa using k1,k2⟩
 | [],_::_,H=>H.elim
theorem FY {h h':List ab} {K:Prop} (hs:HSub h h'):∀ {l l':List ab},pF h h' l l' K→∀ (i:Nat) (cs:List AV),l'[i]? = some (.cells cs)→∃ ng,l[i]? = some (.cells ng)∧∀ (c:Cx) (vs:List Value),c.heap=h→VL c ng vs→VL (c.cut h') cs vs
 |_,[],H=>fun i y hy=>by simp at hy
 |x::l,y::l',H=>by
  simp only [pF] at H;intro i cs hi;cases i with
  |zero =>
   simp at hi;subst hi;simp only [yl] at H;split at H
   ·obtain ⟨-,h3⟩:=BL hs H;exact ⟨_,rfl,h3⟩
   ·exact H.elim
  |succ i =>
   have qT:pF h h' l l' K:=by
    unfold yl at H;split at H
    ·exact H
    ·split at H
     ·exact (BM H).2
     ·exact H.elim
    ·split at H
     ·split at H
      ·exact H.2.2
      ·exact H.elim
     ·exact H.elim
    ·split at H
     ·exact H.2
     ·exact H.elim
    ·exact H.elim
   obtain ⟨ng,k1,k2⟩:=FY hs qT i cs (by simpa using hi);exact ⟨ng,by simpa using k1,k2⟩
 | [],_::_,H=>H.elim
theorem aC.cut {G:List (Nat × DV)} {c:Cx} (ho:aC G c) {h':List ab} (hs:HSub c.heap h') (sE:∀ (i:Nat) (cs:List AV),h'[i]? = some (.cells cs)→∃ ng,c.heap[i]? = some (.cells ng)∧∀ (vs:List Value),VL c ng vs→VL (c.cut h') cs vs):aC G (c.cut h') where
 bG:=ho.bG
 bk:=fun i b n hi=>by
  obtain ⟨h1,y,h2,-⟩:=ot hi;exact ⟨(ho.bk i b n h1).1,aP h2⟩
 inj:=fun i j b n m hi hj=>ho.inj i j b n m (ot hi).1 (ot hj).1
 sep:=fun i b n hi=>ho.sep i b n (ot hi).1
 box:=fun i bx hi=>by
  have bS:h'[i]? = some bx:=hi;obtain ⟨x,hx,hb⟩:=hs i bx bS;cases bx with
  |gone=>show (c.cut h').own i=none; simp only [Cx.cut,ym,bS]
  |hole=>exact hb.elim
  |cells cs =>
   obtain ⟨ng,k1,k2⟩:=sE i cs bS;obtain ⟨blk,cap,vs,ty,g1,g2,g3⟩:=ho.cells k1;have:=k2 vs.toList g3;exact ⟨blk,cap,vs,ty,(jt bS (by simp)).trans g1,g2,by simpa using this.1.symm,fun j x v hx hv=>this.2 j x v hx (by simpa using hv)⟩
  |arr g ts l =>
   obtain ⟨g0,rfl,-⟩:=hb;obtain ⟨q0,q1,q2⟩:=ho.box i _ hx;refine ⟨q0,q1,?_⟩;have cF:=jt (c:=c) bS (by simp);rcases q2 with ⟨q2,q3⟩ | ⟨blk,cap,vs,q2,q3,q4,q5,q6,q7⟩
   ·exact .inl ⟨cF.trans q2,q3⟩
   ·refine .inr ⟨blk,cap,vs,cF.trans q2,q3,q4,q5,q6,fun i j e x he hx=>?_⟩;obtain ⟨v,r1,r2,r3⟩:=q7 i j e x he hx;exact ⟨v,r1,r2,nf r3⟩
  |map es =>
   obtain rfl:x = .map es:=hb;obtain ⟨blk,cap,en,ck,k1,k2,k3,k4⟩:=ho.box i _ hx;exact ⟨blk,cap,en,ck,(jt bS (by simp)).trans k1,k2,k3,fun j k x m hx hm=>⟨nf (k4 j k x m hx hm).1,nf (k4 j k x m hx hm).2⟩⟩
 eJ:=fun g e hg=>by
  have hp:∀ p,VR c (.bD e 0) p→VR (c.cut h') (.bD e 0) p:=fun p hp=>by
   cases hp with
   |bD _ _ blk o' fv k1 k2 k3 k4=>exact .bD _ _ blk o' fv (fun hb=>k1 (hb.elim .inl fun ⟨i,n,hi⟩ => .inr ⟨i,n,(ot hi).1⟩)) k2 k3 (fun j x hx=>nf (k4 j x hx))
  exact hp _ (ho.eJ g e hg)
def tj (n:Nat) (h:List ab) (s:List AV) (h':List ab) (s':List AV):Prop:=match Nat.ble n h'.length with
 |true=>pF h h' h h' (rh h h' s s' True)
 |false=>False
theorem dY.cut {c0 c:Cx} (hr:dY c0 c) {h':List ab} (hn:c0.heap.length≤h'.length) (hs:HSub c.heap h'):dY c0 (c.cut h') where
 lim:=hr.lim
 lq:=hr.lq
 ax:=hr.ax
 l4:=hr.l4
 os:=hr.os
 tape:=hr.tape
 output:=hr.output
 size:=hr.size
 keep:=hr.keep
 da:=fun i b n hi hb=>hr.da i b n (ot hi).1 hb
 boxes:=fun i bx hi=>by
  have ah:i<h'.length:=Nat.lt_of_lt_of_le (aP hi) hn;obtain ⟨y,hy⟩:∃ y,h'[i]? = some y:=⟨h'[i],by simp [ah]⟩;obtain ⟨x,hx,hb⟩:=hs i y hy;have eM:(c.cut h').heap[i]? = some y:=hy;have h1:=hr.boxes i bx hi;have ea:y = .gone→uO c0 (c.cut h') i bx:=fun e=>by
   subst e;cases bx with
   |cells cs=>exact .inr eM
   |arr g sz l=>exact .inr eM
   |map es=>exact .inr eM
   |gone=>exact eM
   |hole=>exact ⟨_,eM⟩
  cases y with
  |gone=>exact ea rfl
  |hole=>exact hb.elim
  |cells cs' =>
   obtain ⟨Vu,rfl,hl⟩:=hb;have ho:=jt (c:=c) hy (by simp);cases bx with
   |cells cs =>
    rcases h1 with ⟨MW,h1,h2,h3⟩ | h1
    ·rw [hx] at h1; cases h1;exact .inl ⟨cs',eM,ho.trans h2,by omega⟩
    ·rw [hx] at h1; cases h1
   |arr g sz l =>
    rcases h1 with ⟨_,_,h1,_⟩ | h1 <;> (rw [hx] at h1; cases h1)
   |map es=>rcases h1 with ⟨_,h1,_⟩ | h1 <;> (rw [hx] at h1; cases h1)
   |gone=>have h1:c.heap[i]? = some .gone:=h1; rw [hx] at h1; cases h1
   |hole=>exact ⟨_,eM⟩
  |arr g' dD l' =>
   obtain ⟨g1,rfl,hl⟩:=hb;have ho:=jt (c:=c) hy (by simp);cases bx with
   |cells cs=>rcases h1 with ⟨_,h1,_⟩ | h1 <;> (rw [hx] at h1; cases h1)
   |arr g sz l =>
    rcases h1 with ⟨g2,l2,h1,h2⟩ | h1
    ·rw [hx] at h1; cases h1;refine .inl ⟨g',l',eM,?_⟩;by_cases hz:g'=0
     ·have:=hl hz;rcases h2 with h2 | ⟨h2,h3,h4⟩
      ·omega
      ·exact .inr ⟨hz,h3,ho.trans h4⟩
     ·left; omega
    ·rw [hx] at h1; cases h1
   |map es=>rcases h1 with ⟨_,h1,_⟩ | h1 <;> (rw [hx] at h1; cases h1)
   |gone=>have h1:c.heap[i]? = some .gone:=h1; rw [hx] at h1; cases h1
   |hole=>exact ⟨_,eM⟩
  |map cX =>
   obtain rfl:x = .map cX:=hb;have ho:=jt (c:=c) hy (by simp);cases bx with
   |cells cs=>rcases h1 with ⟨_,h1,_⟩ | h1 <;> (rw [hx] at h1; cases h1)
   |arr g sz l=>rcases h1 with ⟨_,_,h1,_⟩ | h1 <;> (rw [hx] at h1; cases h1)
   |map es =>
    rcases h1 with ⟨Vv,h1,h2⟩ | h1
    ·rw [hx] at h1; cases h1;exact .inl ⟨cX,eM,ho.trans h2⟩
    ·rw [hx] at h1; cases h1
   |gone=>have h1:c.heap[i]? = some .gone:=h1; rw [hx] at h1; cases h1
   |hole=>exact ⟨_,eM⟩
def tn (h h':List ab) (x:AV) (K:Prop):Prop :=
 match x with
 | .any=>K
 | .d _=>K
 | .own b g=>aI h' b False fun
  | .gone=>K
  | .arr g1 _ _=>aI h b False fun
   | .arr g0 _ _=>match Nat.blt g g1 with
    |true=>match Nat.ble g g0 with
     |true=>K
     |false=>False
    |false=>match Nat.beq g g0,Nat.beq g g1 with
     |true,true=>K
     |_,_=>False
   |_=>False
  |_=>False
 | .ptr b _=>aI h' b False fun
  | .gone=>K
  | .cells _=>aI h b False fun
   | .cells _=>K
   |_=>False
  |_=>False
 | .bD _ _=>K
 | .map b=>aI h' b False fun
  | .gone=>K
  | .map _=>aI h b False fun
   | .map _=>K
   |_=>False
  |_=>False
 | .cut b g _ _=>aI h' b False fun
  | .gone=>K
  | .arr g1 _ _=>aI h b False fun
   | .arr g0 _ _=>match Nat.blt g g1 with
    |true=>match Nat.ble g g0 with
     |true=>K
     |false=>False
    |false=>match Nat.beq g g0,Nat.beq g g1 with
     |true,true=>K
     |_,_=>False
   |_=>False
  |_=>False
 | .cA b g _ _=>aI h' b False fun
  | .gone=>K
  | .arr g1 _ _=>aI h b False fun
   | .arr g0 _ _=>match Nat.blt g g1 with
    |true=>match Nat.ble g g0 with
     |true=>K
     |false=>False
    |false=>match Nat.beq g g0,Nat.beq g g1 with
     |true,true=>K
     |_,_=>False
   |_=>False
  |_=>False
 |_=>False
def rj (h h':List ab):List AV→Prop→Prop
 | [],K=>K
 |x::l,K=>tn h h' x (rj h h' l K)
def vO (h h':List ab) (x:AV) (K:Prop):Prop :=
 match x with
 | .agg l=>rj h h' l K
 | .az l=>rj h h' l K
 | .fn _ a b=>rj h h' a (rj h h' b K)
 |x=>tn h h' x K
def vP (h h':List ab):List AV→Prop→Prop
 | [],K=>K
 |x::l,K=>vO h h' x (vP h h' l K)
def yo (h h':List ab):List bP→Prop→Prop
 | [],K=>K
 |f::l,K=>vP h h' f.fY (yo h h' l K)
def rk (h h':List ab):List bc→Prop→Prop
 | [],K=>K
 | .loop i::l,K=>vP h h' i.fY (rk h h' l K)
 | .mark _::l,K=>rk h h' l K
 |_::_,_=>False
def tp (h h':List ab) (x:FX) (K:Prop):Prop:=yo h h' x.cls (rk h h' x.loops K)
theorem tq {β:Type} {l:List β} {i:Nat} {k:β→Prop} {K:Prop} (hk:∀ x,k x→K) (H:aI l i False k):K:=by
 rcases aS H with H | ⟨x,_,H⟩
 ·exact H.elim
 ·exact hk x H
theorem FZ {h h':List ab} {x:AV} {K:Prop} (H:tn h h' x K):K:=by
 have arr:∀ (b g:Nat),(aI h' b False fun
  | .gone=>K
  | .arr g1 _ _=>aI h b False fun
   | .arr g0 _ _=>match Nat.blt g g1 with
    |true=>match Nat.ble g g0 with
     |true=>K
     |false=>False
    |false=>match Nat.beq g g0,Nat.beq g g1 with
     |true,true=>K
     |_,_=>False
   |_=>False
  |_=>False)→K:=fun b g H=>tq (fun y H=>by
   split at H
   ·exact H
   ·refine tq (fun z H=>?_) H;split at H
    ·split at H
     ·split at H
      ·exact H
      ·exact H.elim
     ·split at H
      ·exact H
      ·exact H.elim
    ·exact H.elim
   ·exact H.elim) H
 cases x with
 |own b g=>exact arr b g H
 |cA b g i off=>exact arr b g H
 |cut b g k q=>exact arr b g H
 |ptr b off =>
  exact tq (fun y H=>by
   split at H
   ·exact H
   ·refine tq (fun z H=>?_) H;split at H
    ·exact H
    ·exact H.elim
   ·exact H.elim) H
 |map b =>
  exact tq (fun y H=>by
   split at H
   ·exact H
   ·refine tq (fun z H=>?_) H;split at H
    ·exact H
    ·exact H.elim
   ·exact H.elim) H
 |any=>exact H
 |d x=>exact H
 |bD e off=>exact H
 |agg l=>exact H.elim
 |az l=>exact H.elim
 |fn f a b=>exact H.elim
theorem vQ {h h':List ab}:∀ {l:List AV} {K:Prop},rj h h' l K→K
 | [],_,H=>H
 |_::_,_,H=>vQ (FZ H)
theorem MX {h h':List ab} {x:AV} {K:Prop} (H:vO h h' x K):K:=by
 unfold vO at H;split at H
 ·exact vQ H
 ·exact vQ H
 ·exact vQ (vQ H)
 ·exact FZ H
theorem BN {h h':List ab}:∀ {l:List AV} {K:Prop},vP h h' l K→K
 | [],_,H=>H
 |_::_,_,H=>BN (MX H)
theorem F0 {h h':List ab}:∀ {l:List bP} {K:Prop},yo h h' l K→K
 | [],_,H=>H
 |_::_,_,H=>F0 (BN H)
theorem BO {h h':List ab}:∀ {l:List bc} {K:Prop},rk h h' l K→K
 | [],_,H=>H
 | .loop _::_,_,H=>BO (BN H)
 | .mark _::l,_,H=>BO (l:=l) H
 | .row _::_,_,H=>H.elim
 | .iter _::_,_,H=>H.elim
theorem F1 {h h':List ab} (hs:HSub h h') {x:AV} {K:Prop} (H:tn h h' x K):K∧∀ (c:Cx),c.heap=h→∀ v,VR c x v→VR (c.cut h') x v:=by
 have own:∀ (b g:Nat) (K:Prop),(aI h' b False fun
  | .gone=>K
  | .arr g1 _ _=>aI h b False fun
   | .arr g0 _ _=>match Nat.blt g g1 with
    |true=>match Nat.ble g g0 with
     |true=>K
     |false=>False
    |false=>match Nat.beq g g0,Nat.beq g g1 with
     |true,true=>K
     |_,_=>False
   |_=>False
  |_=>False)→K∧(h'[b]? = some .gone∨∃ g0 g1 ts l,h[b]? = some (.arr g0 ts l)∧h'[b]? = some (.arr g1 ts l)∧(g<g1∨g=g0∧g=g1)):=fun b g K H=>by
  rcases aS H with H | ⟨y,hy,H⟩
  ·exact H.elim
  split at H
  ·exact ⟨H,.inl hy⟩
  ·rename_i g1 Vw l1;rcases aS H with H | ⟨x,hx,H⟩
   ·exact H.elim
   split at H
   ·rename_i g0 Vx l0;obtain ⟨x',eK,q⟩:=hs b _ hy;rw [hx] at eK;cases eK;obtain ⟨g2,q,-⟩:=q;cases q;split at H
    ·rename_i q1;split at H
     ·exact ⟨H,.inr ⟨_,_,_,_,hx,hy,.inl (Nat.le_of_ble_eq_true q1)⟩⟩
     ·exact H.elim
    ·split at H
     ·rename_i q1 q2;exact ⟨H,.inr ⟨_,_,_,_,hx,hy,.inr ⟨Nat.eq_of_beq_eq_true q1,Nat.eq_of_beq_eq_true q2⟩⟩⟩
     ·exact H.elim
   ·exact H.elim
  ·exact H.elim
 cases x with
 |any=>exact ⟨H,fun c _ v _ => .any v⟩
 |d x=>exact ⟨H,fun c _ v hv=>by cases hv with | d _ _ hv=>exact .d _ _ (nf hv)⟩
 |bD e off=>exact ⟨H,fun c _ v hv=>by cases hv with | bD _ _ blk o f k1 k2 k3 k4=>exact .bD _ _ blk o f (fun hb=>k1 (hb.elim .inl fun ⟨i,n,hi⟩ => .inr ⟨i,n,(ot hi).1⟩)) k2 k3 (fun j x hx=>nf (k4 j x hx))⟩
 |own b g =>
  obtain ⟨hK,hq⟩:=own b g K H;refine ⟨hK,fun c hc v hv=>?_⟩;subst hc;rcases hq with hq | ⟨g0,g1,ts,l,q1,q2,q3⟩
  ·have cd:v.oneCell'=true:=by cases hv <;> first | rfl | assumption
   exact .hY b g v hq cd
  ·have ho:=jt (c:=c) q2 (by simp);rcases q3 with q3 | ⟨rfl,rfl⟩
   ·have cd:v.oneCell'=true:=by cases hv <;> first | rfl | assumption
    exact .iN b g g1 ts l v q2 q3 cd
   ·cases hv with
    |own _ _ sz l' blk cap hb cF=>rw [q1] at hb; cases hb; exact .own b g ts l blk cap q2 (ho.trans cF)
    |fU _ _ sz hb cF=>rw [q1] at hb; cases hb; exact .fU b g ts q2 (ho.trans cF)
    |iN _ _ g' sz l' v hb hg hv=>rw [q1] at hb; cases hb; omega
    |hY _ _ v hb hv=>rw [q1] at hb; cases hb
    |kn _ _ _ _ _ _ hb _ _=>rw [q1] at hb; cases hb
 |cut b g k qq =>
  obtain ⟨hK,hq⟩:=own b g K H;refine ⟨hK,fun c hc v hv=>?_⟩;subst hc;rcases hq with hq | ⟨g0,g1,ts,l,q1,q2,q3⟩
  ·have cd:v.oneCell'=true:=by cases hv <;> first | rfl | assumption
   exact .la b g k qq v hq cd
  ·have ho:=jt (c:=c) q2 (by simp);rcases q3 with q3 | ⟨rfl,rfl⟩
   ·have cd:v.oneCell'=true:=by cases hv <;> first | rfl | assumption
    exact .kZ b g g1 k qq ts l v q2 q3 cd
   ·cases hv with
    |cut _ _ _ _ sz l' blk cap o hb cF hk xx MY=>rw [q1] at hb; cases hb; exact .cut b g k qq ts l blk cap o q2 (ho.trans cF) hk xx MY
    |kZ _ _ g' _ _ sz l' v hb hg hv=>rw [q1] at hb; cases hb; omega
    |la _ _ _ _ v hb hv=>rw [q1] at hb; cases hb
 |cA b g i off =>
  obtain ⟨hK,hq⟩:=own b g K H;refine ⟨hK,fun c hc v hv=>?_⟩;subst hc;rcases hq with hq | ⟨g0,g1,ts,l,q1,q2,q3⟩
  ·have cd:v.oneCell'=true:=by cases hv <;> first | rfl | assumption
   exact .jK b g i off v hq cd
  ·have ho:=jt (c:=c) q2 (by simp);rcases q3 with q3 | ⟨rfl,rfl⟩
   ·have cd:v.oneCell'=true:=by cases hv <;> first | rfl | assumption
    exact .jJ b g g1 i off ts l v q2 q3 cd
   ·cases hv with
    |cA _ _ _ _ sz l' blk cap hb cF hi=>rw [q1] at hb; cases hb; exact .cA b g i off ts l blk cap q2 (ho.trans cF) hi
    |jJ _ _ g' _ _ sz l' v hb hg hv=>rw [q1] at hb; cases hb; omega
    |jK _ _ _ _ v hb hv=>rw [q1] at hb; cases hb
 |ptr b off =>
  simp only [tn] at H;rcases aS H with H | ⟨y,hy,H⟩
  ·exact H.elim
  split at H
  ·refine ⟨H,fun c _ v hv=>?_⟩;have cd:v.oneCell'=true:=by cases hv <;> first | rfl | assumption
   exact .gQ b off v hy cd
  ·rcases aS H with H | ⟨x,hx,H⟩
   ·exact H.elim
   split at H
   ·refine ⟨H,fun c hc v hv=>?_⟩;subst hc;have ho:=jt (c:=c) hy (by simp);cases hv with
    |ptr _ _ cs blk cap hb cF=>exact .ptr b off _ blk cap hy (ho.trans cF)
    |gQ _ _ v hb hv=>rw [hx] at hb; cases hb
   ·exact H.elim
  ·exact H.elim
 |map b =>
  simp only [tn] at H;rcases aS H with H | ⟨y,hy,H⟩
  ·exact H.elim
  split at H
  ·refine ⟨H,fun c _ v hv=>?_⟩;have cd:v.oneCell'=true:=by cases hv <;> first | rfl | assumption
   exact .lb b v hy cd
  ·rcases aS H with H | ⟨x,hx,H⟩
   ·exact H.elim
   split at H
   ·refine ⟨H,fun c hc v hv=>?_⟩;subst hc;have ho:=jt (c:=c) hy (by simp);cases hv with
    |map _ es blk cap hb cF=>exact .map b _ blk cap hy (ho.trans cF)
    |lb _ v hb hv=>rw [hx] at hb; cases hb
   ·exact H.elim
  ·exact H.elim
 |agg l=>exact H.elim
 |az l=>exact H.elim
 |fn f a b=>exact H.elim
theorem vR {h h':List ab} (hs:HSub h h'):∀ {l:List AV} {K:Prop},rj h h' l K→K∧∀ (c:Cx),c.heap=h→∀ (j:Nat) x v,l[j]? = some x→VR c x v→VR (c.cut h') x v
 | [],K,H=>⟨H,fun c _ j x v hx=>by simp at hx⟩
 |y::l,K,H=>by
  obtain ⟨H,h1⟩:=F1 hs H;obtain ⟨H,h2⟩:=vR hs H;refine ⟨H,fun c hc j x v hx hv=>?_⟩;cases j with
  |zero=>simp at hx; subst hx; exact h1 c hc v hv
  |succ j=>exact h2 c hc j x v (by simpa using hx) hv
theorem MZ {h h':List ab} (hs:HSub h h') {x:AV} {K:Prop} (H:vO h h' x K):K∧∀ (c:Cx),c.heap=h→∀ v,VR c x v→VR (c.cut h') x v:=by
 unfold vO at H;split at H
 ·obtain ⟨H,h1⟩:=vR hs H;exact ⟨H,fun c hc v hv=>by cases hv with | agg _ vs hl bH=>exact .agg _ vs hl fun j x v hx hu=>h1 c hc j x v hx (bH j x v hx hu)⟩
 ·obtain ⟨H,h1⟩:=vR hs H;exact ⟨H,fun c hc v hv=>by cases hv with | az _ vs hl bH=>exact .az _ vs hl fun j x v hx hu=>h1 c hc j x v hx (bH j x v hx hu)⟩
 ·obtain ⟨H,h1⟩:=vR hs H;obtain ⟨H,h2⟩:=vR hs H;exact ⟨H,fun c hc v hv=>by cases hv with | fn _ _ _ v1 v2 k1 k2 k3 k4=>exact .fn _ _ _ v1 v2 k1 k2 (fun j x v hx hu=>h1 c hc j x v hx (k3 j x v hx hu)) (fun j x v hx hu=>h2 c hc j x v hx (k4 j x v hx hu))⟩
 ·exact F1 hs H
theorem BP {h h':List ab} (hs:HSub h h'):∀ {l:List AV} {K:Prop},vP h h' l K→K∧∀ (c:Cx),c.heap=h→∀ t,VS c l t→VS (c.cut h') l t
 | [],K,H=>⟨H,fun c _ t ht=>⟨ht.1,fun j x v hx=>by simp at hx⟩⟩
 |y::l,K,H=>by
  obtain ⟨H,h1⟩:=MZ hs H;obtain ⟨H,h2⟩:=BP hs H;refine ⟨H,fun c hc t ht=>⟨ht.1,fun j x v hx hv=>?_⟩⟩;cases j with
  |zero=>simp at hx; subst hx; exact h1 c hc v (ht.2 0 _ v rfl hv)
  |succ j =>
   have eA:(t.extract 1)[j]? = some v:=by
    rw [Array.getElem?_extract];have:=(Array.getElem?_eq_some_iff.1 hv).1;rw [if_pos (by omega),Nat.add_comm];exact hv
   have:=h2 c hc (t.extract 1) ⟨by have:=ht.1; simp at this ⊢; omega,fun i x v hx hv=>ht.2 (i+1) x v (by simpa using hx) (by
    rw [Array.getElem?_extract] at hv;split at hv
    ·rw [Nat.add_comm] at hv; exact hv
    ·cases hv)⟩
   exact this.2 j x v (by simpa using hx) eA
theorem F2 {h h':List ab} (hs:HSub h h'):∀ {l:List bP} {K:Prop},yo h h' l K→K∧∀ (c:Cx),c.heap=h→∀ ts,CR c l ts→CR (c.cut h') l ts
 | [],K,H=>⟨H,fun c _ ts ht=>by cases ts with | nil=>trivial | cons t ts=>exact ht.elim⟩
 |f::l,K,H=>by
  obtain ⟨H,h1⟩:=BP hs H;obtain ⟨H,h2⟩:=F2 hs H;refine ⟨H,fun c hc ts ht=>?_⟩;cases ts with
  |nil=>exact ht.elim
  |cons t ts=>exact ⟨h1 c hc t ht.1,ht.2.1,h2 c hc ts ht.2.2⟩
theorem BQ {h h':List ab} (hs:HSub h h'):∀ {l:List bc} {K:Prop},rk h h' l K→K∧∀ (lim:Nat) (c:Cx),c.heap=h→∀ g∈l,gn lim c g→gn lim (c.cut h') g
 | [],K,H=>⟨H,fun lim c _ g hg=>by simp at hg⟩
 | .loop i::l,K,H=>by
  obtain ⟨H,h1⟩:=BP hs H;obtain ⟨H,h2⟩:=BQ hs H;refine ⟨H,fun lim c hc g hg hk=>?_⟩;rcases List.mem_cons.1 hg with rfl | hg
  ·obtain ⟨k1,k2,k3,k4⟩:=(show lr lim c i from hk);exact (show lr lim (c.cut h') i from ⟨k1,k2,k3,h1 c hc _ k4⟩)
  ·exact h2 lim c hc g hg hk
 | .mark d::l,K,H=>by
  obtain ⟨H,h2⟩:=BQ (l:=l) hs H;refine ⟨H,fun lim c hc g hg hk=>?_⟩;rcases List.mem_cons.1 hg with rfl | hg
  ·obtain ⟨k1,k2,k3⟩:=(show pa lim c d from hk);exact (show pa lim (c.cut h') d from ⟨k1,k2,k3⟩)
  ·exact h2 lim c hc g hg hk
 | .row _::_,_,H=>H.elim
 | .iter _::_,_,H=>H.elim
theorem gn.M0 {lim:Nat} {c:Cx} {h':List ab}:∀ {g:bc},gn lim c g→g.flat→gn lim (c.cut h') g
 | .row r,h,_=>mT.gen (c:=c) h (mT.ax (c:=c) h) rfl (fun _ _=>nf)
 | .iter i,h,_=>jS.gen (c:=c) h (jS.AE (c:=c) h) (jS.uP (c:=c) h) rfl rfl (fun _ _=>nf)
 | .loop _,_,h=>h.elim
 | .mark d,h,_=>by obtain ⟨k1,k2,k3⟩:=(show pa lim c d from h); exact (show pa lim (c.cut h') d from ⟨k1,k2,k3⟩)
section
variable {E:Env} {af:FuncId} {R:cu} {td:List aH} {s s':List AV} {h h':List ab}
theorem dw.cut {lim:Nat} {c:Cx} {rows loops:List bc} (h:dw lim c rows loops) {h':List ab} (hl:∀ g∈loops,gn lim c g→gn lim (c.cut h') g):dw lim (c.cut h') rows loops :=
 ⟨⟨fun g hg=>(List.mem_append.1 hg).elim (fun vS=>(h.all.each g hg).M0 (h.flat g vS)) (fun vS=>hl g vS (h.all.each g hg)),h.all.nodup⟩,h.flat⟩
theorem AW.weaken {f0:FuncId} {fd:gm} (hs:tp h h' R.fx (tj R.n h s h' s')) (H:AW E f0 ⟨fd,td,s'⟩ R.fx.cls h' R):AW E f0 ⟨fd,td,s⟩ R.fx.cls h R:=by
 unfold AW at H ⊢;intro c0 c t ts h0 h1 h2 h3 hr bE h4 h5 cs;subst h2;unfold tp at hs;have pG:=hs;replace hs:=BO (F0 hs);unfold tj at hs;split at hs
 case h_2=>exact hs.elim
 rename_i q;have hn:=Nat.le_of_ble_eq_true q;obtain ⟨k1,k2⟩:=FW hs;have k3:=FY k1 hs;obtain ⟨-,k4⟩:=BL k1 k2;obtain ⟨tr,f1⟩:=F2 k1 pG;obtain ⟨-,f2⟩:=BQ k1 tr;have hv:=k4 c t.toList rfl ⟨by simpa using h4.1,fun j x v hx hv=>h4.2 j x v hx (by simpa using hv)⟩;have aJ:=h3.cut k1 (fun i cs hi=>by obtain ⟨ng,r1,r2⟩:=k3 i cs hi; exact ⟨ng,r1,fun vs hv=>r2 c vs rfl hv⟩);exact H c0 (c.cut h') t ts h0 h1 rfl aJ (hr.cut (by omega) k1) (bE.cut fun g hg=>f2 _ c rfl g hg) ⟨by simpa using hv.1,fun j x v hx hu=>hv.2 j x v hx (by simpa using hu)⟩ (f1 c rfl ts h5) cs
def anyS:List Nat→List AV→List AV
 | [],s=>s
 |d::l,s=>anyS l (s.set d .any)
def ju:List (Nat × AV)→List AV→List AV
 | [],s=>s
 |(d,v)::l,s=>ju l (s.set d v)
def jv:List (Nat × ab)→List ab→List ab
 | [],h=>h
 |(d,v)::l,h=>jv l (h.set d v)
def yp {α:Sort _}:List Nat→List AV→(List AV→α)→α
 | [],s,k=>k s
 |d::l,s,k=>fe s d .any fun s'=>yp l s' k
theorem F3 {α:Sort _}:∀ (l:List Nat) (s:List AV) (k:List AV→α),yp l s k=k (anyS l s)
 | [],_,_=>rfl
 |d::l,s,k=>by simp only [yp,fK,anyS,F3 l]
def rl {α:Sort _} {β:Type}:List (Nat × β)→List β→(List β→α)→α
 | [],s,k=>k s
 |(d,v)::l,s,k=>fe s d v fun s'=>rl l s' k
theorem F4 {α:Sort _}:∀ (l:List (Nat × AV)) (s:List AV) (k:List AV→α),rl l s k=k (ju l s)
 | [],_,_=>rfl
 |(d,v)::l,s,k=>by simp only [rl,fK,ju,F4 l]
theorem F5 {α:Sort _}:∀ (l:List (Nat × ab)) (s:List ab) (k:List ab→α),rl l s k=k (jv l s)
 | [],_,_=>rfl
 |(d,v)::l,s,k=>by simp only [rl,fK,jv,F5 l]
def vT (ks:List Nat):AV→Bool
 | .own j _=>ir j ks
 | .cut j _ _ _=>ir j ks
 | .cA j _ _ _=>ir j ks
 |_=>false
def F6 (ks:List Nat):AV→Bool
 | .agg l=>l.any (vT ks)
 | .az l=>l.any (vT ks)
 | .fn _ a b=>a.any (vT ks)||b.any (vT ks)
 |x=>vT ks x
def jw (ks:List Nat):List AV→List AV
 | []=>[]
 |x::s=>(match F6 ks x with | true => .any | false=>x)::jw ks s
def vU {α:Sort _} (ks:List Nat):List AV→(List AV→α)→α
 | [],k=>k []
 |x::s,k=>match F6 ks x with
  |true=>vU ks s fun s'=>k (.any::s')
  |false=>vU ks s fun s'=>k (x::s')
theorem F7 {α:Sort _} (ks:List Nat):∀ (s:List AV) (k:List AV→α),vU ks s k=k (jw ks s)
 | [],_=>rfl
 |x::s,k=>by
  simp only [vU,jw];split <;> rename_i q <;> rw [F7 ks s] <;> simp only [q]
def kJ:List (Nat × ab)→List Nat
 | []=>[]
 |p::l=>p.1::kJ l
def rm {α:Sort _} (eT ks:List Nat) (vars:List (Nat × AV)) (boxes:List (Nat × ab)) (s:List AV) (h:List ab) (k:List AV→List ab→α):α :=
 vU ks s fun s0=>yp eT s0 fun s1=>rl vars s1 fun s2=>rl boxes h fun h2=>k s2 h2
theorem vV {α:Sort _} (eT ks:List Nat) (vars:List (Nat × AV)) (boxes:List (Nat × ab)) (s:List AV) (h:List ab) (k:List AV→List ab→α):rm eT ks vars boxes s h k=k (ju vars (anyS eT (jw ks s))) (jv boxes h):=by
 simp only [rm,F7,F3,F4,F5]
theorem I.loop {lits:List Nat} {b:Code} {k:List aH} {κ:Type} (eT:List Nat) (vars:κ→List (Nat × AV)) (boxes:κ→List (Nat × ab)) (Φ:κ→Prop) (μ:κ→Nat) (x0:κ) (h0:Φ x0)
  (me:rm eT (kJ (boxes x0)) (vars x0) (boxes x0) s h fun s' h'=>tp h h' R.fx (tj R.n h s h' s'))
  (pH:∀ x,Φ x→(∀ y,Φ y→μ y<μ x→I E af R [] (.inLoop b::k) (ju (vars y) (anyS eT (jw (kJ (boxes x0)) s))) (jv (boxes y) h))→I E af R [] (.code b :: .inLoop b::k) (ju (vars x) (anyS eT (jw (kJ (boxes x0)) s))) (jv (boxes x) h)) :
  I E af R lits (.code (.loop b)::k) s h:=by
 have main:∀ n x,μ x<n→Φ x→I E af R [] (.inLoop b::k) (ju (vars x) (anyS eT (jw (kJ (boxes x0)) s))) (jv (boxes x) h):=by
  intro n
  induction n with
  |zero=>intro x hx; omega
  |succ n ih=>intro x hx hP; exact .of (.inLoop (pH x hP fun y hy hm=>ih y (by omega) hy).to)
 rw [vV] at me;exact .of (.loop (.weaken me (pH x0 h0 fun y hy _=>main (μ y+1) y (by omega) hy).to))
theorem I.head (hE:E.OK) {fn:Func} (hf:E.P.funcs[af]? = some fn) (n:Nat) {lits eT ks:List Nat} {vars:List (Nat × AV)} {boxes:List (Nat × ab)} {s0:List AV} {h0:List ab}
  (H:rm eT ks vars boxes s0 h0 fun s' h'=>runK E af fn.results.toList R n lits td s' h'):I E af R lits td (ju vars (anyS eT (jw ks s0))) (jv boxes h0):=by
 rw [vV] at H;exact .run hE hf n H
theorem I.back {lits M1 eT ks:List Nat} {vars:List (Nat × AV)} {boxes:List (Nat × ab)} {s0:List AV} {h0:List ab} (H:I E af R lits td (ju vars (anyS eT (jw ks s0))) (jv boxes h0))
  (hs:rm eT ks vars boxes s0 h0 fun s' h'=>tp h h' R.fx (tj R.n h s h' s')):I E af R M1 td s h:=by
 rw [vV] at hs;exact .of (.weaken hs H.to)
theorem I.AS {lits:List Nat} (d:Nat) (ts:Nat × Nat) (gr:0<ts.2) (hd:s[d]? = some (.d .aD)) (H:I E af R lits td (s.set d (.own h.length 0)) (h++[.arr 0 ts []])):I E af R lits td s h:=by
 replace H:=H.to;refine .of (.iQ (fun c t dD h1 h2 h3 h4 h5=>?_) H);subst h2
 let c':Cx:={ c with heap:=c.heap++[.arr 0 ts []] }
 have cj:c.own c.heap.length=none:=by
  cases ho:c.own c.heap.length with
  |none=>rfl
  |some p=>have:=(h3.bk _ p.1 p.2 ho).2; omega
 have aV:Step c c':=⟨rfl,h3.bG,rfl,rfl,rfl,Nat.le_refl _,fun _ _ _=>rfl,fun i b n hi _=>⟨n,hi⟩,fun i bx hi=>by
  have h':c'.heap[i]? = some bx:=by show (c.heap++_)[i]? = _; rw [List.getElem?_append_left (aP hi)]; exact hi
  cases bx with
  |cells cs=>exact .inl ⟨cs,h',rfl,rfl⟩
  |arr g sz l=>exact .inl ⟨g,l,h',.inr ⟨rfl,rfl,rfl⟩⟩
  |map es=>exact .inl ⟨es,h',rfl⟩
  |gone=>exact h'
  |hole=>exact ⟨_,h'⟩⟩
 have gu:c'.heap[c.heap.length]? = some (.arr 0 ts []):=by show (c.heap++_)[_]? = _; simp
 have aJ:aC E.G c':=h3.next aV (fun i b n hi=>⟨(h3.bk i b n hi).1,by have:=(h3.bk i b n hi).2; show i<(c.heap++_).length; simp; omega⟩) h3.inj (fun i bx hi=>by
  by_cases fy:i=c.heap.length
  ·subst fy;rw [gu] at hi;cases hi;exact .inr ⟨gr,fun i e he=>by simp at he,.inl ⟨cj,rfl⟩⟩
  ·have ah : i < c.heap.length := by have := aP hi; have h2 : c'.heap.length = c.heap.length + 1 := by show (c.heap ++ _).length = _; simp
                                     omega
   have bS:(c.heap++[.arr 0 ts []])[i]? = some bx:=hi;rw [List.getElem?_append_left ah] at bS
   exact .inl ⟨bS,rfl,fun _ _ _=>rfl⟩)
 refine ⟨c',t,dD,h1,rfl,aJ,?_,aV.cr h5,aV,fun _ => .refl _ _⟩;have gp:d<t.size:=by rw [← h4.1]; exact aP hd
 have hv:t[d] = .slice none 0 0:=by
  have:=h4.2 d _ t[d] hd (by simp [gp]);generalize t[d]=u at this;cases this with
  |d _ _ hv=>cases hv; rfl
 have:=VS.put (aV.vs h4) d (x := .own c.heap.length 0) (v:=t[d]) (by rw [hv]; exact .fU _ _ ts gu cj)
 simpa [Array.setIfInBounds,gp] using this
end
end Go.aw
end
section
namespace Go.aw
open Go Go.RowKit
section
variable {α:Sort _}
def yq (b g:Nat) (l:List DV) (x:AV) (k:AV→α):α:=match x with
 | .own j g'=>match Nat.beq j b,Nat.beq g' g with
  |true,true=>k (.d (.sl l))
  |_,_=>k (.own j g')
 |x=>k x
def rn (b g:Nat) (l:List DV):List AV→(List AV→α)→α
 | [],k=>k []
 |x::r,k=>yq b g l x fun y=>rn b g l r fun r'=>k (y::r')
def BR (b g:Nat) (l:List DV) (x:AV) (k:AV→α):α:=match x with
 | .agg c=>rn b g l c fun c'=>sr c' k
 | .az c=>rn b g l c fun c'=>k (.az c')
 | .fn f a1 a2=>rn b g l a1 fun F8=>rn b g l a2 fun F9=>k (.fn f F8 F9)
 |x=>yq b g l x k
def BS (b g:Nat) (l:List DV):List AV→(List AV→α)→α
 | [],k=>k []
 |x::r,k=>BR b g l x fun y=>BS b g l r fun r'=>k (y::r')
def vW (b g:Nat) (l:List DV):List ab→(List ab→α)→α
 | [],k=>k []
 |x::r,k=>match x with
  | .cells c=>rn b g l c fun c'=>vW b g l r fun r'=>k (.cells c'::r')
  |x=>vW b g l r fun r'=>k (x::r')
end
def F' (b:Nat) (s:List AV) (h:List ab) (k:List AV→List ab→Prop):Prop:=aI h b False fun
 | .arr g _ l=>BS b g l s fun s'=>vW b g l h fun h'=>fe h' b .gone fun nT=>k s' nT
 |_=>False
structure tu (b g:Nat) (l:List DV) (c c':Cx):Prop where
 step:Step c c'
 own:∀ v,VR c (.own b g) v→VR c' (.d (.sl l)) v
section
variable {b g:Nat} {l:List DV}
theorem Ga {x:AV} {k:AV→Prop} (H:yq b g l x k):∃ y,k y∧∀ c c',tu b g l c c'→∀ v,VR c x v→VR c' y v:=by
 unfold yq at H;split at H
 ·split at H
  ·rename_i q1 q2;have q1:=Nat.eq_of_beq_eq_true q1;have q2:=Nat.eq_of_beq_eq_true q2;subst q1; subst q2;exact ⟨_,H,fun c c' hf v hv=>hf.own v hv⟩
  ·exact ⟨_,H,fun c c' hf v hv=>hf.step.vr hv⟩
 ·exact ⟨_,H,fun c c' hf v hv=>hf.step.vr hv⟩
theorem tv:∀ {r:List AV} {k:List AV→Prop},rn b g l r k→∃ r',k r'∧r'.length=r.length∧∀ c c',tu b g l c c'→∀ vs,VL c r vs→VL c' r' vs
 | [],_,H=>⟨[],H,rfl,fun _ _ _ _ hv=>⟨hv.1,fun j x v hx=>by simp at hx⟩⟩
 |x::r,k,H=>by
  obtain ⟨y,H,hy⟩:=Ga H;obtain ⟨r',H,hl,hr⟩:=tv H;refine ⟨y::r',H,by simp [hl],fun c c' hf vs hv=>?_⟩;cases vs with
  |nil=>have:=hv.1; simp at this
  |cons v vs=>exact .cons (hy c c' hf v hv.head.1) (hr c c' hf vs hv.head.2)
theorem M3 {x:AV} {k:AV→Prop} (H:BR b g l x k):∃ y,k y∧∀ c c',tu b g l c c'→∀ v,VR c x v→VR c' y v:=by
 unfold BR at H;split at H
 ·obtain ⟨r',H,-,hr⟩:=tv H;obtain ⟨y,H,hy⟩:=uD H;refine ⟨y,H,fun c c' hf v hv=>?_⟩;obtain ⟨vs,rfl,ie⟩:=mO hv;exact hy c' vs (hr c c' hf vs ie)
 ·obtain ⟨r',H,-,hr⟩:=tv H;refine ⟨_,H,fun c c' hf v hv=>?_⟩;cases hv with
  |az _ vs hl bH =>
   have:=hr c c' hf vs.toList ⟨by simpa using hl,fun j x v hx hv=>bH j x v hx (by simpa using hv)⟩;exact .az _ vs (by simpa using this.1) (fun j x v hx hv=>this.2 j x v hx (by simpa using hv))
 ·obtain ⟨F8,H,-,h1⟩:=tv H;obtain ⟨F9,H,-,h2⟩:=tv H;refine ⟨_,H,fun c c' hf v hv=>?_⟩;obtain ⟨v1,v2,rfl,r1,r2⟩:=jn hv;have r1:=h1 c c' hf v1 r1;have r2:=h2 c c' hf v2 r2;exact .fn _ _ _ _ _ (by simpa using r1.1) (by simpa using r2.1) (fun j x v hx hv=>r1.2 j x v hx (by simpa using hv)) (fun j x v hx hv=>r2.2 j x v hx (by simpa using hv))
 ·exact Ga H
theorem Gb:∀ {r:List AV} {k:List AV→Prop},BS b g l r k→∃ r',k r'∧∀ c c',tu b g l c c'→∀ vs,VL c r vs→VL c' r' vs
 | [],_,H=>⟨[],H,fun _ _ _ _ hv=>⟨hv.1,fun j x v hx=>by simp at hx⟩⟩
 |x::r,k,H=>by
  obtain ⟨y,H,hy⟩:=M3 H;obtain ⟨r',H,hr⟩:=Gb H;refine ⟨y::r',H,fun c c' hf vs hv=>?_⟩;cases vs with
  |nil=>have:=hv.1; simp at this
  |cons v vs=>exact .cons (hy c c' hf v hv.head.1) (hr c c' hf vs hv.head.2)
def yr (b g:Nat) (l:List DV) (x y:ab):Prop:=match x with
 | .cells cs=>∃ cs',y = .cells cs'∧cs'.length=cs.length∧∀ c c',tu b g l c c'→∀ vs,VL c cs vs→VL c' cs' vs
 |x=>y=x
theorem BT:∀ {r:List ab} {k:List ab→Prop},vW b g l r k→∃ r',k r'∧r'.length=r.length∧∀ (i:Nat) (x:ab),r[i]? = some x→∃ y,r'[i]? = some y∧yr b g l x y
 | [],_,H=>⟨[],H,rfl,fun i x hx=>by simp at hx⟩
 |x::r,k,H=>by
  unfold vW at H;have fin:∀ {y:ab} {r':List ab},yr b g l x y→(∀ (i:Nat) (x:ab),r[i]? = some x→∃ y,r'[i]? = some y∧yr b g l x y)→∀ (i:Nat) (z:ab),(x::r)[i]? = some z→∃ y',(y::r')[i]? = some y'∧yr b g l z y':=fun {y r'} h1 h2 i z hz=>by
   cases i with
   |zero=>simp at hz; subst hz; exact ⟨y,rfl,h1⟩
   |succ i=>obtain ⟨y',k1,k2⟩:=h2 i z (by simpa using hz); exact ⟨y',by simpa using k1,k2⟩
  split at H
  ·obtain ⟨c',H,hl,hr⟩:=tv H;obtain ⟨r',H,BU,qH⟩:=BT H;exact ⟨_,H,by simp [BU],fin ⟨c',rfl,hl,hr⟩ qH⟩
  ·rename_i aE;obtain ⟨r',H,BU,qH⟩:=BT H;refine ⟨_,H,by simp [BU],fin ?_ qH⟩;cases x with
   |cells c=>exact absurd rfl (aE c)
   |arr _ _ _=>rfl
   |map _=>rfl
   |gone=>rfl
   |hole=>rfl
end
section
variable {E:Env} {af:FuncId} {R:cu} {td:List aH} {s:List AV} {h:List ab}
theorem I.freeze {lits:List Nat} (b:Nat) (H:F' b s h fun s' h'=>I E af R lits td s' h'):I E af R lits td s h:=by
 unfold F' at H;rcases aS H with H | ⟨bx,hb,H⟩
 ·exact H.elim
 split at H
 case h_2=>exact H.elim
 rename_i g ts l;obtain ⟨s',H,M4⟩:=Gb H;obtain ⟨h',H,hlen,yj⟩:=BT H;rw [fK] at H;refine .of (.iQ (fun c t dD h1 h2 h3 h4 h5=>?_) H.to);subst h2;have eo:=aP hb
 let c':Cx:={ c with own:=fun i=>if i=b then none else c.own i,heap:=h'.set b .gone }
 have ea:c'.heap[b]? = some .gone:=by show (h'.set b .gone)[b]? = _; rw [List.getElem?_set_self (by omega)]
 have im:∀ i,i≠b→c'.heap[i]? = h'[i]? := fun i hi=>by show (h'.set b .gone)[i]? = _; rw [List.getElem?_set_ne (Ne.symm hi)]
 have bz:∀ i,i≠b→c'.own i=c.own i:=fun i hi=>by simp only [c',if_neg hi]
 have gX:∀ i p,c'.own i=some p→i≠b∧c.own i=some p:=fun i p hp=>by
  simp only [c'] at hp;split at hp
  ·cases hp
  ·rename_i q; exact ⟨q,hp⟩
 have aV:Step c c':=⟨rfl,h3.bG,rfl,rfl,rfl,Nat.le_refl _,fun _ _ _=>rfl,fun i x n hi _=>⟨n,(gX i _ hi).2⟩,fun i bx hi=>by
  by_cases bq:i=b
  ·subst bq;cases bx with
   |cells cs=>exact .inr ea
   |arr g sz l=>exact .inr ea
   |map es=>exact .inr ea
   |gone=>exact ea
   |hole=>exact ⟨_,ea⟩
  ·obtain ⟨y,k1,k2⟩:=yj i bx hi;rw [← im i bq] at k1;cases bx with
   |cells cs=>obtain ⟨cs',rfl,e,-⟩:=k2; exact .inl ⟨cs',k1,bz i bq,e⟩
   |arr g sz l=>obtain rfl:y=_:=k2; exact .inl ⟨g,l,k1,.inr ⟨rfl,rfl,bz i bq⟩⟩
   |map es=>obtain rfl:y=_:=k2; exact .inl ⟨es,k1,bz i bq⟩
   |gone=>obtain rfl:y=_:=k2; exact k1
   |hole=>obtain rfl:y=_:=k2; exact ⟨_,k1⟩⟩
 have nP:∀ x,c'.bad x→c.bad x:=fun x hx=>hx.elim .inl fun ⟨i,n,hi⟩ => .inr ⟨i,n,(gX i _ hi).2⟩
 have yu:tu b g l c c':=⟨aV,fun v hv=>by
  obtain ⟨q0,q1,q2⟩:=h3.box b _ hb;rcases kz hb hv with ⟨blk,cap,r1,rfl⟩ | ⟨rfl,rfl,r1⟩
  ·rcases q2 with ⟨q2,-⟩ | ⟨ib,gR,vs,q2,q3,q4,q5,q6,q7⟩
   ·rw [r1] at q2; cases q2
   rw [r1] at q2; cases q2;refine .d _ _ (.sl l blk 0 cap ts.2 (fun i j=>(vs[i*ts.2+j]?).getD undef) (fun _ fL=>?_) q0 q5 (fun i e he=>q1 i e he) (fun i j e x he hx=>?_) (fun i j e x he hx=>?_) (fun i j e x he hx=>?_))
   ·rcases fL with fL | ⟨i,n,hi⟩
    ·exact h3.sep b blk cap r1 fL
    ·obtain ⟨k1,k2⟩:=gX i _ hi;exact k1 (h3.inj i b blk n cap k2 r1)
   ·obtain ⟨v,p1,p2,p3⟩:=q7 i j e x he hx;rw [p1,Option.getD_some];exact jM q3 _ v (by simpa using p1)
   ·obtain ⟨v,p1,p2,p3⟩:=q7 i j e x he hx;simp only [p1,Option.getD_some];exact aV.vd p3
   ·obtain ⟨v,p1,p2,p3⟩:=q7 i j e x he hx;simp only [p1,Option.getD_some];exact p2
  ·exact .d _ _ .slnil⟩
 have aJ:aC E.G c':=by
  refine h3.next aV (fun i x n hi=>?_) (fun i j x n m hi hj=>h3.inj i j x n m (gX i _ hi).2 (gX j _ hj).2) (fun i bx hi=>?_)
  ·have:=h3.bk i x n (gX i _ hi).2;refine ⟨this.1,?_⟩;show i<(h'.set b .gone).length;rw [List.length_set,hlen];exact this.2
  ·right;by_cases bq:i=b
   ·subst bq;rw [ea] at hi;cases hi;show c'.own i=none;simp [c']
   ·rw [im i bq] at hi;have fy:i<c.heap.length:=by rw [← hlen]; exact aP hi
    obtain ⟨y,k1,k2⟩:=yj i c.heap[i] (by simp [fy]);rw [hi] at k1;cases k1;have gg:c.heap[i]? = some c.heap[i]:=by simp [fy]
    generalize c.heap[i]=x at k2 gg;cases x with
    |cells cs =>
     obtain ⟨cs',rfl,e,hv⟩:=k2;obtain ⟨blk,cap,vs,ty,g1,g2,g3⟩:=h3.cells gg;have:=hv c c' yu vs.toList g3;exact ⟨blk,cap,vs,ty,(bz i bq).trans g1,g2,by simpa using this.1.symm,fun j x v hx hv=>this.2 j x v hx (by simpa using hv)⟩
    |arr _ _ _=>obtain rfl:bx=_:=k2; exact (h3.box i _ gg).keep aV (bz i bq) (fun _ _ _=>rfl)
    |map _=>obtain rfl:bx=_:=k2; exact (h3.box i _ gg).keep aV (bz i bq) (fun _ _ _=>rfl)
    |gone=>obtain rfl:bx=_:=k2; exact (h3.box i _ gg).keep aV (bz i bq) (fun _ _ _=>rfl)
    |hole=>obtain rfl:bx=_:=k2; exact (h3.box i _ gg).keep aV (bz i bq) (fun _ _ _=>rfl)
 have hv:=M4 c c' yu t.toList ⟨by simpa using h4.1,fun j x v hx hv=>h4.2 j x v hx (by simpa using hv)⟩;exact ⟨c',t,dD,h1,rfl,aJ,⟨by simpa using hv.1,fun j x v hx hu=>hv.2 j x v hx (by simpa using hu)⟩,aV.cr h5,aV,fun _ => .refl _ _⟩
theorem I.jV {lits:List Nat} {b:Code} {k:List aH} (H:I E af R [] (.code b :: .inLoop b::k) s h):I E af R lits (.code (.loop b)::k) s h := .of (.loop H.to)
theorem I.again {lits:List Nat} {b:Code} {k:List aH} (H:I E af R [] (.code b :: .inLoop b::k) s h):I E af R lits (.inLoop b::k) s h := .of (.inLoop H.to)
theorem I.M5 {lits:List Nat} {ops:Array Oper} {o:Oper} {l:List Oper} {k:List aH} {v:AV} {h':List ab} (ho:bw E o.op s h v h') (hg:o.guard=none) (H:bY s o.dst v fun s'=>I E af R lits (.a8 ops l::k) s' h'):I E af R lits (.a8 ops (o::l)::k) s h:=by
 rw [dF] at H;exact .of (.op (fA hg) ho H.to)
end
def yv:DV→Bool
 | .int _ _=>true
 | .bool _=>true
 | .str _=>true
 | .undef=>true
 | .aD=>true
 |_=>false
def BV:DV→Bool
 | .az c=>c.all yv
 | .agg c=>c.all yv
 |x=>yv x
theorem Gc {x:DV} (hx:yv x=true) {bad sj:Nat→Prop} {w w':World} {v:Value} (hv:VD bad w x v):VD sj w' x v:=by
 cases hv <;> first | (cases hx; done) | (constructor; done)
theorem Gd {x:DV} (hx:BV x=true) {bad sj:Nat→Prop} {w w':World} {v:Value} (hv:VD bad w x v):VD sj w' x v:=by
 cases hv with
 |agg c vs hl bH=>exact .agg c vs hl fun j x v h1 h2=>Gc (List.all_eq_true.1 hx x (List.mem_of_getElem? h1)) (bH j x v h1 h2)
 |az c vs hl bH=>exact .az c vs hl fun j x v h1 h2=>Gc (List.all_eq_true.1 hx x (List.mem_of_getElem? h1)) (bH j x v h1 h2)
 |_=>first | (cases hx; done) | (constructor; done)
def ou (h:List ab):List AV→Option (List DV)
 | []=>some []
 | .d x::l=>match ou h l with
  |some r=>some (x::r)
  |none=>none
 | .own b _::l=>match db h b with
  |some (.arr _ _ m)=>match ou h l with
   |some r=>some (.sl m::r)
   |none=>none
  |_=>none
 |_::_=>none
def tx:List AV→Bool
 | []=>true
 | .own _ g::l=>match Nat.beq g 0 with
  |true=>tx l
  |false=>false
 |_::l=>tx l
theorem yw {G:List (Nat × DV)} {c:Cx} (ho:aC G c) (hf:sG c.heap):∀ {args:List AV} {ds:List DV} {vs:List Value},ou c.heap args=some ds→tx args=true→VL c args vs→gV c.ax c.w ds vs
 | [],ds,vs,h,_,hv=>by cases h; exact ⟨hv.1,fun j x v hx=>by simp at hx⟩
 |x::l,ds,vs,h,hg,hv=>by
  cases vs with
  |nil=>have:=hv.1; simp at this
  |cons v vs =>
   obtain ⟨pI,tz⟩:=hv.head
   have fin:∀ {d:DV} {r:List DV},VD c.ax c.w d v→gV c.ax c.w r vs→gV c.ax c.w (d::r) (v::vs):=fun {d r} h1 h2=>⟨by simp [h2.1],fun j x u hx hu=>by
    cases j with
    |zero=>simp at hx hu; subst hx; subst hu; exact h1
    |succ j=>exact h2.2 j x u (by simpa using hx) (by simpa using hu)⟩
   have less:∀ {d:DV} {u:Value},VD c.bad c.w d u→VD c.ax c.w d u:=fun hd=>hd.mono fun b _ hn=>⟨fun hb=>hn (.inl hb),rfl⟩;cases x with
   |d x =>
    simp only [ou] at h;cases hr:ou c.heap l with
    |none=>rw [hr] at h; cases h
    |some r =>
     rw [hr] at h;cases h;cases pI with
     |d _ _ hd=>exact fin (less hd) (yw ho hf hr hg tz)
   |own b g =>
    simp only [ou,dA] at h;simp only [tx] at hg;split at hg
    case h_2=>cases hg
    rename_i q;have q:=Nat.eq_of_beq_eq_true q;subst q;split at h
    case h_2=>cases h
    rename_i g' ts m hb;obtain rfl:=hf b g' ts m hb;cases hr:ou c.heap l with
    |none=>rw [hr] at h; cases h
    |some r =>
     rw [hr] at h;cases h;refine fin ?_ (yw ho hf hr hg tz);obtain ⟨q0,q1,q2⟩:=ho.box b _ hb;rcases kz hb pI with ⟨blk,cap,r1,rfl⟩ | ⟨rfl,rfl,r1⟩
     ·rcases q2 with ⟨q2,-⟩ | ⟨ib,gR,vs',q2,q3,q4,q5,q6,q7⟩
      ·rw [r1] at q2; cases q2
      rw [r1] at q2; cases q2;refine .sl m blk 0 cap ts.2 (fun i j=>(vs'[i*ts.2+j]?).getD undef) (fun _ fL=>ho.sep b blk cap r1 fL) q0 q5 (fun i e he=>q1 i e he) (fun i j e x he hx=>?_) (fun i j e x he hx=>?_) (fun i j e x he hx=>?_)
      ·obtain ⟨v,p1,p2,p3⟩:=q7 i j e x he hx;rw [p1,Option.getD_some];exact jM q3 _ v (by simpa using p1)
      ·obtain ⟨v,p1,p2,p3⟩:=q7 i j e x he hx;simp only [p1,Option.getD_some];exact less p3
      ·obtain ⟨v,p1,p2,p3⟩:=q7 i j e x he hx;simp only [p1,Option.getD_some];exact p2
     ·exact .slnil
   |_=>cases h
theorem au.cU {E:Env} {f:FuncId} {ds:List DV} {h:List ab} {args:List AV} {R:DV→Prop} (H:au E f ds R) (lv:oq h=true) (hd:ou h args=some ds) (hg:tx args=true) (hr:∀ r,R r→BV r=true):aq E f h args (fun a b=>∃ r,R r∧a = .d r∧b=h):=by
 unfold au at H;unfold aq;refine ⟨H.1,kI lv,fun c vs h1 h2 h3=>?_⟩;subst h1;have iu:pc E.G c.ax c.w:=fun g e aK=>by
  have hp:∀ p,VR c (.bD e 0) p→VR ⟨fun _=>none,[],c.ax,c.w⟩ (.bD e 0) p:=fun p hp=>by
   cases hp with
   |bD _ _ blk o' fv k1 k2 k3 k4=>exact .bD _ _ blk o' fv (fun hb=>k1 (.inl (qF.1 hb))) k2 k3 (fun j x hx=>qG ((k4 j x hx).mono fun b _ hn=>⟨fun hb=>hn (.inl hb),rfl⟩))
  exact hp _ (h2.eJ g e aK)
 refine (H.2 c.ax c.w vs h2.bG iu (yw h2 (kI lv) hd hg h3)).mono fun e w' ⟨v,r,k1,k2,k3,k4⟩=>?_;obtain ⟨q1,q2⟩:=h2.grow k4;exact ⟨c.dL w',.d r,v,k1,rfl,⟨r,k2,rfl,rfl⟩,.d _ _ (Gd (hr r k2) k3),q1,(Rel.refl c (kI lv)).step q2⟩
end Go.aw
end
