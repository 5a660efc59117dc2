/- Several texts of mine, one behind the other. Conditions: as each says. -/
import Derived.Test.YtfmdaiojokniiaaGreatDoorV1
set_option linter.unusedVariables false
set_option linter.unusedSimpArgs false
section
namespace Go.aw
open Go Go.RowKit
def cM:List Nat→Nat→Option Nat
 | [],_=>none
 |a::l,j=>match Nat.beq a j with
  |true=>some 0
  |false=>(cM l j).map (· + 1)
theorem iR:∀ {l:List Nat} {j i:Nat},cM l j=some i→l[i]? = some j
 |a::l,j,i,h=>by
  simp only [cM] at h;split at h
  ·rename_i q; cases h; simp [Nat.eq_of_beq_eq_true q]
  ·cases hx:cM l j with
   |none=>rw [hx] at h; cases h
   |some k=>rw [hx] at h; cases h; simpa using iR hx
theorem rX:∀ {l:List Nat} {j i:Nat},l.Nodup→l[i]? = some j→cM l j=some i
 | [],_,_,_,h=>by simp at h
 |a::l,j,0,_,h=>by simp at h; subst h; simp [cM]
 |a::l,j,i+1,hn,h=>by
  have hl:l[i]? = some j:=by simpa using h
  have aJ:(Nat.beq a j)=false:=by
   cases hb:Nat.beq a j with
   |false=>rfl
   |true =>
    have:=Nat.eq_of_beq_eq_true hb;subst this;exact absurd (List.mem_of_getElem? hl) (List.nodup_cons.1 hn).1
  simp only [cM,aJ,rX (List.nodup_cons.1 hn).2 hl];rfl
theorem Cc {l:List Nat} {j:Nat} (h:cM l j=none) (hn:l.Nodup):j ∉ l:=fun hm=>by
 obtain ⟨i,hi,he⟩:=List.getElem_of_mem hm;rw [rX hn (i:=i) (by simp [hi,he])] at h;cases h
def lx (h:List ae) (j:Nat):Nat:=match di h j with
 |some (.arr g _ _)=>g
 |_=>0
section
variable (J:List Nat) (h:List ae)
def fE:AV→AV
 | .own j g=>match cM J j with
  |some i=>match di h j with
   |some (.arr g' _ _)=>match Nat.beq g g' with
    |true => .own i 0
    |false => .any
   |_ => .any
  |none => .any
 | .ptr j off=>match cM J j with
  |some i=>match di h j with
   |some (.cells _) => .ptr i off
   |_ => .any
  |none => .any
 | .cB j g k off=>match cM J j with
  |some i=>match di h j with
   |some (.arr g' _ _)=>match Nat.beq g g' with
    |true => .cB i 0 k off
    |false => .any
   |_ => .any
  |none => .any
 | .cut j g k q=>match cM J j with
  |some i=>match di h j with
   |some (.arr g' _ _)=>match Nat.beq g g' with
    |true => .cut i 0 k q
    |false => .any
   |_ => .any
  |none => .any
 | .map j=>match cM J j with
  |some i=>match di h j with
   |some (.map _) => .map i
   |_ => .any
  |none => .any
 | .d x => .d x
 | .bE e off => .bE e off
 |_ => .any
def fe:AV→AV
 | .agg l => .agg (l.map (fE J h))
 | .aD l => .aD (l.map (fE J h))
 | .fn f a b => .fn f (a.map (fE J h)) (b.map (fE J h))
 |x=>fE J h x
def ng:ae→ae
 | .arr _ ts l => .arr 0 ts l
 | .cells cs => .cells (cs.map (fE J h))
 |b=>b
def dM:List ae:=J.map fun j=>match di h j with
 |some b=>ng J h b
 |none => .gone
def ff (i:Nat):Nat:=match di J i with
 |some j=>j
 |none=>h.length+(i - J.length)
def mu (i:Nat):Nat:=match di J i with
 |some j=>lx h j
 |none=>0
def jv:AV→AV
 | .own i g => .own (ff J h i) (mu J h i+g)
 | .ptr i off => .ptr (ff J h i) off
 | .cB i g k off => .cB (ff J h i) (mu J h i+g) k off
 | .cut i g k q => .cut (ff J h i) (mu J h i+g) k q
 | .map i => .map (ff J h i)
 | .d x => .d x
 | .bE e off => .bE e off
 |_ => .any
def tX:AV→AV
 | .agg l => .agg (l.map (jv J h))
 | .aD l => .aD (l.map (jv J h))
 | .fn f a b => .fn f (a.map (jv J h)) (b.map (jv J h))
 |x=>jv J h x
def gX:AV→AV
 | .aD l => .aD (l.map (tX J h))
 |x=>tX J h x
def kC (g0:Nat):ae→ae
 | .arr g ts l => .arr (g0+g) ts l
 | .cells cs => .cells (cs.map (jv J h))
 |b=>b
def n' (h1:List ae):Nat→List ae→List ae
 |_,[]=>[]
 |j,b::r=>(match cM J j with
  |some i=>match di h1 i with
   |some b1=>kC J h (lx h j) b1
   |none => .gone
  |none=>b)::n' h1 (j+1) r
def ek (h1:List ae):List ae:=n' J h h1 0 h++(h1.drop J.length).map (kC J h 0)
end
section
variable {J:List Nat} {h:List ae}
theorem tY (h1:List ae):∀ (j:Nat) (r:List ae),(n' J h h1 j r).length=r.length
 |_,[]=>rfl
 |j,b::r=>by simp [n',tY h1 (j+1) r]
theorem Cd (h1:List ae):∀ (j k:Nat) (r:List ae),(n' J h h1 j r)[k]? = (r[k]?).map fun b=>match cM J (j+k) with
  |some i=>match di h1 i with
   |some b1=>kC J h (lx h (j+k)) b1
   |none => .gone
  |none=>b
 |_,_,[]=>by simp [n']
 |j,0,b::r=>by simp [n']
 |j,k+1,b::r=>by
  simp only [n',List.getElem?_cons_succ];rw [Cd h1 (j+1) k r,show j+1+k=j+(k+1) by omega]
theorem ql (h1:List ae):(ek J h h1).length=h.length+(h1.length - J.length):=by simp [ek,tY]
theorem Ce {h1:List ae} {j:Nat} (hj:j<h.length) (hn:cM J j=none):(ek J h h1)[j]? = h[j]? := by
 rw [ek,List.getElem?_append_left (by rw [tY]; exact hj),Cd,Nat.zero_add,hn];simp
theorem Gu {h1:List ae} {i j:Nat} (hj:j<h.length) (hi:cM J j=some i) {b:ae} (hb:h1[i]? = some b):(ek J h h1)[j]? = some (kC J h (lx h j) b):=by
 rw [ek,List.getElem?_append_left (by rw [tY]; exact hj),Cd,Nat.zero_add,hi];simp [dH,hb,hj]
theorem N0 {h1:List ae} {k:Nat}:(ek J h h1)[h.length+k]? = (h1[J.length+k]?).map (kC J h 0):=by
 rw [ek,List.getElem?_append_right (by rw [tY]; omega),tY];simp
def Cx.dS (c:Cx) (J:List Nat):Cx:=⟨fun i=>match J[i]? with | some j=>c.own j | none=>none,dM J c.heap,fun b=>c.ax b∨∃ j n,j ∉ J∧c.own j=some (b,n),c.w⟩
def fg (w:List Nat) (src dst:List ae):List ae:=dst.mapIdx fun j b=>if j∈w then src[j]?.getD b else b
theorem Gv {w:List Nat} {src dst:List ae}:(fg w src dst).length=dst.length:=by simp [fg]
theorem o0 {w:List Nat} {src dst:List ae} {j:Nat}:(fg w src dst)[j]? = dst[j]?.map fun b=>if j∈w then src[j]?.getD b else b:=by simp [fg]
theorem oa {w:List Nat} {src dst:List ae} {j:Nat} (h:j ∉ w):(fg w src dst)[j]? = dst[j]? := by
 rw [o0];simp [h]
theorem wy {w:List Nat} {src dst:List ae} {j:Nat} {b:ae} (h:j∈w) (hl:j<dst.length) (hb:src[j]? = some b):(fg w src dst)[j]? = some b:=by
 rw [o0,List.getElem?_eq_getElem hl];simp [h,hb]
def dn (J:List Nat) (h h1:List ae):List Nat:=List.range' h.length (h1.length - J.length)
theorem nh {J:List Nat} {h h1:List ae} {j:Nat}:j∈dn J h h1↔h.length≤j∧j<h.length+(h1.length - J.length):=by simp [dn]
def Cx.take (c c1:Cx) (J:List Nat) (h:List ae):Cx:=⟨fun j=>match cM J j with | some i=>c1.own i | none=>if j∈dn J h c1.heap then c1.own (J.length+(j - h.length)) else c.own j,fg (J++dn J h c1.heap) (ek J h c1.heap) c.heap,c.ax,c1.w⟩
variable {c c1:Cx} {G:List (Nat × DV)}
theorem Gw (b:Nat):(c.dS J).bad b↔c.bad b:=by
 constructor
 ·rintro ((hb | ⟨j,n,-,hj⟩) | ⟨i,n,hi⟩)
  ·exact .inl hb
  ·exact .inr ⟨j,n,hj⟩
  ·simp only [Cx.dS] at hi;split at hi
   ·exact .inr ⟨_,n,hi⟩
   ·cases hi
 ·rintro (hb | ⟨j,n,hj⟩)
  ·exact .inl (.inl hb)
  ·by_cases hm:j∈J
   ·obtain ⟨i,hi,he⟩:=List.getElem_of_mem hm;refine .inr ⟨i,n,?_⟩;simp only [Cx.dS];rw [show J[i]? = some j by simp [hi,he]];exact hj
   ·exact .inl (.inr ⟨j,n,hm,hj⟩)
theorem wz {x:DV} {v:Value} (hv:VD c.bad c.w x v):VD (c.dS J).bad (c.dS J).w x v:=hv.mono fun b _ hn=>⟨fun hb=>hn ((Gw b).1 hb),rfl⟩
theorem qm {i j:Nat} {b:ae} (hi:J[i]? = some j) (hb:h[j]? = some b):(dM J h)[i]? = some (ng J h b):=by
 simp [dM,hi,dH,hb]
theorem qo {i j:Nat} (hi:J[i]? = some j):(c.dS J).own i=c.own j:=by simp only [Cx.dS,hi]
theorem Cf {x:AV} {v:Value} (hv:VR c x v):VR (c.dS J) (fE J c.heap x) v:=by
 unfold fE;split
 ·rename_i j g;split
  ·rename_i i hi;have hi:=iR hi;rw [dH];split
   ·rename_i g' ts l hb;split
    ·rename_i q;have q:=Nat.eq_of_beq_eq_true q;subst q;have bZ:=qm hi hb;cases hv with
     |own _ _ _ l' blk cap k1 k2=>rw [hb] at k1; cases k1; exact .own i 0 ts l blk cap bZ ((qo hi).trans k2)
     |gy _ _ _ k1 k2=>rw [hb] at k1; cases k1; exact .gy i 0 ts bZ ((qo hi).trans k2)
     |jn _ _ g2 _ _ _ k1 k2 _=>rw [hb] at k1; cases k1; omega
     |iI _ _ _ k1 _=>rw [hb] at k1; cases k1
     |la _ _ _ _ _ _ k1 _ _=>rw [hb] at k1; cases k1
    ·exact .any _
   ·exact .any _
  ·exact .any _
 ·rename_i j off;split
  ·rename_i i hi;have hi:=iR hi;rw [dH];split
   ·rename_i cs hb;have bZ:=qm hi hb;cases hv with
    |ptr _ _ cs' blk cap k1 k2=>exact .ptr i off _ blk cap bZ ((qo hi).trans k2)
    |ik _ _ _ k1 _=>rw [hb] at k1; cases k1
   ·exact .any _
  ·exact .any _
 ·rename_i j g k off;split
  ·rename_i i hi;have hi:=iR hi;rw [dH];split
   ·rename_i g' ts l hb;split
    ·rename_i q;have q:=Nat.eq_of_beq_eq_true q;subst q;have bZ:=qm hi hb;cases hv with
     |cB _ _ _ _ _ l' blk cap k1 k2 k3=>rw [hb] at k1; cases k1; exact .cB i 0 k off ts l blk cap bZ ((qo hi).trans k2) k3
     |kp _ _ g2 _ _ _ _ _ k1 k2 _=>rw [hb] at k1; cases k1; omega
     |kq _ _ _ _ _ k1 _=>rw [hb] at k1; cases k1
    ·exact .any _
   ·exact .any _
  ·exact .any _
 ·rename_i j g k qq;split
  ·rename_i i hi;have hi:=iR hi;rw [dH];split
   ·rename_i g' ts l hb;split
    ·rename_i q;have q:=Nat.eq_of_beq_eq_true q;subst q;have bZ:=qm hi hb;cases hv with
     |cut _ _ _ _ _ l' blk cap o k1 k2 k3 k4 k5=>rw [hb] at k1; cases k1; exact .cut i 0 k qq ts l blk cap o bZ ((qo hi).trans k2) k3 k4 k5
     |l6 _ _ g2 _ _ _ _ _ k1 k2 _=>rw [hb] at k1; cases k1; omega
     |l7 _ _ _ _ _ k1 _=>rw [hb] at k1; cases k1
    ·exact .any _
   ·exact .any _
  ·exact .any _
 ·rename_i j;split
  ·rename_i i hi;have hi:=iR hi;rw [dH];split
   ·rename_i es hb;have bZ:=qm hi hb;cases hv with
    |map _ db blk cap k1 k2=>exact .map i _ blk cap bZ ((qo hi).trans k2)
    |l8 _ _ k1 _=>rw [hb] at k1; cases k1
   ·exact .any _
  ·exact .any _
 ·cases hv with | d _ _ hx=>exact .d _ _ (wz hx)
 ·cases hv with
  |bE _ _ blk o f k1 k2 k3 k4=>exact .bE _ _ blk o f (fun hb=>k1 ((Gw _).1 hb)) k2 k3 (fun j x hx=>wz (k4 j x hx))
 ·exact .any _
theorem wA {l:List AV} {vs:List Value} (hv:VL c l vs):VL (c.dS J) (l.map (fE J c.heap)) vs :=
 ⟨by simpa using hv.1,fun j x v hx hu=>by
  rw [List.getElem?_map] at hx;cases hy:l[j]? with
  |none=>rw [hy] at hx; cases hx
  |some y=>rw [hy] at hx; cases hx; exact Cf (hv.2 j y v hy hu)⟩
theorem wB {l:List AV} {v:Value} (h:VR c (.aD l) v):∃ vs:List Value,v = .tuple vs.toArray∧VL c l vs:=by
 cases h with
 |aD _ vs hl hv=>exact ⟨vs.toList,by simp,by simpa using hl,fun j x v hx hu=>hv j x v hx (by simpa using hu)⟩
theorem wC {l:List AV} {vs:List Value} (h:VL c l vs):VR c (.aD l) (.tuple vs.toArray) :=
 .aD l vs.toArray (by simpa using h.1) (fun j x v hx hv=>h.2 j x v hx (by simpa using hv))
theorem Cg {f:Fn} {a b:List AV} {v1 v2:List Value} (h1:VL c a v1) (h2:VL c b v2):VR c (.fn f a b) (.func f v1.toArray v2.toArray) :=
 .fn _ _ _ _ _ (by simpa using h1.1) (by simpa using h2.1) (fun j x v hx hv=>h1.2 j x v hx (by simpa using hv)) (fun j x v hx hv=>h2.2 j x v hx (by simpa using hv))
theorem Gx {x:AV} {v:Value} (hv:VR c x v):VR (c.dS J) (fe J c.heap x) v:=by
 unfold fe;split
 ·obtain ⟨vs,rfl,h1⟩:=nR hv; exact tx (wA h1)
 ·obtain ⟨vs,rfl,h1⟩:=wB hv; exact wC (wA h1)
 ·obtain ⟨v1,v2,rfl,h1,h2⟩:=jO hv; exact Cg (wA h1) (wA h2)
 ·exact Cf hv
theorem Gy {l:List AV} {vs:List Value} (hv:VL c l vs):VL (c.dS J) (l.map (fe J c.heap)) vs :=
 ⟨by simpa using hv.1,fun j x v hx hu=>by
  rw [List.getElem?_map] at hx;cases hy:l[j]? with
  |none=>rw [hy] at hx; cases hx
  |some y=>rw [hy] at hx; cases hx; exact Gx (hv.2 j y v hy hu)⟩
theorem Gz {l:List Nat} (hn:l.Nodup) {i j a:Nat} (hi:l[i]? = some a) (hj:l[j]? = some a):i=j:=by
 have h1:=rX hn hi;have h2:=rX hn hj;rw [h1] at h2;cases h2; rfl
theorem aK.dS (ho:aK G c) (hn:J.Nodup):aK G (c.dS J) where
 bN:=fun b hb=>hb.elim (ho.bN b) fun ⟨j,n,_,hj⟩=>(ho.br j b n hj).1
 br:=fun i b n hi=>by
  simp only [Cx.dS] at hi;split at hi
  ·rename_i j hj;exact ⟨(ho.br j b n hi).1,by show i<(dM J c.heap).length; simp only [dM,List.length_map]; exact aR hj⟩
  ·cases hi
 inj:=fun i j b n m hi hj=>by
  simp only [Cx.dS] at hi hj;split at hi
  ·rename_i a ha;split at hj
   ·rename_i a' Ch;have:=ho.inj a a' b n m hi hj;subst this;exact Gz hn ha Ch
   ·cases hj
  ·cases hi
 sep:=fun i b n hi hb=>by
  simp only [Cx.dS] at hi;split at hi
  ·rename_i a ha;rcases hb with hb | ⟨j,m,hj,hb⟩
   ·exact ho.sep a b n hi hb
   ·have:=ho.inj a j b n m hi hb;subst this;exact hj (List.mem_of_getElem? ha)
  ·cases hi
 box:=fun i bx hi=>by
  have bY:(dM J c.heap)[i]? = some bx:=hi;simp only [dM,List.getElem?_map] at bY;cases hs:J[i]? with
  |none=>rw [hs] at bY; cases bY
  |some j =>
   rw [hs] at bY;simp only [Option.map_some,Option.some.injEq,dH] at bY;have bA:=qo (c:=c) hs;cases hb:c.heap[j]? with
   |none =>
    rw [hb] at bY;subst bY;show (c.dS J).own i=none;rw [bA];cases hx:c.own j with
    |none=>rfl
    |some p=>have:=(ho.br j p.1 p.2 hx).2; rw [List.getElem?_eq_none_iff] at hb; omega
   |some b =>
    rw [hb] at bY;subst bY;have cQ:=ho.box j b hb;cases b with
    |cells cs =>
     obtain ⟨blk,cap,vs,ty,k1,k2,k3⟩:=ho.cells hb;have:=wA (J:=J) k3;exact ⟨blk,cap,vs,ty,bA.trans k1,k2,by simpa using this.1.symm,fun j x v hx hv=>this.2 j x v hx (by simpa using hv)⟩
    |arr g ts l =>
     obtain ⟨q0,q1,q2⟩:=cQ;refine ⟨q0,q1,?_⟩;rcases q2 with ⟨q2,q3⟩ | ⟨blk,cap,vs,q2,q3,q4,q5,q6,q7⟩
     ·exact .inl ⟨bA.trans q2,q3⟩
     ·refine .inr ⟨blk,cap,vs,bA.trans q2,q3,q4,q5,q6,fun i j e x he hx=>?_⟩;obtain ⟨v,r1,r2,r3⟩:=q7 i j e x he hx;exact ⟨v,r1,r2,wz r3⟩
    |map es =>
     obtain ⟨blk,cap,en,ck,k1,k2,k3,k4⟩:=cQ;exact ⟨blk,cap,en,ck,bA.trans k1,k2,k3,fun j k x m hx hm=>⟨wz (k4 j k x m hx hm).1,wz (k4 j k x m hx hm).2⟩⟩
    |gone=>exact bA.trans cQ
    |hole=>exact bA.trans cQ
 eZ:=fun g e hg=>by
  have:=Cf (J:=J) (ho.eZ g e hg);exact this
theorem N1:tG (dM J h):=fun i g ts l hi=>by
 simp only [dM,List.getElem?_map] at hi;cases hs:J[i]? with
 |none=>rw [hs] at hi; cases hi
 |some j =>
  rw [hs] at hi;simp only [Option.map_some,Option.some.injEq] at hi;split at hi
  ·rename_i b _;cases b <;> simp [ng] at hi;exact hi.1.symm
  ·cases hi
structure jS (c c1:Cx) (J:List Nat) (h:List ae):Prop where
 nodup:J.Nodup
 lt:∀ j∈J,j<h.length
 len:h.length+(c1.heap.length - J.length)≤c.heap.length
 same:∀ j∈J,c.heap[j]? = h[j]?
 new:∀ j∈dn J h c1.heap,c.heap[j]? = some .hole
 rel:Rel (c.dS J) c1
 own:∀ i b n,c1.own i=some (b,n)→i<c1.heap.length
theorem N2 {h1:List ae} {j:Nat} (aj:∀ j∈J,j<h.length) (hj:j∈dn J h h1):cM J j=none:=by
 cases hx:cM J j with
 |none=>rfl
 |some i=>have:=aj _ (List.mem_of_getElem? (iR hx)); have:=nh.1 hj; omega
theorem GA {i j:Nat} (hn:J.Nodup) (hi:J[i]? = some j):(c.take c1 J h).own j=c1.own i:=by
 simp only [Cx.take,rX hn hi]
theorem Ci {j:Nat} (hn:cM J j=none) (hj:j ∉ dn J h c1.heap):(c.take c1 J h).own j=c.own j:=by
 simp only [Cx.take,hn,if_neg hj]
theorem GB {i:Nat} (hs:J[i]? = none) (hi:i<c1.heap.length):h.length+(i - J.length)∈dn J h c1.heap:=by
 rw [List.getElem?_eq_none_iff] at hs;rw [nh];omega
theorem Cj (hb:jS c c1 J h) {i:Nat} (hi:i<c1.heap.length):(c.take c1 J h).own (ff J h i)=c1.own i:=by
 unfold ff;rw [dH];split
 ·rename_i j hj; exact GA hb.nodup hj
 ·rename_i hj;have hm:=GB (h:=h) hj hi;rw [List.getElem?_eq_none_iff] at hj;simp only [Cx.take,N2 hb.lt hm,if_pos hm]
  congr 1
  omega
theorem y6 (hb:jS c c1 J h) {i:Nat} {b:ae} (hi:c1.heap[i]? = some b):(c.take c1 J h).heap[ff J h i]? = some (kC J h (mu J h i) b):=by
 unfold ff mu;rw [dH];show (fg _ (ek J h c1.heap) c.heap)[_]? = _;have hlen:=hb.len;split
 ·rename_i j hj;have hl:=hb.lt j (List.mem_of_getElem? hj);exact wy (List.mem_append_left _ (List.mem_of_getElem? hj)) (by omega) (Gu hl (rX hb.nodup hj) hi)
 ·rename_i hj;have hm:=GB (h:=h) hj (aR hi);have N3:=nh.1 hm;rw [List.getElem?_eq_none_iff] at hj;exact wy (List.mem_append_right _ hm) (by omega) (by rw [N0,show J.length+(i - J.length)=i by omega,hi]; rfl)
theorem tZ (hb:jS c c1 J h) {i j:Nat} {b:ae} (hi:J[i]? = some j) (h1:c1.heap[i]? = some b):(c.take c1 J h).heap[j]? = some (kC J h (lx h j) b):=by
 have:=y6 hb h1
 simpa only [ff,mu,dH,hi] using this
theorem GC {j:Nat} (hn:cM J j=none) (ew:J.Nodup) (hj:j ∉ dn J h c1.heap):(c.take c1 J h).heap[j]? = c.heap[j]? :=
 oa fun hm=>(List.mem_append.1 hm).elim (Cc hn ew) hj
theorem ua (hb:jS c c1 J h) {j b n:Nat} (hj:(c.take c1 J h).own j=some (b,n)):(∃ i,j=ff J h i∧i<c1.heap.length∧c1.own i=some (b,n))∨(cM J j=none∧j ∉ dn J h c1.heap∧c.own j=some (b,n)):=by
 simp only [Cx.take] at hj;split at hj
 ·rename_i i hi;exact .inl ⟨i,by simp only [ff,dH,iR hi],hb.own i b n hj,hj⟩
 ·rename_i hx;split at hj
  ·rename_i hm;have hm:=nh.1 hm;refine .inl ⟨_,?_,hb.own _ b n hj,hj⟩;have:J[J.length+(j - h.length)]? = none:=List.getElem?_eq_none (by omega);simp only [ff,dH,this];omega
  ·rename_i hm; exact .inr ⟨hx,hm,hj⟩
theorem GD (ho:aK G c) (hb:jS c c1 J h) (b:Nat):(c.take c1 J h).bad b↔c1.bad b:=by
 constructor
 ·rintro (hx | ⟨j,n,hx⟩)
  ·refine .inl ?_; rw [hb.rel.ax]; exact .inl hx
  ·rcases ua hb hx with ⟨i,-,-,hi⟩ | ⟨h1,-,h3⟩
   ·exact .inr ⟨i,n,hi⟩
   ·refine .inl ?_; rw [hb.rel.ax]; exact .inr ⟨j,n,Cc h1 hb.nodup,h3⟩
 ·rintro (hx | ⟨i,n,hx⟩)
  ·rw [hb.rel.ax] at hx;rcases hx with hx | ⟨j,n,hj,hx⟩
   ·exact .inl hx
   ·refine .inr ⟨j,n,?_⟩;have h1:cM J j=none:=by
     cases hi:cM J j with
     |none=>rfl
     |some i=>exact absurd (List.mem_of_getElem? (iR hi)) hj
    rw [Ci h1 (fun hm=>by have:=ho.box j _ (hb.new j hm); rw [show c.own j=none from this] at hx; cases hx)];exact hx
  ·exact .inr ⟨_,n,(Cj hb (hb.own i b n hx)).trans hx⟩
theorem wD (ho:aK G c) (hb:jS c c1 J h) {x:DV} {v:Value} (hv:VD c1.bad c1.w x v):VD (c.take c1 J h).bad (c.take c1 J h).w x v :=
 hv.mono fun b _ hn=>⟨fun h=>hn ((GD ho hb b).1 h),rfl⟩
theorem GF (ho:aK G c) (hb:jS c c1 J h) {x:AV} {v:Value} (hv:VR c1 x v):VR (c.take c1 J h) (jv J h x) v:=by
 have hp:∀ {i:Nat} {b:ae},c1.heap[i]? = some b→(c.take c1 J h).heap[ff J h i]? = some (kC J h (mu J h i) b):=fun k=>y6 hb k;have hw:∀ {i:Nat} {b:ae},c1.heap[i]? = some b→(c.take c1 J h).own (ff J h i)=c1.own i:=fun k=>Cj hb (aR k);unfold jv;split
 ·rename_i i g;cases hv with
  |own _ _ ts l blk cap k1 k2=>exact .own _ _ ts l blk cap (hp k1) ((hw k1).trans k2)
  |gy _ _ ts k1 k2=>exact .gy _ _ ts (hp k1) ((hw k1).trans k2)
  |jn _ _ g2 ts l _ k1 k2 k3=>exact .jn _ _ _ ts l _ (hp k1) (by omega) k3
  |iI _ _ _ k1 k3=>exact .iI _ _ _ (hp k1) k3
  |la _ _ cs blk cap m k1 k2 k3=>exact .la _ _ _ blk cap m (hp k1) ((hw k1).trans k2) (by simpa using k3)
 ·rename_i i off;cases hv with
  |ptr _ _ cs blk cap k1 k2=>exact .ptr _ _ _ blk cap (hp k1) ((hw k1).trans k2)
  |ik _ _ _ k1 k3=>exact .ik _ _ _ (hp k1) k3
 ·rename_i i g k off;cases hv with
  |cB _ _ _ _ ts l blk cap k1 k2 k3=>exact .cB _ _ _ _ ts l blk cap (hp k1) ((hw k1).trans k2) k3
  |kp _ _ g2 _ _ ts l _ k1 k2 k3=>exact .kp _ _ _ _ _ ts l _ (hp k1) (by omega) k3
  |kq _ _ _ _ _ k1 k3=>exact .kq _ _ _ _ _ (hp k1) k3
 ·rename_i i g k qq;cases hv with
  |cut _ _ _ _ ts l blk cap o k1 k2 k3 k4 k5=>exact .cut _ _ _ _ ts l blk cap o (hp k1) ((hw k1).trans k2) k3 k4 k5
  |l6 _ _ g2 _ _ ts l _ k1 k2 k3=>exact .l6 _ _ _ _ _ ts l _ (hp k1) (by omega) k3
  |l7 _ _ _ _ _ k1 k3=>exact .l7 _ _ _ _ _ (hp k1) k3
 ·rename_i i;cases hv with
  |map _ es blk cap k1 k2=>exact .map _ es blk cap (hp k1) ((hw k1).trans k2)
  |l8 _ _ k1 k3=>exact .l8 _ _ (hp k1) k3
 ·cases hv with | d _ _ hx=>exact .d _ _ (wD ho hb hx)
 ·cases hv with
  |bE _ _ blk o f k1 k2 k3 k4=>exact .bE _ _ blk o f (fun h=>k1 ((GD ho hb _).1 h)) k2 k3 (fun j x hx=>wD ho hb (k4 j x hx))
 ·exact .any _
theorem qp {c c':Cx} {f:AV→AV} (hf:∀ {x:AV} {v:Value},VR c x v→VR c' (f x) v) {l:List AV} {vs:List Value} (hv:VL c l vs):VL c' (l.map f) vs :=
 ⟨by simpa using hv.1,fun j x v hx hu=>by
  rw [List.getElem?_map] at hx;cases hy:l[j]? with
  |none=>rw [hy] at hx; cases hx
  |some y=>rw [hy] at hx; cases hx; exact hf (hv.2 j y v hy hu)⟩
theorem GG (ho:aK G c) (hb:jS c c1 J h) {x:AV} {v:Value} (hv:VR c1 x v):VR (c.take c1 J h) (tX J h x) v:=by
 have hA:∀ {x:AV} {v:Value},VR c1 x v→VR (c.take c1 J h) (jv J h x) v:=fun h=>GF ho hb h;unfold tX;split
 ·obtain ⟨vs,rfl,h1⟩:=nR hv; exact tx (qp hA h1)
 ·obtain ⟨vs,rfl,h1⟩:=wB hv; exact wC (qp hA h1)
 ·obtain ⟨v1,v2,rfl,h1,h2⟩:=jO hv; exact Cg (qp hA h1) (qp hA h2)
 ·exact hA hv
theorem Ck (ho:aK G c) (hb:jS c c1 J h) {x:AV} {v:Value} (hv:VR c1 x v):VR (c.take c1 J h) (gX J h x) v:=by
 unfold gX;split
 ·obtain ⟨vs,rfl,h1⟩:=wB hv; exact wC (qp (fun h=>GG ho hb h) h1)
 ·exact GG ho hb hv
theorem iJ.take (ho:aK G c) (hb:jS c c1 J h) {i g:Nat} {b:ae} (hi:i<c1.heap.length) (cQ:iJ c1 i b):iJ (c.take c1 J h) (ff J h i) (kC J h g b):=by
 have bA:=Cj hb hi;cases b with
 |cells cs =>
  obtain ⟨blk,cap,vs,ty,k1,k2,k3,k4⟩:=cQ;have:VL (c.take c1 J h) (cs.map (jv J h)) vs.toList:=qp (fun h=>GF ho hb h) ⟨by simpa using k3.symm,fun j x v hx hv=>k4 j x v hx (by simpa using hv)⟩;exact ⟨blk,cap,vs,ty,bA.trans k1,k2,by simpa using this.1.symm,fun j x v hx hv=>this.2 j x v hx (by simpa using hv)⟩
 |arr g ts l =>
  obtain ⟨q0,q1,q2⟩:=cQ;refine ⟨q0,q1,?_⟩;rcases q2 with ⟨q2,q3⟩ | ⟨blk,cap,vs,q2,q3,q4,q5,q6,q7⟩
  ·exact .inl ⟨bA.trans q2,q3⟩
  ·refine .inr ⟨blk,cap,vs,bA.trans q2,q3,q4,q5,q6,fun i j e x he hx=>?_⟩;obtain ⟨v,r1,r2,r3⟩:=q7 i j e x he hx;exact ⟨v,r1,r2,wD ho hb r3⟩
 |map es =>
  obtain ⟨blk,cap,en,ck,k1,k2,k3,k4⟩:=cQ;exact ⟨blk,cap,en,ck,bA.trans k1,k2,k3,fun j k x m hx hm=>⟨wD ho hb (k4 j k x m hx hm).1,wD ho hb (k4 j k x m hx hm).2⟩⟩
 |gone=>exact bA.trans cQ
 |hole=>exact bA.trans cQ
theorem Cl {i b n:Nat} (hi:(c.dS J).own i=some (b,n)):∃ k,J[i]? = some k∧c.own k=some (b,n):=by
 simp only [Cx.dS] at hi;split at hi
 ·rename_i k hs; exact ⟨k,hs,hi⟩
 ·cases hi
theorem y7 (ho:aK G c) (hb:jS c c1 J h):Step c (c.take c1 J h) where
 ax:=rfl
 bN:=ho.bN
 os:=hb.rel.os
 tape:=hb.rel.tape
 output:=hb.rel.output
 size:=hb.rel.size
 keep:=fun b aj hn=>hb.rel.keep b aj (fun i n hi=>by obtain ⟨k,-,hk⟩:=Cl hi; exact hn k n hk)
 dh:=fun j b n hj aj=>by
  rcases ua hb hj with ⟨i,rfl,-,hi⟩ | ⟨-,-,h3⟩
  ·obtain ⟨m,hk⟩:=hb.rel.dh i b n hi aj;obtain ⟨k,hs,hk⟩:=Cl hk;exact ⟨m,by simpa only [ff,dH,hs] using hk⟩
  ·exact ⟨n,h3⟩
 boxes:=fun j bx hj=>by
  cases hx:cM J j with
  |none =>
   by_cases hm:j∈dn J h c1.heap
   ·rw [hb.new j hm] at hj;cases hj;exact ⟨_,o0.trans (by rw [hb.new j hm]; rfl)⟩
   have h':(c.take c1 J h).heap[j]? = some bx:=(GC hx hb.nodup hm).trans hj;have cG:=Ci (c:=c) (c1:=c1) hx hm;cases bx with
   |cells cs=>exact .inl ⟨cs,h',cG,rfl⟩
   |arr g sz l=>exact .inl ⟨g,l,h',.inr ⟨rfl,rfl,cG⟩⟩
   |map es=>exact .inl ⟨es,h',cG⟩
   |gone=>exact h'
   |hole=>exact ⟨_,h'⟩
  |some i =>
   have hi:=iR hx;have N4:=hb.same j (List.mem_of_getElem? hi);have h1:=hb.rel.boxes i _ (qm hi hj);have cG:=GA (c:=c) (c1:=c1) (h:=h) hb.nodup hi;have rY:=qo (c:=c) hi;have ef:c1.heap[i]? = some .gone→(c.take c1 J h).heap[j]? = some .gone:=fun h=>tZ hb hi h;cases bx with
   |cells cs =>
    rcases h1 with ⟨cs',h1,h2,h3⟩ | h1
    ·exact .inl ⟨_,tZ hb hi h1,cG.trans (h2.trans rY),by simpa [ng] using h3⟩
    ·exact .inr (ef h1)
   |arr g ts l =>
    rcases h1 with ⟨g',l',h1,h2⟩ | h1
    ·have aC:lx h j=g:=by simp only [lx,dH,← N4,hj]
     have h3:=tZ hb hi h1;simp only [kC,aC] at h3;refine .inl ⟨g+g',l',h3,?_⟩;rcases h2 with h2 | ⟨h2,h4,h5⟩
     ·left; omega
     ·exact .inr ⟨by omega,h4,cG.trans (h5.trans rY)⟩
    ·exact .inr (ef h1)
   |map es =>
    rcases h1 with ⟨db,h1,h2⟩ | h1
    ·exact .inl ⟨db,tZ hb hi h1,cG.trans (h2.trans rY)⟩
    ·exact .inr (ef h1)
   |gone=>exact ef h1
   |hole=>obtain ⟨b,h1⟩:=h1; exact ⟨_,tZ hb hi h1⟩
theorem aK.take (ho:aK G c) (wE:aK G c1) (hb:jS c c1 J h):aK G (c.take c1 J h):=by
 refine ho.next (y7 ho hb) (fun j b n hj=>?_) (fun j j' b n m hj dI=>?_) (fun j bx hj=>?_)
 ·rcases ua hb hj with ⟨i,rfl,h2,hi⟩ | ⟨-,-,h3⟩
  ·exact ⟨(wE.br i b n hi).1,aR (y6 hb (List.getElem?_eq_getElem h2))⟩
  ·exact ⟨Nat.lt_of_lt_of_le (ho.br j b n h3).1 hb.rel.size,by show j<(fg _ _ _).length; rw [Gv]; exact (ho.br j b n h3).2⟩
 ·have GH:∀ j i n m,cM J j=none→c.own j=some (b,n)→c1.own i=some (b,m)→False:=fun j i n m hx hj hi=>by
   refine wE.sep i b m hi ?_;rw [hb.rel.ax];exact .inr ⟨j,n,Cc hx hb.nodup,hj⟩
  rcases ua hb hj with ⟨i,rfl,-,hi⟩ | ⟨hx,-,GI⟩
  ·rcases ua hb dI with ⟨i',rfl,-,bY⟩ | ⟨fa,-,Cm⟩
   ·rw [wE.inj i i' b n m hi bY]
   ·exact (GH j' i m n fa Cm hi).elim
  ·rcases ua hb dI with ⟨i',rfl,-,bY⟩ | ⟨fa,-,Cm⟩
   ·exact (GH j i' n m hx GI bY).elim
   ·exact ho.inj j j' b n m GI Cm
 ·cases hx:cM J j with
  |none =>
   by_cases hm:j∈dn J h c1.heap
   ·right;have N3:=nh.1 hm;have hl:J.length+(j - h.length)<c1.heap.length:=by omega
    have GJ:ff J h (J.length+(j - h.length))=j:=by
     have:J[J.length+(j - h.length)]? = none:=List.getElem?_eq_none (by omega);simp only [ff,dH,this];omega
    have h2:=y6 hb (List.getElem?_eq_getElem hl);rw [GJ,hj] at h2;cases h2;have:=(wE.box _ _ (List.getElem?_eq_getElem hl)).take (g:=mu J h (J.length+(j - h.length))) ho hb hl
    rwa [GJ] at this
   ·left;rw [GC hx hb.nodup hm] at hj;refine ⟨hj,Ci hx hm,fun b n bZ=>hb.rel.keep b (ho.br j b n bZ).1 (fun i m hi=>?_)⟩;obtain ⟨k,hs,hk⟩:=Cl hi;have:=ho.inj j k b n m bZ hk;subst this;rw [rX hb.nodup hs] at hx;cases hx
  |some i =>
   right;have hi:=iR hx;have hl:=hb.lt j (List.mem_of_getElem? hi);obtain ⟨b1,ob⟩:∃ b1,c1.heap[i]? = some b1:=by
    have ni:c.heap[j]? = some h[j]:=(hb.same j (List.mem_of_getElem? hi)).trans (List.getElem?_eq_getElem hl);have qs:=hb.rel.boxes i _ (qm hi ni);generalize ng J c.heap h[j]=bb at qs;cases bb with
    |cells cs=>rcases qs with ⟨_,h,_⟩ | h <;> exact ⟨_,h⟩
    |arr g ts l=>rcases qs with ⟨_,_,h,_⟩ | h <;> exact ⟨_,h⟩
    |map es=>rcases qs with ⟨_,h,_⟩ | h <;> exact ⟨_,h⟩
    |gone=>exact ⟨_,qs⟩
    |hole=>exact qs
   rw [tZ hb hi ob] at hj;cases hj;have:=(wE.box i b1 ob).take (g:=lx h j) ho hb (aR ob)
   rwa [show ff J h i=j by simp only [ff,dH,hi]] at this
theorem GK {H:List ae} (hs:∀ j∈J,H[j]? = h[j]?) (x:AV):fE J H x=fE J h x:=by
 have e:∀ {j i:Nat},cM J j=some i→di H j=di h j:=fun hi=>by rw [dH,dH]; exact hs _ (List.mem_of_getElem? (iR hi))
 cases x <;> simp only [fE];all_goals
  split
  ·rename_i hi; rw [e hi]
  ·rfl
theorem GL {H:List ae} (hs:∀ j∈J,H[j]? = h[j]?) (x:AV):fe J H x=fe J h x:=by
 have e:fE J H=fE J h:=funext (GK hs);unfold fe;rw [e]
theorem Cn {H:List ae} (hs:∀ j∈J,H[j]? = h[j]?):dM J H=dM J h:=by
 have e:fE J H=fE J h:=funext (GK hs);refine List.map_congr_left fun j hj=>?_;rw [dH,dH,hs j hj];split
 ·unfold ng; rw [e]
 ·rfl
theorem au.N5 {E:Env} {f:FuncId} {args:List AV} {Q:AV→List ae→Prop} (H:au E f (dM J h) (args.map (fe J h)) Q) (hn:J.Nodup) (aj:∀ j∈J,j<h.length) (hs:∀ j∈J,c.heap[j]? = h[j]?)
  (hr:∀ r h1,Q r h1→h.length+(h1.length - J.length)≤c.heap.length∧∀ j∈dn J h h1,c.heap[j]? = some .hole) (ho:aK E.G c) {vs:List Value} (hv:VL c args vs) :
  Calls E.P f vs.toArray c.w fun e w'=>∃ (c':Cx) (r:AV) (h1:List ae) (v:Value),e = .returned v∧c'.w=w'∧Q r h1∧c'.heap=fg (J++dn J h h1) (ek J h h1) c.heap∧VR c' (gX J h r) v∧aK E.G c'∧Step c c':=by
 unfold au at H;have eL:=Gy (J:=J) hv;rw [show fe J c.heap=fe J h from funext (GL hs)] at eL;refine (H.2.2 (c.dS J) vs (Cn hs) (ho.dS hn) eL).mono fun e w' ⟨c1,r,v,k1,k2,k3,k4,k5,k6⟩=>?_;obtain ⟨h1,h2⟩:=hr _ _ k3;have hb:jS c c1 J h:=⟨hn,aj,h1,hs,h2,k6,fun i b n hi=>(k5.br i b n hi).2⟩;exact ⟨c.take c1 J h,r,c1.heap,v,k1,k2,k3,rfl,Ck ho hb k4,ho.take k5 hb,y7 ho hb⟩
def Cx.pad (c:Cx) (k:Nat):Cx:={ c with heap:=c.heap++List.replicate k .hole }
theorem y8 {k i:Nat} {bx:ae} (hi:c.heap[i]? = some bx):(c.pad k).heap[i]? = some bx:=(List.getElem?_append_left (aR hi)).trans hi
theorem Co {k i:Nat} (h1:c.heap.length≤i) (h2:i<c.heap.length+k):(c.pad k).heap[i]? = some .hole:=by
 show (c.heap++_)[i]? = _;rw [List.getElem?_append_right h1,List.getElem?_replicate,if_pos (by omega)]
theorem y9 (ho:aK G c) (k:Nat):Step c (c.pad k):=⟨rfl,ho.bN,rfl,rfl,rfl,Nat.le_refl _,fun _ _ _=>rfl,fun i b n h _=>⟨n,h⟩,fun i bx hi=>by
  have h':=y8 (k:=k) hi;cases bx with
  |cells cs=>exact .inl ⟨cs,h',rfl,rfl⟩
  |arr g sz l=>exact .inl ⟨g,l,h',.inr ⟨rfl,rfl,rfl⟩⟩
  |map es=>exact .inl ⟨es,h',rfl⟩
  |gone=>exact h'
  |hole=>exact ⟨_,h'⟩⟩
theorem aK.pad (ho:aK G c) (k:Nat):aK G (c.pad k):=by
 refine ho.next (y9 ho k) (fun i b n hi=>⟨(ho.br i b n hi).1,?_⟩) ho.inj fun i bx hi=>?_
 ·have:=(ho.br i b n hi).2;show i<(c.heap++_).length;rw [List.length_append];omega
 ·rcases Nat.lt_or_ge i c.heap.length with hl | hl
  ·exact .inl ⟨by rw [← hi,y8 (List.getElem?_eq_getElem hl)]; exact List.getElem?_eq_getElem hl,rfl,fun _ _ _=>rfl⟩
  ·have h2:=aR hi;rw [show (c.pad k).heap.length=c.heap.length+k by simp [Cx.pad]] at h2;rw [Co hl h2] at hi;cases hi;right;show c.own i=none;cases hx:c.own i with
   |none=>rfl
   |some p=>have:=(ho.br i p.1 p.2 hx).2; omega
theorem au.at {E:Env} {f:FuncId} {args:List AV} {Q:AV→List ae→Prop} (H:au E f (dM J h) (args.map (fe J h)) Q) (hn:J.Nodup) (aj:∀ j∈J,j<h.length) (hh:c.heap=h) (ho:aK E.G c) {vs:List Value} (hv:VL c args vs) :
  Calls E.P f vs.toArray c.w fun e w'=>∃ (c':Cx) (r:AV) (h1:List ae) (v:Value),e = .returned v∧c'.w=w'∧Q r h1∧c'.heap=ek J h h1∧VR c' (gX J h r) v∧aK E.G c'∧Step c c':=by
 subst hh;unfold au at H;refine (H.2.2 (c.dS J) vs rfl (ho.dS hn) (Gy hv)).mono fun e w' ⟨c1,r,v,k1,k2,k3,k4,k5,k6⟩=>?_;have hs:∀ j∈J,(c.pad (c1.heap.length - J.length)).heap[j]? = c.heap[j]? := fun j hj=>List.getElem?_append_left (aj j hj);have hg:(c.pad (c1.heap.length - J.length)).dS J=c.dS J:=by
  simp only [Cx.dS,Cn hs];rfl
 have hb:jS (c.pad (c1.heap.length - J.length)) c1 J c.heap:=⟨hn,aj,by simp [Cx.pad],hs,fun j hj=>have hj:=nh.1 hj; Co hj.1 hj.2,by rw [hg]; exact k6,fun i b n hi=>(k5.br i b n hi).2⟩;have wF:=ho.pad (c1.heap.length - J.length);refine ⟨(c.pad (c1.heap.length - J.length)).take c1 J c.heap,r,c1.heap,v,k1,k2,k3,?_,Ck wF hb k4,wF.take k5 hb,(y9 ho _).trans (y7 wF hb)⟩;refine List.ext_getElem? fun j=>?_;show (fg _ _ _)[j]? = _;by_cases hm:j∈J++dn J c.heap c1.heap
 ·have hl:j<c.heap.length+(c1.heap.length - J.length):=(List.mem_append.1 hm).elim (fun h=>by have:=aj j h; omega) fun h=>(nh.1 h).2;obtain ⟨b,hr⟩:∃ b,(ek J c.heap c1.heap)[j]? = some b:=⟨_,List.getElem?_eq_getElem (by rw [ql]; exact hl)⟩;rw [wy hm (by show j<(c.heap++_).length; rw [List.length_append,List.length_replicate]; exact hl) hr,hr]
 ·rw [oa hm];have jw:cM J j=none:=by
   cases hx:cM J j with
   |none=>rfl
   |some i=>exact absurd (List.mem_append_left _ (List.mem_of_getElem? (iR hx))) hm
  rcases Nat.lt_or_ge j c.heap.length with hl | hl
  ·rw [Ce hl jw,y8 (List.getElem?_eq_getElem hl),List.getElem?_eq_getElem hl]
  ·have:¬ j<c.heap.length+(c1.heap.length - J.length):=fun h=>hm (List.mem_append_right _ (nh.2 ⟨hl,h⟩));rw [List.getElem?_eq_none (by show (c.heap++_).length≤j; rw [List.length_append,List.length_replicate]; omega),List.getElem?_eq_none (by rw [ql]; omega)]
end
end Go.aw
end
section
namespace Go.aw
open Go Go.RowKit
universe u
section Bf
variable {α:Sort u} {β γ:Type}
def ix (f:β→(γ→α)→α):List β→(List γ→α)→α
 | [],k=>k []
 |a::l,k=>f a fun b=>ix f l fun l'=>k (b::l')
theorem oc {f:β→(γ→α)→α} {g:β→γ} (h:∀ x k,f x k=k (g x)):∀ (l:List β) (k:List γ→α),ix f l k=k (l.map g)
 | [],_=>rfl
 |a::l,k=>by simp only [ix,h,oc h l,List.map_cons]
def qu:List β→List β→(List β→α)→α
 | [],m,k=>k m
 |a::l,m,k=>qu l m fun l'=>k (a::l')
theorem ub:∀ (l m:List β) (k:List β→α),qu l m k=k (l++m)
 | [],_,_=>rfl
 |a::l,m,k=>by simp only [qu,ub l,List.cons_append]
def nj:List β→Nat→(Nat→α)→α
 | [],n,k=>k n
 |_::l,n,k=>nj l (n+1) k
theorem rZ:∀ (l:List β) (n:Nat) (k:Nat→α),nj l n k=k (n+l.length)
 | [],_,_=>rfl
 |_::l,n,k=>by rw [nj,rZ l,List.length_cons]; congr 1; omega
def o4:List Nat→Nat→Nat→α→(Nat→α)→α
 | [],_,_,no,_=>no
 |a::l,j,n,no,k=>match Nat.beq a j with
  |true=>k n
  |false=>o4 l j (n+1) no k
theorem Cp:∀ (l:List Nat) (j n:Nat) (no:α) (k:Nat→α),o4 l j n no k=match cM l j with
  |some i=>k (n+i)
  |none=>no
 | [],_,_,_,_=>rfl
 |a::l,j,n,no,k=>by
  simp only [o4,cM];cases Nat.beq a j with
  |true=>rfl
  |false =>
   rw [Cp l];cases cM l j with
   |none=>rfl
   |some i=>simp only [Option.map_some]; congr 1; omega
theorem uc {l:List β} {i:Nat} {no:α} {k:β→α}:aM l i no k=match di l i with
  |some x=>k x
  |none=>no:=by
 rw [dH];cases h:l[i]? with
 |none=>exact Fx h no k
 |some x=>exact yy h no k
def qv (J:List Nat) (h:List ae) (x:AV) (k:AV→α):α :=
 match x with
 | .own j g=>o4 J j 0 (k .any) fun i=>aM h j (k .any) fun
  | .arr g' _ _=>match Nat.beq g g' with
   |true=>k (.own i 0)
   |false=>k .any
  |_=>k .any
 | .ptr j off=>o4 J j 0 (k .any) fun i=>aM h j (k .any) fun
  | .cells _=>k (.ptr i off)
  |_=>k .any
 | .cB j g n off=>o4 J j 0 (k .any) fun i=>aM h j (k .any) fun
  | .arr g' _ _=>match Nat.beq g g' with
   |true=>k (.cB i 0 n off)
   |false=>k .any
  |_=>k .any
 | .cut j g n q=>o4 J j 0 (k .any) fun i=>aM h j (k .any) fun
  | .arr g' _ _=>match Nat.beq g g' with
   |true=>k (.cut i 0 n q)
   |false=>k .any
  |_=>k .any
 | .map j=>o4 J j 0 (k .any) fun i=>aM h j (k .any) fun
  | .map _=>k (.map i)
  |_=>k .any
 | .d x=>k (.d x)
 | .bE e off=>k (.bE e off)
 |_=>k .any
theorem Cq (J:List Nat) (h:List ae) (x:AV) (k:AV→α):qv J h x k=k (fE J h x):=by
 unfold qv fE;simp only [Cp,uc,Nat.zero_add];cases x with
 |own j g =>
  dsimp only;generalize cM J j=a;generalize di h j=o;cases a with
  |none=>rfl
  |some i=>cases o with
   |none=>rfl
   |some b=>cases b with
    |arr g' _ _=>dsimp only; cases Nat.beq g g' <;> rfl
    |_=>rfl
 |ptr j off =>
  dsimp only;generalize cM J j=a;generalize di h j=o;cases a with
  |none=>rfl
  |some i=>cases o with
   |none=>rfl
   |some b=>cases b <;> rfl
 |cut j g n q =>
  dsimp only;generalize cM J j=a;generalize di h j=o;cases a with
  |none=>rfl
  |some i=>cases o with
   |none=>rfl
   |some b=>cases b with
    |arr g' _ _=>dsimp only; cases Nat.beq g g' <;> rfl
    |_=>rfl
 |cB j g n off =>
  dsimp only;generalize cM J j=a;generalize di h j=o;cases a with
  |none=>rfl
  |some i=>cases o with
   |none=>rfl
   |some b=>cases b with
    |arr g' _ _=>dsimp only; cases Nat.beq g g' <;> rfl
    |_=>rfl
 |map j =>
  dsimp only;generalize cM J j=a;generalize di h j=o;cases a with
  |none=>rfl
  |some i=>cases o with
   |none=>rfl
   |some b=>cases b <;> rfl
 |_=>rfl
def wG (J:List Nat) (h:List ae) (x:AV) (k:AV→α):α :=
 match x with
 | .agg l=>ix (qv J h) l fun l'=>k (.agg l')
 | .aD l=>ix (qv J h) l fun l'=>k (.aD l')
 | .fn f a b=>ix (qv J h) a fun a'=>ix (qv J h) b fun b'=>k (.fn f a' b')
 |x=>qv J h x k
theorem Cr (J:List Nat) (h:List ae) (x:AV) (k:AV→α):wG J h x k=k (fe J h x):=by
 unfold wG fe;cases x <;> simp only [oc (Cq J h),Cq]
def Cs (J:List Nat) (h:List ae) (b:ae) (k:ae→α):α :=
 match b with
 | .arr _ ts l=>k (.arr 0 ts l)
 | .cells cs=>ix (qv J h) cs fun cs'=>k (.cells cs')
 | .map es=>k (.map es)
 | .gone=>k .gone
 | .hole=>k .hole
theorem N6 (J:List Nat) (h:List ae) (b:ae) (k:ae→α):Cs J h b k=k (ng J h b):=by
 unfold Cs ng;cases b <;> simp only [oc (Cq J h)]
def Ct (J:List Nat) (h:List ae) (j:Nat) (k:ae→α):α:=aM h j (k .gone) fun b=>Cs J h b k
theorem N7 (J:List Nat) (h:List ae) (j:Nat) (k:ae→α):Ct J h j k=k (match di h j with | some b=>ng J h b | none => .gone):=by
 unfold Ct;rw [uc];generalize di h j=o;cases o with
 |none=>rfl
 |some b=>exact N6 J h b k
def wH (J:List Nat) (h:List ae) (k:List ae→α):α:=ix (Ct J h) J k
theorem Cu (J:List Nat) (h:List ae) (k:List ae→α):wH J h k=k (dM J h):=by
 unfold wH dM;rw [oc (N7 J h)];all_goals rfl
def r8 (J:List Nat) (h:List ae) (i:Nat) (k:Nat→α):α:=aM J i (nj h 0 fun n=>nj J 0 fun m=>k (n+(i - m))) k
theorem N8 (J:List Nat) (h:List ae) (i:Nat) (k:Nat→α):r8 J h i k=k (ff J h i):=by
 unfold r8 ff;rw [uc];simp only [rZ,Nat.zero_add];generalize di J i=o;cases o <;> rfl
def zb (h:List ae) (j:Nat) (k:Nat→α):α:=aM h j (k 0) fun
 | .arr g _ _=>k g
 |_=>k 0
theorem GM (h:List ae) (j:Nat) (k:Nat→α):zb h j k=k (lx h j):=by
 unfold zb lx;rw [uc];generalize di h j=o;cases o with
 |none=>rfl
 |some b=>cases b <;> rfl
def wI (J:List Nat) (h:List ae) (i:Nat) (k:Nat→α):α:=aM J i (k 0) fun j=>zb h j k
theorem N9 (J:List Nat) (h:List ae) (i:Nat) (k:Nat→α):wI J h i k=k (mu J h i):=by
 unfold wI mu;rw [uc];generalize di J i=o;cases o with
 |none=>rfl
 |some b=>exact GM h b k
def qw (J:List Nat) (h:List ae) (x:AV) (k:AV→α):α :=
 match x with
 | .own i g=>r8 J h i fun j=>wI J h i fun g0=>k (.own j (g0+g))
 | .ptr i off=>r8 J h i fun j=>k (.ptr j off)
 | .cB i g n off=>r8 J h i fun j=>wI J h i fun g0=>k (.cB j (g0+g) n off)
 | .cut i g n q=>r8 J h i fun j=>wI J h i fun g0=>k (.cut j (g0+g) n q)
 | .map i=>r8 J h i fun j=>k (.map j)
 | .d x=>k (.d x)
 | .bE e off=>k (.bE e off)
 |_=>k .any
theorem Cv (J:List Nat) (h:List ae) (x:AV) (k:AV→α):qw J h x k=k (jv J h x):=by
 unfold qw jv;cases x <;> simp only [N8,N9]
def zc (J:List Nat) (h:List ae) (x:AV) (k:AV→α):α :=
 match x with
 | .agg l=>ix (qw J h) l fun l'=>k (.agg l')
 | .aD l=>ix (qw J h) l fun l'=>k (.aD l')
 | .fn f a b=>ix (qw J h) a fun a'=>ix (qw J h) b fun b'=>k (.fn f a' b')
 |x=>qw J h x k
theorem GN (J:List Nat) (h:List ae) (x:AV) (k:AV→α):zc J h x k=k (tX J h x):=by
 unfold zc tX;cases x <;> simp only [oc (Cv J h),Cv]
def eN (J:List Nat) (h:List ae) (x:AV) (k:AV→α):α :=
 match x with
 | .aD l=>ix (zc J h) l fun l'=>k (.aD l')
 |x=>zc J h x k
theorem ly (J:List Nat) (h:List ae) (x:AV) (k:AV→α):eN J h x k=k (gX J h x):=by
 unfold eN gX;cases x <;> simp only [oc (GN J h),GN]
def ze (J:List Nat) (h:List ae) (g0:Nat) (b:ae) (k:ae→α):α :=
 match b with
 | .arr g ts l=>k (.arr (g0+g) ts l)
 | .cells cs=>ix (qw J h) cs fun cs'=>k (.cells cs')
 | .map es=>k (.map es)
 | .gone=>k .gone
 | .hole=>k .hole
theorem GO (J:List Nat) (h:List ae) (g0:Nat) (b:ae) (k:ae→α):ze J h g0 b k=k (kC J h g0 b):=by
 unfold ze kC;cases b <;> simp only [oc (Cv J h)]
def ud (J:List Nat) (h h1:List ae):Nat→List ae→(List ae→α)→α
 |_,[],k=>k []
 |j,b::r,k=>o4 J j 0 (ud J h h1 (j+1) r fun r'=>k (b::r')) fun i=>aM h1 i (ud J h h1 (j+1) r fun r'=>k (.gone::r')) fun b1=>zb h j fun g=>ze J h g b1 fun b2=>ud J h h1 (j+1) r fun r'=>k (b2::r')
theorem GP (J:List Nat) (h h1:List ae):∀ (j:Nat) (r:List ae) (k:List ae→α),ud J h h1 j r k=k (n' J h h1 j r)
 |_,[],_=>rfl
 |j,b::r,k=>by
  simp only [ud,Cp,uc,GM,GO,GP J h h1 (j+1) r,Nat.zero_add,n'];generalize cM J j=a;cases a with
  |none=>rfl
  |some i =>
   dsimp only;generalize di h1 i=o;cases o <;> rfl
def iy (J:List Nat) (h h1:List ae) (k:List ae→α):α:=ud J h h1 0 h fun a=>nj J 0 fun n=>rp n h1 fun h2=>ix (ze J h 0) h2 fun b=>qu a b k
theorem o5 (J:List Nat) (h h1:List ae) (k:List ae→α):iy J h h1 k=k (ek J h h1):=by
 unfold iy ek;simp only [GP,rZ,Nat.zero_add,Bg,oc (GO J h 0),ub]
def r9 (d:Nat):List Nat→Bool
 | []=>false
 |a::l=>match Nat.beq a d with
  |true=>true
  |false=>r9 d l
def sc (j:Nat) (J:List Nat) (k:List Nat→α):α:=match r9 j J with
 |true=>k J
 |false=>qu J [j] k
def zf (h:List ae) (x:AV) (J:List Nat) (k:List Nat→α):α :=
 match x with
 | .own j g=>aM h j (k J) fun
  | .arr g' _ _=>match Nat.beq g g' with
   |true=>sc j J k
   |false=>k J
  |_=>k J
 | .ptr j _=>aM h j (k J) fun
  | .cells _=>sc j J k
  |_=>k J
 | .cB j g _ _=>aM h j (k J) fun
  | .arr g' _ _=>match Nat.beq g g' with
   |true=>sc j J k
   |false=>k J
  |_=>k J
 | .cut j g _ _=>aM h j (k J) fun
  | .arr g' _ _=>match Nat.beq g g' with
   |true=>sc j J k
   |false=>k J
  |_=>k J
 | .map j=>aM h j (k J) fun
  | .map _=>sc j J k
  |_=>k J
 |_=>k J
def qx (h:List ae):List AV→List Nat→(List Nat→α)→α
 | [],J,k=>k J
 |x::l,J,k=>zf h x J fun lz=>qx h l lz k
def o6 (h:List ae):List AV→List Nat→(List Nat→α)→α
 | [],J,k=>k J
 |x::l,J,k=>match x with
  | .agg c=>qx h c J fun lz=>o6 h l lz k
  | .aD c=>qx h c J fun lz=>o6 h l lz k
  | .fn _ a b=>qx h a J fun lz=>qx h b lz fun N'=>o6 h l N' k
  |x=>zf h x J fun lz=>o6 h l lz k
def qy (h:List ae):Nat→Nat→List Nat→(List Nat→α)→α
 | 0,_,J,k=>k J
 |n+1,p,J,k=>aM J p (k J) fun j=>aM h j (qy h n (p+1) J k) fun
  | .cells cs=>qx h cs J fun lz=>qy h n (p+1) lz k
  |_=>qy h n (p+1) J k
def ue (n:Nat):List Nat→Bool
 | []=>true
 |j::l=>match r9 j l,Nat.blt j n with
  |false,true=>ue n l
  |_,_=>false
end Bf
theorem zg {d:Nat}:∀ {l:List Nat},r9 d l=true↔d∈l
 | []=>by simp [r9]
 |a::l=>by
  simp only [r9];split
  ·rename_i q; simp [Nat.eq_of_beq_eq_true q]
  ·rename_i q;have aJ:d≠a:=fun e=>by rw [e,Nat.beq_refl] at q; cases q
   rw [zg (l:=l)];simp [aJ]
theorem zh {n:Nat}:∀ {l:List Nat},ue n l=true→l.Nodup∧∀ j∈l,j<n
 | [],_=>⟨.nil,fun j hj=>by simp at hj⟩
 |j::l,H=>by
  simp only [ue] at H;split at H
  ·rename_i q1 q2;obtain ⟨h1,h2⟩:=zh H;refine ⟨List.nodup_cons.2 ⟨fun hm=>?_,h1⟩,fun i hi=>?_⟩
   ·rw [zg.2 hm] at q1; cases q1
   ·rcases List.mem_cons.1 hi with rfl | hi
    ·exact Nat.le_of_ble_eq_true q2
    ·exact h2 i hi
  ·cases H
@[irreducible] def wJ (E : Env) (f : FuncId) (h0 : List ae) (args : List AV) (K : AV → List ae → Prop) : Prop := ∃ Q, au E f h0 args Q ∧ ∀ r h1, Q r h1 → K r h1
theorem jx {E:Env} {f:FuncId} {h0:List ae} {args:List AV} {K Q:AV→List ae→Prop} (H:au E f h0 args Q) (hk:∀ r h1,Q r h1→K r h1):wJ E f h0 args K:=by unfold wJ; exact ⟨Q,H,hk⟩
theorem bD {E:Env} {f:FuncId} {h0:List ae} {args:List AV} {K:AV→List ae→Prop} {r:AV} {h1:List ae} (H:au E f h0 args (fun a b=>a=r∧b=h1)) (hk:K r h1):wJ E f h0 args K:=jx H fun _ _ ⟨e1,e2⟩=>by subst e1; subst e2; exact hk
def zi (E:Env) (f:FuncId) (gd:List AV) (h:List ae) (stop:Prop) (k:AV→List ae→Prop):Prop :=
 o6 h gd [] fun wK=>qy h 20 0 wK fun J=>nj h 0 fun n=>match ue n J with
  |true=>wH J h fun h0=>ix (wG J h) gd fun Cw=>wJ E f h0 Cw fun r h1=>eN J h r fun v=>iy J h h1 fun h'=>k v h'
  |false=>stop
theorem GQ {h:List ae} {x:AV} {J:List Nat} {k:List Nat→Prop} (H:zf h x J k):∃ l,k l:=by
 have zj:∀ {j:Nat},sc j J k→∃ l,k l:=fun {j} H=>by
  unfold sc at H;split at H
  ·exact ⟨_,H⟩
  ·rw [ub] at H; exact ⟨_,H⟩
 unfold zf at H;split at H;all_goals first
  |exact ⟨_,H⟩
  |(rcases a7 H with H | ⟨_, _, H⟩
    · exact ⟨_, H⟩
    split at H
    · first
      | exact zj H
      | (split at H
         · exact zj H
         · exact ⟨_, H⟩)
    · exact ⟨_, H⟩)
theorem uf {h:List ae}:∀ {l:List AV} {J:List Nat} {k:List Nat→Prop},qx h l J k→∃ l,k l
 | [],_,_,H=>⟨_,H⟩
 |_::_,_,_,H=>by
  simp only [qx] at H;obtain ⟨_,H⟩:=GQ H;exact uf H
theorem sd {h:List ae}:∀ {l:List AV} {J:List Nat} {k:List Nat→Prop},o6 h l J k→∃ l,k l
 | [],_,_,H=>⟨_,H⟩
 |x::_,_,_,H=>by
  simp only [o6] at H;split at H
  ·obtain ⟨_,H⟩:=uf H; exact sd H
  ·obtain ⟨_,H⟩:=uf H; exact sd H
  ·obtain ⟨_,H⟩:=uf H; obtain ⟨_,H⟩:=uf H; exact sd H
  ·obtain ⟨_,H⟩:=GQ H; exact sd H
theorem ug {h:List ae}:∀ {n p:Nat} {J:List Nat} {k:List Nat→Prop},qy h n p J k→∃ l,k l
 | 0,_,_,_,H=>⟨_,H⟩
 |n+1,p,J,k,H=>by
  simp only [qy] at H;rcases a7 H with H | ⟨j,_,H⟩
  ·exact ⟨_,H⟩
  rcases a7 H with H | ⟨b,_,H⟩
  ·exact ug H
  split at H
  ·obtain ⟨_,H⟩:=uf H; exact ug H
  ·exact ug H
theorem Oa {E:Env} {f:FuncId} {gd:List AV} {h:List ae} {stop:Prop} {k:AV→List ae→Prop} (H:zi E f gd h stop k):stop∨∃ (J:List Nat) (Q:AV→List ae→Prop),
  au E f (dM J h) (gd.map (fe J h)) Q∧J.Nodup∧(∀ j∈J,j<h.length)∧∀ r h1,Q r h1→k (gX J h r) (ek J h h1):=by
 unfold zi at H;obtain ⟨s0,H⟩:=sd H;obtain ⟨J,H⟩:=ug H;rw [rZ,Nat.zero_add] at H;split at H
 ·rename_i q;obtain ⟨h1,h2⟩:=zh q;rw [Cu,oc (Cr J h)] at H;unfold wJ at H;obtain ⟨Q,h3,h4⟩:=H;refine .inr ⟨J,Q,h3,h1,h2,fun r h1 hq=>?_⟩;have:=h4 r h1 hq;dsimp only at this;rw [ly,o5] at this;exact this
 ·exact .inl H
section
variable {E:Env} {f0:FuncId} {ag:gQ} {k:List aN} {s:List AV} {cls:List bU} {h:List ae} {R:cw}
theorem AW.GR {ops:Array Oper} {o:Oper} {l:List Oper} {fx:Operand} {args:Array Operand} {ts:Array TypeId} {f:FuncId} {a1 a2 av:List AV} {J:List Nat} {Q:AV→List ae→Prop} (hw:iN ops o s true) (ho:o.op = .call { callee := .value fx,args:=args,argTypes:=ts })
  (hf:aY E.G s fx (.fn (.func f) a1 a2)) (ha:im E.G s args.toList av) (hc:au E f (dM J h) ((a1++av++a2).map (fe J h)) Q) (hn:J.Nodup) (aj:∀ j∈J,j<h.length)
  (H:∀ r h1,Q r h1→AW E f0 ⟨ag,.bq ops l::k,b9 s o.dst (gX J h r)⟩ cls (ek J h h1) R):AW E f0 ⟨ag,.bq ops (o::l)::k,s⟩ cls h R:=by
 unfold AW at H ⊢;intro c0 c t ts h0 h1 h2 h3 hr bF h4 h5 cs;obtain ⟨i,hi,dA,aO⟩:=lh (h1 _ (List.mem_cons_self ..));obtain ⟨v1,v2,e1,e2,e3⟩:=jO (hf c ⟨t,marks ag.aI⟩ h3 h4);have e4:=ha c ⟨t,marks ag.aI⟩ h3 h4;have e5:=(e2.append e4).append e3;have hb:qc E.P f:=by unfold au at hc; exact hc.1
 obtain ⟨e,w',fr,⟨c',r,hp,v,rfl,rfl,hQ,zk,hv,cG,bc⟩,BI,BJ,BK⟩:=hc.at (c:=c) hn aj h2 h3 e5 ((bf ag).atR ⟨t,marks ag.aI⟩ (.inRegion ops (i::(List.range ops.size).drop (ops.size - l.length))::k.map aN.bB)::(eG cls ts++cs));have mZ:VS c' (b9 s o.dst (gX J h r)) ((⟨t,marks ag.aI⟩:Act).put o.dst v).tmps:=VS.b9 (a:=⟨t,marks ag.aI⟩) (bc.vs h4) o.dst hv;obtain ⟨c2,rL,r2,u2,q1,q2,q3,vV,q4,q5,q6⟩:=H r hp hQ c0 c' _ ts h0 (fD aO (dK h1)) zk cG (hr.step bc) (bF.step h3 bc) mZ (bc.cr h5) cs;refine ⟨c2,rL,r2,u2,q1,q2,q3,vV,?_,q5,q6⟩;have cn:=vT (P:=E.P) (w:=c.w) (a:=⟨t,marks ag.aI⟩) ho e1 hb;have gT:(v1.toArray++args.map (⟨t,marks ag.aI⟩:Act).eval++v2.toArray)=(v1++args.toList.map (⟨t,marks ag.aI⟩:Act).eval++v2).toArray:=by
  apply Array.ext';simp
 rw [gT] at cn;have s1:=BH (P:=E.P) (b:=bf ag) (k:=k.map aN.bB) (cs:=eG cls ts++cs) (rest:=(List.range ops.size).drop (ops.size - l.length)) hi (hw c t h4) cn;have s2:=step_leave_returned (c:=(bf ag).atR ⟨t,marks ag.aI⟩ (.inRegion ops (i::(List.range ops.size).drop (ops.size - l.length))::k.map aN.bB)) (cs:=eG cls ts++cs) BK;rw [Frame.finish_atR,hi] at s2;have BL:(⟨ag,.bq ops (o::l)::k,s⟩:bU).bB t=(bf ag).atR ⟨t,marks ag.aI⟩ (.inRegion ops (i::(List.range ops.size).drop (ops.size - l.length))::k.map aN.bB):=by
  simp only [bU.bB,List.map_cons,dA]
 rw [BL];refine .head s1 (Steps.trans BI (.head s2 ?_));have aF:(bf ag).atR ((⟨t,marks ag.aI⟩:Act).put ((some o).bind (·.dst)) v) (.inRegion ops ((List.range ops.size).drop (ops.size - l.length))::k.map aN.bB)=(⟨ag,.bq ops l::k,b9 s o.dst (gX J h r)⟩:bU).bB ((⟨t,marks ag.aI⟩:Act).put o.dst v).tmps:=by
  simp only [bU.bB,List.map_cons,aN.bB,Option.bind_some];rw [put_defers]
 rw [aF];exact q4
end
end Go.aw
end
section
namespace Go.aw
open Go Go.RowKit
@[irreducible] def lA (b : Bool) (A B : Prop) : Prop := (b = true → A) ∧ (b = false → B)
theorem ai {b:Bool} {A B:Prop} (h1:b=true→A) (h2:b=false→B):lA b A B:=by unfold lA; exact ⟨h1,h2⟩
theorem aV {A B:Prop} (h:A):lA true A B:=ai (fun _=>h) (fun h=>by cases h)
theorem aQ {A B:Prop} (h:B):lA false A B:=ai (fun h=>by cases h) (fun _=>h)
theorem bh {b:Bool} {A B:Prop} (hb:b=true) (h:A):lA b A B:=by subst hb; exact aV h
theorem aZ {b:Bool} {A B:Prop} (hb:b=false) (h:B):lA b A B:=by subst hb; exact aQ h
theorem Cy {b:Bool} {A B C:Prop} (h:lA b A B) (h1:b=true→A→C) (h2:b=false→B→C):C:=by
 unfold lA at h;cases hb:b
 ·exact h2 hb (h.2 hb)
 ·exact h1 hb (h.1 hb)
@[irreducible] def o7 (E : Env) (f : FuncId) (ds : List DV) (h : List ae) (K : AV → List ae → Prop) : Prop :=
 (∃ R1,aq E f ds R1∧∀ r,R1 r→K (.d r) h)∨∃ Q,au E f [] (ds.map .d) Q∧∀ r h1,Q r h1→K (gX [] h r) (ek [] h h1)
theorem wL {E:Env} {f:FuncId} {ds:List DV} {h:List ae} {K:AV→List ae→Prop} {R1:DV→Prop} (hc:aq E f ds R1) (hk:∀ r,R1 r→K (.d r) h):o7 E f ds h K:=by unfold o7; exact .inl ⟨R1,hc,hk⟩
theorem ao {E:Env} {f:FuncId} {ds:List DV} {h:List ae} {K:AV→List ae→Prop} {r:DV} (hc:aq E f ds (· = r)) (hk:K (.d r) h):o7 E f ds h K:=wL hc fun _ e=>e ▸ hk
theorem GS {E:Env} {f:FuncId} {ds:List DV} {h:List ae} {K:AV→List ae→Prop} {Q:AV→List ae→Prop} (hc:au E f [] (ds.map .d) Q) (hk:∀ r h1,Q r h1→eN [] h r fun v=>iy [] h h1 fun h'=>K v h'):o7 E f ds h K:=by
 unfold o7;refine .inr ⟨Q,hc,fun r h1 hq=>?_⟩;have:=hk r h1 hq;rw [ly,o5] at this;exact this
theorem wM {E:Env} {f:FuncId} {ds:List DV} {h:List ae} {K:AV→List ae→Prop} {r:AV} {h1:List ae} {args:List AV} (hc:au E f [] args (fun a b=>a=r∧b=h1)) (ha:args=ds.map .d) (hk:eN [] h r fun v=>iy [] h h1 fun h'=>K v h'):o7 E f ds h K :=
 GS (ha ▸ hc) fun _ _ ⟨e1,e2⟩=>by subst e1; subst e2; exact hk
def iS (d:Nat):List Nat→Bool
 | []=>false
 |a::l=>match Nat.beq a d with
  |true=>true
  |false=>iS d l
def wN (G:List (Nat × DV)) (s:List AV) (o:Oper) (stop:Prop) (k:FuncId→List AV→Prop):Prop :=
 match o.op with
 | .call { callee := .value fx,args:=args,.. }=>bW G s fx stop fun
  | .fn (.func f) a1 a2=>ru G s args.toList stop fun av=>qu a1 av fun a3=>qu a3 a2 fun a4=>k f a4
  | .d (.fn (.func f))=>ru G s args.toList stop fun av=>k f av
  |_=>stop
 |_=>stop
def Cz (inl:List FuncId) (E:Env) (s:List AV) (h:List ae) (o:Oper) (stop:Prop) (k:AV→List ae→Prop):Prop :=
 wN E.G s o stop fun f gd=>match iS f inl with
  |true=>stop
  |false=>oK gd (zi E f gd h stop k) fun ds=>o7 E f ds h k
theorem GU {G:List (Nat × DV)} {s:List AV} {o:Oper} {stop:Prop} {k:FuncId→List AV→Prop} (H:wN G s o stop k):stop∨∃ (fx:Operand) (args:Array Operand) (ts:Array TypeId) (f:FuncId) (a1 av a2:List AV),
  o.op = .call { callee := .value fx,args:=args,argTypes:=ts }∧aY G s fx (.fn (.func f) a1 a2)∧im G s args.toList av∧k f (a1++av++a2):=by
 unfold wN at H;split at H
 ·rename_i fx args ts ca;rcases b8 H with H | ⟨v,hv,H⟩
  ·exact .inl H
  split at H
  ·rename_i f a1 a2;rcases vK H with H | ⟨av,mv,H⟩
   ·exact .inl H
   rw [ub,ub] at H;exact .inr ⟨fx,args,ts,f,a1,av,a2,ca,hv,mv,H⟩
  ·rename_i f;rcases vK H with H | ⟨av,mv,H⟩
   ·exact .inl H
   refine .inr ⟨fx,args,ts,f,[],av,[],ca,fun c a h1 h2=>?_,mv,by simpa using H⟩;have:=hv c a h1 h2;generalize a.eval fx=u at this;cases this with
   |d _ _ hx =>
    cases hx;exact .fn _ _ _ _ _ rfl rfl (fun j x v hx=>by simp at hx) (fun j x v hx=>by simp at hx)
  ·exact .inl H
 ·exact .inl H
def zm (ops:Array Oper) (g:Option (Nat × Bool)) (no stop:Prop) (k:Nat→Bool→Prop):Prop :=
 match g with
 |none=>no
 |some (j,b)=>aM ops.toList j stop fun o=>match o.dst with
  |some d=>k d b
  |none=>stop
def GV:Bool→Bool→Bool
 |true,true=>true
 |false,false=>true
 |_,_=>false
def wO (id:Nat):List aN→(stop:Prop)→(List aN→Prop)→Prop
 | .inBlock i::r,stop,k=>match Nat.beq i id with
  |true=>k r
  |false=>wO id r stop k
 |_::r,stop,k=>wO id r stop k
 | [],stop,_=>stop
theorem se {id:Nat} {stop:Prop} {k:List aN→Prop}:∀ {l:List aN},wO id l stop k→stop∨∃ r,lg id l=some r∧k r
 | [],H => .inl H
 | .inBlock i::l,H=>by
  simp only [wO] at H;split at H
  ·rename_i q; exact .inr ⟨l,by simp only [lg,q],H⟩
  ·rename_i q;rcases se H with h | ⟨r,hr,h⟩
   ·exact .inl h
   ·exact .inr ⟨r,by simp only [lg,q]; exact hr,h⟩
 | .code c::l,H=>se (l:=l) H
 | .inLoop c::l,H=>se (l:=l) H
 | .nT c::l,H=>se (l:=l) H
 | .oQ::l,H=>se (l:=l) H
 | .bq ops q::l,H=>se (l:=l) H
@[irreducible] def I (E : Env) (ag : FuncId) (R : cw) (Ob : List Nat) (td : List aN) (s : List AV) (h : List ae) : Prop := AW E R.fx.f0 ⟨⟨ag, R.fx.cz, R.fx.aI⟩, td, s⟩ R.fx.cls h R
theorem I.of {E:Env} {ag:FuncId} {R:cw} {lits:List Nat} {td:List aN} {s:List AV} {h:List ae} (H:AW E R.fx.f0 ⟨⟨ag,R.fx.cz,R.fx.aI⟩,td,s⟩ R.fx.cls h R):I E ag R lits td s h:=by unfold I; exact H
theorem I.to {E:Env} {ag:FuncId} {R:cw} {lits:List Nat} {td:List aN} {s:List AV} {h:List ae} (H:I E ag R lits td s h):AW E R.fx.f0 ⟨⟨ag,R.fx.cz,R.fx.aI⟩,td,s⟩ R.fx.cls h R:=by unfold I at H; exact H
def wP (ag:FuncId) (x:FX):Bool:=match x.cz,x.aI,x.cls with
 |none,[],[]=>Nat.beq x.f0 ag
 |_,_,_=>false
theorem Oc {ag:FuncId} {x:FX} (h:wP ag x=true):x.cz=none∧x.aI=[]∧x.cls=[]∧x.f0=ag:=by
 unfold wP at h;split at h
 ·rename_i a b c; exact ⟨a,b,c,Nat.eq_of_beq_eq_true h⟩
 ·cases h
def runK (E:Env) (ag:FuncId) (rs:List ResultVar) (R:cw):Nat→List Nat→List aN→List AV→List ae→Prop
 | 0,lits,td,s,h=>I E ag R lits td s h
 |n+1,lits,td,s,h =>
  match td with
  | []=>match wP ag R.fx with
   |true=>ml E.T s h rs (I E ag R lits td s h) R.Q
   |false=>I E ag R lits td s h
  | .inBlock _::r=>runK E ag rs R n lits r s h
  | .inLoop _::_=>I E ag R lits td s h
  | .nT _::_=>I E ag R lits td s h
  | .oQ::_=>I E ag R lits td s h
  | .code c::r=>match c with
   | .skip=>runK E ag rs R n lits r s h
   | .seq a b=>runK E ag rs R n lits (.code a :: .code b::r) s h
   | .block id b=>runK E ag rs R n lits (.code b :: .inBlock id::r) s h
   | .exit id=>wO id r (I E ag R lits td s h) fun r'=>runK E ag rs R n lits r' s h
   | .region _ ops false=>runK E ag rs R n lits (.bq ops ops.toList::r) s h
   | .ret=>match wP ag R.fx with
    |true=>ml E.T s h rs (I E ag R lits td s h) R.Q
    |false=>I E ag R lits td s h
   | .cond x a b=>bW E.G s x (I E ag R lits td s h) fun
    | .d (.bool t)=>lA t (I E ag R lits (.code a::r) s h) (I E ag R lits (.code b::r) s h)
    |_=>I E ag R lits td s h
   |_=>I E ag R lits td s h
  | .bq _ []::r=>runK E ag rs R n lits r s h
  | .bq ops (o::l)::r =>
   let go:Prop:=kr E.T E.G o.op s h (wj E o.op s h (n4 E o.op s h (Cz R.fx.inl E s h o (I E ag R lits td s h) fun v h'=>cb s o.dst v fun s'=>I E ag R lits (.bq ops l::r) s' h')
     fun v h'=>cb s o.dst v fun s'=>I E ag R lits (.bq ops l::r) s' h')
     fun v h'=>cb s o.dst v fun s'=>runK E ag rs R n lits (.bq ops l::r) s' h')
    fun v h'=>cb s o.dst v fun s'=>runK E ag rs R n lits (.bq ops l::r) s' h'
   zm ops o.guard go (I E ag R lits td s h) fun d b=>aM s d (I E ag R lits td s h) fun
    | .d (.bool t)=>match iS d lits with
     |false=>lA t (fy s d (.d (.bool true)) fun s'=>I E ag R (d::lits) td s' h) (fy s d (.d (.bool false)) fun s'=>I E ag R (d::lits) td s' h)
     |true=>match GV t b with
      |true=>go
      |false=>cb s o.dst (.d .undef) fun s'=>runK E ag rs R n lits (.bq ops l::r) s' h
    | .d .undef=>cb s o.dst (.d .undef) fun s'=>runK E ag rs R n lits (.bq ops l::r) s' h
    |_=>I E ag R lits td s h
section
variable {E:Env} {ag:FuncId} {R:cw}
theorem wQ {β:Type}:∀ {l:List β} {d:Nat} {x:β},l[d]? = some x→l.set d x=l
 | [],_,_,h=>by simp at h
 |a::l,0,x,h=>by simp at h; subst h; rfl
 |a::l,d+1,x,h=>by simp only [List.set_cons_succ]; rw [wQ (by simpa using h)]
theorem CA (hE:E.OK) {fn:Func} (hf:E.P.funcs[ag]? = some fn):∀ (n:Nat) (lits:List Nat) (td:List aN) (s:List AV) (h:List ae),
  runK E ag fn.results.toList R n lits td s h→AW E R.fx.f0 ⟨⟨ag,R.fx.cz,R.fx.aI⟩,td,s⟩ R.fx.cls h R:=by
 have ret:∀ (lits:List Nat) (td:List aN) (s:List AV) (h:List ae),(td=[]∨∃ r,td = .code .ret::r)→(match wP ag R.fx with | true=>ml E.T s h fn.results.toList (I E ag R lits td s h) R.Q | false=>I E ag R lits td s h)→AW E R.fx.f0 ⟨⟨ag,R.fx.cz,R.fx.aI⟩,td,s⟩ R.fx.cls h R:=by
  intro lits td s h na H;split at H
  ·rename_i q;by_cases hA:I E ag R lits td s h
   ·exact hA.to
   ·rw [eq_false hA] at H;obtain ⟨q1,q2,q3,q4⟩:=Oc q;rw [q1,q2,q3,q4];rcases na with rfl | ⟨r,rfl⟩
    ·exact .MU hE hf H
    ·exact .ret hE hf H
  ·exact H.to
 intro n
 induction n with
 |zero=>intro lits td s h H; exact I.to H
 |succ n ih =>
  intro lits td s h H;unfold runK at H;split at H
  ·exact ret _ _ s h (.inl rfl) H
  ·exact .inBlock (ih _ _ _ _ H)
  ·exact I.to H
  ·exact I.to H
  ·exact I.to H
  ·rename_i c r;split at H
   ·exact .skip (ih _ _ _ _ H)
   ·exact .seq (ih _ _ _ _ H)
   ·exact .block (ih _ _ _ _ H)
   ·rcases se H with h' | ⟨r',hr,H⟩
    ·exact h'.to
    ·exact .exit hr (ih _ _ _ _ H)
   ·exact .region (ih _ _ _ _ H)
   ·exact ret _ _ s h (.inr ⟨_,rfl⟩) H
   ·rcases b8 H with h' | ⟨v,hv,H⟩
    ·exact h'.to
    split at H
    ·rename_i t;refine Cy H (fun e H2=>?_) (fun e H2=>?_)
     ·subst e; exact .cond hv (by simpa using H2.to)
     ·subst e; exact .cond hv (by simpa using H2.to)
    ·exact I.to H
   ·exact I.to H
  ·exact .ML (ih _ _ _ _ H)
  ·rename_i ops o l r
   have go : iN ops o s true → (kr E.T E.G o.op s h (wj E o.op s h (n4 E o.op s h (Cz R.fx.inl E s h o (I E ag R lits (.bq ops (o :: l) :: r) s h) fun v h' => cb s o.dst v fun s' => I E ag R lits (.bq ops l :: r) s' h')
         fun v h' => cb s o.dst v fun s' => I E ag R lits (.bq ops l :: r) s' h')
         fun v h' => cb s o.dst v fun s' => runK E ag fn.results.toList R n lits (.bq ops l :: r) s' h')
     fun v h'=>cb s o.dst v fun s'=>runK E ag fn.results.toList R n lits (.bq ops l::r) s' h')→AW E R.fx.f0 ⟨⟨ag,R.fx.cz,R.fx.aI⟩,.bq ops (o::l)::r,s⟩ R.fx.cls h R:=by
    intro hw H;rcases BA hE H with H | ⟨v,h',H,ho⟩
    ·rcases Gk hE H with H | ⟨v,h',H,ho⟩
     case inr =>
      rw [dR] at H;exact .op hw ho (ih _ _ _ _ H)
     rcases Cb hE H with H | ⟨v,h',H,ho⟩
     case inr =>
      rw [dR] at H;exact .op hw ho H.to
     unfold Cz at H;rcases GU H with H | ⟨fx,args,ts,f,a1,av,a2,ca,hv,mv,H⟩
     ·exact I.to H
     split at H
     ·exact I.to H
     rcases vE (a1++av++a2) (zi E f (a1++av++a2) h (I E ag R lits (.bq ops (o::l)::r) s h) fun v h'=>cb s o.dst v fun s'=>I E ag R lits (.bq ops l::r) s' h') (fun ds=>o7 E f ds h fun v h'=>cb s o.dst v fun s'=>I E ag R lits (.bq ops l::r) s' h') with ⟨ds,e1,e2⟩ | e2
     ·rw [e2] at H;unfold o7 at H;rcases H with ⟨R1,hc,hk⟩ | ⟨Q,hc,hk⟩
      ·refine .call hw ca hv mv e1 hc fun u hu=>?_;have:=hk u hu;simp only [dR] at this;exact this.to
      ·refine .GR (J:=[]) hw ca hv mv (Q:=Q) ?_ List.nodup_nil (fun j hj=>by simp at hj) fun u h1 hu=>?_
       ·have e3:(a1++av++a2).map (fe [] h)=ds.map .d:=by rw [e1,List.map_map]; rfl
        rw [e3];exact hc
       ·have:=hk u h1 hu;simp only [dR] at this;exact this.to
     ·rw [e2] at H;rcases Oa H with H | ⟨J,Q,hc,hn,aj,hk⟩
      ·exact I.to H
      refine .GR hw ca hv mv hc hn aj fun u h1 hu=>?_;have:=hk u h1 hu;simp only [dR] at this;exact this.to
    ·rw [dR] at H;exact .op hw ho (ih _ _ _ _ H)
   dsimp only at H;unfold zm at H;split at H
   ·rename_i hg;exact go (fZ hg) H
   ·rename_i j b hg;rcases a7 H with H | ⟨oj,uh,H⟩
    ·exact I.to H
    split at H
    ·rename_i d hd;rcases a7 H with H | ⟨x,hx,H⟩
     ·exact I.to H
     split at H
     ·rename_i t;split at H
      ·refine Cy H (fun e H2=>?_) (fun e H2=>?_)
       ·subst e;rw [fY,wQ hx] at H2;exact I.to H2
       ·subst e;rw [fY,wQ hx] at H2;exact I.to H2
      ·have hw:=BF hg uh hd hx;split at H
       ·rename_i q;have:(t==b)=true:=by cases t <;> cases b <;> first | rfl | cases q
        rw [this] at hw;exact go hw H
       ·rename_i q;have:(t==b)=false:=by cases t <;> cases b <;> first | rfl | cases q
        rw [this] at hw;rw [dR] at H;exact .FP hw (ih _ _ _ _ H)
     ·rw [dR] at H;exact .FP (FO hg uh hd hx) (ih _ _ _ _ H)
     ·exact I.to H
    ·exact I.to H
theorem I.run (hE:E.OK) {fn:Func} (hf:E.P.funcs[ag]? = some fn) (n:Nat) {lits:List Nat} {td:List aN} {s:List AV} {h:List ae} (H:runK E ag fn.results.toList R n lits td s h):I E ag R lits td s h := .of (CA hE hf n lits td s h H)
theorem aq.run (hE : E.OK) {fn : Func} (hf : E.P.funcs[ag]? = some fn) {body : Code} (hb : fn.body = some body) (hn : (fn.name == "runtime.NumGoroutine") = false) (n : Nat) {args : List DV} {R : DV → Prop}
  (H:mU .d args fun a=>runK E ag fn.results.toList ⟨0,tL R,[],⟨ag,none,[],[],[],[]⟩⟩ n [] [.code body] (mi a fn.ntmps) []):aq E ag args R:=by
 rw [rq] at H;exact .MT (.FQ hf hb hn (fun i g ts l h=>by simp at h) (CA hE hf n _ _ _ _ H))
def o8:List ae→Bool
 | []=>true
 | .arr g _ _::l=>match Nat.beq g 0 with
  |true=>o8 l
  |false=>false
 |_::l=>o8 l
theorem lB:∀ {h:List ae},o8 h=true→tG h
 | [],_=>fun i g ts l h=>by simp at h
 |b::r,H=>by
  have hr:o8 r=true:=by
   unfold o8 at H;split at H
   ·rename_i e; cases e
   ·rename_i e; cases e; split at H
    ·exact H
    ·cases H
   ·rename_i e; cases e; exact H
  intro i g ts l h;cases i with
  |zero =>
   simp at h;subst h;simp only [o8] at H;split at H
   ·rename_i q; exact Nat.eq_of_beq_eq_true q
   ·cases H
  |succ i=>exact lB hr i g ts l (by simpa using h)
theorem au.run (hE : E.OK) {fn : Func} (hf : E.P.funcs[ag]? = some fn) {body : Code} (hb : fn.body = some body) (hn : (fn.name == "runtime.NumGoroutine") = false) (n : Nat) {h : List ae} (mj : o8 h = true) {args : List AV} {Q : AV → List ae → Prop}
  (H:runK E ag fn.results.toList ⟨h.length,Q,[],⟨ag,none,[],[],[],[]⟩⟩ n [] [.code body] (mi args fn.ntmps) h):au E ag h args Q :=
 .FQ hf hb hn (lB mj) (CA hE hf n _ _ _ _ H)
end
end Go.aw
end
section
namespace Go.aw
open Go Go.RowKit
def ui (h h':List ae) (x y:AV) (K:Prop):Prop :=
 match y with
 | .any=>K
 | .d b=>match x with
  | .d a=>a=b∧K
  |_=>False
 | .own b' g'=>match x with
  | .own b g=>match Nat.beq b b' with
   |true=>aM h b False fun
    | .arr g0 _ _=>aM h' b False fun
     | .arr g1 _ _=>match Nat.beq g g0,Nat.beq g' g1 with
      |true,true=>K
      |_,_=>False
     |_=>False
    |_=>False
   |false=>False
  |_=>False
 | .ptr b' CB=>match x with
  | .ptr b off=>match Nat.beq b b',Nat.beq off CB with
   |true,true=>aM h b False fun
    | .cells _=>aM h' b False fun
     | .cells _=>K
     |_=>False
    |_=>False
   |_,_=>False
  |_=>False
 | .bE e' CB=>match x with
  | .bE e off=>match Nat.beq off CB with
   |true=>e=e'∧K
   |false=>False
  |_=>False
 | .map b'=>match x with
  | .map b=>match Nat.beq b b' with
   |true=>aM h b False fun
    | .map _=>aM h' b False fun
     | .map _=>K
     |_=>False
    |_=>False
   |false=>False
  |_=>False
 | .cut b' g' k' q'=>match x with
  | .cut b g k q=>match Nat.beq b b' with
   |true=>aM h b False fun
    | .arr g0 _ _=>aM h' b False fun
     | .arr g1 _ _=>match Nat.beq g g0,Nat.beq g' g1 with
      |true,true=>k=k'∧q=q'∧K
      |_,_=>False
     |_=>False
    |_=>False
   |false=>False
  |_=>False
 |_=>False
def qz (h h':List ae):List AV→List AV→Prop→Prop
 | [],[],K=>K
 |x::l,y::l',K=>ui h h' x y (qz h h' l l' K)
 |_,_,_=>False
def wR (h h':List ae) (x y:AV) (K:Prop):Prop :=
 match y with
 | .agg l'=>match x with
  | .agg l=>qz h h' l l' K
  |_=>False
 | .aD l'=>match x with
  | .aD l=>qz h h' l l' K
  |_=>False
 | .fn f' a' b'=>match x with
  | .fn f a b=>f=f'∧qz h h' a a' (qz h h' b b' K)
  |_=>False
 |y=>ui h h' x y K
def sf (h h':List ae):List AV→List AV→Prop→Prop
 | [],[],K=>K
 |x::l,y::l',K=>wR h h' x y (sf h h' l l' K)
 |_,_,_=>False
def GW (g g':Nat):Bool:=match Nat.beq g' 0 with
 |true=>Nat.beq g 0
 |false=>true
theorem Od {g g':Nat} (h:GW g g'=true):g'=0→g=0:=fun e=>by
 subst e;exact Nat.eq_of_beq_eq_true h
def zn (h h':List ae) (x y:ae) (K:Prop):Prop :=
 match y with
 | .gone=>K
 | .cells l'=>match x with
  | .cells l=>sf h h' l l' K
  |_=>False
 | .arr g' dJ l'=>match x with
  | .arr g ts l=>match GW g g' with
   |true=>ts=dJ∧l=l'∧K
   |false=>False
  |_=>False
 | .map db=>match x with
  | .map es=>es=db∧K
  |_=>False
 | .hole=>False
def qA (h h':List ae):List ae→List ae→Prop→Prop
 |_,[],K=>K
 |x::l,y::l',K=>zn h h' x y (qA h h' l l' K)
 |_,_,_=>False
def zo (own:Nat→Option (Nat × Nat)) (h':List ae) (i:Nat):Option (Nat × Nat):=match h'[i]? with
 |none=>none
 |some .gone=>none
 |some _=>own i
def Cx.cut (c:Cx) (h':List ae):Cx:={ c with own:=zo c.own h',heap:=h' }
def GX (x y:ae):Prop:=match y with
 | .gone=>True
 | .cells l'=>∃ l,x = .cells l∧l.length=l'.length
 | .arr g' dJ l'=>∃ g,x = .arr g dJ l'∧(g'=0→g=0)
 | .map db=>x = .map db
 | .hole=>False
def HSub (h h':List ae):Prop:=∀ (i:Nat) (y:ae),h'[i]? = some y→∃ x,h[i]? = some x∧GX x y
theorem jT {c:Cx} {h':List ae} {i:Nat} {y:ae} (hy:h'[i]? = some y) (hg:y ≠ .gone):(c.cut h').own i=c.own i:=by
 simp only [Cx.cut,zo,hy]
theorem o9 {c:Cx} {h':List ae} {i:Nat} {p:Nat × Nat} (hi:(c.cut h').own i=some p):c.own i=some p∧∃ y,h'[i]? = some y∧y ≠ .gone:=by
 simp only [Cx.cut,zo] at hi;split at hi
 ·cases hi
 ·cases hi
 ·rename_i y aJ hy; exact ⟨hi,y,hy,fun e=>aJ (by rw [← e])⟩
theorem od {c:Cx} {h':List ae} {x:DV} {v:Value} (hv:VD c.bad c.w x v):VD (c.cut h').bad (c.cut h').w x v :=
 hv.mono fun _ _ hn=>⟨fun hb=>hn (hb.elim .inl fun ⟨i,n,hi⟩ => .inr ⟨i,n,(o9 hi).1⟩),rfl⟩
theorem GY {h h':List ae} {x y:AV} {K:Prop} (H:ui h h' x y K) (hs:HSub h h'):K∧∀ (c:Cx) (v:Value),c.heap=h→VR c x v→VR (c.cut h') y v:=by
 unfold ui at H;split at H
 ·exact ⟨H,fun c v _ _ => .any v⟩
 ·split at H
  ·obtain ⟨rfl,H⟩:=H;exact ⟨H,fun c v _ hv=>by cases hv with | d _ _ hv=>exact .d _ _ (od hv)⟩
  ·exact H.elim
 ·rename_i b' g';split at H
  ·rename_i b g;split at H
   ·rename_i q;have:=Nat.eq_of_beq_eq_true q;subst this;rcases a7 H with H1 | ⟨bx,hb,H1⟩
    ·exact H1.elim
    clear H;split at H1
    ·rename_i g0 ts l;rcases a7 H1 with H2 | ⟨CC,bZ,H2⟩
     ·exact H2.elim
     clear H1;split at H2
     ·rename_i g1 dJ l';split at H2
      ·rename_i q1 q2;have q1:=Nat.eq_of_beq_eq_true q1;have q2:=Nat.eq_of_beq_eq_true q2;subst q1; subst q2;refine ⟨H2,fun c v hc hv=>?_⟩;obtain ⟨x0,k1,gx,k2,-⟩:=hs b _ bZ;rw [hb] at k1;cases k1;cases k2;subst hc;have ho:=jT (c:=c) bZ (by simp);rcases ln hb hv with ⟨blk,cap,r1,rfl⟩ | ⟨rfl,rfl,r1⟩
       ·exact .own b _ _ _ blk cap bZ (ho.trans r1)
       ·exact .gy b _ _ bZ (ho.trans r1)
      ·exact H2.elim
     ·exact H2.elim
    ·exact H1.elim
   ·exact H.elim
  ·exact H.elim
 ·split at H
  ·split at H
   ·rename_i q1 q2;have q1:=Nat.eq_of_beq_eq_true q1;have q2:=Nat.eq_of_beq_eq_true q2;subst q1; subst q2;rcases a7 H with H | ⟨bx,hb,H⟩
    ·exact H.elim
    split at H
    ·rcases a7 H with H | ⟨CC,bZ,H⟩
     ·exact H.elim
     split at H
     ·refine ⟨H,fun c v hc hv=>?_⟩;subst hc;have ho:=jT (c:=c) bZ (by simp);cases hv with
      |ptr _ _ cs blk cap k1 k2=>exact .ptr _ _ _ blk cap bZ (ho.trans k2)
      |ik _ _ _ k1 _=>rw [hb] at k1; cases k1
     ·exact H.elim
    ·exact H.elim
   ·exact H.elim
  ·exact H.elim
 ·split at H
  ·split at H
   ·rename_i q;have:=Nat.eq_of_beq_eq_true q;subst this;obtain ⟨rfl,H⟩:=H;refine ⟨H,fun c v hc hv=>?_⟩;cases hv with
    |bE _ _ blk o f k1 k2 k3 k4=>exact .bE _ _ blk o f (fun hb=>k1 (hb.elim .inl fun ⟨i,n,hi⟩ => .inr ⟨i,n,(o9 hi).1⟩)) k2 k3 (fun j x hx=>od (k4 j x hx))
   ·exact H.elim
  ·exact H.elim
 ·split at H
  ·split at H
   ·rename_i q1;have q1:=Nat.eq_of_beq_eq_true q1;subst q1;rcases a7 H with H | ⟨bx,hb,H⟩
    ·exact H.elim
    split at H
    ·rcases a7 H with H | ⟨CC,bZ,H⟩
     ·exact H.elim
     split at H
     ·refine ⟨H,fun c v hc hv=>?_⟩;subst hc;have ho:=jT (c:=c) bZ (by simp);cases hv with
      |map _ es blk cap k1 k2=>exact .map _ _ blk cap bZ (ho.trans k2)
      |l8 _ _ k1 _=>rw [hb] at k1; cases k1
     ·exact H.elim
    ·exact H.elim
   ·exact H.elim
  ·exact H.elim
 ·rename_i b' g' k' q';split at H
  ·rename_i b g k qq;split at H
   ·rename_i q;have:=Nat.eq_of_beq_eq_true q;subst this;rcases a7 H with H1 | ⟨bx,hb,H1⟩
    ·exact H1.elim
    clear H;split at H1
    ·rename_i g0 ts l;rcases a7 H1 with H2 | ⟨CC,bZ,H2⟩
     ·exact H2.elim
     clear H1;split at H2
     ·rename_i g1 dJ l';split at H2
      ·rename_i q1 q2;have q1:=Nat.eq_of_beq_eq_true q1;have q2:=Nat.eq_of_beq_eq_true q2;subst q1; subst q2;obtain ⟨rfl,rfl,H2⟩:=H2;refine ⟨H2,fun c v hc hv=>?_⟩;obtain ⟨x0,k1,gx,k2,-⟩:=hs b _ bZ;rw [hb] at k1;cases k1;cases k2;subst hc;have ho:=jT (c:=c) bZ (by simp);cases hv with
       |cut _ _ _ _ _ l2 blk cap o r1 r2 r3 r4 r5=>rw [hb] at r1; cases r1; exact .cut b _ k _ _ _ blk cap o bZ (ho.trans r2) r3 r4 r5
       |l6 _ _ g2 _ _ _ _ _ r1 r2 _=>rw [hb] at r1; cases r1; omega
       |l7 _ _ _ _ _ r1 _=>rw [hb] at r1; cases r1
      ·exact H2.elim
     ·exact H2.elim
    ·exact H1.elim
   ·exact H.elim
  ·exact H.elim
 ·exact H.elim
theorem wS {h h':List ae} {K:Prop} (hs:HSub h h'):∀ {l l':List AV},qz h h' l l' K→K∧l.length=l'.length∧∀ (c:Cx) (vs:List Value),c.heap=h→VL c l vs→VL (c.cut h') l' vs
 | [],[],H=>⟨H,rfl,fun c vs _ hv=>⟨hv.1,fun j x v hx=>by simp at hx⟩⟩
 |x::l,y::l',H=>by
  simp only [qz] at H;obtain ⟨H,h1⟩:=GY H hs;obtain ⟨H,h2,h3⟩:=wS hs H;refine ⟨H,by simp [h2],fun c vs hc hv=>?_⟩;cases vs with
  |nil=>have:=hv.1; simp at this
  |cons v vs=>exact .cons (h1 c v hc hv.head.1) (h3 c vs hc hv.head.2)
 | [],_::_,H=>H.elim
 |_::_,[],H=>H.elim
theorem Oe {h h':List ae} {x y:AV} {K:Prop} (H:wR h h' x y K) (hs:HSub h h'):K∧∀ (c:Cx) (v:Value),c.heap=h→VR c x v→VR (c.cut h') y v:=by
 unfold wR at H;split at H
 ·split at H
  ·obtain ⟨H,-,h1⟩:=wS hs H;refine ⟨H,fun c v hc hv=>?_⟩;obtain ⟨vs,rfl,gC⟩:=nR hv;exact tx (h1 c vs hc gC)
  ·exact H.elim
 ·split at H
  ·obtain ⟨H,-,h1⟩:=wS hs H;refine ⟨H,fun c v hc hv=>?_⟩;cases hv with
   |aD _ vs hl bK =>
    have:=h1 c vs.toList hc ⟨by simpa using hl,fun j x v hx hv=>bK j x v hx (by simpa using hv)⟩;exact .aD _ vs (by simpa using this.1) (fun j x v hx hv=>this.2 j x v hx (by simpa using hv))
  ·exact H.elim
 ·split at H
  ·obtain ⟨rfl,H⟩:=H;obtain ⟨H,-,h1⟩:=wS hs H;obtain ⟨H,-,h2⟩:=wS hs H;refine ⟨H,fun c v hc hv=>?_⟩;obtain ⟨v1,v2,rfl,r1,r2⟩:=jO hv;have r1:=h1 c v1 hc r1;have r2:=h2 c v2 hc r2;exact .fn _ _ _ _ _ (by simpa using r1.1) (by simpa using r2.1) (fun j x v hx hv=>r1.2 j x v hx (by simpa using hv)) (fun j x v hx hv=>r2.2 j x v hx (by simpa using hv))
  ·exact H.elim
 ·exact GY H hs
theorem CD {h h':List ae} {K:Prop} (hs:HSub h h'):∀ {l l':List AV},sf h h' l l' K→K∧∀ (c:Cx) (vs:List Value),c.heap=h→VL c l vs→VL (c.cut h') l' vs
 | [],[],H=>⟨H,fun c vs _ hv=>⟨hv.1,fun j x v hx=>by simp at hx⟩⟩
 |x::l,y::l',H=>by
  simp only [sf] at H;obtain ⟨H,h1⟩:=Oe H hs;obtain ⟨H,h3⟩:=CD hs H;refine ⟨H,fun c vs hc hv=>?_⟩;cases vs with
  |nil=>have:=hv.1; simp at this
  |cons v vs=>exact .cons (h1 c v hc hv.head.1) (h3 c vs hc hv.head.2)
 | [],_::_,H=>H.elim
 |_::_,[],H=>H.elim
theorem GZ {h h':List ae} {x y:AV} {Q:Prop} (H:ui h h' x y Q):Q:=by
 unfold ui at H;repeat' split at H
 all_goals first
  |exact H
  |exact H.elim
  |exact H.2
  |(rcases a7 H with H | ⟨_, _, H⟩
    · exact H.elim
    split at H
    · rcases a7 H with H | ⟨_, _, H⟩
      · exact H.elim
      repeat' split at H
      all_goals first | exact H | exact H.elim | exact H.2.2 | exact H.2
    all_goals exact H.elim)
theorem zp {h h':List ae} {K:Prop}:∀ {l l':List AV},qz h h' l l' K→K
 | [],[],H=>H
 |_::_,_::_,H=>zp (GZ H)
 | [],_::_,H=>H.elim
 |_::_,[],H=>H.elim
theorem CE {h h':List ae} {K:Prop}:∀ {l l':List AV},sf h h' l l' K→l.length=l'.length∧K
 | [],[],H=>⟨rfl,H⟩
 |x::l,y::l',H=>by
  have hK:∀ {Q:Prop},wR h h' x y Q→Q:=fun {Q} H=>by
   unfold wR at H;repeat' split at H
   all_goals first
    |exact H.elim
    |exact zp H
    |exact zp (zp H.2)
    |exact GZ H
  simp only [sf] at H;obtain ⟨h1,h2⟩:=CE (hK H);exact ⟨by simp [h1],h2⟩
 | [],_::_,H=>H.elim
 |_::_,[],H=>H.elim
theorem G0 {h h':List ae} {K:Prop}:∀ {l l':List ae},qA h h' l l' K→HSub l l'∧K
 | [],[],H=>⟨fun i y hy=>by simp at hy,H⟩
 |_::_,[],H=>⟨fun i y hy=>by simp at hy,H⟩
 |x::l,y::l',H=>by
  simp only [qA] at H;have key:GX x y∧qA h h' l l' K:=by
   unfold zn at H;split at H
   ·exact ⟨trivial,H⟩
   ·split at H
    ·obtain ⟨h1,h2⟩:=CE H; exact ⟨⟨_,rfl,h1⟩,h2⟩
    ·exact H.elim
   ·split at H
    ·split at H
     ·rename_i q; obtain ⟨rfl,rfl,H⟩:=H; exact ⟨⟨_,rfl,Od q⟩,H⟩
     ·exact H.elim
    ·exact H.elim
   ·split at H
    ·obtain ⟨rfl,H⟩:=H; exact ⟨rfl,H⟩
    ·exact H.elim
   ·exact H.elim
  obtain ⟨h1,h2⟩:=G0 key.2;refine ⟨fun i z hz=>?_,h2⟩;cases i with
  |zero=>simp at hz; subst hz; exact ⟨x,rfl,key.1⟩
  |succ i=>obtain ⟨w,k1,k2⟩:=h1 i z (by simpa using hz); exact ⟨w,by simpa using k1,k2⟩
 | [],_::_,H=>H.elim
theorem G1 {h h':List ae} {K:Prop} (hs:HSub h h'):∀ {l l':List ae},qA h h' l l' K→∀ (i:Nat) (cs:List AV),l'[i]? = some (.cells cs)→∃ oe,l[i]? = some (.cells oe)∧∀ (c:Cx) (vs:List Value),c.heap=h→VL c oe vs→VL (c.cut h') cs vs
 |_,[],H=>fun i y hy=>by simp at hy
 |x::l,y::l',H=>by
  simp only [qA] at H;intro i cs hi;cases i with
  |zero =>
   simp at hi;subst hi;simp only [zn] at H;split at H
   ·obtain ⟨-,h3⟩:=CD hs H;exact ⟨_,rfl,h3⟩
   ·exact H.elim
  |succ i =>
   have rW:qA h h' l l' K:=by
    unfold zn at H;split at H
    ·exact H
    ·split at H
     ·exact (CE H).2
     ·exact H.elim
    ·split at H
     ·split at H
      ·exact H.2.2
      ·exact H.elim
     ·exact H.elim
    ·split at H
     ·exact H.2
     ·exact H.elim
    ·exact H.elim
   obtain ⟨oe,k1,k2⟩:=G1 hs rW i cs (by simpa using hi);exact ⟨oe,by simpa using k1,k2⟩
 | [],_::_,H=>H.elim
theorem aK.cut {G:List (Nat × DV)} {c:Cx} (ho:aK G c) {h':List ae} (hs:HSub c.heap h') (tD:∀ (i:Nat) (cs:List AV),h'[i]? = some (.cells cs)→∃ oe,c.heap[i]? = some (.cells oe)∧∀ (vs:List Value),VL c oe vs→VL (c.cut h') cs vs):aK G (c.cut h') where
 bN:=ho.bN
 br:=fun i b n hi=>by
  obtain ⟨h1,y,h2,-⟩:=o9 hi;exact ⟨(ho.br i b n h1).1,aR h2⟩
 inj:=fun i j b n m hi hj=>ho.inj i j b n m (o9 hi).1 (o9 hj).1
 sep:=fun i b n hi=>ho.sep i b n (o9 hi).1
 box:=fun i bx hi=>by
  have bY:h'[i]? = some bx:=hi;obtain ⟨x,hx,hb⟩:=hs i bx bY;cases bx with
  |gone=>show (c.cut h').own i=none; simp only [Cx.cut,zo,bY]
  |hole=>exact hb.elim
  |cells cs =>
   obtain ⟨oe,k1,k2⟩:=tD i cs bY;obtain ⟨blk,cap,vs,ty,g1,g2,g3⟩:=ho.cells k1;have:=k2 vs.toList g3;exact ⟨blk,cap,vs,ty,(jT bY (by simp)).trans g1,g2,by simpa using this.1.symm,fun j x v hx hv=>this.2 j x v hx (by simpa using hv)⟩
  |arr g ts l =>
   obtain ⟨g0,rfl,-⟩:=hb;obtain ⟨q0,q1,q2⟩:=ho.box i _ hx;refine ⟨q0,q1,?_⟩;have cG:=jT (c:=c) bY (by simp);rcases q2 with ⟨q2,q3⟩ | ⟨blk,cap,vs,q2,q3,q4,q5,q6,q7⟩
   ·exact .inl ⟨cG.trans q2,q3⟩
   ·refine .inr ⟨blk,cap,vs,cG.trans q2,q3,q4,q5,q6,fun i j e x he hx=>?_⟩;obtain ⟨v,r1,r2,r3⟩:=q7 i j e x he hx;exact ⟨v,r1,r2,od r3⟩
  |map es =>
   obtain rfl:x = .map es:=hb;obtain ⟨blk,cap,en,ck,k1,k2,k3,k4⟩:=ho.box i _ hx;exact ⟨blk,cap,en,ck,(jT bY (by simp)).trans k1,k2,k3,fun j k x m hx hm=>⟨od (k4 j k x m hx hm).1,od (k4 j k x m hx hm).2⟩⟩
 eZ:=fun g e hg=>by
  have hp:∀ p,VR c (.bE e 0) p→VR (c.cut h') (.bE e 0) p:=fun p hp=>by
   cases hp with
   |bE _ _ blk o' fv k1 k2 k3 k4=>exact .bE _ _ blk o' fv (fun hb=>k1 (hb.elim .inl fun ⟨i,n,hi⟩ => .inr ⟨i,n,(o9 hi).1⟩)) k2 k3 (fun j x hx=>od (k4 j x hx))
  exact hp _ (ho.eZ g e hg)
def uj (n:Nat) (h:List ae) (s:List AV) (h':List ae) (s':List AV):Prop:=match Nat.ble n h'.length with
 |true=>qA h h' h h' (sf h h' s s' True)
 |false=>False
theorem ec.cut {c0 c:Cx} (hr:ec c0 c) {h':List ae} (hn:c0.heap.length≤h'.length) (hs:HSub c.heap h'):ec c0 (c.cut h') where
 lim:=hr.lim
 mg:=hr.mg
 ax:=hr.ax
 mY:=hr.mY
 os:=hr.os
 tape:=hr.tape
 output:=hr.output
 size:=hr.size
 keep:=hr.keep
 dh:=fun i b n hi hb=>hr.dh i b n (o9 hi).1 hb
 boxes:=fun i bx hi=>by
  have aj:i<h'.length:=Nat.lt_of_lt_of_le (aR hi) hn;obtain ⟨y,hy⟩:∃ y,h'[i]? = some y:=⟨h'[i],by simp [aj]⟩;obtain ⟨x,hx,hb⟩:=hs i y hy;have fb:(c.cut h').heap[i]? = some y:=hy;have h1:=hr.boxes i bx hi;have ef:y = .gone→vR c0 (c.cut h') i bx:=fun e=>by
   subst e;cases bx with
   |cells cs=>exact .inr fb
   |arr g sz l=>exact .inr fb
   |map es=>exact .inr fb
   |gone=>exact fb
   |hole=>exact ⟨_,fb⟩
  cases y with
  |gone=>exact ef rfl
  |hole=>exact hb.elim
  |cells cs' =>
   obtain ⟨Xq,rfl,hl⟩:=hb;have ho:=jT (c:=c) hy (by simp);cases bx with
   |cells cs =>
    rcases h1 with ⟨Of,h1,h2,h3⟩ | h1
    ·rw [hx] at h1; cases h1;exact .inl ⟨cs',fb,ho.trans h2,by omega⟩
    ·rw [hx] at h1; cases h1
   |arr g sz l =>
    rcases h1 with ⟨_,_,h1,_⟩ | h1 <;> (rw [hx] at h1; cases h1)
   |map es=>rcases h1 with ⟨_,h1,_⟩ | h1 <;> (rw [hx] at h1; cases h1)
   |gone=>have h1:c.heap[i]? = some .gone:=h1; rw [hx] at h1; cases h1
   |hole=>exact ⟨_,fb⟩
  |arr g' dJ l' =>
   obtain ⟨g1,rfl,hl⟩:=hb;have ho:=jT (c:=c) hy (by simp);cases bx with
   |cells cs=>rcases h1 with ⟨_,h1,_⟩ | h1 <;> (rw [hx] at h1; cases h1)
   |arr g sz l =>
    rcases h1 with ⟨g2,l2,h1,h2⟩ | h1
    ·rw [hx] at h1; cases h1;refine .inl ⟨g',l',fb,?_⟩;by_cases hz:g'=0
     ·have:=hl hz;rcases h2 with h2 | ⟨h2,h3,h4⟩
      ·omega
      ·exact .inr ⟨hz,h3,ho.trans h4⟩
     ·left; omega
    ·rw [hx] at h1; cases h1
   |map es=>rcases h1 with ⟨_,h1,_⟩ | h1 <;> (rw [hx] at h1; cases h1)
   |gone=>have h1:c.heap[i]? = some .gone:=h1; rw [hx] at h1; cases h1
   |hole=>exact ⟨_,fb⟩
  |map db =>
   obtain rfl:x = .map db:=hb;have ho:=jT (c:=c) hy (by simp);cases bx with
   |cells cs=>rcases h1 with ⟨_,h1,_⟩ | h1 <;> (rw [hx] at h1; cases h1)
   |arr g sz l=>rcases h1 with ⟨_,_,h1,_⟩ | h1 <;> (rw [hx] at h1; cases h1)
   |map es =>
    rcases h1 with ⟨Xr,h1,h2⟩ | h1
    ·rw [hx] at h1; cases h1;exact .inl ⟨db,fb,ho.trans h2⟩
    ·rw [hx] at h1; cases h1
   |gone=>have h1:c.heap[i]? = some .gone:=h1; rw [hx] at h1; cases h1
   |hole=>exact ⟨_,fb⟩
def uk (h h':List ae) (x:AV) (K:Prop):Prop :=
 match x with
 | .any=>K
 | .d _=>K
 | .own b g=>aM h' b False fun
  | .gone=>K
  | .arr g1 _ _=>aM h b False fun
   | .arr g0 _ _=>match Nat.blt g g1 with
    |true=>match Nat.ble g g0 with
     |true=>K
     |false=>False
    |false=>match Nat.beq g g0,Nat.beq g g1 with
     |true,true=>K
     |_,_=>False
   |_=>False
  |_=>False
 | .ptr b _=>aM h' b False fun
  | .gone=>K
  | .cells _=>aM h b False fun
   | .cells _=>K
   |_=>False
  |_=>False
 | .bE _ _=>K
 | .map b=>aM h' b False fun
  | .gone=>K
  | .map _=>aM h b False fun
   | .map _=>K
   |_=>False
  |_=>False
 | .cut b g _ _=>aM h' b False fun
  | .gone=>K
  | .arr g1 _ _=>aM h b False fun
   | .arr g0 _ _=>match Nat.blt g g1 with
    |true=>match Nat.ble g g0 with
     |true=>K
     |false=>False
    |false=>match Nat.beq g g0,Nat.beq g g1 with
     |true,true=>K
     |_,_=>False
   |_=>False
  |_=>False
 | .cB b g _ _=>aM h' b False fun
  | .gone=>K
  | .arr g1 _ _=>aM h b False fun
   | .arr g0 _ _=>match Nat.blt g g1 with
    |true=>match Nat.ble g g0 with
     |true=>K
     |false=>False
    |false=>match Nat.beq g g0,Nat.beq g g1 with
     |true,true=>K
     |_,_=>False
   |_=>False
  |_=>False
 |_=>False
def sh (h h':List ae):List AV→Prop→Prop
 | [],K=>K
 |x::l,K=>uk h h' x (sh h h' l K)
def wT (h h':List ae) (x:AV) (K:Prop):Prop :=
 match x with
 | .agg l=>sh h h' l K
 | .aD l=>sh h h' l K
 | .fn _ a b=>sh h h' a (sh h h' b K)
 |x=>uk h h' x K
def wU (h h':List ae):List AV→Prop→Prop
 | [],K=>K
 |x::l,K=>wT h h' x (wU h h' l K)
def zq (h h':List ae):List bU→Prop→Prop
 | [],K=>K
 |f::l,K=>wU h h' f.gG (zq h h' l K)
def si (h h':List ae):List bk→Prop→Prop
 | [],K=>K
 | .loop i::l,K=>wU h h' i.gG (si h h' l K)
 | .mark _::l,K=>si h h' l K
 |_::_,_=>False
def um (h h':List ae) (x:FX) (K:Prop):Prop:=zq h h' x.cls (si h h' x.loops K)
theorem uo {β:Type} {l:List β} {i:Nat} {k:β→Prop} {K:Prop} (hk:∀ x,k x→K) (H:aM l i False k):K:=by
 rcases a7 H with H | ⟨x,_,H⟩
 ·exact H.elim
 ·exact hk x H
theorem G2 {h h':List ae} {x:AV} {K:Prop} (H:uk h h' x K):K:=by
 have arr:∀ (b g:Nat),(aM h' b False fun
  | .gone=>K
  | .arr g1 _ _=>aM h b False fun
   | .arr g0 _ _=>match Nat.blt g g1 with
    |true=>match Nat.ble g g0 with
     |true=>K
     |false=>False
    |false=>match Nat.beq g g0,Nat.beq g g1 with
     |true,true=>K
     |_,_=>False
   |_=>False
  |_=>False)→K:=fun b g H=>uo (fun y H=>by
   split at H
   ·exact H
   ·refine uo (fun z H=>?_) H;split at H
    ·split at H
     ·split at H
      ·exact H
      ·exact H.elim
     ·split at H
      ·exact H
      ·exact H.elim
    ·exact H.elim
   ·exact H.elim) H
 cases x with
 |own b g=>exact arr b g H
 |cB b g i off=>exact arr b g H
 |cut b g k q=>exact arr b g H
 |ptr b off =>
  exact uo (fun y H=>by
   split at H
   ·exact H
   ·refine uo (fun z H=>?_) H;split at H
    ·exact H
    ·exact H.elim
   ·exact H.elim) H
 |map b =>
  exact uo (fun y H=>by
   split at H
   ·exact H
   ·refine uo (fun z H=>?_) H;split at H
    ·exact H
    ·exact H.elim
   ·exact H.elim) H
 |any=>exact H
 |d x=>exact H
 |bE e off=>exact H
 |agg l=>exact H.elim
 |aD l=>exact H.elim
 |fn f a b=>exact H.elim
theorem wV {h h':List ae}:∀ {l:List AV} {K:Prop},sh h h' l K→K
 | [],_,H=>H
 |_::_,_,H=>wV (G2 H)
theorem Og {h h':List ae} {x:AV} {K:Prop} (H:wT h h' x K):K:=by
 unfold wT at H;split at H
 ·exact wV H
 ·exact wV H
 ·exact wV (wV H)
 ·exact G2 H
theorem CF {h h':List ae}:∀ {l:List AV} {K:Prop},wU h h' l K→K
 | [],_,H=>H
 |_::_,_,H=>CF (Og H)
theorem G3 {h h':List ae}:∀ {l:List bU} {K:Prop},zq h h' l K→K
 | [],_,H=>H
 |_::_,_,H=>G3 (CF H)
theorem CG {h h':List ae}:∀ {l:List bk} {K:Prop},si h h' l K→K
 | [],_,H=>H
 | .loop _::_,_,H=>CG (CF H)
 | .mark _::l,_,H=>CG (l:=l) H
 | .row _::_,_,H=>H.elim
 | .iter _::_,_,H=>H.elim
theorem G4 {h h':List ae} (hs:HSub h h') {x:AV} {K:Prop} (H:uk h h' x K):K∧∀ (c:Cx),c.heap=h→∀ v,VR c x v→VR (c.cut h') x v:=by
 have own:∀ (b g:Nat) (K:Prop),(aM h' b False fun
  | .gone=>K
  | .arr g1 _ _=>aM h b False fun
   | .arr g0 _ _=>match Nat.blt g g1 with
    |true=>match Nat.ble g g0 with
     |true=>K
     |false=>False
    |false=>match Nat.beq g g0,Nat.beq g g1 with
     |true,true=>K
     |_,_=>False
   |_=>False
  |_=>False)→K∧(h'[b]? = some .gone∨∃ g0 g1 ts l,h[b]? = some (.arr g0 ts l)∧h'[b]? = some (.arr g1 ts l)∧(g<g1∨g=g0∧g=g1)):=fun b g K H=>by
  rcases a7 H with H | ⟨y,hy,H⟩
  ·exact H.elim
  split at H
  ·exact ⟨H,.inl hy⟩
  ·rename_i g1 Xs l1;rcases a7 H with H | ⟨x,hx,H⟩
   ·exact H.elim
   split at H
   ·rename_i g0 Xt l0;obtain ⟨x',fa,q⟩:=hs b _ hy;rw [hx] at fa;cases fa;obtain ⟨g2,q,-⟩:=q;cases q;split at H
    ·rename_i q1;split at H
     ·exact ⟨H,.inr ⟨_,_,_,_,hx,hy,.inl (Nat.le_of_ble_eq_true q1)⟩⟩
     ·exact H.elim
    ·split at H
     ·rename_i q1 q2;exact ⟨H,.inr ⟨_,_,_,_,hx,hy,.inr ⟨Nat.eq_of_beq_eq_true q1,Nat.eq_of_beq_eq_true q2⟩⟩⟩
     ·exact H.elim
   ·exact H.elim
  ·exact H.elim
 cases x with
 |any=>exact ⟨H,fun c _ v _ => .any v⟩
 |d x=>exact ⟨H,fun c _ v hv=>by cases hv with | d _ _ hv=>exact .d _ _ (od hv)⟩
 |bE e off=>exact ⟨H,fun c _ v hv=>by cases hv with | bE _ _ blk o f k1 k2 k3 k4=>exact .bE _ _ blk o f (fun hb=>k1 (hb.elim .inl fun ⟨i,n,hi⟩ => .inr ⟨i,n,(o9 hi).1⟩)) k2 k3 (fun j x hx=>od (k4 j x hx))⟩
 |own b g =>
  obtain ⟨hK,hq⟩:=own b g K H;refine ⟨hK,fun c hc v hv=>?_⟩;subst hc;rcases hq with hq | ⟨g0,g1,ts,l,q1,q2,q3⟩
  ·have bX:v.oneCell'=true:=by cases hv <;> first | rfl | assumption
   exact .iI b g v hq bX
  ·have ho:=jT (c:=c) q2 (by simp);rcases q3 with q3 | ⟨rfl,rfl⟩
   ·have bX:v.oneCell'=true:=by cases hv <;> first | rfl | assumption
    exact .jn b g g1 ts l v q2 q3 bX
   ·cases hv with
    |own _ _ sz l' blk cap hb cG=>rw [q1] at hb; cases hb; exact .own b g ts l blk cap q2 (ho.trans cG)
    |gy _ _ sz hb cG=>rw [q1] at hb; cases hb; exact .gy b g ts q2 (ho.trans cG)
    |jn _ _ g' sz l' v hb hg hv=>rw [q1] at hb; cases hb; omega
    |iI _ _ v hb hv=>rw [q1] at hb; cases hb
    |la _ _ _ _ _ _ hb _ _=>rw [q1] at hb; cases hb
 |cut b g k qq =>
  obtain ⟨hK,hq⟩:=own b g K H;refine ⟨hK,fun c hc v hv=>?_⟩;subst hc;rcases hq with hq | ⟨g0,g1,ts,l,q1,q2,q3⟩
  ·have bX:v.oneCell'=true:=by cases hv <;> first | rfl | assumption
   exact .l7 b g k qq v hq bX
  ·have ho:=jT (c:=c) q2 (by simp);rcases q3 with q3 | ⟨rfl,rfl⟩
   ·have bX:v.oneCell'=true:=by cases hv <;> first | rfl | assumption
    exact .l6 b g g1 k qq ts l v q2 q3 bX
   ·cases hv with
    |cut _ _ _ _ sz l' blk cap o hb cG hk yw Oh=>rw [q1] at hb; cases hb; exact .cut b g k qq ts l blk cap o q2 (ho.trans cG) hk yw Oh
    |l6 _ _ g' _ _ sz l' v hb hg hv=>rw [q1] at hb; cases hb; omega
    |l7 _ _ _ _ v hb hv=>rw [q1] at hb; cases hb
 |cB b g i off =>
  obtain ⟨hK,hq⟩:=own b g K H;refine ⟨hK,fun c hc v hv=>?_⟩;subst hc;rcases hq with hq | ⟨g0,g1,ts,l,q1,q2,q3⟩
  ·have bX:v.oneCell'=true:=by cases hv <;> first | rfl | assumption
   exact .kq b g i off v hq bX
  ·have ho:=jT (c:=c) q2 (by simp);rcases q3 with q3 | ⟨rfl,rfl⟩
   ·have bX:v.oneCell'=true:=by cases hv <;> first | rfl | assumption
    exact .kp b g g1 i off ts l v q2 q3 bX
   ·cases hv with
    |cB _ _ _ _ sz l' blk cap hb cG hi=>rw [q1] at hb; cases hb; exact .cB b g i off ts l blk cap q2 (ho.trans cG) hi
    |kp _ _ g' _ _ sz l' v hb hg hv=>rw [q1] at hb; cases hb; omega
    |kq _ _ _ _ v hb hv=>rw [q1] at hb; cases hb
 |ptr b off =>
  simp only [uk] at H;rcases a7 H with H | ⟨y,hy,H⟩
  ·exact H.elim
  split at H
  ·refine ⟨H,fun c _ v hv=>?_⟩;have bX:v.oneCell'=true:=by cases hv <;> first | rfl | assumption
   exact .ik b off v hy bX
  ·rcases a7 H with H | ⟨x,hx,H⟩
   ·exact H.elim
   split at H
   ·refine ⟨H,fun c hc v hv=>?_⟩;subst hc;have ho:=jT (c:=c) hy (by simp);cases hv with
    |ptr _ _ cs blk cap hb cG=>exact .ptr b off _ blk cap hy (ho.trans cG)
    |ik _ _ v hb hv=>rw [hx] at hb; cases hb
   ·exact H.elim
  ·exact H.elim
 |map b =>
  simp only [uk] at H;rcases a7 H with H | ⟨y,hy,H⟩
  ·exact H.elim
  split at H
  ·refine ⟨H,fun c _ v hv=>?_⟩;have bX:v.oneCell'=true:=by cases hv <;> first | rfl | assumption
   exact .l8 b v hy bX
  ·rcases a7 H with H | ⟨x,hx,H⟩
   ·exact H.elim
   split at H
   ·refine ⟨H,fun c hc v hv=>?_⟩;subst hc;have ho:=jT (c:=c) hy (by simp);cases hv with
    |map _ es blk cap hb cG=>exact .map b _ blk cap hy (ho.trans cG)
    |l8 _ v hb hv=>rw [hx] at hb; cases hb
   ·exact H.elim
  ·exact H.elim
 |agg l=>exact H.elim
 |aD l=>exact H.elim
 |fn f a b=>exact H.elim
theorem wW {h h':List ae} (hs:HSub h h'):∀ {l:List AV} {K:Prop},sh h h' l K→K∧∀ (c:Cx),c.heap=h→∀ (j:Nat) x v,l[j]? = some x→VR c x v→VR (c.cut h') x v
 | [],K,H=>⟨H,fun c _ j x v hx=>by simp at hx⟩
 |y::l,K,H=>by
  obtain ⟨H,h1⟩:=G4 hs H;obtain ⟨H,h2⟩:=wW hs H;refine ⟨H,fun c hc j x v hx hv=>?_⟩;cases j with
  |zero=>simp at hx; subst hx; exact h1 c hc v hv
  |succ j=>exact h2 c hc j x v (by simpa using hx) hv
theorem Oi {h h':List ae} (hs:HSub h h') {x:AV} {K:Prop} (H:wT h h' x K):K∧∀ (c:Cx),c.heap=h→∀ v,VR c x v→VR (c.cut h') x v:=by
 unfold wT at H;split at H
 ·obtain ⟨H,h1⟩:=wW hs H;exact ⟨H,fun c hc v hv=>by cases hv with | agg _ vs hl bK=>exact .agg _ vs hl fun j x v hx hu=>h1 c hc j x v hx (bK j x v hx hu)⟩
 ·obtain ⟨H,h1⟩:=wW hs H;exact ⟨H,fun c hc v hv=>by cases hv with | aD _ vs hl bK=>exact .aD _ vs hl fun j x v hx hu=>h1 c hc j x v hx (bK j x v hx hu)⟩
 ·obtain ⟨H,h1⟩:=wW hs H;obtain ⟨H,h2⟩:=wW hs H;exact ⟨H,fun c hc v hv=>by cases hv with | fn _ _ _ v1 v2 k1 k2 k3 k4=>exact .fn _ _ _ v1 v2 k1 k2 (fun j x v hx hu=>h1 c hc j x v hx (k3 j x v hx hu)) (fun j x v hx hu=>h2 c hc j x v hx (k4 j x v hx hu))⟩
 ·exact G4 hs H
theorem CH {h h':List ae} (hs:HSub h h'):∀ {l:List AV} {K:Prop},wU h h' l K→K∧∀ (c:Cx),c.heap=h→∀ t,VS c l t→VS (c.cut h') l t
 | [],K,H=>⟨H,fun c _ t ht=>⟨ht.1,fun j x v hx=>by simp at hx⟩⟩
 |y::l,K,H=>by
  obtain ⟨H,h1⟩:=Oi hs H;obtain ⟨H,h2⟩:=CH hs H;refine ⟨H,fun c hc t ht=>⟨ht.1,fun j x v hx hv=>?_⟩⟩;cases j with
  |zero=>simp at hx; subst hx; exact h1 c hc v (ht.2 0 _ v rfl hv)
  |succ j =>
   have eL:(t.extract 1)[j]? = some v:=by
    rw [Array.getElem?_extract];have:=(Array.getElem?_eq_some_iff.1 hv).1;rw [if_pos (by omega),Nat.add_comm];exact hv
   have:=h2 c hc (t.extract 1) ⟨by have:=ht.1; simp at this ⊢; omega,fun i x v hx hv=>ht.2 (i+1) x v (by simpa using hx) (by
    rw [Array.getElem?_extract] at hv;split at hv
    ·rw [Nat.add_comm] at hv; exact hv
    ·cases hv)⟩
   exact this.2 j x v (by simpa using hx) eL
theorem G5 {h h':List ae} (hs:HSub h h'):∀ {l:List bU} {K:Prop},zq h h' l K→K∧∀ (c:Cx),c.heap=h→∀ ts,CR c l ts→CR (c.cut h') l ts
 | [],K,H=>⟨H,fun c _ ts ht=>by cases ts with | nil=>trivial | cons t ts=>exact ht.elim⟩
 |f::l,K,H=>by
  obtain ⟨H,h1⟩:=CH hs H;obtain ⟨H,h2⟩:=G5 hs H;refine ⟨H,fun c hc ts ht=>?_⟩;cases ts with
  |nil=>exact ht.elim
  |cons t ts=>exact ⟨h1 c hc t ht.1,ht.2.1,h2 c hc ts ht.2.2⟩
theorem CI {h h':List ae} (hs:HSub h h'):∀ {l:List bk} {K:Prop},si h h' l K→K∧∀ (lim:Nat) (c:Cx),c.heap=h→∀ g∈l,gR lim c g→gR lim (c.cut h') g
 | [],K,H=>⟨H,fun lim c _ g hg=>by simp at hg⟩
 | .loop i::l,K,H=>by
  obtain ⟨H,h1⟩:=CH hs H;obtain ⟨H,h2⟩:=CI hs H;refine ⟨H,fun lim c hc g hg hk=>?_⟩;rcases List.mem_cons.1 hg with rfl | hg
  ·obtain ⟨k1,k2,k3,k4⟩:=(show mh lim c i from hk);exact (show mh lim (c.cut h') i from ⟨k1,k2,k3,h1 c hc _ k4⟩)
  ·exact h2 lim c hc g hg hk
 | .mark d::l,K,H=>by
  obtain ⟨H,h2⟩:=CI (l:=l) hs H;refine ⟨H,fun lim c hc g hg hk=>?_⟩;rcases List.mem_cons.1 hg with rfl | hg
  ·obtain ⟨k1,k2,k3⟩:=(show p9 lim c d from hk);exact (show p9 lim (c.cut h') d from ⟨k1,k2,k3⟩)
  ·exact h2 lim c hc g hg hk
 | .row _::_,_,H=>H.elim
 | .iter _::_,_,H=>H.elim
theorem gR.Oj {lim:Nat} {c:Cx} {h':List ae}:∀ {g:bk},gR lim c g→g.flat→gR lim (c.cut h') g
 | .row r,h,_=>nV.gen (c:=c) h (nV.ax (c:=c) h) rfl (fun _ _=>od)
 | .iter i,h,_=>kA.gen (c:=c) h (kA.BC (c:=c) h) (kA.vS (c:=c) h) rfl rfl (fun _ _=>od)
 | .loop _,_,h=>h.elim
 | .mark d,h,_=>by obtain ⟨k1,k2,k3⟩:=(show p9 lim c d from h); exact (show p9 lim (c.cut h') d from ⟨k1,k2,k3⟩)
section
variable {E:Env} {ag:FuncId} {R:cw} {td:List aN} {s s':List AV} {h h':List ae}
theorem dz.cut {lim:Nat} {c:Cx} {rows loops:List bk} (h:dz lim c rows loops) {h':List ae} (hl:∀ g∈loops,gR lim c g→gR lim (c.cut h') g):dz lim (c.cut h') rows loops :=
 ⟨⟨fun g hg=>(List.mem_append.1 hg).elim (fun wX=>(h.all.each g hg).Oj (h.flat g wX)) (fun wX=>hl g wX (h.all.each g hg)),h.all.nodup⟩,h.flat⟩
theorem AW.weaken {f0:FuncId} {fd:gQ} (hs:um h h' R.fx (uj R.n h s h' s')) (H:AW E f0 ⟨fd,td,s'⟩ R.fx.cls h' R):AW E f0 ⟨fd,td,s⟩ R.fx.cls h R:=by
 unfold AW at H ⊢;intro c0 c t ts h0 h1 h2 h3 hr bF h4 h5 cs;subst h2;unfold um at hs;have qB:=hs;replace hs:=CG (G3 hs);unfold uj at hs;split at hs
 case h_2=>exact hs.elim
 rename_i q;have hn:=Nat.le_of_ble_eq_true q;obtain ⟨k1,k2⟩:=G0 hs;have k3:=G1 k1 hs;obtain ⟨-,k4⟩:=CD k1 k2;obtain ⟨uq,f1⟩:=G5 k1 qB;obtain ⟨-,f2⟩:=CI k1 uq;have hv:=k4 c t.toList rfl ⟨by simpa using h4.1,fun j x v hx hv=>h4.2 j x v hx (by simpa using hv)⟩;have aO:=h3.cut k1 (fun i cs hi=>by obtain ⟨oe,r1,r2⟩:=k3 i cs hi; exact ⟨oe,r1,fun vs hv=>r2 c vs rfl hv⟩);exact H c0 (c.cut h') t ts h0 h1 rfl aO (hr.cut (by omega) k1) (bF.cut fun g hg=>f2 _ c rfl g hg) ⟨by simpa using hv.1,fun j x v hx hu=>hv.2 j x v hx (by simpa using hu)⟩ (f1 c rfl ts h5) cs
def anyS:List Nat→List AV→List AV
 | [],s=>s
 |d::l,s=>anyS l (s.set d .any)
def jU:List (Nat × AV)→List AV→List AV
 | [],s=>s
 |(d,v)::l,s=>jU l (s.set d v)
def jV:List (Nat × ae)→List ae→List ae
 | [],h=>h
 |(d,v)::l,h=>jV l (h.set d v)
def zr {α:Sort _}:List Nat→List AV→(List AV→α)→α
 | [],s,k=>k s
 |d::l,s,k=>fy s d .any fun s'=>zr l s' k
theorem G6 {α:Sort _}:∀ (l:List Nat) (s:List AV) (k:List AV→α),zr l s k=k (anyS l s)
 | [],_,_=>rfl
 |d::l,s,k=>by simp only [zr,fY,anyS,G6 l]
def sj {α:Sort _} {β:Type}:List (Nat × β)→List β→(List β→α)→α
 | [],s,k=>k s
 |(d,v)::l,s,k=>fy s d v fun s'=>sj l s' k
theorem G7 {α:Sort _}:∀ (l:List (Nat × AV)) (s:List AV) (k:List AV→α),sj l s k=k (jU l s)
 | [],_,_=>rfl
 |(d,v)::l,s,k=>by simp only [sj,fY,jU,G7 l]
theorem G8 {α:Sort _}:∀ (l:List (Nat × ae)) (s:List ae) (k:List ae→α),sj l s k=k (jV l s)
 | [],_,_=>rfl
 |(d,v)::l,s,k=>by simp only [sj,fY,jV,G8 l]
def wY (ks:List Nat):AV→Bool
 | .own j _=>iS j ks
 | .cut j _ _ _=>iS j ks
 | .cB j _ _ _=>iS j ks
 |_=>false
def G9 (ks:List Nat):AV→Bool
 | .agg l=>l.any (wY ks)
 | .aD l=>l.any (wY ks)
 | .fn _ a b=>a.any (wY ks)||b.any (wY ks)
 |x=>wY ks x
def jW (ks:List Nat):List AV→List AV
 | []=>[]
 |x::s=>(match G9 ks x with | true => .any | false=>x)::jW ks s
def wZ {α:Sort _} (ks:List Nat):List AV→(List AV→α)→α
 | [],k=>k []
 |x::s,k=>match G9 ks x with
  |true=>wZ ks s fun s'=>k (.any::s')
  |false=>wZ ks s fun s'=>k (x::s')
theorem G' {α:Sort _} (ks:List Nat):∀ (s:List AV) (k:List AV→α),wZ ks s k=k (jW ks s)
 | [],_=>rfl
 |x::s,k=>by
  simp only [wZ,jW];split <;> rename_i q <;> rw [G' ks s] <;> simp only [q]
def lC:List (Nat × ae)→List Nat
 | []=>[]
 |p::l=>p.1::lC l
def sk {α:Sort _} (fh ks:List Nat) (vars:List (Nat × AV)) (boxes:List (Nat × ae)) (s:List AV) (h:List ae) (k:List AV→List ae→α):α :=
 wZ ks s fun s0=>zr fh s0 fun s1=>sj vars s1 fun s2=>sj boxes h fun h2=>k s2 h2
theorem w0 {α:Sort _} (fh ks:List Nat) (vars:List (Nat × AV)) (boxes:List (Nat × ae)) (s:List AV) (h:List ae) (k:List AV→List ae→α):sk fh ks vars boxes s h k=k (jU vars (anyS fh (jW ks s))) (jV boxes h):=by
 simp only [sk,G',G6,G7,G8]
theorem I.loop {lits:List Nat} {b:Code} {k:List aN} {κ:Type} (fh:List Nat) (vars:κ→List (Nat × AV)) (boxes:κ→List (Nat × ae)) (Φ:κ→Prop) (μ:κ→Nat) (x0:κ) (h0:Φ x0)
  (nk:sk fh (lC (boxes x0)) (vars x0) (boxes x0) s h fun s' h'=>um h h' R.fx (uj R.n h s h' s'))
  (qC:∀ x,Φ x→(∀ y,Φ y→μ y<μ x→I E ag R [] (.inLoop b::k) (jU (vars y) (anyS fh (jW (lC (boxes x0)) s))) (jV (boxes y) h))→I E ag R [] (.code b :: .inLoop b::k) (jU (vars x) (anyS fh (jW (lC (boxes x0)) s))) (jV (boxes x) h)) :
  I E ag R lits (.code (.loop b)::k) s h:=by
 have main:∀ n x,μ x<n→Φ x→I E ag R [] (.inLoop b::k) (jU (vars x) (anyS fh (jW (lC (boxes x0)) s))) (jV (boxes x) h):=by
  intro n
  induction n with
  |zero=>intro x hx; omega
  |succ n ih=>intro x hx hP; exact .of (.inLoop (qC x hP fun y hy hm=>ih y (by omega) hy).to)
 rw [w0] at nk;exact .of (.loop (.weaken nk (qC x0 h0 fun y hy _=>main (μ y+1) y (by omega) hy).to))
theorem I.head (hE:E.OK) {fn:Func} (hf:E.P.funcs[ag]? = some fn) (n:Nat) {lits fh ks:List Nat} {vars:List (Nat × AV)} {boxes:List (Nat × ae)} {s0:List AV} {h0:List ae}
  (H:sk fh ks vars boxes s0 h0 fun s' h'=>runK E ag fn.results.toList R n lits td s' h'):I E ag R lits td (jU vars (anyS fh (jW ks s0))) (jV boxes h0):=by
 rw [w0] at H;exact .run hE hf n H
theorem I.back {lits Ol fh ks:List Nat} {vars:List (Nat × AV)} {boxes:List (Nat × ae)} {s0:List AV} {h0:List ae} (H:I E ag R lits td (jU vars (anyS fh (jW ks s0))) (jV boxes h0))
  (hs:sk fh ks vars boxes s0 h0 fun s' h'=>um h h' R.fx (uj R.n h s h' s')):I E ag R Ol td s h:=by
 rw [w0] at hs;exact .of (.weaken hs H.to)
theorem I.tN {lits:List Nat} (d:Nat) (ts:Nat × Nat) (gU:0<ts.2) (hd:s[d]? = some (.d .aH)) (H:I E ag R lits td (s.set d (.own h.length 0)) (h++[.arr 0 ts []])):I E ag R lits td s h:=by
 replace H:=H.to;refine .of (.js (fun c t dJ h1 h2 h3 h4 h5=>?_) H);subst h2
 let c':Cx:={ c with heap:=c.heap++[.arr 0 ts []] }
 have bL:c.own c.heap.length=none:=by
  cases ho:c.own c.heap.length with
  |none=>rfl
  |some p=>have:=(h3.br _ p.1 p.2 ho).2; omega
 have bc:Step c c':=⟨rfl,h3.bN,rfl,rfl,rfl,Nat.le_refl _,fun _ _ _=>rfl,fun i b n hi _=>⟨n,hi⟩,fun i bx hi=>by
  have h':c'.heap[i]? = some bx:=by show (c.heap++_)[i]? = _; rw [List.getElem?_append_left (aR hi)]; exact hi
  cases bx with
  |cells cs=>exact .inl ⟨cs,h',rfl,rfl⟩
  |arr g sz l=>exact .inl ⟨g,l,h',.inr ⟨rfl,rfl,rfl⟩⟩
  |map es=>exact .inl ⟨es,h',rfl⟩
  |gone=>exact h'
  |hole=>exact ⟨_,h'⟩⟩
 have gV:c'.heap[c.heap.length]? = some (.arr 0 ts []):=by show (c.heap++_)[_]? = _; simp
 have aO:aK E.G c':=h3.next bc (fun i b n hi=>⟨(h3.br i b n hi).1,by have:=(h3.br i b n hi).2; show i<(c.heap++_).length; simp; omega⟩) h3.inj (fun i bx hi=>by
  by_cases fL:i=c.heap.length
  ·subst fL;rw [gV] at hi;cases hi;exact .inr ⟨gU,fun i e he=>by simp at he,.inl ⟨bL,rfl⟩⟩
  ·have aj : i < c.heap.length := by have := aR hi; have h2 : c'.heap.length = c.heap.length + 1 := by show (c.heap ++ _).length = _; simp
                                     omega
   have bY:(c.heap++[.arr 0 ts []])[i]? = some bx:=hi;rw [List.getElem?_append_left aj] at bY
   exact .inl ⟨bY,rfl,fun _ _ _=>rfl⟩)
 refine ⟨c',t,dJ,h1,rfl,aO,?_,bc.cr h5,bc,fun _ => .refl _ _⟩;have gS:d<t.size:=by rw [← h4.1]; exact aR hd
 have hv:t[d] = .slice none 0 0:=by
  have:=h4.2 d _ t[d] hd (by simp [gS]);generalize t[d]=u at this;cases this with
  |d _ _ hv=>cases hv; rfl
 have:=VS.put (bc.vs h4) d (x := .own c.heap.length 0) (v:=t[d]) (by rw [hv]; exact .gy _ _ ts gV bL)
 simpa [Array.setIfInBounds,gS] using this
end
end Go.aw
end
section
namespace Go.aw
open Go Go.RowKit
section
variable {α:Sort _}
def zt (b g:Nat) (l:List DV) (x:AV) (k:AV→α):α:=match x with
 | .own j g'=>match Nat.beq j b,Nat.beq g' g with
  |true,true=>k (.d (.sl l))
  |_,_=>k (.own j g')
 |x=>k x
def sm (b g:Nat) (l:List DV):List AV→(List AV→α)→α
 | [],k=>k []
 |x::r,k=>zt b g l x fun y=>sm b g l r fun r'=>k (y::r')
def CJ (b g:Nat) (l:List DV) (x:AV) (k:AV→α):α:=match x with
 | .agg c=>sm b g l c fun c'=>tr c' k
 | .aD c=>sm b g l c fun c'=>k (.aD c')
 | .fn f a1 a2=>sm b g l a1 fun Ha=>sm b g l a2 fun Hb=>k (.fn f Ha Hb)
 |x=>zt b g l x k
def CK (b g:Nat) (l:List DV):List AV→(List AV→α)→α
 | [],k=>k []
 |x::r,k=>CJ b g l x fun y=>CK b g l r fun r'=>k (y::r')
def w7 (b g:Nat) (l:List DV):List ae→(List ae→α)→α
 | [],k=>k []
 |x::r,k=>match x with
  | .cells c=>sm b g l c fun c'=>w7 b g l r fun r'=>k (.cells c'::r')
  |x=>w7 b g l r fun r'=>k (x::r')
end
def Hc (b:Nat) (s:List AV) (h:List ae) (k:List AV→List ae→Prop):Prop:=aM h b False fun
 | .arr g _ l=>CK b g l s fun s'=>w7 b g l h fun h'=>fy h' b .gone fun oM=>k s' oM
 |_=>False
structure ur (b g:Nat) (l:List DV) (c c':Cx):Prop where
 step:Step c c'
 own:∀ v,VR c (.own b g) v→VR c' (.d (.sl l)) v
section
variable {b g:Nat} {l:List DV}
theorem Hd {x:AV} {k:AV→Prop} (H:zt b g l x k):∃ y,k y∧∀ c c',ur b g l c c'→∀ v,VR c x v→VR c' y v:=by
 unfold zt at H;split at H
 ·split at H
  ·rename_i q1 q2;have q1:=Nat.eq_of_beq_eq_true q1;have q2:=Nat.eq_of_beq_eq_true q2;subst q1; subst q2;exact ⟨_,H,fun c c' hf v hv=>hf.own v hv⟩
  ·exact ⟨_,H,fun c c' hf v hv=>hf.step.vr hv⟩
 ·exact ⟨_,H,fun c c' hf v hv=>hf.step.vr hv⟩
theorem uu:∀ {r:List AV} {k:List AV→Prop},sm b g l r k→∃ r',k r'∧r'.length=r.length∧∀ c c',ur b g l c c'→∀ vs,VL c r vs→VL c' r' vs
 | [],_,H=>⟨[],H,rfl,fun _ _ _ _ hv=>⟨hv.1,fun j x v hx=>by simp at hx⟩⟩
 |x::r,k,H=>by
  obtain ⟨y,H,hy⟩:=Hd H;obtain ⟨r',H,hl,hr⟩:=uu H;refine ⟨y::r',H,by simp [hl],fun c c' hf vs hv=>?_⟩;cases vs with
  |nil=>have:=hv.1; simp at this
  |cons v vs=>exact .cons (hy c c' hf v hv.head.1) (hr c c' hf vs hv.head.2)
theorem Om {x:AV} {k:AV→Prop} (H:CJ b g l x k):∃ y,k y∧∀ c c',ur b g l c c'→∀ v,VR c x v→VR c' y v:=by
 unfold CJ at H;split at H
 ·obtain ⟨r',H,-,hr⟩:=uu H;obtain ⟨y,H,hy⟩:=vG H;refine ⟨y,H,fun c c' hf v hv=>?_⟩;obtain ⟨vs,rfl,gC⟩:=nR hv;exact hy c' vs (hr c c' hf vs gC)
 ·obtain ⟨r',H,-,hr⟩:=uu H;refine ⟨_,H,fun c c' hf v hv=>?_⟩;cases hv with
  |aD _ vs hl bK =>
   have:=hr c c' hf vs.toList ⟨by simpa using hl,fun j x v hx hv=>bK j x v hx (by simpa using hv)⟩;exact .aD _ vs (by simpa using this.1) (fun j x v hx hv=>this.2 j x v hx (by simpa using hv))
 ·obtain ⟨Ha,H,-,h1⟩:=uu H;obtain ⟨Hb,H,-,h2⟩:=uu H;refine ⟨_,H,fun c c' hf v hv=>?_⟩;obtain ⟨v1,v2,rfl,r1,r2⟩:=jO hv;have r1:=h1 c c' hf v1 r1;have r2:=h2 c c' hf v2 r2;exact .fn _ _ _ _ _ (by simpa using r1.1) (by simpa using r2.1) (fun j x v hx hv=>r1.2 j x v hx (by simpa using hv)) (fun j x v hx hv=>r2.2 j x v hx (by simpa using hv))
 ·exact Hd H
theorem He:∀ {r:List AV} {k:List AV→Prop},CK b g l r k→∃ r',k r'∧∀ c c',ur b g l c c'→∀ vs,VL c r vs→VL c' r' vs
 | [],_,H=>⟨[],H,fun _ _ _ _ hv=>⟨hv.1,fun j x v hx=>by simp at hx⟩⟩
 |x::r,k,H=>by
  obtain ⟨y,H,hy⟩:=Om H;obtain ⟨r',H,hr⟩:=He H;refine ⟨y::r',H,fun c c' hf vs hv=>?_⟩;cases vs with
  |nil=>have:=hv.1; simp at this
  |cons v vs=>exact .cons (hy c c' hf v hv.head.1) (hr c c' hf vs hv.head.2)
def zu (b g:Nat) (l:List DV) (x y:ae):Prop:=match x with
 | .cells cs=>∃ cs',y = .cells cs'∧cs'.length=cs.length∧∀ c c',ur b g l c c'→∀ vs,VL c cs vs→VL c' cs' vs
 |x=>y=x
theorem CL:∀ {r:List ae} {k:List ae→Prop},w7 b g l r k→∃ r',k r'∧r'.length=r.length∧∀ (i:Nat) (x:ae),r[i]? = some x→∃ y,r'[i]? = some y∧zu b g l x y
 | [],_,H=>⟨[],H,rfl,fun i x hx=>by simp at hx⟩
 |x::r,k,H=>by
  unfold w7 at H;have fin:∀ {y:ae} {r':List ae},zu b g l x y→(∀ (i:Nat) (x:ae),r[i]? = some x→∃ y,r'[i]? = some y∧zu b g l x y)→∀ (i:Nat) (z:ae),(x::r)[i]? = some z→∃ y',(y::r')[i]? = some y'∧zu b g l z y':=fun {y r'} h1 h2 i z hz=>by
   cases i with
   |zero=>simp at hz; subst hz; exact ⟨y,rfl,h1⟩
   |succ i=>obtain ⟨y',k1,k2⟩:=h2 i z (by simpa using hz); exact ⟨y',by simpa using k1,k2⟩
  split at H
  ·obtain ⟨c',H,hl,hr⟩:=uu H;obtain ⟨r',H,CM,rJ⟩:=CL H;exact ⟨_,H,by simp [CM],fin ⟨c',rfl,hl,hr⟩ rJ⟩
  ·rename_i aJ;obtain ⟨r',H,CM,rJ⟩:=CL H;refine ⟨_,H,by simp [CM],fin ?_ rJ⟩;cases x with
   |cells c=>exact absurd rfl (aJ c)
   |arr _ _ _=>rfl
   |map _=>rfl
   |gone=>rfl
   |hole=>rfl
end
section
variable {E:Env} {ag:FuncId} {R:cw} {td:List aN} {s:List AV} {h:List ae}
theorem I.freeze {lits:List Nat} (b:Nat) (H:Hc b s h fun s' h'=>I E ag R lits td s' h'):I E ag R lits td s h:=by
 unfold Hc at H;rcases a7 H with H | ⟨bx,hb,H⟩
 ·exact H.elim
 split at H
 case h_2=>exact H.elim
 rename_i g ts l;obtain ⟨s',H,On⟩:=He H;obtain ⟨h',H,hlen,zk⟩:=CL H;rw [fY] at H;refine .of (.js (fun c t dJ h1 h2 h3 h4 h5=>?_) H.to);subst h2;have eu:=aR hb
 let c':Cx:={ c with own:=fun i=>if i=b then none else c.own i,heap:=h'.set b .gone }
 have ef:c'.heap[b]? = some .gone:=by show (h'.set b .gone)[b]? = _; rw [List.getElem?_set_self (by omega)]
 have iQ:∀ i,i≠b→c'.heap[i]? = h'[i]? := fun i hi=>by show (h'.set b .gone)[i]? = _; rw [List.getElem?_set_ne (Ne.symm hi)]
 have bA:∀ i,i≠b→c'.own i=c.own i:=fun i hi=>by simp only [c',if_neg hi]
 have iw:∀ i p,c'.own i=some p→i≠b∧c.own i=some p:=fun i p hp=>by
  simp only [c'] at hp;split at hp
  ·cases hp
  ·rename_i q; exact ⟨q,hp⟩
 have bc:Step c c':=⟨rfl,h3.bN,rfl,rfl,rfl,Nat.le_refl _,fun _ _ _=>rfl,fun i x n hi _=>⟨n,(iw i _ hi).2⟩,fun i bx hi=>by
  by_cases bz:i=b
  ·subst bz;cases bx with
   |cells cs=>exact .inr ef
   |arr g sz l=>exact .inr ef
   |map es=>exact .inr ef
   |gone=>exact ef
   |hole=>exact ⟨_,ef⟩
  ·obtain ⟨y,k1,k2⟩:=zk i bx hi;rw [← iQ i bz] at k1;cases bx with
   |cells cs=>obtain ⟨cs',rfl,e,-⟩:=k2; exact .inl ⟨cs',k1,bA i bz,e⟩
   |arr g sz l=>obtain rfl:y=_:=k2; exact .inl ⟨g,l,k1,.inr ⟨rfl,rfl,bA i bz⟩⟩
   |map es=>obtain rfl:y=_:=k2; exact .inl ⟨es,k1,bA i bz⟩
   |gone=>obtain rfl:y=_:=k2; exact k1
   |hole=>obtain rfl:y=_:=k2; exact ⟨_,k1⟩⟩
 have oJ:∀ x,c'.bad x→c.bad x:=fun x hx=>hx.elim .inl fun ⟨i,n,hi⟩ => .inr ⟨i,n,(iw i _ hi).2⟩
 have zw:ur b g l c c':=⟨bc,fun v hv=>by
  obtain ⟨q0,q1,q2⟩:=h3.box b _ hb;rcases ln hb hv with ⟨blk,cap,r1,rfl⟩ | ⟨rfl,rfl,r1⟩
  ·rcases q2 with ⟨q2,-⟩ | ⟨iK,il,vs,q2,q3,q4,q5,q6,q7⟩
   ·rw [r1] at q2; cases q2
   rw [r1] at q2; cases q2;refine .d _ _ (.sl l blk 0 cap ts.2 (fun i j=>(vs[i*ts.2+j]?).getD undef) (fun _ gb=>?_) q0 q5 (fun i e he=>q1 i e he) (fun i j e x he hx=>?_) (fun i j e x he hx=>?_) (fun i j e x he hx=>?_))
   ·rcases gb with gb | ⟨i,n,hi⟩
    ·exact h3.sep b blk cap r1 gb
    ·obtain ⟨k1,k2⟩:=iw i _ hi;exact k1 (h3.inj i b blk n cap k2 r1)
   ·obtain ⟨v,p1,p2,p3⟩:=q7 i j e x he hx;rw [p1,Option.getD_some];exact ku q3 _ v (by simpa using p1)
   ·obtain ⟨v,p1,p2,p3⟩:=q7 i j e x he hx;simp only [p1,Option.getD_some];exact bc.vd p3
   ·obtain ⟨v,p1,p2,p3⟩:=q7 i j e x he hx;simp only [p1,Option.getD_some];exact p2
  ·exact .d _ _ .slnil⟩
 have aO:aK E.G c':=by
  refine h3.next bc (fun i x n hi=>?_) (fun i j x n m hi hj=>h3.inj i j x n m (iw i _ hi).2 (iw j _ hj).2) (fun i bx hi=>?_)
  ·have:=h3.br i x n (iw i _ hi).2;refine ⟨this.1,?_⟩;show i<(h'.set b .gone).length;rw [List.length_set,hlen];exact this.2
  ·right;by_cases bz:i=b
   ·subst bz;rw [ef] at hi;cases hi;show c'.own i=none;simp [c']
   ·rw [iQ i bz] at hi;have fL:i<c.heap.length:=by rw [← hlen]; exact aR hi
    obtain ⟨y,k1,k2⟩:=zk i c.heap[i] (by simp [fL]);rw [hi] at k1;cases k1;have gN:c.heap[i]? = some c.heap[i]:=by simp [fL]
    generalize c.heap[i]=x at k2 gN;cases x with
    |cells cs =>
     obtain ⟨cs',rfl,e,hv⟩:=k2;obtain ⟨blk,cap,vs,ty,g1,g2,g3⟩:=h3.cells gN;have:=hv c c' zw vs.toList g3;exact ⟨blk,cap,vs,ty,(bA i bz).trans g1,g2,by simpa using this.1.symm,fun j x v hx hv=>this.2 j x v hx (by simpa using hv)⟩
    |arr _ _ _=>obtain rfl:bx=_:=k2; exact (h3.box i _ gN).keep bc (bA i bz) (fun _ _ _=>rfl)
    |map _=>obtain rfl:bx=_:=k2; exact (h3.box i _ gN).keep bc (bA i bz) (fun _ _ _=>rfl)
    |gone=>obtain rfl:bx=_:=k2; exact (h3.box i _ gN).keep bc (bA i bz) (fun _ _ _=>rfl)
    |hole=>obtain rfl:bx=_:=k2; exact (h3.box i _ gN).keep bc (bA i bz) (fun _ _ _=>rfl)
 have hv:=On c c' zw t.toList ⟨by simpa using h4.1,fun j x v hx hv=>h4.2 j x v hx (by simpa using hv)⟩;exact ⟨c',t,dJ,h1,rfl,aO,⟨by simpa using hv.1,fun j x v hx hu=>hv.2 j x v hx (by simpa using hu)⟩,bc.cr h5,bc,fun _ => .refl _ _⟩
theorem I.mw {lits:List Nat} {b:Code} {k:List aN} (H:I E ag R [] (.code b :: .inLoop b::k) s h):I E ag R lits (.code (.loop b)::k) s h := .of (.loop H.to)
theorem I.again {lits:List Nat} {b:Code} {k:List aN} (H:I E ag R [] (.code b :: .inLoop b::k) s h):I E ag R lits (.inLoop b::k) s h := .of (.inLoop H.to)
end
def zx:DV→Bool
 | .int _ _=>true
 | .bool _=>true
 | .str _=>true
 | .undef=>true
 | .aH=>true
 |_=>false
def CN:DV→Bool
 | .aD c=>c.all zx
 | .agg c=>c.all zx
 |x=>zx x
theorem Hf {x:DV} (hx:zx x=true) {bad th:Nat→Prop} {w w':World} {v:Value} (hv:VD bad w x v):VD th w' x v:=by
 cases hv <;> first | (cases hx; done) | (constructor; done)
theorem Hg {x:DV} (hx:CN x=true) {bad th:Nat→Prop} {w w':World} {v:Value} (hv:VD bad w x v):VD th w' x v:=by
 cases hv with
 |agg c vs hl bK=>exact .agg c vs hl fun j x v h1 h2=>Hf (List.all_eq_true.1 hx x (List.mem_of_getElem? h1)) (bK j x v h1 h2)
 |aD c vs hl bK=>exact .aD c vs hl fun j x v h1 h2=>Hf (List.all_eq_true.1 hx x (List.mem_of_getElem? h1)) (bK j x v h1 h2)
 |_=>first | (cases hx; done) | (constructor; done)
def pa (h:List ae):List AV→Option (List DV)
 | []=>some []
 | .d x::l=>match pa h l with
  |some r=>some (x::r)
  |none=>none
 | .own b _::l=>match di h b with
  |some (.arr _ _ m)=>match pa h l with
   |some r=>some (.sl m::r)
   |none=>none
  |_=>none
 |_::_=>none
def uv:List AV→Bool
 | []=>true
 | .own _ g::l=>match Nat.beq g 0 with
  |true=>uv l
  |false=>false
 |_::l=>uv l
theorem zy {G:List (Nat × DV)} {c:Cx} (ho:aK G c) (hf:tG c.heap):∀ {args:List AV} {ds:List DV} {vs:List Value},pa c.heap args=some ds→uv args=true→VL c args vs→iu c.ax c.w ds vs
 | [],ds,vs,h,_,hv=>by cases h; exact ⟨hv.1,fun j x v hx=>by simp at hx⟩
 |x::l,ds,vs,h,hg,hv=>by
  cases vs with
  |nil=>have:=hv.1; simp at this
  |cons v vs =>
   obtain ⟨qD,uw⟩:=hv.head
   have fin:∀ {d:DV} {r:List DV},VD c.ax c.w d v→iu c.ax c.w r vs→iu c.ax c.w (d::r) (v::vs):=fun {d r} h1 h2=>⟨by simp [h2.1],fun j x u hx hu=>by
    cases j with
    |zero=>simp at hx hu; subst hx; subst hu; exact h1
    |succ j=>exact h2.2 j x u (by simpa using hx) (by simpa using hu)⟩
   have less:∀ {d:DV} {u:Value},VD c.bad c.w d u→VD c.ax c.w d u:=fun hd=>hd.mono fun b _ hn=>⟨fun hb=>hn (.inl hb),rfl⟩;cases x with
   |d x =>
    simp only [pa] at h;cases hr:pa c.heap l with
    |none=>rw [hr] at h; cases h
    |some r =>
     rw [hr] at h;cases h;cases qD with
     |d _ _ hd=>exact fin (less hd) (zy ho hf hr hg uw)
   |own b g =>
    simp only [pa,dH] at h;simp only [uv] at hg;split at hg
    case h_2=>cases hg
    rename_i q;have q:=Nat.eq_of_beq_eq_true q;subst q;split at h
    case h_2=>cases h
    rename_i g' ts m hb;obtain rfl:=hf b g' ts m hb;cases hr:pa c.heap l with
    |none=>rw [hr] at h; cases h
    |some r =>
     rw [hr] at h;cases h;refine fin ?_ (zy ho hf hr hg uw);obtain ⟨q0,q1,q2⟩:=ho.box b _ hb;rcases ln hb qD with ⟨blk,cap,r1,rfl⟩ | ⟨rfl,rfl,r1⟩
     ·rcases q2 with ⟨q2,-⟩ | ⟨iK,il,vs',q2,q3,q4,q5,q6,q7⟩
      ·rw [r1] at q2; cases q2
      rw [r1] at q2; cases q2;refine .sl m blk 0 cap ts.2 (fun i j=>(vs'[i*ts.2+j]?).getD undef) (fun _ gb=>ho.sep b blk cap r1 gb) q0 q5 (fun i e he=>q1 i e he) (fun i j e x he hx=>?_) (fun i j e x he hx=>?_) (fun i j e x he hx=>?_)
      ·obtain ⟨v,p1,p2,p3⟩:=q7 i j e x he hx;rw [p1,Option.getD_some];exact ku q3 _ v (by simpa using p1)
      ·obtain ⟨v,p1,p2,p3⟩:=q7 i j e x he hx;simp only [p1,Option.getD_some];exact less p3
      ·obtain ⟨v,p1,p2,p3⟩:=q7 i j e x he hx;simp only [p1,Option.getD_some];exact p2
     ·exact .slnil
   |_=>cases h
theorem aq.c9 {E:Env} {f:FuncId} {ds:List DV} {h:List ae} {args:List AV} {R:DV→Prop} (H:aq E f ds R) (mj:o8 h=true) (hd:pa h args=some ds) (hg:uv args=true) (hr:∀ r,R r→CN r=true):au E f h args (fun a b=>∃ r,R r∧a = .d r∧b=h):=by
 unfold aq at H;unfold au;refine ⟨H.1,lB mj,fun c vs h1 h2 h3=>?_⟩;subst h1;have iT:qb E.G c.ax c.w:=fun g e aC=>by
  have hp:∀ p,VR c (.bE e 0) p→VR ⟨fun _=>none,[],c.ax,c.w⟩ (.bE e 0) p:=fun p hp=>by
   cases hp with
   |bE _ _ blk o' fv k1 k2 k3 k4=>exact .bE _ _ blk o' fv (fun hb=>k1 (.inl (rH.1 hb))) k2 k3 (fun j x hx=>rI ((k4 j x hx).mono fun b _ hn=>⟨fun hb=>hn (.inl hb),rfl⟩))
  exact hp _ (h2.eZ g e aC)
 refine (H.2 c.ax c.w vs h2.bN iT (zy h2 (lB mj) hd hg h3)).mono fun e w' ⟨v,r,k1,k2,k3,k4⟩=>?_;obtain ⟨q1,q2⟩:=h2.grow k4;exact ⟨c.dP w',.d r,v,k1,rfl,⟨r,k2,rfl,rfl⟩,.d _ _ (Hg (hr r k2) k3),q1,(Rel.refl c (lB mj)).step q2⟩
end Go.aw
end
