/- Several texts of mine, one behind the other. Conditions: as each says. -/
import Derived.Test.YtfmdaiojokniiaaGreatDoorY1
set_option linter.unusedVariables false
set_option linter.unusedSimpArgs false
section
namespace Go.ax
open Go Go.RowKit
def cM:List Nat→Nat→Option Nat
 | [],_=>none
 |a::l,j=>match Nat.beq a j with
  |true=>some 0
  |false=>(cM l j).map (· + 1)
theorem iI:∀ {l:List Nat} {j i:Nat},cM l j=some i→l[i]? = some j
 |a::l,j,i,h=>by
  simp only [cM] at h;split at h
  ·rename_i q; cases h; simp [Nat.eq_of_beq_eq_true q]
  ·cases hx:cM l j with
   |none=>rw [hx] at h; cases h
   |some k=>rw [hx] at h; cases h; simpa using iI hx
theorem ry:∀ {l:List Nat} {j i:Nat},l.Nodup→l[i]? = some j→cM l j=some i
 | [],_,_,_,h=>by simp at h
 |a::l,j,0,_,h=>by simp at h; subst h; simp [cM]
 |a::l,j,i+1,hn,h=>by
  have hl:l[i]? = some j:=by simpa using h
  have aJ:(Nat.beq a j)=false:=by
   cases hb:Nat.beq a j with
   |false=>rfl
   |true =>
    have:=Nat.eq_of_beq_eq_true hb;subst this;exact absurd (List.mem_of_getElem? hl) (List.nodup_cons.1 hn).1
  simp only [cM,aJ,ry (List.nodup_cons.1 hn).2 hl];rfl
theorem BN {l:List Nat} {j:Nat} (h:cM l j=none) (hn:l.Nodup):j ∉ l:=fun hm=>by
 obtain ⟨i,hi,he⟩:=List.getElem_of_mem hm;rw [ry hn (i:=i) (by simp [hi,he])] at h;cases h
def kU (h:List ae) (j:Nat):Nat:=match dc h j with
 |some (.arr g _ _)=>g
 |_=>0
section
variable (J:List Nat) (h:List ae)
def fz:AV→AV
 | .own j g=>match cM J j with
  |some i=>match dc h j with
   |some (.arr g' _ _)=>match Nat.beq g g' with
    |true => .own i 0
    |false => .any
   |_ => .any
  |none => .any
 | .ptr j off=>match cM J j with
  |some i=>match dc h j with
   |some (.cells _) => .ptr i off
   |_ => .any
  |none => .any
 | .cC j g k off=>match cM J j with
  |some i=>match dc h j with
   |some (.arr g' _ _)=>match Nat.beq g g' with
    |true => .cC i 0 k off
    |false => .any
   |_ => .any
  |none => .any
 | .cut j g k q=>match cM J j with
  |some i=>match dc h j with
   |some (.arr g' _ _)=>match Nat.beq g g' with
    |true => .cut i 0 k q
    |false => .any
   |_ => .any
  |none => .any
 | .map j=>match cM J j with
  |some i=>match dc h j with
   |some (.map _) => .map i
   |_ => .any
  |none => .any
 | .d x => .d x
 | .bJ e off => .bJ e off
 |_ => .any
def eU:AV→AV
 | .agg l => .agg (l.map (fz J h))
 | .aF l => .aF (l.map (fz J h))
 | .fn f a b => .fn f (a.map (fz J h)) (b.map (fz J h))
 |x=>fz J h x
def mI:ae→ae
 | .arr _ ts l => .arr 0 ts l
 | .cells cs => .cells (cs.map (fz J h))
 |b=>b
def dG:List ae:=J.map fun j=>match dc h j with
 |some b=>mI J h b
 |none => .gone
def eV (i:Nat):Nat:=match dc J i with
 |some j=>j
 |none=>h.length+(i - J.length)
def lY (i:Nat):Nat:=match dc J i with
 |some j=>kU h j
 |none=>0
def jn:AV→AV
 | .own i g => .own (eV J h i) (lY J h i+g)
 | .ptr i off => .ptr (eV J h i) off
 | .cC i g k off => .cC (eV J h i) (lY J h i+g) k off
 | .cut i g k q => .cut (eV J h i) (lY J h i+g) k q
 | .map i => .map (eV J h i)
 | .d x => .d x
 | .bJ e off => .bJ e off
 |_ => .any
def tB:AV→AV
 | .agg l => .agg (l.map (jn J h))
 | .aF l => .aF (l.map (jn J h))
 | .fn f a b => .fn f (a.map (jn J h)) (b.map (jn J h))
 |x=>jn J h x
def gI:AV→AV
 | .aF l => .aF (l.map (tB J h))
 |x=>tB J h x
def kq (g0:Nat):ae→ae
 | .arr g ts l => .arr (g0+g) ts l
 | .cells cs => .cells (cs.map (jn J h))
 |b=>b
def nA (h1:List ae):Nat→List ae→List ae
 |_,[]=>[]
 |j,b::r=>(match cM J j with
  |some i=>match dc h1 i with
   |some b1=>kq J h (kU h j) b1
   |none => .gone
  |none=>b)::nA h1 (j+1) r
def eo (h1:List ae):List ae:=nA J h h1 0 h++(h1.drop J.length).map (kq J h 0)
end
section
variable {J:List Nat} {h:List ae}
theorem tC (h1:List ae):∀ (j:Nat) (r:List ae),(nA J h h1 j r).length=r.length
 |_,[]=>rfl
 |j,b::r=>by simp [nA,tC h1 (j+1) r]
theorem BO (h1:List ae):∀ (j k:Nat) (r:List ae),(nA J h h1 j r)[k]? = (r[k]?).map fun b=>match cM J (j+k) with
  |some i=>match dc h1 i with
   |some b1=>kq J h (kU h (j+k)) b1
   |none => .gone
  |none=>b
 |_,_,[]=>by simp [nA]
 |j,0,b::r=>by simp [nA]
 |j,k+1,b::r=>by
  simp only [nA,List.getElem?_cons_succ];rw [BO h1 (j+1) k r,show j+1+k=j+(k+1) by omega]
theorem pI (h1:List ae):(eo J h h1).length=h.length+(h1.length - J.length):=by simp [eo,tC]
theorem BP {h1:List ae} {j:Nat} (hj:j<h.length) (hn:cM J j=none):(eo J h h1)[j]? = h[j]? := by
 rw [eo,List.getElem?_append_left (by rw [tC]; exact hj),BO,Nat.zero_add,hn];simp
theorem FV {h1:List ae} {i j:Nat} (hj:j<h.length) (hi:cM J j=some i) {b:ae} (hb:h1[i]? = some b):(eo J h h1)[j]? = some (kq J h (kU h j) b):=by
 rw [eo,List.getElem?_append_left (by rw [tC]; exact hj),BO,Nat.zero_add,hi];simp [dC,hb,hj]
theorem M9 {h1:List ae} {k:Nat}:(eo J h h1)[h.length+k]? = (h1[J.length+k]?).map (kq J h 0):=by
 rw [eo,List.getElem?_append_right (by rw [tC]; omega),tC];simp
def Cx.dO (c:Cx) (J:List Nat):Cx:=⟨fun i=>match J[i]? with | some j=>c.own j | none=>none,dG J c.heap,fun b=>c.ay b∨∃ j n,j ∉ J∧c.own j=some (b,n),c.w⟩
def eW (w:List Nat) (src dst:List ae):List ae:=dst.mapIdx fun j b=>if j∈w then src[j]?.getD b else b
theorem FW {w:List Nat} {src dst:List ae}:(eW w src dst).length=dst.length:=by simp [eW]
theorem oC {w:List Nat} {src dst:List ae} {j:Nat}:(eW w src dst)[j]? = dst[j]?.map fun b=>if j∈w then src[j]?.getD b else b:=by simp [eW]
theorem nB {w:List Nat} {src dst:List ae} {j:Nat} (h:j ∉ w):(eW w src dst)[j]? = dst[j]? := by
 rw [oC];simp [h]
theorem vW {w:List Nat} {src dst:List ae} {j:Nat} {b:ae} (h:j∈w) (hl:j<dst.length) (hb:src[j]? = some b):(eW w src dst)[j]? = some b:=by
 rw [oC,List.getElem?_eq_getElem hl];simp [h,hb]
def dj (J:List Nat) (h h1:List ae):List Nat:=List.range' h.length (h1.length - J.length)
theorem mJ {J:List Nat} {h h1:List ae} {j:Nat}:j∈dj J h h1↔h.length≤j∧j<h.length+(h1.length - J.length):=by simp [dj]
def Cx.take (c c1:Cx) (J:List Nat) (h:List ae):Cx:=⟨fun j=>match cM J j with | some i=>c1.own i | none=>if j∈dj J h c1.heap then c1.own (J.length+(j - h.length)) else c.own j,eW (J++dj J h c1.heap) (eo J h c1.heap) c.heap,c.ay,c1.w⟩
variable {c c1:Cx} {G:List (Nat × DV)}
theorem FY (b:Nat):(c.dO J).bad b↔c.bad b:=by
 constructor
 ·rintro ((hb | ⟨j,n,-,hj⟩) | ⟨i,n,hi⟩)
  ·exact .inl hb
  ·exact .inr ⟨j,n,hj⟩
  ·simp only [Cx.dO] at hi;split at hi
   ·exact .inr ⟨_,n,hi⟩
   ·cases hi
 ·rintro (hb | ⟨j,n,hj⟩)
  ·exact .inl (.inl hb)
  ·by_cases hm:j∈J
   ·obtain ⟨i,hi,he⟩:=List.getElem_of_mem hm;refine .inr ⟨i,n,?_⟩;simp only [Cx.dO];rw [show J[i]? = some j by simp [hi,he]];exact hj
   ·exact .inl (.inr ⟨j,n,hm,hj⟩)
theorem vX {x:DV} {v:Value} (hv:VD c.bad c.w x v):VD (c.dO J).bad (c.dO J).w x v:=hv.mono fun b _ hn=>⟨fun hb=>hn ((FY b).1 hb),rfl⟩
theorem pJ {i j:Nat} {b:ae} (hi:J[i]? = some j) (hb:h[j]? = some b):(dG J h)[i]? = some (mI J h b):=by
 simp [dG,hi,dC,hb]
theorem pK {i j:Nat} (hi:J[i]? = some j):(c.dO J).own i=c.own j:=by simp only [Cx.dO,hi]
theorem BQ {x:AV} {v:Value} (hv:VR c x v):VR (c.dO J) (fz J c.heap x) v:=by
 unfold fz;split
 ·rename_i j g;split
  ·rename_i i hi;have hi:=iI hi;rw [dC];split
   ·rename_i g' ts l hb;split
    ·rename_i q;have q:=Nat.eq_of_beq_eq_true q;subst q;have b8:=pJ hi hb;cases hv with
     |own _ _ _ l' blk cap k1 k2=>rw [hb] at k1; cases k1; exact .own i 0 ts l blk cap b8 ((pK hi).trans k2)
     |gj _ _ _ k1 k2=>rw [hb] at k1; cases k1; exact .gj i 0 ts b8 ((pK hi).trans k2)
     |jd _ _ g2 _ _ _ k1 k2 _=>rw [hb] at k1; cases k1; omega
     |ix _ _ _ k1 _=>rw [hb] at k1; cases k1
     |kK _ _ _ _ _ _ k1 _ _=>rw [hb] at k1; cases k1
    ·exact .any _
   ·exact .any _
  ·exact .any _
 ·rename_i j off;split
  ·rename_i i hi;have hi:=iI hi;rw [dC];split
   ·rename_i cs hb;have b8:=pJ hi hb;cases hv with
    |ptr _ _ cs' blk cap k1 k2=>exact .ptr i off _ blk cap b8 ((pK hi).trans k2)
    |hU _ _ _ k1 _=>rw [hb] at k1; cases k1
   ·exact .any _
  ·exact .any _
 ·rename_i j g k off;split
  ·rename_i i hi;have hi:=iI hi;rw [dC];split
   ·rename_i g' ts l hb;split
    ·rename_i q;have q:=Nat.eq_of_beq_eq_true q;subst q;have b8:=pJ hi hb;cases hv with
     |cC _ _ _ _ _ l' blk cap k1 k2 k3=>rw [hb] at k1; cases k1; exact .cC i 0 k off ts l blk cap b8 ((pK hi).trans k2) k3
     |kc _ _ g2 _ _ _ _ _ k1 k2 _=>rw [hb] at k1; cases k1; omega
     |ke _ _ _ _ _ k1 _=>rw [hb] at k1; cases k1
    ·exact .any _
   ·exact .any _
  ·exact .any _
 ·rename_i j g k qq;split
  ·rename_i i hi;have hi:=iI hi;rw [dC];split
   ·rename_i g' ts l hb;split
    ·rename_i q;have q:=Nat.eq_of_beq_eq_true q;subst q;have b8:=pJ hi hb;cases hv with
     |cut _ _ _ _ _ l' blk cap o k1 k2 k3 k4 k5=>rw [hb] at k1; cases k1; exact .cut i 0 k qq ts l blk cap o b8 ((pK hi).trans k2) k3 k4 k5
     |lF _ _ g2 _ _ _ _ _ k1 k2 _=>rw [hb] at k1; cases k1; omega
     |lG _ _ _ _ _ k1 _=>rw [hb] at k1; cases k1
    ·exact .any _
   ·exact .any _
  ·exact .any _
 ·rename_i j;split
  ·rename_i i hi;have hi:=iI hi;rw [dC];split
   ·rename_i es hb;have b8:=pJ hi hb;cases hv with
    |map _ du blk cap k1 k2=>exact .map i _ blk cap b8 ((pK hi).trans k2)
    |lH _ _ k1 _=>rw [hb] at k1; cases k1
   ·exact .any _
  ·exact .any _
 ·cases hv with | d _ _ hx=>exact .d _ _ (vX hx)
 ·cases hv with
  |bJ _ _ blk o f k1 k2 k3 k4=>exact .bJ _ _ blk o f (fun hb=>k1 ((FY _).1 hb)) k2 k3 (fun j x hx=>vX (k4 j x hx))
 ·exact .any _
theorem vY {l:List AV} {vs:List Value} (hv:VL c l vs):VL (c.dO J) (l.map (fz J c.heap)) vs :=
 ⟨by simpa using hv.1,fun j x v hx hu=>by
  rw [List.getElem?_map] at hx;cases hy:l[j]? with
  |none=>rw [hy] at hx; cases hx
  |some y=>rw [hy] at hx; cases hx; exact BQ (hv.2 j y v hy hu)⟩
theorem vZ {l:List AV} {v:Value} (h:VR c (.aF l) v):∃ vs:List Value,v = .tuple vs.toArray∧VL c l vs:=by
 cases h with
 |aF _ vs hl hv=>exact ⟨vs.toList,by simp,by simpa using hl,fun j x v hx hu=>hv j x v hx (by simpa using hu)⟩
theorem v7 {l:List AV} {vs:List Value} (h:VL c l vs):VR c (.aF l) (.tuple vs.toArray) :=
 .aF l vs.toArray (by simpa using h.1) (fun j x v hx hv=>h.2 j x v hx (by simpa using hv))
theorem BR {f:Fn} {a b:List AV} {v1 v2:List Value} (h1:VL c a v1) (h2:VL c b v2):VR c (.fn f a b) (.func f v1.toArray v2.toArray) :=
 .fn _ _ _ _ _ (by simpa using h1.1) (by simpa using h2.1) (fun j x v hx hv=>h1.2 j x v hx (by simpa using hv)) (fun j x v hx hv=>h2.2 j x v hx (by simpa using hv))
theorem FZ {x:AV} {v:Value} (hv:VR c x v):VR (c.dO J) (eU J c.heap x) v:=by
 unfold eU;split
 ·obtain ⟨vs,rfl,h1⟩:=nk hv; exact sU (vY h1)
 ·obtain ⟨vs,rfl,h1⟩:=vZ hv; exact v7 (vY h1)
 ·obtain ⟨v1,v2,rfl,h1,h2⟩:=km hv; exact BR (vY h1) (vY h2)
 ·exact BQ hv
theorem F0 {l:List AV} {vs:List Value} (hv:VL c l vs):VL (c.dO J) (l.map (eU J c.heap)) vs :=
 ⟨by simpa using hv.1,fun j x v hx hu=>by
  rw [List.getElem?_map] at hx;cases hy:l[j]? with
  |none=>rw [hy] at hx; cases hx
  |some y=>rw [hy] at hx; cases hx; exact FZ (hv.2 j y v hy hu)⟩
theorem F1 {l:List Nat} (hn:l.Nodup) {i j a:Nat} (hi:l[i]? = some a) (hj:l[j]? = some a):i=j:=by
 have h1:=ry hn hi;have h2:=ry hn hj;rw [h1] at h2;cases h2; rfl
theorem aK.dO (ho:aK G c) (hn:J.Nodup):aK G (c.dO J) where
 bN:=fun b hb=>hb.elim (ho.bN b) fun ⟨j,n,_,hj⟩=>(ho.br j b n hj).1
 br:=fun i b n hi=>by
  simp only [Cx.dO] at hi;split at hi
  ·rename_i j hj;exact ⟨(ho.br j b n hi).1,by show i<(dG J c.heap).length; simp only [dG,List.length_map]; exact aT hj⟩
  ·cases hi
 inj:=fun i j b n m hi hj=>by
  simp only [Cx.dO] at hi hj;split at hi
  ·rename_i a ha;split at hj
   ·rename_i a' BS;have:=ho.inj a a' b n m hi hj;subst this;exact F1 hn ha BS
   ·cases hj
  ·cases hi
 sep:=fun i b n hi hb=>by
  simp only [Cx.dO] at hi;split at hi
  ·rename_i a ha;rcases hb with hb | ⟨j,m,hj,hb⟩
   ·exact ho.sep a b n hi hb
   ·have:=ho.inj a j b n m hi hb;subst this;exact hj (List.mem_of_getElem? ha)
  ·cases hi
 box:=fun i bx hi=>by
  have bV:(dG J c.heap)[i]? = some bx:=hi;simp only [dG,List.getElem?_map] at bV;cases hs:J[i]? with
  |none=>rw [hs] at bV; cases bV
  |some j =>
   rw [hs] at bV;simp only [Option.map_some,Option.some.injEq,dC] at bV;have bA:=pK (c:=c) hs;cases hb:c.heap[j]? with
   |none =>
    rw [hb] at bV;subst bV;show (c.dO J).own i=none;rw [bA];cases hx:c.own j with
    |none=>rfl
    |some p=>have:=(ho.br j p.1 p.2 hx).2; rw [List.getElem?_eq_none_iff] at hb; omega
   |some b =>
    rw [hb] at bV;subst bV;have c8:=ho.box j b hb;cases b with
    |cells cs =>
     obtain ⟨blk,cap,vs,ty,k1,k2,k3⟩:=ho.cells hb;have:=vY (J:=J) k3;exact ⟨blk,cap,vs,ty,bA.trans k1,k2,by simpa using this.1.symm,fun j x v hx hv=>this.2 j x v hx (by simpa using hv)⟩
    |arr g ts l =>
     obtain ⟨q0,q1,q2⟩:=c8;refine ⟨q0,q1,?_⟩;rcases q2 with ⟨q2,q3⟩ | ⟨blk,cap,vs,q2,q3,q4,q5,q6,q7⟩
     ·exact .inl ⟨bA.trans q2,q3⟩
     ·refine .inr ⟨blk,cap,vs,bA.trans q2,q3,q4,q5,q6,fun i j e x he hx=>?_⟩;obtain ⟨v,r1,r2,r3⟩:=q7 i j e x he hx;exact ⟨v,r1,r2,vX r3⟩
    |map es =>
     obtain ⟨blk,cap,en,ck,k1,k2,k3,k4⟩:=c8;exact ⟨blk,cap,en,ck,bA.trans k1,k2,k3,fun j k x m hx hm=>⟨vX (k4 j k x m hx hm).1,vX (k4 j k x m hx hm).2⟩⟩
    |gone=>exact bA.trans c8
    |hole=>exact bA.trans c8
 fm:=fun g e hg=>by
  have:=BQ (J:=J) (ho.fm g e hg);exact this
theorem M':s7 (dG J h):=fun i g ts l hi=>by
 simp only [dG,List.getElem?_map] at hi;cases hs:J[i]? with
 |none=>rw [hs] at hi; cases hi
 |some j =>
  rw [hs] at hi;simp only [Option.map_some,Option.some.injEq] at hi;split at hi
  ·rename_i b _;cases b <;> simp [mI] at hi;exact hi.1.symm
  ·cases hi
structure jJ (c c1:Cx) (J:List Nat) (h:List ae):Prop where
 nodup:J.Nodup
 lt:∀ j∈J,j<h.length
 len:h.length+(c1.heap.length - J.length)≤c.heap.length
 same:∀ j∈J,c.heap[j]? = h[j]?
 new:∀ j∈dj J h c1.heap,c.heap[j]? = some .hole
 rel:Rel (c.dO J) c1
 own:∀ i b n,c1.own i=some (b,n)→i<c1.heap.length
theorem Na {h1:List ae} {j:Nat} (ai:∀ j∈J,j<h.length) (hj:j∈dj J h h1):cM J j=none:=by
 cases hx:cM J j with
 |none=>rfl
 |some i=>have:=ai _ (List.mem_of_getElem? (iI hx)); have:=mJ.1 hj; omega
theorem F2 {i j:Nat} (hn:J.Nodup) (hi:J[i]? = some j):(c.take c1 J h).own j=c1.own i:=by
 simp only [Cx.take,ry hn hi]
theorem BT {j:Nat} (hn:cM J j=none) (hj:j ∉ dj J h c1.heap):(c.take c1 J h).own j=c.own j:=by
 simp only [Cx.take,hn,if_neg hj]
theorem F3 {i:Nat} (hs:J[i]? = none) (hi:i<c1.heap.length):h.length+(i - J.length)∈dj J h c1.heap:=by
 rw [List.getElem?_eq_none_iff] at hs;rw [mJ];omega
theorem BU (hb:jJ c c1 J h) {i:Nat} (hi:i<c1.heap.length):(c.take c1 J h).own (eV J h i)=c1.own i:=by
 unfold eV;rw [dC];split
 ·rename_i j hj; exact F2 hb.nodup hj
 ·rename_i hj;have hm:=F3 (h:=h) hj hi;rw [List.getElem?_eq_none_iff] at hj;simp only [Cx.take,Na hb.lt hm,if_pos hm]
  congr 1
  omega
theorem yB (hb:jJ c c1 J h) {i:Nat} {b:ae} (hi:c1.heap[i]? = some b):(c.take c1 J h).heap[eV J h i]? = some (kq J h (lY J h i) b):=by
 unfold eV lY;rw [dC];show (eW _ (eo J h c1.heap) c.heap)[_]? = _;have hlen:=hb.len;split
 ·rename_i j hj;have hl:=hb.lt j (List.mem_of_getElem? hj);exact vW (List.mem_append_left _ (List.mem_of_getElem? hj)) (by omega) (FV hl (ry hb.nodup hj) hi)
 ·rename_i hj;have hm:=F3 (h:=h) hj (aT hi);have Nb:=mJ.1 hm;rw [List.getElem?_eq_none_iff] at hj;exact vW (List.mem_append_right _ hm) (by omega) (by rw [M9,show J.length+(i - J.length)=i by omega,hi]; rfl)
theorem tD (hb:jJ c c1 J h) {i j:Nat} {b:ae} (hi:J[i]? = some j) (h1:c1.heap[i]? = some b):(c.take c1 J h).heap[j]? = some (kq J h (kU h j) b):=by
 have:=yB hb h1
 simpa only [eV,lY,dC,hi] using this
theorem F4 {j:Nat} (hn:cM J j=none) (dg:J.Nodup) (hj:j ∉ dj J h c1.heap):(c.take c1 J h).heap[j]? = c.heap[j]? :=
 nB fun hm=>(List.mem_append.1 hm).elim (BN hn dg) hj
theorem tE (hb:jJ c c1 J h) {j b n:Nat} (hj:(c.take c1 J h).own j=some (b,n)):(∃ i,j=eV J h i∧i<c1.heap.length∧c1.own i=some (b,n))∨(cM J j=none∧j ∉ dj J h c1.heap∧c.own j=some (b,n)):=by
 simp only [Cx.take] at hj;split at hj
 ·rename_i i hi;exact .inl ⟨i,by simp only [eV,dC,iI hi],hb.own i b n hj,hj⟩
 ·rename_i hx;split at hj
  ·rename_i hm;have hm:=mJ.1 hm;refine .inl ⟨_,?_,hb.own _ b n hj,hj⟩;have:J[J.length+(j - h.length)]? = none:=List.getElem?_eq_none (by omega);simp only [eV,dC,this];omega
  ·rename_i hm; exact .inr ⟨hx,hm,hj⟩
theorem F5 (ho:aK G c) (hb:jJ c c1 J h) (b:Nat):(c.take c1 J h).bad b↔c1.bad b:=by
 constructor
 ·rintro (hx | ⟨j,n,hx⟩)
  ·refine .inl ?_; rw [hb.rel.ay]; exact .inl hx
  ·rcases tE hb hx with ⟨i,-,-,hi⟩ | ⟨h1,-,h3⟩
   ·exact .inr ⟨i,n,hi⟩
   ·refine .inl ?_; rw [hb.rel.ay]; exact .inr ⟨j,n,BN h1 hb.nodup,h3⟩
 ·rintro (hx | ⟨i,n,hx⟩)
  ·rw [hb.rel.ay] at hx;rcases hx with hx | ⟨j,n,hj,hx⟩
   ·exact .inl hx
   ·refine .inr ⟨j,n,?_⟩;have h1:cM J j=none:=by
     cases hi:cM J j with
     |none=>rfl
     |some i=>exact absurd (List.mem_of_getElem? (iI hi)) hj
    rw [BT h1 (fun hm=>by have:=ho.box j _ (hb.new j hm); rw [show c.own j=none from this] at hx; cases hx)];exact hx
  ·exact .inr ⟨_,n,(BU hb (hb.own i b n hx)).trans hx⟩
theorem v8 (ho:aK G c) (hb:jJ c c1 J h) {x:DV} {v:Value} (hv:VD c1.bad c1.w x v):VD (c.take c1 J h).bad (c.take c1 J h).w x v :=
 hv.mono fun b _ hn=>⟨fun h=>hn ((F5 ho hb b).1 h),rfl⟩
theorem F6 (ho:aK G c) (hb:jJ c c1 J h) {x:AV} {v:Value} (hv:VR c1 x v):VR (c.take c1 J h) (jn J h x) v:=by
 have hp:∀ {i:Nat} {b:ae},c1.heap[i]? = some b→(c.take c1 J h).heap[eV J h i]? = some (kq J h (lY J h i) b):=fun k=>yB hb k;have hw:∀ {i:Nat} {b:ae},c1.heap[i]? = some b→(c.take c1 J h).own (eV J h i)=c1.own i:=fun k=>BU hb (aT k);unfold jn;split
 ·rename_i i g;cases hv with
  |own _ _ ts l blk cap k1 k2=>exact .own _ _ ts l blk cap (hp k1) ((hw k1).trans k2)
  |gj _ _ ts k1 k2=>exact .gj _ _ ts (hp k1) ((hw k1).trans k2)
  |jd _ _ g2 ts l _ k1 k2 k3=>exact .jd _ _ _ ts l _ (hp k1) (by omega) k3
  |ix _ _ _ k1 k3=>exact .ix _ _ _ (hp k1) k3
  |kK _ _ cs blk cap m k1 k2 k3=>exact .kK _ _ _ blk cap m (hp k1) ((hw k1).trans k2) (by simpa using k3)
 ·rename_i i off;cases hv with
  |ptr _ _ cs blk cap k1 k2=>exact .ptr _ _ _ blk cap (hp k1) ((hw k1).trans k2)
  |hU _ _ _ k1 k3=>exact .hU _ _ _ (hp k1) k3
 ·rename_i i g k off;cases hv with
  |cC _ _ _ _ ts l blk cap k1 k2 k3=>exact .cC _ _ _ _ ts l blk cap (hp k1) ((hw k1).trans k2) k3
  |kc _ _ g2 _ _ ts l _ k1 k2 k3=>exact .kc _ _ _ _ _ ts l _ (hp k1) (by omega) k3
  |ke _ _ _ _ _ k1 k3=>exact .ke _ _ _ _ _ (hp k1) k3
 ·rename_i i g k qq;cases hv with
  |cut _ _ _ _ ts l blk cap o k1 k2 k3 k4 k5=>exact .cut _ _ _ _ ts l blk cap o (hp k1) ((hw k1).trans k2) k3 k4 k5
  |lF _ _ g2 _ _ ts l _ k1 k2 k3=>exact .lF _ _ _ _ _ ts l _ (hp k1) (by omega) k3
  |lG _ _ _ _ _ k1 k3=>exact .lG _ _ _ _ _ (hp k1) k3
 ·rename_i i;cases hv with
  |map _ es blk cap k1 k2=>exact .map _ es blk cap (hp k1) ((hw k1).trans k2)
  |lH _ _ k1 k3=>exact .lH _ _ (hp k1) k3
 ·cases hv with | d _ _ hx=>exact .d _ _ (v8 ho hb hx)
 ·cases hv with
  |bJ _ _ blk o f k1 k2 k3 k4=>exact .bJ _ _ blk o f (fun h=>k1 ((F5 ho hb _).1 h)) k2 k3 (fun j x hx=>v8 ho hb (k4 j x hx))
 ·exact .any _
theorem pL {c c':Cx} {f:AV→AV} (hf:∀ {x:AV} {v:Value},VR c x v→VR c' (f x) v) {l:List AV} {vs:List Value} (hv:VL c l vs):VL c' (l.map f) vs :=
 ⟨by simpa using hv.1,fun j x v hx hu=>by
  rw [List.getElem?_map] at hx;cases hy:l[j]? with
  |none=>rw [hy] at hx; cases hx
  |some y=>rw [hy] at hx; cases hx; exact hf (hv.2 j y v hy hu)⟩
theorem F7 (ho:aK G c) (hb:jJ c c1 J h) {x:AV} {v:Value} (hv:VR c1 x v):VR (c.take c1 J h) (tB J h x) v:=by
 have hA:∀ {x:AV} {v:Value},VR c1 x v→VR (c.take c1 J h) (jn J h x) v:=fun h=>F6 ho hb h;unfold tB;split
 ·obtain ⟨vs,rfl,h1⟩:=nk hv; exact sU (pL hA h1)
 ·obtain ⟨vs,rfl,h1⟩:=vZ hv; exact v7 (pL hA h1)
 ·obtain ⟨v1,v2,rfl,h1,h2⟩:=km hv; exact BR (pL hA h1) (pL hA h2)
 ·exact hA hv
theorem BV (ho:aK G c) (hb:jJ c c1 J h) {x:AV} {v:Value} (hv:VR c1 x v):VR (c.take c1 J h) (gI J h x) v:=by
 unfold gI;split
 ·obtain ⟨vs,rfl,h1⟩:=vZ hv; exact v7 (pL (fun h=>F7 ho hb h) h1)
 ·exact F7 ho hb hv
theorem iy.take (ho:aK G c) (hb:jJ c c1 J h) {i g:Nat} {b:ae} (hi:i<c1.heap.length) (c8:iy c1 i b):iy (c.take c1 J h) (eV J h i) (kq J h g b):=by
 have bA:=BU hb hi;cases b with
 |cells cs =>
  obtain ⟨blk,cap,vs,ty,k1,k2,k3,k4⟩:=c8;have:VL (c.take c1 J h) (cs.map (jn J h)) vs.toList:=pL (fun h=>F6 ho hb h) ⟨by simpa using k3.symm,fun j x v hx hv=>k4 j x v hx (by simpa using hv)⟩;exact ⟨blk,cap,vs,ty,bA.trans k1,k2,by simpa using this.1.symm,fun j x v hx hv=>this.2 j x v hx (by simpa using hv)⟩
 |arr g ts l =>
  obtain ⟨q0,q1,q2⟩:=c8;refine ⟨q0,q1,?_⟩;rcases q2 with ⟨q2,q3⟩ | ⟨blk,cap,vs,q2,q3,q4,q5,q6,q7⟩
  ·exact .inl ⟨bA.trans q2,q3⟩
  ·refine .inr ⟨blk,cap,vs,bA.trans q2,q3,q4,q5,q6,fun i j e x he hx=>?_⟩;obtain ⟨v,r1,r2,r3⟩:=q7 i j e x he hx;exact ⟨v,r1,r2,v8 ho hb r3⟩
 |map es =>
  obtain ⟨blk,cap,en,ck,k1,k2,k3,k4⟩:=c8;exact ⟨blk,cap,en,ck,bA.trans k1,k2,k3,fun j k x m hx hm=>⟨v8 ho hb (k4 j k x m hx hm).1,v8 ho hb (k4 j k x m hx hm).2⟩⟩
 |gone=>exact bA.trans c8
 |hole=>exact bA.trans c8
theorem BW {i b n:Nat} (hi:(c.dO J).own i=some (b,n)):∃ k,J[i]? = some k∧c.own k=some (b,n):=by
 simp only [Cx.dO] at hi;split at hi
 ·rename_i k hs; exact ⟨k,hs,hi⟩
 ·cases hi
theorem yC (ho:aK G c) (hb:jJ c c1 J h):Step c (c.take c1 J h) where
 ay:=rfl
 bN:=ho.bN
 os:=hb.rel.os
 tape:=hb.rel.tape
 output:=hb.rel.output
 size:=hb.rel.size
 keep:=fun b ai hn=>hb.rel.keep b ai (fun i n hi=>by obtain ⟨k,-,hk⟩:=BW hi; exact hn k n hk)
 db:=fun j b n hj ai=>by
  rcases tE hb hj with ⟨i,rfl,-,hi⟩ | ⟨-,-,h3⟩
  ·obtain ⟨m,hk⟩:=hb.rel.db i b n hi ai;obtain ⟨k,hs,hk⟩:=BW hk;exact ⟨m,by simpa only [eV,dC,hs] using hk⟩
  ·exact ⟨n,h3⟩
 boxes:=fun j bx hj=>by
  cases hx:cM J j with
  |none =>
   by_cases hm:j∈dj J h c1.heap
   ·rw [hb.new j hm] at hj;cases hj;exact ⟨_,oC.trans (by rw [hb.new j hm]; rfl)⟩
   have h':(c.take c1 J h).heap[j]? = some bx:=(F4 hx hb.nodup hm).trans hj;have cI:=BT (c:=c) (c1:=c1) hx hm;cases bx with
   |cells cs=>exact .inl ⟨cs,h',cI,rfl⟩
   |arr g sz l=>exact .inl ⟨g,l,h',.inr ⟨rfl,rfl,cI⟩⟩
   |map es=>exact .inl ⟨es,h',cI⟩
   |gone=>exact h'
   |hole=>exact ⟨_,h'⟩
  |some i =>
   have hi:=iI hx;have Nc:=hb.same j (List.mem_of_getElem? hi);have h1:=hb.rel.boxes i _ (pJ hi hj);have cI:=F2 (c:=c) (c1:=c1) (h:=h) hb.nodup hi;have rz:=pK (c:=c) hi;have eh:c1.heap[i]? = some .gone→(c.take c1 J h).heap[j]? = some .gone:=fun h=>tD hb hi h;cases bx with
   |cells cs =>
    rcases h1 with ⟨cs',h1,h2,h3⟩ | h1
    ·exact .inl ⟨_,tD hb hi h1,cI.trans (h2.trans rz),by simpa [mI] using h3⟩
    ·exact .inr (eh h1)
   |arr g ts l =>
    rcases h1 with ⟨g',l',h1,h2⟩ | h1
    ·have aC:kU h j=g:=by simp only [kU,dC,← Nc,hj]
     have h3:=tD hb hi h1;simp only [kq,aC] at h3;refine .inl ⟨g+g',l',h3,?_⟩;rcases h2 with h2 | ⟨h2,h4,h5⟩
     ·left; omega
     ·exact .inr ⟨by omega,h4,cI.trans (h5.trans rz)⟩
    ·exact .inr (eh h1)
   |map es =>
    rcases h1 with ⟨du,h1,h2⟩ | h1
    ·exact .inl ⟨du,tD hb hi h1,cI.trans (h2.trans rz)⟩
    ·exact .inr (eh h1)
   |gone=>exact eh h1
   |hole=>obtain ⟨b,h1⟩:=h1; exact ⟨_,tD hb hi h1⟩
theorem aK.take (ho:aK G c) (wa:aK G c1) (hb:jJ c c1 J h):aK G (c.take c1 J h):=by
 refine ho.next (yC ho hb) (fun j b n hj=>?_) (fun j j' b n m hj dW=>?_) (fun j bx hj=>?_)
 ·rcases tE hb hj with ⟨i,rfl,h2,hi⟩ | ⟨-,-,h3⟩
  ·exact ⟨(wa.br i b n hi).1,aT (yB hb (List.getElem?_eq_getElem h2))⟩
  ·exact ⟨Nat.lt_of_lt_of_le (ho.br j b n h3).1 hb.rel.size,by show j<(eW _ _ _).length; rw [FW]; exact (ho.br j b n h3).2⟩
 ·have F8:∀ j i n m,cM J j=none→c.own j=some (b,n)→c1.own i=some (b,m)→False:=fun j i n m hx hj hi=>by
   refine wa.sep i b m hi ?_;rw [hb.rel.ay];exact .inr ⟨j,n,BN hx hb.nodup,hj⟩
  rcases tE hb hj with ⟨i,rfl,-,hi⟩ | ⟨hx,-,F9⟩
  ·rcases tE hb dW with ⟨i',rfl,-,bV⟩ | ⟨eQ,-,BX⟩
   ·rw [wa.inj i i' b n m hi bV]
   ·exact (F8 j' i m n eQ BX hi).elim
  ·rcases tE hb dW with ⟨i',rfl,-,bV⟩ | ⟨eQ,-,BX⟩
   ·exact (F8 j i' n m hx F9 bV).elim
   ·exact ho.inj j j' b n m F9 BX
 ·cases hx:cM J j with
  |none =>
   by_cases hm:j∈dj J h c1.heap
   ·right;have Nb:=mJ.1 hm;have hl:J.length+(j - h.length)<c1.heap.length:=by omega
    have F':eV J h (J.length+(j - h.length))=j:=by
     have:J[J.length+(j - h.length)]? = none:=List.getElem?_eq_none (by omega);simp only [eV,dC,this];omega
    have h2:=yB hb (List.getElem?_eq_getElem hl);rw [F',hj] at h2;cases h2;have:=(wa.box _ _ (List.getElem?_eq_getElem hl)).take (g:=lY J h (J.length+(j - h.length))) ho hb hl
    rwa [F'] at this
   ·left;rw [F4 hx hb.nodup hm] at hj;refine ⟨hj,BT hx hm,fun b n b8=>hb.rel.keep b (ho.br j b n b8).1 (fun i m hi=>?_)⟩;obtain ⟨k,hs,hk⟩:=BW hi;have:=ho.inj j k b n m b8 hk;subst this;rw [ry hb.nodup hs] at hx;cases hx
  |some i =>
   right;have hi:=iI hx;have hl:=hb.lt j (List.mem_of_getElem? hi);obtain ⟨b1,nC⟩:∃ b1,c1.heap[i]? = some b1:=by
    have mK:c.heap[j]? = some h[j]:=(hb.same j (List.mem_of_getElem? hi)).trans (List.getElem?_eq_getElem hl);have pM:=hb.rel.boxes i _ (pJ hi mK);generalize mI J c.heap h[j]=bb at pM;cases bb with
    |cells cs=>rcases pM with ⟨_,h,_⟩ | h <;> exact ⟨_,h⟩
    |arr g ts l=>rcases pM with ⟨_,_,h,_⟩ | h <;> exact ⟨_,h⟩
    |map es=>rcases pM with ⟨_,h,_⟩ | h <;> exact ⟨_,h⟩
    |gone=>exact ⟨_,pM⟩
    |hole=>exact pM
   rw [tD hb hi nC] at hj;cases hj;have:=(wa.box i b1 nC).take (g:=kU h j) ho hb (aT nC)
   rwa [show eV J h i=j by simp only [eV,dC,hi]] at this
theorem Ga {H:List ae} (hs:∀ j∈J,H[j]? = h[j]?) (x:AV):fz J H x=fz J h x:=by
 have e:∀ {j i:Nat},cM J j=some i→dc H j=dc h j:=fun hi=>by rw [dC,dC]; exact hs _ (List.mem_of_getElem? (iI hi))
 cases x <;> simp only [fz];all_goals
  split
  ·rename_i hi; rw [e hi]
  ·rfl
theorem Gb {H:List ae} (hs:∀ j∈J,H[j]? = h[j]?) (x:AV):eU J H x=eU J h x:=by
 have e:fz J H=fz J h:=funext (Ga hs);unfold eU;rw [e]
theorem BY {H:List ae} (hs:∀ j∈J,H[j]? = h[j]?):dG J H=dG J h:=by
 have e:fz J H=fz J h:=funext (Ga hs);refine List.map_congr_left fun j hj=>?_;rw [dC,dC,hs j hj];split
 ·unfold mI; rw [e]
 ·rfl
theorem aw.Nd {E:Env} {f:FuncId} {args:List AV} {Q:AV→List ae→Prop} (H:aw E f (dG J h) (args.map (eU J h)) Q) (hn:J.Nodup) (ai:∀ j∈J,j<h.length) (hs:∀ j∈J,c.heap[j]? = h[j]?)
  (hr:∀ r h1,Q r h1→h.length+(h1.length - J.length)≤c.heap.length∧∀ j∈dj J h h1,c.heap[j]? = some .hole) (ho:aK E.G c) {vs:List Value} (hv:VL c args vs) :
  Calls E.P f vs.toArray c.w fun e w'=>∃ (c':Cx) (r:AV) (h1:List ae) (v:Value),e = .returned v∧c'.w=w'∧Q r h1∧c'.heap=eW (J++dj J h h1) (eo J h h1) c.heap∧VR c' (gI J h r) v∧aK E.G c'∧Step c c':=by
 unfold aw at H;have eF:=F0 (J:=J) hv;rw [show eU J c.heap=eU J h from funext (Gb hs)] at eF;refine (H.2.2 (c.dO J) vs (BY hs) (ho.dO hn) eF).mono fun e w' ⟨c1,r,v,k1,k2,k3,k4,k5,k6⟩=>?_;obtain ⟨h1,h2⟩:=hr _ _ k3;have hb:jJ c c1 J h:=⟨hn,ai,h1,hs,h2,k6,fun i b n hi=>(k5.br i b n hi).2⟩;exact ⟨c.take c1 J h,r,c1.heap,v,k1,k2,k3,rfl,BV ho hb k4,ho.take k5 hb,yC ho hb⟩
def Cx.pad (c:Cx) (k:Nat):Cx:={ c with heap:=c.heap++List.replicate k .hole }
theorem yD {k i:Nat} {bx:ae} (hi:c.heap[i]? = some bx):(c.pad k).heap[i]? = some bx:=(List.getElem?_append_left (aT hi)).trans hi
theorem BZ {k i:Nat} (h1:c.heap.length≤i) (h2:i<c.heap.length+k):(c.pad k).heap[i]? = some .hole:=by
 show (c.heap++_)[i]? = _;rw [List.getElem?_append_right h1,List.getElem?_replicate,if_pos (by omega)]
theorem yE (ho:aK G c) (k:Nat):Step c (c.pad k):=⟨rfl,ho.bN,rfl,rfl,rfl,Nat.le_refl _,fun _ _ _=>rfl,fun i b n h _=>⟨n,h⟩,fun i bx hi=>by
  have h':=yD (k:=k) hi;cases bx with
  |cells cs=>exact .inl ⟨cs,h',rfl,rfl⟩
  |arr g sz l=>exact .inl ⟨g,l,h',.inr ⟨rfl,rfl,rfl⟩⟩
  |map es=>exact .inl ⟨es,h',rfl⟩
  |gone=>exact h'
  |hole=>exact ⟨_,h'⟩⟩
theorem aK.pad (ho:aK G c) (k:Nat):aK G (c.pad k):=by
 refine ho.next (yE ho k) (fun i b n hi=>⟨(ho.br i b n hi).1,?_⟩) ho.inj fun i bx hi=>?_
 ·have:=(ho.br i b n hi).2;show i<(c.heap++_).length;rw [List.length_append];omega
 ·rcases Nat.lt_or_ge i c.heap.length with hl | hl
  ·exact .inl ⟨by rw [← hi,yD (List.getElem?_eq_getElem hl)]; exact List.getElem?_eq_getElem hl,rfl,fun _ _ _=>rfl⟩
  ·have h2:=aT hi;rw [show (c.pad k).heap.length=c.heap.length+k by simp [Cx.pad]] at h2;rw [BZ hl h2] at hi;cases hi;right;show c.own i=none;cases hx:c.own i with
   |none=>rfl
   |some p=>have:=(ho.br i p.1 p.2 hx).2; omega
theorem aw.at {E:Env} {f:FuncId} {args:List AV} {Q:AV→List ae→Prop} (H:aw E f (dG J h) (args.map (eU J h)) Q) (hn:J.Nodup) (ai:∀ j∈J,j<h.length) (hh:c.heap=h) (ho:aK E.G c) {vs:List Value} (hv:VL c args vs) :
  Calls E.P f vs.toArray c.w fun e w'=>∃ (c':Cx) (r:AV) (h1:List ae) (v:Value),e = .returned v∧c'.w=w'∧Q r h1∧c'.heap=eo J h h1∧VR c' (gI J h r) v∧aK E.G c'∧Step c c':=by
 subst hh;unfold aw at H;refine (H.2.2 (c.dO J) vs rfl (ho.dO hn) (F0 hv)).mono fun e w' ⟨c1,r,v,k1,k2,k3,k4,k5,k6⟩=>?_;have hs:∀ j∈J,(c.pad (c1.heap.length - J.length)).heap[j]? = c.heap[j]? := fun j hj=>List.getElem?_append_left (ai j hj);have hg:(c.pad (c1.heap.length - J.length)).dO J=c.dO J:=by
  simp only [Cx.dO,BY hs];rfl
 have hb:jJ (c.pad (c1.heap.length - J.length)) c1 J c.heap:=⟨hn,ai,by simp [Cx.pad],hs,fun j hj=>have hj:=mJ.1 hj; BZ hj.1 hj.2,by rw [hg]; exact k6,fun i b n hi=>(k5.br i b n hi).2⟩;have wb:=ho.pad (c1.heap.length - J.length);refine ⟨(c.pad (c1.heap.length - J.length)).take c1 J c.heap,r,c1.heap,v,k1,k2,k3,?_,BV wb hb k4,wb.take k5 hb,(yE ho _).trans (yC wb hb)⟩;refine List.ext_getElem? fun j=>?_;show (eW _ _ _)[j]? = _;by_cases hm:j∈J++dj J c.heap c1.heap
 ·have hl:j<c.heap.length+(c1.heap.length - J.length):=(List.mem_append.1 hm).elim (fun h=>by have:=ai j h; omega) fun h=>(mJ.1 h).2;obtain ⟨b,hr⟩:∃ b,(eo J c.heap c1.heap)[j]? = some b:=⟨_,List.getElem?_eq_getElem (by rw [pI]; exact hl)⟩;rw [vW hm (by show j<(c.heap++_).length; rw [List.length_append,List.length_replicate]; exact hl) hr,hr]
 ·rw [nB hm];have jo:cM J j=none:=by
   cases hx:cM J j with
   |none=>rfl
   |some i=>exact absurd (List.mem_append_left _ (List.mem_of_getElem? (iI hx))) hm
  rcases Nat.lt_or_ge j c.heap.length with hl | hl
  ·rw [BP hl jo,yD (List.getElem?_eq_getElem hl),List.getElem?_eq_getElem hl]
  ·have:¬ j<c.heap.length+(c1.heap.length - J.length):=fun h=>hm (List.mem_append_right _ (mJ.2 ⟨hl,h⟩));rw [List.getElem?_eq_none (by show (c.heap++_).length≤j; rw [List.length_append,List.length_replicate]; omega),List.getElem?_eq_none (by rw [pI]; omega)]
end
end Go.ax
end
section
namespace Go.ax
open Go Go.RowKit
universe u
section AM
variable {α:Sort u} {β γ:Type}
def ik (f:β→(γ→α)→α):List β→(List γ→α)→α
 | [],k=>k []
 |a::l,k=>f a fun b=>ik f l fun l'=>k (b::l')
theorem nD {f:β→(γ→α)→α} {g:β→γ} (h:∀ x k,f x k=k (g x)):∀ (l:List β) (k:List γ→α),ik f l k=k (l.map g)
 | [],_=>rfl
 |a::l,k=>by simp only [ik,h,nD h l,List.map_cons]
def pN:List β→List β→(List β→α)→α
 | [],m,k=>k m
 |a::l,m,k=>pN l m fun l'=>k (a::l')
theorem tF:∀ (l m:List β) (k:List β→α),pN l m k=k (l++m)
 | [],_,_=>rfl
 |a::l,m,k=>by simp only [pN,tF l,List.cons_append]
def mL:List β→Nat→(Nat→α)→α
 | [],n,k=>k n
 |_::l,n,k=>mL l (n+1) k
theorem rA:∀ (l:List β) (n:Nat) (k:Nat→α),mL l n k=k (n+l.length)
 | [],_,_=>rfl
 |_::l,n,k=>by rw [mL,rA l,List.length_cons]; congr 1; omega
def oD:List Nat→Nat→Nat→α→(Nat→α)→α
 | [],_,_,no,_=>no
 |a::l,j,n,no,k=>match Nat.beq a j with
  |true=>k n
  |false=>oD l j (n+1) no k
theorem B0:∀ (l:List Nat) (j n:Nat) (no:α) (k:Nat→α),oD l j n no k=match cM l j with
  |some i=>k (n+i)
  |none=>no
 | [],_,_,_,_=>rfl
 |a::l,j,n,no,k=>by
  simp only [oD,cM];cases Nat.beq a j with
  |true=>rfl
  |false =>
   rw [B0 l];cases cM l j with
   |none=>rfl
   |some i=>simp only [Option.map_some]; congr 1; omega
theorem tG {l:List β} {i:Nat} {no:α} {k:β→α}:aO l i no k=match dc l i with
  |some x=>k x
  |none=>no:=by
 rw [dC];cases h:l[i]? with
 |none=>exact ET h no k
 |some x=>exact x5 h no k
def pO (J:List Nat) (h:List ae) (x:AV) (k:AV→α):α :=
 match x with
 | .own j g=>oD J j 0 (k .any) fun i=>aO h j (k .any) fun
  | .arr g' _ _=>match Nat.beq g g' with
   |true=>k (.own i 0)
   |false=>k .any
  |_=>k .any
 | .ptr j off=>oD J j 0 (k .any) fun i=>aO h j (k .any) fun
  | .cells _=>k (.ptr i off)
  |_=>k .any
 | .cC j g n off=>oD J j 0 (k .any) fun i=>aO h j (k .any) fun
  | .arr g' _ _=>match Nat.beq g g' with
   |true=>k (.cC i 0 n off)
   |false=>k .any
  |_=>k .any
 | .cut j g n q=>oD J j 0 (k .any) fun i=>aO h j (k .any) fun
  | .arr g' _ _=>match Nat.beq g g' with
   |true=>k (.cut i 0 n q)
   |false=>k .any
  |_=>k .any
 | .map j=>oD J j 0 (k .any) fun i=>aO h j (k .any) fun
  | .map _=>k (.map i)
  |_=>k .any
 | .d x=>k (.d x)
 | .bJ e off=>k (.bJ e off)
 |_=>k .any
theorem B1 (J:List Nat) (h:List ae) (x:AV) (k:AV→α):pO J h x k=k (fz J h x):=by
 unfold pO fz;simp only [B0,tG,Nat.zero_add];cases x with
 |own j g =>
  dsimp only;generalize cM J j=a;generalize dc h j=o;cases a with
  |none=>rfl
  |some i=>cases o with
   |none=>rfl
   |some b=>cases b with
    |arr g' _ _=>dsimp only; cases Nat.beq g g' <;> rfl
    |_=>rfl
 |ptr j off =>
  dsimp only;generalize cM J j=a;generalize dc h j=o;cases a with
  |none=>rfl
  |some i=>cases o with
   |none=>rfl
   |some b=>cases b <;> rfl
 |cut j g n q =>
  dsimp only;generalize cM J j=a;generalize dc h j=o;cases a with
  |none=>rfl
  |some i=>cases o with
   |none=>rfl
   |some b=>cases b with
    |arr g' _ _=>dsimp only; cases Nat.beq g g' <;> rfl
    |_=>rfl
 |cC j g n off =>
  dsimp only;generalize cM J j=a;generalize dc h j=o;cases a with
  |none=>rfl
  |some i=>cases o with
   |none=>rfl
   |some b=>cases b with
    |arr g' _ _=>dsimp only; cases Nat.beq g g' <;> rfl
    |_=>rfl
 |map j =>
  dsimp only;generalize cM J j=a;generalize dc h j=o;cases a with
  |none=>rfl
  |some i=>cases o with
   |none=>rfl
   |some b=>cases b <;> rfl
 |_=>rfl
def we (J:List Nat) (h:List ae) (x:AV) (k:AV→α):α :=
 match x with
 | .agg l=>ik (pO J h) l fun l'=>k (.agg l')
 | .aF l=>ik (pO J h) l fun l'=>k (.aF l')
 | .fn f a b=>ik (pO J h) a fun a'=>ik (pO J h) b fun b'=>k (.fn f a' b')
 |x=>pO J h x k
theorem B2 (J:List Nat) (h:List ae) (x:AV) (k:AV→α):we J h x k=k (eU J h x):=by
 unfold we eU;cases x <;> simp only [nD (B1 J h),B1]
def B3 (J:List Nat) (h:List ae) (b:ae) (k:ae→α):α :=
 match b with
 | .arr _ ts l=>k (.arr 0 ts l)
 | .cells cs=>ik (pO J h) cs fun cs'=>k (.cells cs')
 | .map es=>k (.map es)
 | .gone=>k .gone
 | .hole=>k .hole
theorem Nf (J:List Nat) (h:List ae) (b:ae) (k:ae→α):B3 J h b k=k (mI J h b):=by
 unfold B3 mI;cases b <;> simp only [nD (B1 J h)]
def B4 (J:List Nat) (h:List ae) (j:Nat) (k:ae→α):α:=aO h j (k .gone) fun b=>B3 J h b k
theorem Ng (J:List Nat) (h:List ae) (j:Nat) (k:ae→α):B4 J h j k=k (match dc h j with | some b=>mI J h b | none => .gone):=by
 unfold B4;rw [tG];generalize dc h j=o;cases o with
 |none=>rfl
 |some b=>exact Nf J h b k
def wg (J:List Nat) (h:List ae) (k:List ae→α):α:=ik (B4 J h) J k
theorem B5 (J:List Nat) (h:List ae) (k:List ae→α):wg J h k=k (dG J h):=by
 unfold wg dG;rw [nD (Ng J h)];all_goals rfl
def rB (J:List Nat) (h:List ae) (i:Nat) (k:Nat→α):α:=aO J i (mL h 0 fun n=>mL J 0 fun m=>k (n+(i - m))) k
theorem Nh (J:List Nat) (h:List ae) (i:Nat) (k:Nat→α):rB J h i k=k (eV J h i):=by
 unfold rB eV;rw [tG];simp only [rA,Nat.zero_add];generalize dc J i=o;cases o <;> rfl
def yF (h:List ae) (j:Nat) (k:Nat→α):α:=aO h j (k 0) fun
 | .arr g _ _=>k g
 |_=>k 0
theorem Gc (h:List ae) (j:Nat) (k:Nat→α):yF h j k=k (kU h j):=by
 unfold yF kU;rw [tG];generalize dc h j=o;cases o with
 |none=>rfl
 |some b=>cases b <;> rfl
def wh (J:List Nat) (h:List ae) (i:Nat) (k:Nat→α):α:=aO J i (k 0) fun j=>yF h j k
theorem Ni (J:List Nat) (h:List ae) (i:Nat) (k:Nat→α):wh J h i k=k (lY J h i):=by
 unfold wh lY;rw [tG];generalize dc J i=o;cases o with
 |none=>rfl
 |some b=>exact Gc h b k
def pP (J:List Nat) (h:List ae) (x:AV) (k:AV→α):α :=
 match x with
 | .own i g=>rB J h i fun j=>wh J h i fun g0=>k (.own j (g0+g))
 | .ptr i off=>rB J h i fun j=>k (.ptr j off)
 | .cC i g n off=>rB J h i fun j=>wh J h i fun g0=>k (.cC j (g0+g) n off)
 | .cut i g n q=>rB J h i fun j=>wh J h i fun g0=>k (.cut j (g0+g) n q)
 | .map i=>rB J h i fun j=>k (.map j)
 | .d x=>k (.d x)
 | .bJ e off=>k (.bJ e off)
 |_=>k .any
theorem B6 (J:List Nat) (h:List ae) (x:AV) (k:AV→α):pP J h x k=k (jn J h x):=by
 unfold pP jn;cases x <;> simp only [Nh,Ni]
def yG (J:List Nat) (h:List ae) (x:AV) (k:AV→α):α :=
 match x with
 | .agg l=>ik (pP J h) l fun l'=>k (.agg l')
 | .aF l=>ik (pP J h) l fun l'=>k (.aF l')
 | .fn f a b=>ik (pP J h) a fun a'=>ik (pP J h) b fun b'=>k (.fn f a' b')
 |x=>pP J h x k
theorem Gd (J:List Nat) (h:List ae) (x:AV) (k:AV→α):yG J h x k=k (tB J h x):=by
 unfold yG tB;cases x <;> simp only [nD (B6 J h),B6]
def eH (J:List Nat) (h:List ae) (x:AV) (k:AV→α):α :=
 match x with
 | .aF l=>ik (yG J h) l fun l'=>k (.aF l')
 |x=>yG J h x k
theorem kV (J:List Nat) (h:List ae) (x:AV) (k:AV→α):eH J h x k=k (gI J h x):=by
 unfold eH gI;cases x <;> simp only [nD (Gd J h),Gd]
def yH (J:List Nat) (h:List ae) (g0:Nat) (b:ae) (k:ae→α):α :=
 match b with
 | .arr g ts l=>k (.arr (g0+g) ts l)
 | .cells cs=>ik (pP J h) cs fun cs'=>k (.cells cs')
 | .map es=>k (.map es)
 | .gone=>k .gone
 | .hole=>k .hole
theorem Ge (J:List Nat) (h:List ae) (g0:Nat) (b:ae) (k:ae→α):yH J h g0 b k=k (kq J h g0 b):=by
 unfold yH kq;cases b <;> simp only [nD (B6 J h)]
def tH (J:List Nat) (h h1:List ae):Nat→List ae→(List ae→α)→α
 |_,[],k=>k []
 |j,b::r,k=>oD J j 0 (tH J h h1 (j+1) r fun r'=>k (b::r')) fun i=>aO h1 i (tH J h h1 (j+1) r fun r'=>k (.gone::r')) fun b1=>yF h j fun g=>yH J h g b1 fun b2=>tH J h h1 (j+1) r fun r'=>k (b2::r')
theorem Gf (J:List Nat) (h h1:List ae):∀ (j:Nat) (r:List ae) (k:List ae→α),tH J h h1 j r k=k (nA J h h1 j r)
 |_,[],_=>rfl
 |j,b::r,k=>by
  simp only [tH,B0,tG,Gc,Ge,Gf J h h1 (j+1) r,Nat.zero_add,nA];generalize cM J j=a;cases a with
  |none=>rfl
  |some i =>
   dsimp only;generalize dc h1 i=o;cases o <;> rfl
def il (J:List Nat) (h h1:List ae) (k:List ae→α):α:=tH J h h1 0 h fun a=>mL J 0 fun n=>qG n h1 fun h2=>ik (yH J h 0) h2 fun b=>pN a b k
theorem oE (J:List Nat) (h h1:List ae) (k:List ae→α):il J h h1 k=k (eo J h h1):=by
 unfold il eo;simp only [Gf,rA,Nat.zero_add,AN,nD (Ge J h 0),tF]
def rC (d:Nat):List Nat→Bool
 | []=>false
 |a::l=>match Nat.beq a d with
  |true=>true
  |false=>rC d l
def rD (j:Nat) (J:List Nat) (k:List Nat→α):α:=match rC j J with
 |true=>k J
 |false=>pN J [j] k
def yI (h:List ae) (x:AV) (J:List Nat) (k:List Nat→α):α :=
 match x with
 | .own j g=>aO h j (k J) fun
  | .arr g' _ _=>match Nat.beq g g' with
   |true=>rD j J k
   |false=>k J
  |_=>k J
 | .ptr j _=>aO h j (k J) fun
  | .cells _=>rD j J k
  |_=>k J
 | .cC j g _ _=>aO h j (k J) fun
  | .arr g' _ _=>match Nat.beq g g' with
   |true=>rD j J k
   |false=>k J
  |_=>k J
 | .cut j g _ _=>aO h j (k J) fun
  | .arr g' _ _=>match Nat.beq g g' with
   |true=>rD j J k
   |false=>k J
  |_=>k J
 | .map j=>aO h j (k J) fun
  | .map _=>rD j J k
  |_=>k J
 |_=>k J
def pQ (h:List ae):List AV→List Nat→(List Nat→α)→α
 | [],J,k=>k J
 |x::l,J,k=>yI h x J fun kW=>pQ h l kW k
def oF (h:List ae):List AV→List Nat→(List Nat→α)→α
 | [],J,k=>k J
 |x::l,J,k=>match x with
  | .agg c=>pQ h c J fun kW=>oF h l kW k
  | .aF c=>pQ h c J fun kW=>oF h l kW k
  | .fn _ a b=>pQ h a J fun kW=>pQ h b kW fun Nj=>oF h l Nj k
  |x=>yI h x J fun kW=>oF h l kW k
def pR (h:List ae):Nat→Nat→List Nat→(List Nat→α)→α
 | 0,_,J,k=>k J
 |n+1,p,J,k=>aO J p (k J) fun j=>aO h j (pR h n (p+1) J k) fun
  | .cells cs=>pQ h cs J fun kW=>pR h n (p+1) kW k
  |_=>pR h n (p+1) J k
def tI (n:Nat):List Nat→Bool
 | []=>true
 |j::l=>match rC j l,Nat.blt j n with
  |false,true=>tI n l
  |_,_=>false
end AM
theorem yJ {d:Nat}:∀ {l:List Nat},rC d l=true↔d∈l
 | []=>by simp [rC]
 |a::l=>by
  simp only [rC];split
  ·rename_i q; simp [Nat.eq_of_beq_eq_true q]
  ·rename_i q;have aJ:d≠a:=fun e=>by rw [e,Nat.beq_refl] at q; cases q
   rw [yJ (l:=l)];simp [aJ]
theorem yK {n:Nat}:∀ {l:List Nat},tI n l=true→l.Nodup∧∀ j∈l,j<n
 | [],_=>⟨.nil,fun j hj=>by simp at hj⟩
 |j::l,H=>by
  simp only [tI] at H;split at H
  ·rename_i q1 q2;obtain ⟨h1,h2⟩:=yK H;refine ⟨List.nodup_cons.2 ⟨fun hm=>?_,h1⟩,fun i hi=>?_⟩
   ·rw [yJ.2 hm] at q1; cases q1
   ·rcases List.mem_cons.1 hi with rfl | hi
    ·exact Nat.le_of_ble_eq_true q2
    ·exact h2 i hi
  ·cases H
@[irreducible] def wi (E : Env) (f : FuncId) (h0 : List ae) (args : List AV) (K : AV → List ae → Prop) : Prop := ∃ Q, aw E f h0 args Q ∧ ∀ r h1, Q r h1 → K r h1
theorem jK {E:Env} {f:FuncId} {h0:List ae} {args:List AV} {K Q:AV→List ae→Prop} (H:aw E f h0 args Q) (hk:∀ r h1,Q r h1→K r h1):wi E f h0 args K:=by unfold wi; exact ⟨Q,H,hk⟩
theorem bF {E:Env} {f:FuncId} {h0:List ae} {args:List AV} {K:AV→List ae→Prop} {r:AV} {h1:List ae} (H:aw E f h0 args (fun a b=>a=r∧b=h1)) (hk:K r h1):wi E f h0 args K:=jK H fun _ _ ⟨e1,e2⟩=>by subst e1; subst e2; exact hk
def yL (E:Env) (f:FuncId) (fU:List AV) (h:List ae) (stop:Prop) (k:AV→List ae→Prop):Prop :=
 oF h fU [] fun wj=>pR h 20 0 wj fun J=>mL h 0 fun n=>match tI n J with
  |true=>wg J h fun h0=>ik (we J h) fU fun B7=>wi E f h0 B7 fun r h1=>eH J h r fun v=>il J h h1 fun h'=>k v h'
  |false=>stop
theorem Gg {h:List ae} {x:AV} {J:List Nat} {k:List Nat→Prop} (H:yI h x J k):∃ l,k l:=by
 have yM:∀ {j:Nat},rD j J k→∃ l,k l:=fun {j} H=>by
  unfold rD at H;split at H
  ·exact ⟨_,H⟩
  ·rw [tF] at H; exact ⟨_,H⟩
 unfold yI at H;split at H;all_goals first
  |exact ⟨_,H⟩
  |(rcases a8 H with H | ⟨_, _, H⟩
    · exact ⟨_, H⟩
    split at H
    · first
      | exact yM H
      | (split at H
         · exact yM H
         · exact ⟨_, H⟩)
    · exact ⟨_, H⟩)
theorem tJ {h:List ae}:∀ {l:List AV} {J:List Nat} {k:List Nat→Prop},pQ h l J k→∃ l,k l
 | [],_,_,H=>⟨_,H⟩
 |_::_,_,_,H=>by
  simp only [pQ] at H;obtain ⟨_,H⟩:=Gg H;exact tJ H
theorem rE {h:List ae}:∀ {l:List AV} {J:List Nat} {k:List Nat→Prop},oF h l J k→∃ l,k l
 | [],_,_,H=>⟨_,H⟩
 |x::_,_,_,H=>by
  simp only [oF] at H;split at H
  ·obtain ⟨_,H⟩:=tJ H; exact rE H
  ·obtain ⟨_,H⟩:=tJ H; exact rE H
  ·obtain ⟨_,H⟩:=tJ H; obtain ⟨_,H⟩:=tJ H; exact rE H
  ·obtain ⟨_,H⟩:=Gg H; exact rE H
theorem tK {h:List ae}:∀ {n p:Nat} {J:List Nat} {k:List Nat→Prop},pR h n p J k→∃ l,k l
 | 0,_,_,_,H=>⟨_,H⟩
 |n+1,p,J,k,H=>by
  simp only [pR] at H;rcases a8 H with H | ⟨j,_,H⟩
  ·exact ⟨_,H⟩
  rcases a8 H with H | ⟨b,_,H⟩
  ·exact tK H
  split at H
  ·obtain ⟨_,H⟩:=tJ H; exact tK H
  ·exact tK H
theorem Nk {E:Env} {f:FuncId} {fU:List AV} {h:List ae} {stop:Prop} {k:AV→List ae→Prop} (H:yL E f fU h stop k):stop∨∃ (J:List Nat) (Q:AV→List ae→Prop),
  aw E f (dG J h) (fU.map (eU J h)) Q∧J.Nodup∧(∀ j∈J,j<h.length)∧∀ r h1,Q r h1→k (gI J h r) (eo J h h1):=by
 unfold yL at H;obtain ⟨s0,H⟩:=rE H;obtain ⟨J,H⟩:=tK H;rw [rA,Nat.zero_add] at H;split at H
 ·rename_i q;obtain ⟨h1,h2⟩:=yK q;rw [B5,nD (B2 J h)] at H;unfold wi at H;obtain ⟨Q,h3,h4⟩:=H;refine .inr ⟨J,Q,h3,h1,h2,fun r h1 hq=>?_⟩;have:=h4 r h1 hq;dsimp only at this;rw [kV,oE] at this;exact this
 ·exact .inl H
section
variable {E:Env} {f0:FuncId} {ag:gy} {k:List aP} {s:List AV} {cls:List bQ} {h:List ae} {R:cx}
theorem AW.Gh {ops:Array Oper} {o:Oper} {l:List Oper} {fx:Operand} {args:Array Operand} {ts:Array TypeId} {f:FuncId} {a1 a2 av:List AV} {J:List Nat} {Q:AV→List ae→Prop} (hw:iB ops o s true) (ho:o.op = .call { callee := .value fx,args:=args,argTypes:=ts })
  (hf:aZ E.G s fx (.fn (.func f) a1 a2)) (ha:hY E.G s args.toList av) (hc:aw E f (dG J h) ((a1++av++a2).map (eU J h)) Q) (hn:J.Nodup) (ai:∀ j∈J,j<h.length)
  (H:∀ r h1,Q r h1→AW E f0 ⟨ag,.bo ops l::k,bX s o.dst (gI J h r)⟩ cls (eo J h h1) R):AW E f0 ⟨ag,.bo ops (o::l)::k,s⟩ cls h R:=by
 unfold AW at H ⊢;intro c0 c t ts h0 h1 h2 h3 hr bE h4 h5 cs;obtain ⟨i,hi,dy,aM⟩:=kO (h1 _ (List.mem_cons_self ..));obtain ⟨v1,v2,e1,e2,e3⟩:=km (hf c ⟨t,marks ag.aG⟩ h3 h4);have e4:=ha c ⟨t,marks ag.aG⟩ h3 h4;have e5:=(e2.append e4).append e3;have hb:qV E.P f:=by unfold aw at hc; exact hc.1
 obtain ⟨e,w',fr,⟨c',r,hp,v,rfl,rfl,hQ,yN,hv,cI,aX⟩,Bi,Bj,Bk⟩:=hc.at (c:=c) hn ai h2 h3 e5 ((bf ag).atR ⟨t,marks ag.aG⟩ (.inRegion ops (i::(List.range ops.size).drop (ops.size - l.length))::k.map aP.bB)::(ez cls ts++cs));have iD:VS c' (bX s o.dst (gI J h r)) ((⟨t,marks ag.aG⟩:Act).put o.dst v).tmps:=VS.bX (a:=⟨t,marks ag.aG⟩) (aX.vs h4) o.dst hv;obtain ⟨c2,qX,r2,u2,q1,q2,q3,vA,q4,q5,q6⟩:=H r hp hQ c0 c' _ ts h0 (fy aM (dE h1)) yN cI (hr.step aX) (bE.step h3 aX) iD (aX.cr h5) cs;refine ⟨c2,qX,r2,u2,q1,q2,q3,vA,?_,q5,q6⟩;have cq:=vy (P:=E.P) (w:=c.w) (a:=⟨t,marks ag.aG⟩) ho e1 hb;have iE:(v1.toArray++args.map (⟨t,marks ag.aG⟩:Act).eval++v2.toArray)=(v1++args.toList.map (⟨t,marks ag.aG⟩:Act).eval++v2).toArray:=by
  apply Array.ext';simp
 rw [iE] at cq;have s1:=Bg (P:=E.P) (b:=bf ag) (k:=k.map aP.bB) (cs:=ez cls ts++cs) (rest:=(List.range ops.size).drop (ops.size - l.length)) hi (hw c t h4) cq;have s2:=step_leave_returned (c:=(bf ag).atR ⟨t,marks ag.aG⟩ (.inRegion ops (i::(List.range ops.size).drop (ops.size - l.length))::k.map aP.bB)) (cs:=ez cls ts++cs) Bk;rw [Frame.finish_atR,hi] at s2;have Bl:(⟨ag,.bo ops (o::l)::k,s⟩:bQ).bB t=(bf ag).atR ⟨t,marks ag.aG⟩ (.inRegion ops (i::(List.range ops.size).drop (ops.size - l.length))::k.map aP.bB):=by
  simp only [bQ.bB,List.map_cons,dy]
 rw [Bl];refine .head s1 (Steps.trans Bi (.head s2 ?_));have aE:(bf ag).atR ((⟨t,marks ag.aG⟩:Act).put ((some o).bind (·.dst)) v) (.inRegion ops ((List.range ops.size).drop (ops.size - l.length))::k.map aP.bB)=(⟨ag,.bo ops l::k,bX s o.dst (gI J h r)⟩:bQ).bB ((⟨t,marks ag.aG⟩:Act).put o.dst v).tmps:=by
  simp only [bQ.bB,List.map_cons,aP.bB,Option.bind_some];rw [put_defers]
 rw [aE];exact q4
end
end Go.ax
end
section
namespace Go.ax
open Go Go.RowKit
@[irreducible] def kX (b : Bool) (A B : Prop) : Prop := (b = true → A) ∧ (b = false → B)
theorem ah {b:Bool} {A B:Prop} (h1:b=true→A) (h2:b=false→B):kX b A B:=by unfold kX; exact ⟨h1,h2⟩
theorem aY {A B:Prop} (h:A):kX true A B:=ah (fun _=>h) (fun h=>by cases h)
theorem aQ {A B:Prop} (h:B):kX false A B:=ah (fun h=>by cases h) (fun _=>h)
theorem aV {b:Bool} {A B:Prop} (hb:b=true) (h:A):kX b A B:=by subst hb; exact aY h
theorem aW {b:Bool} {A B:Prop} (hb:b=false) (h:B):kX b A B:=by subst hb; exact aQ h
theorem B8 {b:Bool} {A B C:Prop} (h:kX b A B) (h1:b=true→A→C) (h2:b=false→B→C):C:=by
 unfold kX at h;cases hb:b
 ·exact h2 hb (h.2 hb)
 ·exact h1 hb (h.1 hb)
@[irreducible] def oG (E : Env) (f : FuncId) (ds : List DV) (h : List ae) (K : AV → List ae → Prop) : Prop :=
 (∃ R1,aq E f ds R1∧∀ r,R1 r→K (.d r) h)∨∃ Q,aw E f [] (ds.map .d) Q∧∀ r h1,Q r h1→K (gI [] h r) (eo [] h h1)
theorem wk {E:Env} {f:FuncId} {ds:List DV} {h:List ae} {K:AV→List ae→Prop} {R1:DV→Prop} (hc:aq E f ds R1) (hk:∀ r,R1 r→K (.d r) h):oG E f ds h K:=by unfold oG; exact .inl ⟨R1,hc,hk⟩
theorem ao {E:Env} {f:FuncId} {ds:List DV} {h:List ae} {K:AV→List ae→Prop} {r:DV} (hc:aq E f ds (· = r)) (hk:K (.d r) h):oG E f ds h K:=wk hc fun _ e=>e ▸ hk
theorem Gi {E:Env} {f:FuncId} {ds:List DV} {h:List ae} {K:AV→List ae→Prop} {Q:AV→List ae→Prop} (hc:aw E f [] (ds.map .d) Q) (hk:∀ r h1,Q r h1→eH [] h r fun v=>il [] h h1 fun h'=>K v h'):oG E f ds h K:=by
 unfold oG;refine .inr ⟨Q,hc,fun r h1 hq=>?_⟩;have:=hk r h1 hq;rw [kV,oE] at this;exact this
theorem wm {E:Env} {f:FuncId} {ds:List DV} {h:List ae} {K:AV→List ae→Prop} {r:AV} {h1:List ae} {args:List AV} (hc:aw E f [] args (fun a b=>a=r∧b=h1)) (ha:args=ds.map .d) (hk:eH [] h r fun v=>il [] h h1 fun h'=>K v h'):oG E f ds h K :=
 Gi (ha ▸ hc) fun _ _ ⟨e1,e2⟩=>by subst e1; subst e2; exact hk
def iJ (d:Nat):List Nat→Bool
 | []=>false
 |a::l=>match Nat.beq a d with
  |true=>true
  |false=>iJ d l
def wo (G:List (Nat × DV)) (s:List AV) (o:Oper) (stop:Prop) (k:FuncId→List AV→Prop):Prop :=
 match o.op with
 | .call { callee := .value fx,args:=args,.. }=>bS G s fx stop fun
  | .fn (.func f) a1 a2=>qI G s args.toList stop fun av=>pN a1 av fun a3=>pN a3 a2 fun a4=>k f a4
  | .d (.fn (.func f))=>qI G s args.toList stop fun av=>k f av
  |_=>stop
 |_=>stop
def B9 (inl:List FuncId) (E:Env) (s:List AV) (h:List ae) (o:Oper) (stop:Prop) (k:AV→List ae→Prop):Prop :=
 wo E.G s o stop fun f fU=>match iJ f inl with
  |true=>stop
  |false=>oc fU (yL E f fU h stop k) fun ds=>oG E f ds h k
theorem Gj {G:List (Nat × DV)} {s:List AV} {o:Oper} {stop:Prop} {k:FuncId→List AV→Prop} (H:wo G s o stop k):stop∨∃ (fx:Operand) (args:Array Operand) (ts:Array TypeId) (f:FuncId) (a1 av a2:List AV),
  o.op = .call { callee := .value fx,args:=args,argTypes:=ts }∧aZ G s fx (.fn (.func f) a1 a2)∧hY G s args.toList av∧k f (a1++av++a2):=by
 unfold wo at H;split at H
 ·rename_i fx args ts b9;rcases bW H with H | ⟨v,hv,H⟩
  ·exact .inl H
  split at H
  ·rename_i f a1 a2;rcases vk H with H | ⟨av,lZ,H⟩
   ·exact .inl H
   rw [tF,tF] at H;exact .inr ⟨fx,args,ts,f,a1,av,a2,b9,hv,lZ,H⟩
  ·rename_i f;rcases vk H with H | ⟨av,lZ,H⟩
   ·exact .inl H
   refine .inr ⟨fx,args,ts,f,[],av,[],b9,fun c a h1 h2=>?_,lZ,by simpa using H⟩;have:=hv c a h1 h2;generalize a.eval fx=u at this;cases this with
   |d _ _ hx =>
    cases hx;exact .fn _ _ _ _ _ rfl rfl (fun j x v hx=>by simp at hx) (fun j x v hx=>by simp at hx)
  ·exact .inl H
 ·exact .inl H
def yO (ops:Array Oper) (g:Option (Nat × Bool)) (no stop:Prop) (k:Nat→Bool→Prop):Prop :=
 match g with
 |none=>no
 |some (j,b)=>aO ops.toList j stop fun o=>match o.dst with
  |some d=>k d b
  |none=>stop
def Gk:Bool→Bool→Bool
 |true,true=>true
 |false,false=>true
 |_,_=>false
def wq (id:Nat):List aP→(stop:Prop)→(List aP→Prop)→Prop
 | .inBlock i::r,stop,k=>match Nat.beq i id with
  |true=>k r
  |false=>wq id r stop k
 |_::r,stop,k=>wq id r stop k
 | [],stop,_=>stop
theorem rF {id:Nat} {stop:Prop} {k:List aP→Prop}:∀ {l:List aP},wq id l stop k→stop∨∃ r,kN id l=some r∧k r
 | [],H => .inl H
 | .inBlock i::l,H=>by
  simp only [wq] at H;split at H
  ·rename_i q; exact .inr ⟨l,by simp only [kN,q],H⟩
  ·rename_i q;rcases rF H with h | ⟨r,hr,h⟩
   ·exact .inl h
   ·exact .inr ⟨r,by simp only [kN,q]; exact hr,h⟩
 | .code c::l,H=>rF (l:=l) H
 | .inLoop c::l,H=>rF (l:=l) H
 | .nr c::l,H=>rF (l:=l) H
 | .oo::l,H=>rF (l:=l) H
 | .bo ops q::l,H=>rF (l:=l) H
@[irreducible] def I (E : Env) (ag : FuncId) (R : cx) (Nl : List Nat) (td : List aP) (s : List AV) (h : List ae) : Prop := AW E R.fx.f0 ⟨⟨ag, R.fx.cB, R.fx.aG⟩, td, s⟩ R.fx.cls h R
theorem I.of {E:Env} {ag:FuncId} {R:cx} {lits:List Nat} {td:List aP} {s:List AV} {h:List ae} (H:AW E R.fx.f0 ⟨⟨ag,R.fx.cB,R.fx.aG⟩,td,s⟩ R.fx.cls h R):I E ag R lits td s h:=by unfold I; exact H
theorem I.to {E:Env} {ag:FuncId} {R:cx} {lits:List Nat} {td:List aP} {s:List AV} {h:List ae} (H:I E ag R lits td s h):AW E R.fx.f0 ⟨⟨ag,R.fx.cB,R.fx.aG⟩,td,s⟩ R.fx.cls h R:=by unfold I at H; exact H
def wu (ag:FuncId) (x:FX):Bool:=match x.cB,x.aG,x.cls with
 |none,[],[]=>Nat.beq x.f0 ag
 |_,_,_=>false
theorem Nn {ag:FuncId} {x:FX} (h:wu ag x=true):x.cB=none∧x.aG=[]∧x.cls=[]∧x.f0=ag:=by
 unfold wu at h;split at h
 ·rename_i a b c; exact ⟨a,b,c,Nat.eq_of_beq_eq_true h⟩
 ·cases h
def runK (E:Env) (ag:FuncId) (rs:List ResultVar) (R:cx):Nat→List Nat→List aP→List AV→List ae→Prop
 | 0,lits,td,s,h=>I E ag R lits td s h
 |n+1,lits,td,s,h =>
  match td with
  | []=>match wu ag R.fx with
   |true=>lS E.T s h rs (I E ag R lits td s h) R.Q
   |false=>I E ag R lits td s h
  | .inBlock _::r=>runK E ag rs R n lits r s h
  | .inLoop _::_=>I E ag R lits td s h
  | .nr _::_=>I E ag R lits td s h
  | .oo::_=>I E ag R lits td s h
  | .code c::r=>match c with
   | .skip=>runK E ag rs R n lits r s h
   | .seq a b=>runK E ag rs R n lits (.code a :: .code b::r) s h
   | .block id b=>runK E ag rs R n lits (.code b :: .inBlock id::r) s h
   | .exit id=>wq id r (I E ag R lits td s h) fun r'=>runK E ag rs R n lits r' s h
   | .region _ ops false=>runK E ag rs R n lits (.bo ops ops.toList::r) s h
   | .ret=>match wu ag R.fx with
    |true=>lS E.T s h rs (I E ag R lits td s h) R.Q
    |false=>I E ag R lits td s h
   | .cond x a b=>bS E.G s x (I E ag R lits td s h) fun
    | .d (.bool t)=>kX t (I E ag R lits (.code a::r) s h) (I E ag R lits (.code b::r) s h)
    |_=>I E ag R lits td s h
   |_=>I E ag R lits td s h
  | .bo _ []::r=>runK E ag rs R n lits r s h
  | .bo ops (o::l)::r =>
   let go:Prop:=kf E.T E.G o.op s h (vO E o.op s h (nz E o.op s h (B9 R.fx.inl E s h o (I E ag R lits td s h) fun v h'=>cb s o.dst v fun s'=>I E ag R lits (.bo ops l::r) s' h')
     fun v h'=>cb s o.dst v fun s'=>I E ag R lits (.bo ops l::r) s' h')
     fun v h'=>cb s o.dst v fun s'=>runK E ag rs R n lits (.bo ops l::r) s' h')
    fun v h'=>cb s o.dst v fun s'=>runK E ag rs R n lits (.bo ops l::r) s' h'
   yO ops o.guard go (I E ag R lits td s h) fun d b=>aO s d (I E ag R lits td s h) fun
    | .d (.bool t)=>match iJ d lits with
     |false=>kX t (fk s d (.d (.bool true)) fun s'=>I E ag R (d::lits) td s' h) (fk s d (.d (.bool false)) fun s'=>I E ag R (d::lits) td s' h)
     |true=>match Gk t b with
      |true=>go
      |false=>cb s o.dst (.d .undef) fun s'=>runK E ag rs R n lits (.bo ops l::r) s' h
    | .d .undef=>cb s o.dst (.d .undef) fun s'=>runK E ag rs R n lits (.bo ops l::r) s' h
    |_=>I E ag R lits td s h
section
variable {E:Env} {ag:FuncId} {R:cx}
theorem wv {β:Type}:∀ {l:List β} {d:Nat} {x:β},l[d]? = some x→l.set d x=l
 | [],_,_,h=>by simp at h
 |a::l,0,x,h=>by simp at h; subst h; rfl
 |a::l,d+1,x,h=>by simp only [List.set_cons_succ]; rw [wv (by simpa using h)]
theorem B' (hE:E.OK) {fn:Func} (hf:E.P.funcs[ag]? = some fn):∀ (n:Nat) (lits:List Nat) (td:List aP) (s:List AV) (h:List ae),
  runK E ag fn.results.toList R n lits td s h→AW E R.fx.f0 ⟨⟨ag,R.fx.cB,R.fx.aG⟩,td,s⟩ R.fx.cls h R:=by
 have ret:∀ (lits:List Nat) (td:List aP) (s:List AV) (h:List ae),(td=[]∨∃ r,td = .code .ret::r)→(match wu ag R.fx with | true=>lS E.T s h fn.results.toList (I E ag R lits td s h) R.Q | false=>I E ag R lits td s h)→AW E R.fx.f0 ⟨⟨ag,R.fx.cB,R.fx.aG⟩,td,s⟩ R.fx.cls h R:=by
  intro lits td s h mD H;split at H
  ·rename_i q;by_cases hA:I E ag R lits td s h
   ·exact hA.to
   ·rw [eq_false hA] at H;obtain ⟨q1,q2,q3,q4⟩:=Nn q;rw [q1,q2,q3,q4];rcases mD with rfl | ⟨r,rfl⟩
    ·exact .L4 hE hf H
    ·exact .ret hE hf H
  ·exact H.to
 intro n
 induction n with
 |zero=>intro lits td s h H; exact I.to H
 |succ n ih =>
  intro lits td s h H;unfold runK at H;split at H
  ·exact ret _ _ s h (.inl rfl) H
  ·exact .inBlock (ih _ _ _ _ H)
  ·exact I.to H
  ·exact I.to H
  ·exact I.to H
  ·rename_i c r;split at H
   ·exact .skip (ih _ _ _ _ H)
   ·exact .seq (ih _ _ _ _ H)
   ·exact .block (ih _ _ _ _ H)
   ·rcases rF H with h' | ⟨r',hr,H⟩
    ·exact h'.to
    ·exact .exit hr (ih _ _ _ _ H)
   ·exact .region (ih _ _ _ _ H)
   ·exact ret _ _ s h (.inr ⟨_,rfl⟩) H
   ·rcases bW H with h' | ⟨v,hv,H⟩
    ·exact h'.to
    split at H
    ·rename_i t;refine B8 H (fun e H2=>?_) (fun e H2=>?_)
     ·subst e; exact .cond hv (by simpa using H2.to)
     ·subst e; exact .cond hv (by simpa using H2.to)
    ·exact I.to H
   ·exact I.to H
  ·exact .LV (ih _ _ _ _ H)
  ·rename_i ops o l r
   have go : iB ops o s true → (kf E.T E.G o.op s h (vO E o.op s h (nz E o.op s h (B9 R.fx.inl E s h o (I E ag R lits (.bo ops (o :: l) :: r) s h) fun v h' => cb s o.dst v fun s' => I E ag R lits (.bo ops l :: r) s' h')
         fun v h' => cb s o.dst v fun s' => I E ag R lits (.bo ops l :: r) s' h')
         fun v h' => cb s o.dst v fun s' => runK E ag fn.results.toList R n lits (.bo ops l :: r) s' h')
     fun v h'=>cb s o.dst v fun s'=>runK E ag fn.results.toList R n lits (.bo ops l::r) s' h')→AW E R.fx.f0 ⟨⟨ag,R.fx.cB,R.fx.aG⟩,.bo ops (o::l)::r,s⟩ R.fx.cls h R:=by
    intro hw H;rcases A' hE H with H | ⟨v,h',H,ho⟩
    ·rcases FK hE H with H | ⟨v,h',H,ho⟩
     case inr =>
      rw [dN] at H;exact .op hw ho (ih _ _ _ _ H)
     rcases BM hE H with H | ⟨v,h',H,ho⟩
     case inr =>
      rw [dN] at H;exact .op hw ho H.to
     unfold B9 at H;rcases Gj H with H | ⟨fx,args,ts,f,a1,av,a2,b9,hv,lZ,H⟩
     ·exact I.to H
     split at H
     ·exact I.to H
     rcases ve (a1++av++a2) (yL E f (a1++av++a2) h (I E ag R lits (.bo ops (o::l)::r) s h) fun v h'=>cb s o.dst v fun s'=>I E ag R lits (.bo ops l::r) s' h') (fun ds=>oG E f ds h fun v h'=>cb s o.dst v fun s'=>I E ag R lits (.bo ops l::r) s' h') with ⟨ds,e1,e2⟩ | e2
     ·rw [e2] at H;unfold oG at H;rcases H with ⟨R1,hc,hk⟩ | ⟨Q,hc,hk⟩
      ·refine .call hw b9 hv lZ e1 hc fun u hu=>?_;have:=hk u hu;simp only [dN] at this;exact this.to
      ·refine .Gh (J:=[]) hw b9 hv lZ (Q:=Q) ?_ List.nodup_nil (fun j hj=>by simp at hj) fun u h1 hu=>?_
       ·have e3:(a1++av++a2).map (eU [] h)=ds.map .d:=by rw [e1,List.map_map]; rfl
        rw [e3];exact hc
       ·have:=hk u h1 hu;simp only [dN] at this;exact this.to
     ·rw [e2] at H;rcases Nk H with H | ⟨J,Q,hc,hn,ai,hk⟩
      ·exact I.to H
      refine .Gh hw b9 hv lZ hc hn ai fun u h1 hu=>?_;have:=hk u h1 hu;simp only [dN] at this;exact this.to
    ·rw [dN] at H;exact .op hw ho (ih _ _ _ _ H)
   dsimp only at H;unfold yO at H;split at H
   ·rename_i hg;exact go (fR hg) H
   ·rename_i j b hg;rcases a8 H with H | ⟨oj,tL,H⟩
    ·exact I.to H
    split at H
    ·rename_i d hd;rcases a8 H with H | ⟨x,hx,H⟩
     ·exact I.to H
     split at H
     ·rename_i t;split at H
      ·refine B8 H (fun e H2=>?_) (fun e H2=>?_)
       ·subst e;rw [fQ,wv hx] at H2;exact I.to H2
       ·subst e;rw [fQ,wv hx] at H2;exact I.to H2
      ·have hw:=Be hg tL hd hx;split at H
       ·rename_i q;have:(t==b)=true:=by cases t <;> cases b <;> first | rfl | cases q
        rw [this] at hw;exact go hw H
       ·rename_i q;have:(t==b)=false:=by cases t <;> cases b <;> first | rfl | cases q
        rw [this] at hw;rw [dN] at H;exact .Fb hw (ih _ _ _ _ H)
     ·rw [dN] at H;exact .Fb (Fa hg tL hd hx) (ih _ _ _ _ H)
     ·exact I.to H
    ·exact I.to H
theorem I.run (hE:E.OK) {fn:Func} (hf:E.P.funcs[ag]? = some fn) (n:Nat) {lits:List Nat} {td:List aP} {s:List AV} {h:List ae} (H:runK E ag fn.results.toList R n lits td s h):I E ag R lits td s h := .of (B' hE hf n lits td s h H)
theorem aq.run (hE : E.OK) {fn : Func} (hf : E.P.funcs[ag]? = some fn) {body : Code} (hb : fn.body = some body) (hn : (fn.name == "runtime.NumGoroutine") = false) (n : Nat) {args : List DV} {R : DV → Prop}
  (H:mA .d args fun a=>runK E ag fn.results.toList ⟨0,tg R,[],⟨ag,none,[],[],[],[]⟩⟩ n [] [.code body] (lQ a fn.ntmps) []):aq E ag args R:=by
 rw [qH] at H;exact .L3 (.Fc hf hb hn (fun i g ts l h=>by simp at h) (B' hE hf n _ _ _ _ H))
def oH:List ae→Bool
 | []=>true
 | .arr g _ _::l=>match Nat.beq g 0 with
  |true=>oH l
  |false=>false
 |_::l=>oH l
theorem l3:∀ {h:List ae},oH h=true→s7 h
 | [],_=>fun i g ts l h=>by simp at h
 |b::r,H=>by
  have hr:oH r=true:=by
   unfold oH at H;split at H
   ·rename_i e; cases e
   ·rename_i e; cases e; split at H
    ·exact H
    ·cases H
   ·rename_i e; cases e; exact H
  intro i g ts l h;cases i with
  |zero =>
   simp at h;subst h;simp only [oH] at H;split at H
   ·rename_i q; exact Nat.eq_of_beq_eq_true q
   ·cases H
  |succ i=>exact l3 hr i g ts l (by simpa using h)
theorem aw.run (hE : E.OK) {fn : Func} (hf : E.P.funcs[ag]? = some fn) {body : Code} (hb : fn.body = some body) (hn : (fn.name == "runtime.NumGoroutine") = false) (n : Nat) {h : List ae} (lR : oH h = true) {args : List AV} {Q : AV → List ae → Prop}
  (H:runK E ag fn.results.toList ⟨h.length,Q,[],⟨ag,none,[],[],[],[]⟩⟩ n [] [.code body] (lQ args fn.ntmps) h):aw E ag h args Q :=
 .Fc hf hb hn (l3 lR) (B' hE hf n _ _ _ _ H)
end
end Go.ax
end
section
namespace Go.ax
open Go Go.RowKit
def tM (h h':List ae) (x y:AV) (K:Prop):Prop :=
 match y with
 | .any=>K
 | .d b=>match x with
  | .d a=>a=b∧K
  |_=>False
 | .own b' g'=>match x with
  | .own b g=>match Nat.beq b b' with
   |true=>aO h b False fun
    | .arr g0 _ _=>aO h' b False fun
     | .arr g1 _ _=>match Nat.beq g g0,Nat.beq g' g1 with
      |true,true=>K
      |_,_=>False
     |_=>False
    |_=>False
   |false=>False
  |_=>False
 | .ptr b' Ca=>match x with
  | .ptr b off=>match Nat.beq b b',Nat.beq off Ca with
   |true,true=>aO h b False fun
    | .cells _=>aO h' b False fun
     | .cells _=>K
     |_=>False
    |_=>False
   |_,_=>False
  |_=>False
 | .bJ e' Ca=>match x with
  | .bJ e off=>match Nat.beq off Ca with
   |true=>e=e'∧K
   |false=>False
  |_=>False
 | .map b'=>match x with
  | .map b=>match Nat.beq b b' with
   |true=>aO h b False fun
    | .map _=>aO h' b False fun
     | .map _=>K
     |_=>False
    |_=>False
   |false=>False
  |_=>False
 | .cut b' g' k' q'=>match x with
  | .cut b g k q=>match Nat.beq b b' with
   |true=>aO h b False fun
    | .arr g0 _ _=>aO h' b False fun
     | .arr g1 _ _=>match Nat.beq g g0,Nat.beq g' g1 with
      |true,true=>k=k'∧q=q'∧K
      |_,_=>False
     |_=>False
    |_=>False
   |false=>False
  |_=>False
 |_=>False
def pS (h h':List ae):List AV→List AV→Prop→Prop
 | [],[],K=>K
 |x::l,y::l',K=>tM h h' x y (pS h h' l l' K)
 |_,_,_=>False
def wx (h h':List ae) (x y:AV) (K:Prop):Prop :=
 match y with
 | .agg l'=>match x with
  | .agg l=>pS h h' l l' K
  |_=>False
 | .aF l'=>match x with
  | .aF l=>pS h h' l l' K
  |_=>False
 | .fn f' a' b'=>match x with
  | .fn f a b=>f=f'∧pS h h' a a' (pS h h' b b' K)
  |_=>False
 |y=>tM h h' x y K
def rG (h h':List ae):List AV→List AV→Prop→Prop
 | [],[],K=>K
 |x::l,y::l',K=>wx h h' x y (rG h h' l l' K)
 |_,_,_=>False
def Gl (g g':Nat):Bool:=match Nat.beq g' 0 with
 |true=>Nat.beq g 0
 |false=>true
theorem No {g g':Nat} (h:Gl g g'=true):g'=0→g=0:=fun e=>by
 subst e;exact Nat.eq_of_beq_eq_true h
def yP (h h':List ae) (x y:ae) (K:Prop):Prop :=
 match y with
 | .gone=>K
 | .cells l'=>match x with
  | .cells l=>rG h h' l l' K
  |_=>False
 | .arr g' dD l'=>match x with
  | .arr g ts l=>match Gl g g' with
   |true=>ts=dD∧l=l'∧K
   |false=>False
  |_=>False
 | .map du=>match x with
  | .map es=>es=du∧K
  |_=>False
 | .hole=>False
def pT (h h':List ae):List ae→List ae→Prop→Prop
 |_,[],K=>K
 |x::l,y::l',K=>yP h h' x y (pT h h' l l' K)
 |_,_,_=>False
def yQ (own:Nat→Option (Nat × Nat)) (h':List ae) (i:Nat):Option (Nat × Nat):=match h'[i]? with
 |none=>none
 |some .gone=>none
 |some _=>own i
def Cx.cut (c:Cx) (h':List ae):Cx:={ c with own:=yQ c.own h',heap:=h' }
def Gm (x y:ae):Prop:=match y with
 | .gone=>True
 | .cells l'=>∃ l,x = .cells l∧l.length=l'.length
 | .arr g' dD l'=>∃ g,x = .arr g dD l'∧(g'=0→g=0)
 | .map du=>x = .map du
 | .hole=>False
def HSub (h h':List ae):Prop:=∀ (i:Nat) (y:ae),h'[i]? = some y→∃ x,h[i]? = some x∧Gm x y
theorem jL {c:Cx} {h':List ae} {i:Nat} {y:ae} (hy:h'[i]? = some y) (hg:y ≠ .gone):(c.cut h').own i=c.own i:=by
 simp only [Cx.cut,yQ,hy]
theorem oI {c:Cx} {h':List ae} {i:Nat} {p:Nat × Nat} (hi:(c.cut h').own i=some p):c.own i=some p∧∃ y,h'[i]? = some y∧y ≠ .gone:=by
 simp only [Cx.cut,yQ] at hi;split at hi
 ·cases hi
 ·cases hi
 ·rename_i y aJ hy; exact ⟨hi,y,hy,fun e=>aJ (by rw [← e])⟩
theorem nE {c:Cx} {h':List ae} {x:DV} {v:Value} (hv:VD c.bad c.w x v):VD (c.cut h').bad (c.cut h').w x v :=
 hv.mono fun _ _ hn=>⟨fun hb=>hn (hb.elim .inl fun ⟨i,n,hi⟩ => .inr ⟨i,n,(oI hi).1⟩),rfl⟩
theorem Gn {h h':List ae} {x y:AV} {K:Prop} (H:tM h h' x y K) (hs:HSub h h'):K∧∀ (c:Cx) (v:Value),c.heap=h→VR c x v→VR (c.cut h') y v:=by
 unfold tM at H;split at H
 ·exact ⟨H,fun c v _ _ => .any v⟩
 ·split at H
  ·obtain ⟨rfl,H⟩:=H;exact ⟨H,fun c v _ hv=>by cases hv with | d _ _ hv=>exact .d _ _ (nE hv)⟩
  ·exact H.elim
 ·rename_i b' g';split at H
  ·rename_i b g;split at H
   ·rename_i q;have:=Nat.eq_of_beq_eq_true q;subst this;rcases a8 H with H1 | ⟨bx,hb,H1⟩
    ·exact H1.elim
    clear H;split at H1
    ·rename_i g0 ts l;rcases a8 H1 with H2 | ⟨Cb,b8,H2⟩
     ·exact H2.elim
     clear H1;split at H2
     ·rename_i g1 dD l';split at H2
      ·rename_i q1 q2;have q1:=Nat.eq_of_beq_eq_true q1;have q2:=Nat.eq_of_beq_eq_true q2;subst q1; subst q2;refine ⟨H2,fun c v hc hv=>?_⟩;obtain ⟨x0,k1,gx,k2,-⟩:=hs b _ b8;rw [hb] at k1;cases k1;cases k2;subst hc;have ho:=jL (c:=c) b8 (by simp);rcases lU hb hv with ⟨blk,cap,r1,rfl⟩ | ⟨rfl,rfl,r1⟩
       ·exact .own b _ _ _ blk cap b8 (ho.trans r1)
       ·exact .gj b _ _ b8 (ho.trans r1)
      ·exact H2.elim
     ·exact H2.elim
    ·exact H1.elim
   ·exact H.elim
  ·exact H.elim
 ·split at H
  ·split at H
   ·rename_i q1 q2;have q1:=Nat.eq_of_beq_eq_true q1;have q2:=Nat.eq_of_beq_eq_true q2;subst q1; subst q2;rcases a8 H with H | ⟨bx,hb,H⟩
    ·exact H.elim
    split at H
    ·rcases a8 H with H | ⟨Cb,b8,H⟩
     ·exact H.elim
     split at H
     ·refine ⟨H,fun c v hc hv=>?_⟩;subst hc;have ho:=jL (c:=c) b8 (by simp);cases hv with
      |ptr _ _ cs blk cap k1 k2=>exact .ptr _ _ _ blk cap b8 (ho.trans k2)
      |hU _ _ _ k1 _=>rw [hb] at k1; cases k1
     ·exact H.elim
    ·exact H.elim
   ·exact H.elim
  ·exact H.elim
 ·split at H
  ·split at H
   ·rename_i q;have:=Nat.eq_of_beq_eq_true q;subst this;obtain ⟨rfl,H⟩:=H;refine ⟨H,fun c v hc hv=>?_⟩;cases hv with
    |bJ _ _ blk o f k1 k2 k3 k4=>exact .bJ _ _ blk o f (fun hb=>k1 (hb.elim .inl fun ⟨i,n,hi⟩ => .inr ⟨i,n,(oI hi).1⟩)) k2 k3 (fun j x hx=>nE (k4 j x hx))
   ·exact H.elim
  ·exact H.elim
 ·split at H
  ·split at H
   ·rename_i q1;have q1:=Nat.eq_of_beq_eq_true q1;subst q1;rcases a8 H with H | ⟨bx,hb,H⟩
    ·exact H.elim
    split at H
    ·rcases a8 H with H | ⟨Cb,b8,H⟩
     ·exact H.elim
     split at H
     ·refine ⟨H,fun c v hc hv=>?_⟩;subst hc;have ho:=jL (c:=c) b8 (by simp);cases hv with
      |map _ es blk cap k1 k2=>exact .map _ _ blk cap b8 (ho.trans k2)
      |lH _ _ k1 _=>rw [hb] at k1; cases k1
     ·exact H.elim
    ·exact H.elim
   ·exact H.elim
  ·exact H.elim
 ·rename_i b' g' k' q';split at H
  ·rename_i b g k qq;split at H
   ·rename_i q;have:=Nat.eq_of_beq_eq_true q;subst this;rcases a8 H with H1 | ⟨bx,hb,H1⟩
    ·exact H1.elim
    clear H;split at H1
    ·rename_i g0 ts l;rcases a8 H1 with H2 | ⟨Cb,b8,H2⟩
     ·exact H2.elim
     clear H1;split at H2
     ·rename_i g1 dD l';split at H2
      ·rename_i q1 q2;have q1:=Nat.eq_of_beq_eq_true q1;have q2:=Nat.eq_of_beq_eq_true q2;subst q1; subst q2;obtain ⟨rfl,rfl,H2⟩:=H2;refine ⟨H2,fun c v hc hv=>?_⟩;obtain ⟨x0,k1,gx,k2,-⟩:=hs b _ b8;rw [hb] at k1;cases k1;cases k2;subst hc;have ho:=jL (c:=c) b8 (by simp);cases hv with
       |cut _ _ _ _ _ l2 blk cap o r1 r2 r3 r4 r5=>rw [hb] at r1; cases r1; exact .cut b _ k _ _ _ blk cap o b8 (ho.trans r2) r3 r4 r5
       |lF _ _ g2 _ _ _ _ _ r1 r2 _=>rw [hb] at r1; cases r1; omega
       |lG _ _ _ _ _ r1 _=>rw [hb] at r1; cases r1
      ·exact H2.elim
     ·exact H2.elim
    ·exact H1.elim
   ·exact H.elim
  ·exact H.elim
 ·exact H.elim
theorem wy {h h':List ae} {K:Prop} (hs:HSub h h'):∀ {l l':List AV},pS h h' l l' K→K∧l.length=l'.length∧∀ (c:Cx) (vs:List Value),c.heap=h→VL c l vs→VL (c.cut h') l' vs
 | [],[],H=>⟨H,rfl,fun c vs _ hv=>⟨hv.1,fun j x v hx=>by simp at hx⟩⟩
 |x::l,y::l',H=>by
  simp only [pS] at H;obtain ⟨H,h1⟩:=Gn H hs;obtain ⟨H,h2,h3⟩:=wy hs H;refine ⟨H,by simp [h2],fun c vs hc hv=>?_⟩;cases vs with
  |nil=>have:=hv.1; simp at this
  |cons v vs=>exact .cons (h1 c v hc hv.head.1) (h3 c vs hc hv.head.2)
 | [],_::_,H=>H.elim
 |_::_,[],H=>H.elim
theorem Np {h h':List ae} {x y:AV} {K:Prop} (H:wx h h' x y K) (hs:HSub h h'):K∧∀ (c:Cx) (v:Value),c.heap=h→VR c x v→VR (c.cut h') y v:=by
 unfold wx at H;split at H
 ·split at H
  ·obtain ⟨H,-,h1⟩:=wy hs H;refine ⟨H,fun c v hc hv=>?_⟩;obtain ⟨vs,rfl,gm⟩:=nk hv;exact sU (h1 c vs hc gm)
  ·exact H.elim
 ·split at H
  ·obtain ⟨H,-,h1⟩:=wy hs H;refine ⟨H,fun c v hc hv=>?_⟩;cases hv with
   |aF _ vs hl bD =>
    have:=h1 c vs.toList hc ⟨by simpa using hl,fun j x v hx hv=>bD j x v hx (by simpa using hv)⟩;exact .aF _ vs (by simpa using this.1) (fun j x v hx hv=>this.2 j x v hx (by simpa using hv))
  ·exact H.elim
 ·split at H
  ·obtain ⟨rfl,H⟩:=H;obtain ⟨H,-,h1⟩:=wy hs H;obtain ⟨H,-,h2⟩:=wy hs H;refine ⟨H,fun c v hc hv=>?_⟩;obtain ⟨v1,v2,rfl,r1,r2⟩:=km hv;have r1:=h1 c v1 hc r1;have r2:=h2 c v2 hc r2;exact .fn _ _ _ _ _ (by simpa using r1.1) (by simpa using r2.1) (fun j x v hx hv=>r1.2 j x v hx (by simpa using hv)) (fun j x v hx hv=>r2.2 j x v hx (by simpa using hv))
  ·exact H.elim
 ·exact Gn H hs
theorem Cc {h h':List ae} {K:Prop} (hs:HSub h h'):∀ {l l':List AV},rG h h' l l' K→K∧∀ (c:Cx) (vs:List Value),c.heap=h→VL c l vs→VL (c.cut h') l' vs
 | [],[],H=>⟨H,fun c vs _ hv=>⟨hv.1,fun j x v hx=>by simp at hx⟩⟩
 |x::l,y::l',H=>by
  simp only [rG] at H;obtain ⟨H,h1⟩:=Np H hs;obtain ⟨H,h3⟩:=Cc hs H;refine ⟨H,fun c vs hc hv=>?_⟩;cases vs with
  |nil=>have:=hv.1; simp at this
  |cons v vs=>exact .cons (h1 c v hc hv.head.1) (h3 c vs hc hv.head.2)
 | [],_::_,H=>H.elim
 |_::_,[],H=>H.elim
theorem Gp {h h':List ae} {x y:AV} {Q:Prop} (H:tM h h' x y Q):Q:=by
 unfold tM at H;repeat' split at H
 all_goals first
  |exact H
  |exact H.elim
  |exact H.2
  |(rcases a8 H with H | ⟨_, _, H⟩
    · exact H.elim
    split at H
    · rcases a8 H with H | ⟨_, _, H⟩
      · exact H.elim
      repeat' split at H
      all_goals first | exact H | exact H.elim | exact H.2.2 | exact H.2
    all_goals exact H.elim)
theorem yR {h h':List ae} {K:Prop}:∀ {l l':List AV},pS h h' l l' K→K
 | [],[],H=>H
 |_::_,_::_,H=>yR (Gp H)
 | [],_::_,H=>H.elim
 |_::_,[],H=>H.elim
theorem Cd {h h':List ae} {K:Prop}:∀ {l l':List AV},rG h h' l l' K→l.length=l'.length∧K
 | [],[],H=>⟨rfl,H⟩
 |x::l,y::l',H=>by
  have hK:∀ {Q:Prop},wx h h' x y Q→Q:=fun {Q} H=>by
   unfold wx at H;repeat' split at H
   all_goals first
    |exact H.elim
    |exact yR H
    |exact yR (yR H.2)
    |exact Gp H
  simp only [rG] at H;obtain ⟨h1,h2⟩:=Cd (hK H);exact ⟨by simp [h1],h2⟩
 | [],_::_,H=>H.elim
 |_::_,[],H=>H.elim
theorem Gq {h h':List ae} {K:Prop}:∀ {l l':List ae},pT h h' l l' K→HSub l l'∧K
 | [],[],H=>⟨fun i y hy=>by simp at hy,H⟩
 |_::_,[],H=>⟨fun i y hy=>by simp at hy,H⟩
 |x::l,y::l',H=>by
  simp only [pT] at H;have key:Gm x y∧pT h h' l l' K:=by
   unfold yP at H;split at H
   ·exact ⟨trivial,H⟩
   ·split at H
    ·obtain ⟨h1,h2⟩:=Cd H; exact ⟨⟨_,rfl,h1⟩,h2⟩
    ·exact H.elim
   ·split at H
    ·split at H
     ·rename_i q; obtain ⟨rfl,rfl,H⟩:=H; exact ⟨⟨_,rfl,No q⟩,H⟩
     ·exact H.elim
    ·exact H.elim
   ·split at H
    ·obtain ⟨rfl,H⟩:=H; exact ⟨rfl,H⟩
    ·exact H.elim
   ·exact H.elim
  obtain ⟨h1,h2⟩:=Gq key.2;refine ⟨fun i z hz=>?_,h2⟩;cases i with
  |zero=>simp at hz; subst hz; exact ⟨x,rfl,key.1⟩
  |succ i=>obtain ⟨w,k1,k2⟩:=h1 i z (by simpa using hz); exact ⟨w,by simpa using k1,k2⟩
 | [],_::_,H=>H.elim
theorem Gr {h h':List ae} {K:Prop} (hs:HSub h h'):∀ {l l':List ae},pT h h' l l' K→∀ (i:Nat) (cs:List AV),l'[i]? = some (.cells cs)→∃ nF,l[i]? = some (.cells nF)∧∀ (c:Cx) (vs:List Value),c.heap=h→VL c nF vs→VL (c.cut h') cs vs
 |_,[],H=>fun i y hy=>by simp at hy
 |x::l,y::l',H=>by
  simp only [pT] at H;intro i cs hi;cases i with
  |zero =>
   simp at hi;subst hi;simp only [yP] at H;split at H
   ·obtain ⟨-,h3⟩:=Cc hs H;exact ⟨_,rfl,h3⟩
   ·exact H.elim
  |succ i =>
   have rv:pT h h' l l' K:=by
    unfold yP at H;split at H
    ·exact H
    ·split at H
     ·exact (Cd H).2
     ·exact H.elim
    ·split at H
     ·split at H
      ·exact H.2.2
      ·exact H.elim
     ·exact H.elim
    ·split at H
     ·exact H.2
     ·exact H.elim
    ·exact H.elim
   obtain ⟨nF,k1,k2⟩:=Gr hs rv i cs (by simpa using hi);exact ⟨nF,by simpa using k1,k2⟩
 | [],_::_,H=>H.elim
theorem aK.cut {G:List (Nat × DV)} {c:Cx} (ho:aK G c) {h':List ae} (hs:HSub c.heap h') (s4:∀ (i:Nat) (cs:List AV),h'[i]? = some (.cells cs)→∃ nF,c.heap[i]? = some (.cells nF)∧∀ (vs:List Value),VL c nF vs→VL (c.cut h') cs vs):aK G (c.cut h') where
 bN:=ho.bN
 br:=fun i b n hi=>by
  obtain ⟨h1,y,h2,-⟩:=oI hi;exact ⟨(ho.br i b n h1).1,aT h2⟩
 inj:=fun i j b n m hi hj=>ho.inj i j b n m (oI hi).1 (oI hj).1
 sep:=fun i b n hi=>ho.sep i b n (oI hi).1
 box:=fun i bx hi=>by
  have bV:h'[i]? = some bx:=hi;obtain ⟨x,hx,hb⟩:=hs i bx bV;cases bx with
  |gone=>show (c.cut h').own i=none; simp only [Cx.cut,yQ,bV]
  |hole=>exact hb.elim
  |cells cs =>
   obtain ⟨nF,k1,k2⟩:=s4 i cs bV;obtain ⟨blk,cap,vs,ty,g1,g2,g3⟩:=ho.cells k1;have:=k2 vs.toList g3;exact ⟨blk,cap,vs,ty,(jL bV (by simp)).trans g1,g2,by simpa using this.1.symm,fun j x v hx hv=>this.2 j x v hx (by simpa using hv)⟩
  |arr g ts l =>
   obtain ⟨g0,rfl,-⟩:=hb;obtain ⟨q0,q1,q2⟩:=ho.box i _ hx;refine ⟨q0,q1,?_⟩;have cI:=jL (c:=c) bV (by simp);rcases q2 with ⟨q2,q3⟩ | ⟨blk,cap,vs,q2,q3,q4,q5,q6,q7⟩
   ·exact .inl ⟨cI.trans q2,q3⟩
   ·refine .inr ⟨blk,cap,vs,cI.trans q2,q3,q4,q5,q6,fun i j e x he hx=>?_⟩;obtain ⟨v,r1,r2,r3⟩:=q7 i j e x he hx;exact ⟨v,r1,r2,nE r3⟩
  |map es =>
   obtain rfl:x = .map es:=hb;obtain ⟨blk,cap,en,ck,k1,k2,k3,k4⟩:=ho.box i _ hx;exact ⟨blk,cap,en,ck,(jL bV (by simp)).trans k1,k2,k3,fun j k x m hx hm=>⟨nE (k4 j k x m hx hm).1,nE (k4 j k x m hx hm).2⟩⟩
 fm:=fun g e hg=>by
  have hp:∀ p,VR c (.bJ e 0) p→VR (c.cut h') (.bJ e 0) p:=fun p hp=>by
   cases hp with
   |bJ _ _ blk o' fv k1 k2 k3 k4=>exact .bJ _ _ blk o' fv (fun hb=>k1 (hb.elim .inl fun ⟨i,n,hi⟩ => .inr ⟨i,n,(oI hi).1⟩)) k2 k3 (fun j x hx=>nE (k4 j x hx))
  exact hp _ (ho.fm g e hg)
def tN (n:Nat) (h:List ae) (s:List AV) (h':List ae) (s':List AV):Prop:=match Nat.ble n h'.length with
 |true=>pT h h' h h' (rG h h' s s' True)
 |false=>False
theorem ee.cut {c0 c:Cx} (hr:ee c0 c) {h':List ae} (hn:c0.heap.length≤h'.length) (hs:HSub c.heap h'):ee c0 (c.cut h') where
 lim:=hr.lim
 lO:=hr.lO
 ay:=hr.ay
 mC:=hr.mC
 os:=hr.os
 tape:=hr.tape
 output:=hr.output
 size:=hr.size
 keep:=hr.keep
 db:=fun i b n hi hb=>hr.db i b n (oI hi).1 hb
 boxes:=fun i bx hi=>by
  have ai:i<h'.length:=Nat.lt_of_lt_of_le (aT hi) hn;obtain ⟨y,hy⟩:∃ y,h'[i]? = some y:=⟨h'[i],by simp [ai]⟩;obtain ⟨x,hx,hb⟩:=hs i y hy;have eS:(c.cut h').heap[i]? = some y:=hy;have h1:=hr.boxes i bx hi;have eh:y = .gone→vw c0 (c.cut h') i bx:=fun e=>by
   subst e;cases bx with
   |cells cs=>exact .inr eS
   |arr g sz l=>exact .inr eS
   |map es=>exact .inr eS
   |gone=>exact eS
   |hole=>exact ⟨_,eS⟩
  cases y with
  |gone=>exact eh rfl
  |hole=>exact hb.elim
  |cells cs' =>
   obtain ⟨V1,rfl,hl⟩:=hb;have ho:=jL (c:=c) hy (by simp);cases bx with
   |cells cs =>
    rcases h1 with ⟨Nq,h1,h2,h3⟩ | h1
    ·rw [hx] at h1; cases h1;exact .inl ⟨cs',eS,ho.trans h2,by omega⟩
    ·rw [hx] at h1; cases h1
   |arr g sz l =>
    rcases h1 with ⟨_,_,h1,_⟩ | h1 <;> (rw [hx] at h1; cases h1)
   |map es=>rcases h1 with ⟨_,h1,_⟩ | h1 <;> (rw [hx] at h1; cases h1)
   |gone=>have h1:c.heap[i]? = some .gone:=h1; rw [hx] at h1; cases h1
   |hole=>exact ⟨_,eS⟩
  |arr g' dD l' =>
   obtain ⟨g1,rfl,hl⟩:=hb;have ho:=jL (c:=c) hy (by simp);cases bx with
   |cells cs=>rcases h1 with ⟨_,h1,_⟩ | h1 <;> (rw [hx] at h1; cases h1)
   |arr g sz l =>
    rcases h1 with ⟨g2,l2,h1,h2⟩ | h1
    ·rw [hx] at h1; cases h1;refine .inl ⟨g',l',eS,?_⟩;by_cases hz:g'=0
     ·have:=hl hz;rcases h2 with h2 | ⟨h2,h3,h4⟩
      ·omega
      ·exact .inr ⟨hz,h3,ho.trans h4⟩
     ·left; omega
    ·rw [hx] at h1; cases h1
   |map es=>rcases h1 with ⟨_,h1,_⟩ | h1 <;> (rw [hx] at h1; cases h1)
   |gone=>have h1:c.heap[i]? = some .gone:=h1; rw [hx] at h1; cases h1
   |hole=>exact ⟨_,eS⟩
  |map du =>
   obtain rfl:x = .map du:=hb;have ho:=jL (c:=c) hy (by simp);cases bx with
   |cells cs=>rcases h1 with ⟨_,h1,_⟩ | h1 <;> (rw [hx] at h1; cases h1)
   |arr g sz l=>rcases h1 with ⟨_,_,h1,_⟩ | h1 <;> (rw [hx] at h1; cases h1)
   |map es =>
    rcases h1 with ⟨V2,h1,h2⟩ | h1
    ·rw [hx] at h1; cases h1;exact .inl ⟨du,eS,ho.trans h2⟩
    ·rw [hx] at h1; cases h1
   |gone=>have h1:c.heap[i]? = some .gone:=h1; rw [hx] at h1; cases h1
   |hole=>exact ⟨_,eS⟩
def tO (h h':List ae) (x:AV) (K:Prop):Prop :=
 match x with
 | .any=>K
 | .d _=>K
 | .own b g=>aO h' b False fun
  | .gone=>K
  | .arr g1 _ _=>aO h b False fun
   | .arr g0 _ _=>match Nat.blt g g1 with
    |true=>match Nat.ble g g0 with
     |true=>K
     |false=>False
    |false=>match Nat.beq g g0,Nat.beq g g1 with
     |true,true=>K
     |_,_=>False
   |_=>False
  |_=>False
 | .ptr b _=>aO h' b False fun
  | .gone=>K
  | .cells _=>aO h b False fun
   | .cells _=>K
   |_=>False
  |_=>False
 | .bJ _ _=>K
 | .map b=>aO h' b False fun
  | .gone=>K
  | .map _=>aO h b False fun
   | .map _=>K
   |_=>False
  |_=>False
 | .cut b g _ _=>aO h' b False fun
  | .gone=>K
  | .arr g1 _ _=>aO h b False fun
   | .arr g0 _ _=>match Nat.blt g g1 with
    |true=>match Nat.ble g g0 with
     |true=>K
     |false=>False
    |false=>match Nat.beq g g0,Nat.beq g g1 with
     |true,true=>K
     |_,_=>False
   |_=>False
  |_=>False
 | .cC b g _ _=>aO h' b False fun
  | .gone=>K
  | .arr g1 _ _=>aO h b False fun
   | .arr g0 _ _=>match Nat.blt g g1 with
    |true=>match Nat.ble g g0 with
     |true=>K
     |false=>False
    |false=>match Nat.beq g g0,Nat.beq g g1 with
     |true,true=>K
     |_,_=>False
   |_=>False
  |_=>False
 |_=>False
def rH (h h':List ae):List AV→Prop→Prop
 | [],K=>K
 |x::l,K=>tO h h' x (rH h h' l K)
def wz (h h':List ae) (x:AV) (K:Prop):Prop :=
 match x with
 | .agg l=>rH h h' l K
 | .aF l=>rH h h' l K
 | .fn _ a b=>rH h h' a (rH h h' b K)
 |x=>tO h h' x K
def wA (h h':List ae):List AV→Prop→Prop
 | [],K=>K
 |x::l,K=>wz h h' x (wA h h' l K)
def yS (h h':List ae):List bQ→Prop→Prop
 | [],K=>K
 |f::l,K=>wA h h' f.gr (yS h h' l K)
def rI (h h':List ae):List bj→Prop→Prop
 | [],K=>K
 | .loop i::l,K=>wA h h' i.gr (rI h h' l K)
 | .mark _::l,K=>rI h h' l K
 |_::_,_=>False
def tP (h h':List ae) (x:FX) (K:Prop):Prop:=yS h h' x.cls (rI h h' x.loops K)
theorem tQ {β:Type} {l:List β} {i:Nat} {k:β→Prop} {K:Prop} (hk:∀ x,k x→K) (H:aO l i False k):K:=by
 rcases a8 H with H | ⟨x,_,H⟩
 ·exact H.elim
 ·exact hk x H
theorem Gs {h h':List ae} {x:AV} {K:Prop} (H:tO h h' x K):K:=by
 have arr:∀ (b g:Nat),(aO h' b False fun
  | .gone=>K
  | .arr g1 _ _=>aO h b False fun
   | .arr g0 _ _=>match Nat.blt g g1 with
    |true=>match Nat.ble g g0 with
     |true=>K
     |false=>False
    |false=>match Nat.beq g g0,Nat.beq g g1 with
     |true,true=>K
     |_,_=>False
   |_=>False
  |_=>False)→K:=fun b g H=>tQ (fun y H=>by
   split at H
   ·exact H
   ·refine tQ (fun z H=>?_) H;split at H
    ·split at H
     ·split at H
      ·exact H
      ·exact H.elim
     ·split at H
      ·exact H
      ·exact H.elim
    ·exact H.elim
   ·exact H.elim) H
 cases x with
 |own b g=>exact arr b g H
 |cC b g i off=>exact arr b g H
 |cut b g k q=>exact arr b g H
 |ptr b off =>
  exact tQ (fun y H=>by
   split at H
   ·exact H
   ·refine tQ (fun z H=>?_) H;split at H
    ·exact H
    ·exact H.elim
   ·exact H.elim) H
 |map b =>
  exact tQ (fun y H=>by
   split at H
   ·exact H
   ·refine tQ (fun z H=>?_) H;split at H
    ·exact H
    ·exact H.elim
   ·exact H.elim) H
 |any=>exact H
 |d x=>exact H
 |bJ e off=>exact H
 |agg l=>exact H.elim
 |aF l=>exact H.elim
 |fn f a b=>exact H.elim
theorem wB {h h':List ae}:∀ {l:List AV} {K:Prop},rH h h' l K→K
 | [],_,H=>H
 |_::_,_,H=>wB (Gs H)
theorem Nr {h h':List ae} {x:AV} {K:Prop} (H:wz h h' x K):K:=by
 unfold wz at H;split at H
 ·exact wB H
 ·exact wB H
 ·exact wB (wB H)
 ·exact Gs H
theorem Ce {h h':List ae}:∀ {l:List AV} {K:Prop},wA h h' l K→K
 | [],_,H=>H
 |_::_,_,H=>Ce (Nr H)
theorem Gt {h h':List ae}:∀ {l:List bQ} {K:Prop},yS h h' l K→K
 | [],_,H=>H
 |_::_,_,H=>Gt (Ce H)
theorem Cf {h h':List ae}:∀ {l:List bj} {K:Prop},rI h h' l K→K
 | [],_,H=>H
 | .loop _::_,_,H=>Cf (Ce H)
 | .mark _::l,_,H=>Cf (l:=l) H
 | .row _::_,_,H=>H.elim
 | .iter _::_,_,H=>H.elim
theorem Gu {h h':List ae} (hs:HSub h h') {x:AV} {K:Prop} (H:tO h h' x K):K∧∀ (c:Cx),c.heap=h→∀ v,VR c x v→VR (c.cut h') x v:=by
 have own:∀ (b g:Nat) (K:Prop),(aO h' b False fun
  | .gone=>K
  | .arr g1 _ _=>aO h b False fun
   | .arr g0 _ _=>match Nat.blt g g1 with
    |true=>match Nat.ble g g0 with
     |true=>K
     |false=>False
    |false=>match Nat.beq g g0,Nat.beq g g1 with
     |true,true=>K
     |_,_=>False
   |_=>False
  |_=>False)→K∧(h'[b]? = some .gone∨∃ g0 g1 ts l,h[b]? = some (.arr g0 ts l)∧h'[b]? = some (.arr g1 ts l)∧(g<g1∨g=g0∧g=g1)):=fun b g K H=>by
  rcases a8 H with H | ⟨y,hy,H⟩
  ·exact H.elim
  split at H
  ·exact ⟨H,.inl hy⟩
  ·rename_i g1 V3 l1;rcases a8 H with H | ⟨x,hx,H⟩
   ·exact H.elim
   split at H
   ·rename_i g0 V4 l0;obtain ⟨x',eQ,q⟩:=hs b _ hy;rw [hx] at eQ;cases eQ;obtain ⟨g2,q,-⟩:=q;cases q;split at H
    ·rename_i q1;split at H
     ·exact ⟨H,.inr ⟨_,_,_,_,hx,hy,.inl (Nat.le_of_ble_eq_true q1)⟩⟩
     ·exact H.elim
    ·split at H
     ·rename_i q1 q2;exact ⟨H,.inr ⟨_,_,_,_,hx,hy,.inr ⟨Nat.eq_of_beq_eq_true q1,Nat.eq_of_beq_eq_true q2⟩⟩⟩
     ·exact H.elim
   ·exact H.elim
  ·exact H.elim
 cases x with
 |any=>exact ⟨H,fun c _ v _ => .any v⟩
 |d x=>exact ⟨H,fun c _ v hv=>by cases hv with | d _ _ hv=>exact .d _ _ (nE hv)⟩
 |bJ e off=>exact ⟨H,fun c _ v hv=>by cases hv with | bJ _ _ blk o f k1 k2 k3 k4=>exact .bJ _ _ blk o f (fun hb=>k1 (hb.elim .inl fun ⟨i,n,hi⟩ => .inr ⟨i,n,(oI hi).1⟩)) k2 k3 (fun j x hx=>nE (k4 j x hx))⟩
 |own b g =>
  obtain ⟨hK,hq⟩:=own b g K H;refine ⟨hK,fun c hc v hv=>?_⟩;subst hc;rcases hq with hq | ⟨g0,g1,ts,l,q1,q2,q3⟩
  ·have bZ:v.oneCell'=true:=by cases hv <;> first | rfl | assumption
   exact .ix b g v hq bZ
  ·have ho:=jL (c:=c) q2 (by simp);rcases q3 with q3 | ⟨rfl,rfl⟩
   ·have bZ:v.oneCell'=true:=by cases hv <;> first | rfl | assumption
    exact .jd b g g1 ts l v q2 q3 bZ
   ·cases hv with
    |own _ _ sz l' blk cap hb cI=>rw [q1] at hb; cases hb; exact .own b g ts l blk cap q2 (ho.trans cI)
    |gj _ _ sz hb cI=>rw [q1] at hb; cases hb; exact .gj b g ts q2 (ho.trans cI)
    |jd _ _ g' sz l' v hb hg hv=>rw [q1] at hb; cases hb; omega
    |ix _ _ v hb hv=>rw [q1] at hb; cases hb
    |kK _ _ _ _ _ _ hb _ _=>rw [q1] at hb; cases hb
 |cut b g k qq =>
  obtain ⟨hK,hq⟩:=own b g K H;refine ⟨hK,fun c hc v hv=>?_⟩;subst hc;rcases hq with hq | ⟨g0,g1,ts,l,q1,q2,q3⟩
  ·have bZ:v.oneCell'=true:=by cases hv <;> first | rfl | assumption
   exact .lG b g k qq v hq bZ
  ·have ho:=jL (c:=c) q2 (by simp);rcases q3 with q3 | ⟨rfl,rfl⟩
   ·have bZ:v.oneCell'=true:=by cases hv <;> first | rfl | assumption
    exact .lF b g g1 k qq ts l v q2 q3 bZ
   ·cases hv with
    |cut _ _ _ _ sz l' blk cap o hb cI hk x3 Ns=>rw [q1] at hb; cases hb; exact .cut b g k qq ts l blk cap o q2 (ho.trans cI) hk x3 Ns
    |lF _ _ g' _ _ sz l' v hb hg hv=>rw [q1] at hb; cases hb; omega
    |lG _ _ _ _ v hb hv=>rw [q1] at hb; cases hb
 |cC b g i off =>
  obtain ⟨hK,hq⟩:=own b g K H;refine ⟨hK,fun c hc v hv=>?_⟩;subst hc;rcases hq with hq | ⟨g0,g1,ts,l,q1,q2,q3⟩
  ·have bZ:v.oneCell'=true:=by cases hv <;> first | rfl | assumption
   exact .ke b g i off v hq bZ
  ·have ho:=jL (c:=c) q2 (by simp);rcases q3 with q3 | ⟨rfl,rfl⟩
   ·have bZ:v.oneCell'=true:=by cases hv <;> first | rfl | assumption
    exact .kc b g g1 i off ts l v q2 q3 bZ
   ·cases hv with
    |cC _ _ _ _ sz l' blk cap hb cI hi=>rw [q1] at hb; cases hb; exact .cC b g i off ts l blk cap q2 (ho.trans cI) hi
    |kc _ _ g' _ _ sz l' v hb hg hv=>rw [q1] at hb; cases hb; omega
    |ke _ _ _ _ v hb hv=>rw [q1] at hb; cases hb
 |ptr b off =>
  simp only [tO] at H;rcases a8 H with H | ⟨y,hy,H⟩
  ·exact H.elim
  split at H
  ·refine ⟨H,fun c _ v hv=>?_⟩;have bZ:v.oneCell'=true:=by cases hv <;> first | rfl | assumption
   exact .hU b off v hy bZ
  ·rcases a8 H with H | ⟨x,hx,H⟩
   ·exact H.elim
   split at H
   ·refine ⟨H,fun c hc v hv=>?_⟩;subst hc;have ho:=jL (c:=c) hy (by simp);cases hv with
    |ptr _ _ cs blk cap hb cI=>exact .ptr b off _ blk cap hy (ho.trans cI)
    |hU _ _ v hb hv=>rw [hx] at hb; cases hb
   ·exact H.elim
  ·exact H.elim
 |map b =>
  simp only [tO] at H;rcases a8 H with H | ⟨y,hy,H⟩
  ·exact H.elim
  split at H
  ·refine ⟨H,fun c _ v hv=>?_⟩;have bZ:v.oneCell'=true:=by cases hv <;> first | rfl | assumption
   exact .lH b v hy bZ
  ·rcases a8 H with H | ⟨x,hx,H⟩
   ·exact H.elim
   split at H
   ·refine ⟨H,fun c hc v hv=>?_⟩;subst hc;have ho:=jL (c:=c) hy (by simp);cases hv with
    |map _ es blk cap hb cI=>exact .map b _ blk cap hy (ho.trans cI)
    |lH _ v hb hv=>rw [hx] at hb; cases hb
   ·exact H.elim
  ·exact H.elim
 |agg l=>exact H.elim
 |aF l=>exact H.elim
 |fn f a b=>exact H.elim
theorem wC {h h':List ae} (hs:HSub h h'):∀ {l:List AV} {K:Prop},rH h h' l K→K∧∀ (c:Cx),c.heap=h→∀ (j:Nat) x v,l[j]? = some x→VR c x v→VR (c.cut h') x v
 | [],K,H=>⟨H,fun c _ j x v hx=>by simp at hx⟩
 |y::l,K,H=>by
  obtain ⟨H,h1⟩:=Gu hs H;obtain ⟨H,h2⟩:=wC hs H;refine ⟨H,fun c hc j x v hx hv=>?_⟩;cases j with
  |zero=>simp at hx; subst hx; exact h1 c hc v hv
  |succ j=>exact h2 c hc j x v (by simpa using hx) hv
theorem Nt {h h':List ae} (hs:HSub h h') {x:AV} {K:Prop} (H:wz h h' x K):K∧∀ (c:Cx),c.heap=h→∀ v,VR c x v→VR (c.cut h') x v:=by
 unfold wz at H;split at H
 ·obtain ⟨H,h1⟩:=wC hs H;exact ⟨H,fun c hc v hv=>by cases hv with | agg _ vs hl bD=>exact .agg _ vs hl fun j x v hx hu=>h1 c hc j x v hx (bD j x v hx hu)⟩
 ·obtain ⟨H,h1⟩:=wC hs H;exact ⟨H,fun c hc v hv=>by cases hv with | aF _ vs hl bD=>exact .aF _ vs hl fun j x v hx hu=>h1 c hc j x v hx (bD j x v hx hu)⟩
 ·obtain ⟨H,h1⟩:=wC hs H;obtain ⟨H,h2⟩:=wC hs H;exact ⟨H,fun c hc v hv=>by cases hv with | fn _ _ _ v1 v2 k1 k2 k3 k4=>exact .fn _ _ _ v1 v2 k1 k2 (fun j x v hx hu=>h1 c hc j x v hx (k3 j x v hx hu)) (fun j x v hx hu=>h2 c hc j x v hx (k4 j x v hx hu))⟩
 ·exact Gu hs H
theorem Cg {h h':List ae} (hs:HSub h h'):∀ {l:List AV} {K:Prop},wA h h' l K→K∧∀ (c:Cx),c.heap=h→∀ t,VS c l t→VS (c.cut h') l t
 | [],K,H=>⟨H,fun c _ t ht=>⟨ht.1,fun j x v hx=>by simp at hx⟩⟩
 |y::l,K,H=>by
  obtain ⟨H,h1⟩:=Nt hs H;obtain ⟨H,h2⟩:=Cg hs H;refine ⟨H,fun c hc t ht=>⟨ht.1,fun j x v hx hv=>?_⟩⟩;cases j with
  |zero=>simp at hx; subst hx; exact h1 c hc v (ht.2 0 _ v rfl hv)
  |succ j =>
   have eF:(t.extract 1)[j]? = some v:=by
    rw [Array.getElem?_extract];have:=(Array.getElem?_eq_some_iff.1 hv).1;rw [if_pos (by omega),Nat.add_comm];exact hv
   have:=h2 c hc (t.extract 1) ⟨by have:=ht.1; simp at this ⊢; omega,fun i x v hx hv=>ht.2 (i+1) x v (by simpa using hx) (by
    rw [Array.getElem?_extract] at hv;split at hv
    ·rw [Nat.add_comm] at hv; exact hv
    ·cases hv)⟩
   exact this.2 j x v (by simpa using hx) eF
theorem Gv {h h':List ae} (hs:HSub h h'):∀ {l:List bQ} {K:Prop},yS h h' l K→K∧∀ (c:Cx),c.heap=h→∀ ts,CR c l ts→CR (c.cut h') l ts
 | [],K,H=>⟨H,fun c _ ts ht=>by cases ts with | nil=>trivial | cons t ts=>exact ht.elim⟩
 |f::l,K,H=>by
  obtain ⟨H,h1⟩:=Cg hs H;obtain ⟨H,h2⟩:=Gv hs H;refine ⟨H,fun c hc ts ht=>?_⟩;cases ts with
  |nil=>exact ht.elim
  |cons t ts=>exact ⟨h1 c hc t ht.1,ht.2.1,h2 c hc ts ht.2.2⟩
theorem Ch {h h':List ae} (hs:HSub h h'):∀ {l:List bj} {K:Prop},rI h h' l K→K∧∀ (lim:Nat) (c:Cx),c.heap=h→∀ g∈l,gz lim c g→gz lim (c.cut h') g
 | [],K,H=>⟨H,fun lim c _ g hg=>by simp at hg⟩
 | .loop i::l,K,H=>by
  obtain ⟨H,h1⟩:=Cg hs H;obtain ⟨H,h2⟩:=Ch hs H;refine ⟨H,fun lim c hc g hg hk=>?_⟩;rcases List.mem_cons.1 hg with rfl | hg
  ·obtain ⟨k1,k2,k3,k4⟩:=(show lP lim c i from hk);exact (show lP lim (c.cut h') i from ⟨k1,k2,k3,h1 c hc _ k4⟩)
  ·exact h2 lim c hc g hg hk
 | .mark d::l,K,H=>by
  obtain ⟨H,h2⟩:=Ch (l:=l) hs H;refine ⟨H,fun lim c hc g hg hk=>?_⟩;rcases List.mem_cons.1 hg with rfl | hg
  ·obtain ⟨k1,k2,k3⟩:=(show pC lim c d from hk);exact (show pC lim (c.cut h') d from ⟨k1,k2,k3⟩)
  ·exact h2 lim c hc g hg hk
 | .row _::_,_,H=>H.elim
 | .iter _::_,_,H=>H.elim
theorem gz.Nu {lim:Nat} {c:Cx} {h':List ae}:∀ {g:bj},gz lim c g→g.flat→gz lim (c.cut h') g
 | .row r,h,_=>nu.gen (c:=c) h (nu.ay (c:=c) h) rfl (fun _ _=>nE)
 | .iter i,h,_=>kl.gen (c:=c) h (kl.Bb (c:=c) h) (kl.vx (c:=c) h) rfl rfl (fun _ _=>nE)
 | .loop _,_,h=>h.elim
 | .mark d,h,_=>by obtain ⟨k1,k2,k3⟩:=(show pC lim c d from h); exact (show pC lim (c.cut h') d from ⟨k1,k2,k3⟩)
section
variable {E:Env} {ag:FuncId} {R:cx} {td:List aP} {s s':List AV} {h h':List ae}
theorem dx.cut {lim:Nat} {c:Cx} {rows loops:List bj} (h:dx lim c rows loops) {h':List ae} (hl:∀ g∈loops,gz lim c g→gz lim (c.cut h') g):dx lim (c.cut h') rows loops :=
 ⟨⟨fun g hg=>(List.mem_append.1 hg).elim (fun wD=>(h.all.each g hg).Nu (h.flat g wD)) (fun wD=>hl g wD (h.all.each g hg)),h.all.nodup⟩,h.flat⟩
theorem AW.weaken {f0:FuncId} {fd:gy} (hs:tP h h' R.fx (tN R.n h s h' s')) (H:AW E f0 ⟨fd,td,s'⟩ R.fx.cls h' R):AW E f0 ⟨fd,td,s⟩ R.fx.cls h R:=by
 unfold AW at H ⊢;intro c0 c t ts h0 h1 h2 h3 hr bE h4 h5 cs;subst h2;unfold tP at hs;have pU:=hs;replace hs:=Cf (Gt hs);unfold tN at hs;split at hs
 case h_2=>exact hs.elim
 rename_i q;have hn:=Nat.le_of_ble_eq_true q;obtain ⟨k1,k2⟩:=Gq hs;have k3:=Gr k1 hs;obtain ⟨-,k4⟩:=Cc k1 k2;obtain ⟨tR,f1⟩:=Gv k1 pU;obtain ⟨-,f2⟩:=Ch k1 tR;have hv:=k4 c t.toList rfl ⟨by simpa using h4.1,fun j x v hx hv=>h4.2 j x v hx (by simpa using hv)⟩;have aM:=h3.cut k1 (fun i cs hi=>by obtain ⟨nF,r1,r2⟩:=k3 i cs hi; exact ⟨nF,r1,fun vs hv=>r2 c vs rfl hv⟩);exact H c0 (c.cut h') t ts h0 h1 rfl aM (hr.cut (by omega) k1) (bE.cut fun g hg=>f2 _ c rfl g hg) ⟨by simpa using hv.1,fun j x v hx hu=>hv.2 j x v hx (by simpa using hu)⟩ (f1 c rfl ts h5) cs
def anyS:List Nat→List AV→List AV
 | [],s=>s
 |d::l,s=>anyS l (s.set d .any)
def jM:List (Nat × AV)→List AV→List AV
 | [],s=>s
 |(d,v)::l,s=>jM l (s.set d v)
def jN:List (Nat × ae)→List ae→List ae
 | [],h=>h
 |(d,v)::l,h=>jN l (h.set d v)
def yT {α:Sort _}:List Nat→List AV→(List AV→α)→α
 | [],s,k=>k s
 |d::l,s,k=>fk s d .any fun s'=>yT l s' k
theorem Gw {α:Sort _}:∀ (l:List Nat) (s:List AV) (k:List AV→α),yT l s k=k (anyS l s)
 | [],_,_=>rfl
 |d::l,s,k=>by simp only [yT,fQ,anyS,Gw l]
def rJ {α:Sort _} {β:Type}:List (Nat × β)→List β→(List β→α)→α
 | [],s,k=>k s
 |(d,v)::l,s,k=>fk s d v fun s'=>rJ l s' k
theorem Gx {α:Sort _}:∀ (l:List (Nat × AV)) (s:List AV) (k:List AV→α),rJ l s k=k (jM l s)
 | [],_,_=>rfl
 |(d,v)::l,s,k=>by simp only [rJ,fQ,jM,Gx l]
theorem Gy {α:Sort _}:∀ (l:List (Nat × ae)) (s:List ae) (k:List ae→α),rJ l s k=k (jN l s)
 | [],_,_=>rfl
 |(d,v)::l,s,k=>by simp only [rJ,fQ,jN,Gy l]
def wE (ks:List Nat):AV→Bool
 | .own j _=>iJ j ks
 | .cut j _ _ _=>iJ j ks
 | .cC j _ _ _=>iJ j ks
 |_=>false
def Gz (ks:List Nat):AV→Bool
 | .agg l=>l.any (wE ks)
 | .aF l=>l.any (wE ks)
 | .fn _ a b=>a.any (wE ks)||b.any (wE ks)
 |x=>wE ks x
def jO (ks:List Nat):List AV→List AV
 | []=>[]
 |x::s=>(match Gz ks x with | true => .any | false=>x)::jO ks s
def wF {α:Sort _} (ks:List Nat):List AV→(List AV→α)→α
 | [],k=>k []
 |x::s,k=>match Gz ks x with
  |true=>wF ks s fun s'=>k (.any::s')
  |false=>wF ks s fun s'=>k (x::s')
theorem GA {α:Sort _} (ks:List Nat):∀ (s:List AV) (k:List AV→α),wF ks s k=k (jO ks s)
 | [],_=>rfl
 |x::s,k=>by
  simp only [wF,jO];split <;> rename_i q <;> rw [GA ks s] <;> simp only [q]
def kY:List (Nat × ae)→List Nat
 | []=>[]
 |p::l=>p.1::kY l
def rK {α:Sort _} (eX ks:List Nat) (vars:List (Nat × AV)) (boxes:List (Nat × ae)) (s:List AV) (h:List ae) (k:List AV→List ae→α):α :=
 wF ks s fun s0=>yT eX s0 fun s1=>rJ vars s1 fun s2=>rJ boxes h fun h2=>k s2 h2
theorem wG {α:Sort _} (eX ks:List Nat) (vars:List (Nat × AV)) (boxes:List (Nat × ae)) (s:List AV) (h:List ae) (k:List AV→List ae→α):rK eX ks vars boxes s h k=k (jM vars (anyS eX (jO ks s))) (jN boxes h):=by
 simp only [rK,GA,Gw,Gx,Gy]
theorem I.loop {lits:List Nat} {b:Code} {k:List aP} {κ:Type} (eX:List Nat) (vars:κ→List (Nat × AV)) (boxes:κ→List (Nat × ae)) (Φ:κ→Prop) (μ:κ→Nat) (x0:κ) (h0:Φ x0)
  (mM:rK eX (kY (boxes x0)) (vars x0) (boxes x0) s h fun s' h'=>tP h h' R.fx (tN R.n h s h' s'))
  (pV:∀ x,Φ x→(∀ y,Φ y→μ y<μ x→I E ag R [] (.inLoop b::k) (jM (vars y) (anyS eX (jO (kY (boxes x0)) s))) (jN (boxes y) h))→I E ag R [] (.code b :: .inLoop b::k) (jM (vars x) (anyS eX (jO (kY (boxes x0)) s))) (jN (boxes x) h)) :
  I E ag R lits (.code (.loop b)::k) s h:=by
 have main:∀ n x,μ x<n→Φ x→I E ag R [] (.inLoop b::k) (jM (vars x) (anyS eX (jO (kY (boxes x0)) s))) (jN (boxes x) h):=by
  intro n
  induction n with
  |zero=>intro x hx; omega
  |succ n ih=>intro x hx hP; exact .of (.inLoop (pV x hP fun y hy hm=>ih y (by omega) hy).to)
 rw [wG] at mM;exact .of (.loop (.weaken mM (pV x0 h0 fun y hy _=>main (μ y+1) y (by omega) hy).to))
theorem I.head (hE:E.OK) {fn:Func} (hf:E.P.funcs[ag]? = some fn) (n:Nat) {lits eX ks:List Nat} {vars:List (Nat × AV)} {boxes:List (Nat × ae)} {s0:List AV} {h0:List ae}
  (H:rK eX ks vars boxes s0 h0 fun s' h'=>runK E ag fn.results.toList R n lits td s' h'):I E ag R lits td (jM vars (anyS eX (jO ks s0))) (jN boxes h0):=by
 rw [wG] at H;exact .run hE hf n H
theorem I.back {lits Nv eX ks:List Nat} {vars:List (Nat × AV)} {boxes:List (Nat × ae)} {s0:List AV} {h0:List ae} (H:I E ag R lits td (jM vars (anyS eX (jO ks s0))) (jN boxes h0))
  (hs:rK eX ks vars boxes s0 h0 fun s' h'=>tP h h' R.fx (tN R.n h s h' s')):I E ag R Nv td s h:=by
 rw [wG] at hs;exact .of (.weaken hs H.to)
theorem I.tj {lits:List Nat} (d:Nat) (ts:Nat × Nat) (gE:0<ts.2) (hd:s[d]? = some (.d .aL)) (H:I E ag R lits td (s.set d (.own h.length 0)) (h++[.arr 0 ts []])):I E ag R lits td s h:=by
 replace H:=H.to;refine .of (.ji (fun c t dD h1 h2 h3 h4 h5=>?_) H);subst h2
 let c':Cx:={ c with heap:=c.heap++[.arr 0 ts []] }
 have bL:c.own c.heap.length=none:=by
  cases ho:c.own c.heap.length with
  |none=>rfl
  |some p=>have:=(h3.br _ p.1 p.2 ho).2; omega
 have aX:Step c c':=⟨rfl,h3.bN,rfl,rfl,rfl,Nat.le_refl _,fun _ _ _=>rfl,fun i b n hi _=>⟨n,hi⟩,fun i bx hi=>by
  have h':c'.heap[i]? = some bx:=by show (c.heap++_)[i]? = _; rw [List.getElem?_append_left (aT hi)]; exact hi
  cases bx with
  |cells cs=>exact .inl ⟨cs,h',rfl,rfl⟩
  |arr g sz l=>exact .inl ⟨g,l,h',.inr ⟨rfl,rfl,rfl⟩⟩
  |map es=>exact .inl ⟨es,h',rfl⟩
  |gone=>exact h'
  |hole=>exact ⟨_,h'⟩⟩
 have gF:c'.heap[c.heap.length]? = some (.arr 0 ts []):=by show (c.heap++_)[_]? = _; simp
 have aM:aK E.G c':=h3.next aX (fun i b n hi=>⟨(h3.br i b n hi).1,by have:=(h3.br i b n hi).2; show i<(c.heap++_).length; simp; omega⟩) h3.inj (fun i bx hi=>by
  by_cases fF:i=c.heap.length
  ·subst fF;rw [gF] at hi;cases hi;exact .inr ⟨gE,fun i e he=>by simp at he,.inl ⟨bL,rfl⟩⟩
  ·have ai : i < c.heap.length := by have := aT hi; have h2 : c'.heap.length = c.heap.length + 1 := by show (c.heap ++ _).length = _; simp
                                     omega
   have bV:(c.heap++[.arr 0 ts []])[i]? = some bx:=hi;rw [List.getElem?_append_left ai] at bV
   exact .inl ⟨bV,rfl,fun _ _ _=>rfl⟩)
 refine ⟨c',t,dD,h1,rfl,aM,?_,aX.cr h5,aX,fun _ => .refl _ _⟩;have gC:d<t.size:=by rw [← h4.1]; exact aT hd
 have hv:t[d] = .slice none 0 0:=by
  have:=h4.2 d _ t[d] hd (by simp [gC]);generalize t[d]=u at this;cases this with
  |d _ _ hv=>cases hv; rfl
 have:=VS.put (aX.vs h4) d (x := .own c.heap.length 0) (v:=t[d]) (by rw [hv]; exact .gj _ _ ts gF bL)
 simpa [Array.setIfInBounds,gC] using this
end
end Go.ax
end
section
namespace Go.ax
open Go Go.RowKit
section
variable {α:Sort _}
def yU (b g:Nat) (l:List DV) (x:AV) (k:AV→α):α:=match x with
 | .own j g'=>match Nat.beq j b,Nat.beq g' g with
  |true,true=>k (.d (.sl l))
  |_,_=>k (.own j g')
 |x=>k x
def rL (b g:Nat) (l:List DV):List AV→(List AV→α)→α
 | [],k=>k []
 |x::r,k=>yU b g l x fun y=>rL b g l r fun r'=>k (y::r')
def Ci (b g:Nat) (l:List DV) (x:AV) (k:AV→α):α:=match x with
 | .agg c=>rL b g l c fun c'=>sQ c' k
 | .aF c=>rL b g l c fun c'=>k (.aF c')
 | .fn f a1 a2=>rL b g l a1 fun GB=>rL b g l a2 fun GC=>k (.fn f GB GC)
 |x=>yU b g l x k
def Cj (b g:Nat) (l:List DV):List AV→(List AV→α)→α
 | [],k=>k []
 |x::r,k=>Ci b g l x fun y=>Cj b g l r fun r'=>k (y::r')
def wH (b g:Nat) (l:List DV):List ae→(List ae→α)→α
 | [],k=>k []
 |x::r,k=>match x with
  | .cells c=>rL b g l c fun c'=>wH b g l r fun r'=>k (.cells c'::r')
  |x=>wH b g l r fun r'=>k (x::r')
end
def GD (b:Nat) (s:List AV) (h:List ae) (k:List AV→List ae→Prop):Prop:=aO h b False fun
 | .arr g _ l=>Cj b g l s fun s'=>wH b g l h fun h'=>fk h' b .gone fun og=>k s' og
 |_=>False
structure tS (b g:Nat) (l:List DV) (c c':Cx):Prop where
 step:Step c c'
 own:∀ v,VR c (.own b g) v→VR c' (.d (.sl l)) v
section
variable {b g:Nat} {l:List DV}
theorem GF {x:AV} {k:AV→Prop} (H:yU b g l x k):∃ y,k y∧∀ c c',tS b g l c c'→∀ v,VR c x v→VR c' y v:=by
 unfold yU at H;split at H
 ·split at H
  ·rename_i q1 q2;have q1:=Nat.eq_of_beq_eq_true q1;have q2:=Nat.eq_of_beq_eq_true q2;subst q1; subst q2;exact ⟨_,H,fun c c' hf v hv=>hf.own v hv⟩
  ·exact ⟨_,H,fun c c' hf v hv=>hf.step.vr hv⟩
 ·exact ⟨_,H,fun c c' hf v hv=>hf.step.vr hv⟩
theorem tT:∀ {r:List AV} {k:List AV→Prop},rL b g l r k→∃ r',k r'∧r'.length=r.length∧∀ c c',tS b g l c c'→∀ vs,VL c r vs→VL c' r' vs
 | [],_,H=>⟨[],H,rfl,fun _ _ _ _ hv=>⟨hv.1,fun j x v hx=>by simp at hx⟩⟩
 |x::r,k,H=>by
  obtain ⟨y,H,hy⟩:=GF H;obtain ⟨r',H,hl,hr⟩:=tT H;refine ⟨y::r',H,by simp [hl],fun c c' hf vs hv=>?_⟩;cases vs with
  |nil=>have:=hv.1; simp at this
  |cons v vs=>exact .cons (hy c c' hf v hv.head.1) (hr c c' hf vs hv.head.2)
theorem Nw {x:AV} {k:AV→Prop} (H:Ci b g l x k):∃ y,k y∧∀ c c',tS b g l c c'→∀ v,VR c x v→VR c' y v:=by
 unfold Ci at H;split at H
 ·obtain ⟨r',H,-,hr⟩:=tT H;obtain ⟨y,H,hy⟩:=vg H;refine ⟨y,H,fun c c' hf v hv=>?_⟩;obtain ⟨vs,rfl,gm⟩:=nk hv;exact hy c' vs (hr c c' hf vs gm)
 ·obtain ⟨r',H,-,hr⟩:=tT H;refine ⟨_,H,fun c c' hf v hv=>?_⟩;cases hv with
  |aF _ vs hl bD =>
   have:=hr c c' hf vs.toList ⟨by simpa using hl,fun j x v hx hv=>bD j x v hx (by simpa using hv)⟩;exact .aF _ vs (by simpa using this.1) (fun j x v hx hv=>this.2 j x v hx (by simpa using hv))
 ·obtain ⟨GB,H,-,h1⟩:=tT H;obtain ⟨GC,H,-,h2⟩:=tT H;refine ⟨_,H,fun c c' hf v hv=>?_⟩;obtain ⟨v1,v2,rfl,r1,r2⟩:=km hv;have r1:=h1 c c' hf v1 r1;have r2:=h2 c c' hf v2 r2;exact .fn _ _ _ _ _ (by simpa using r1.1) (by simpa using r2.1) (fun j x v hx hv=>r1.2 j x v hx (by simpa using hv)) (fun j x v hx hv=>r2.2 j x v hx (by simpa using hv))
 ·exact GF H
theorem GG:∀ {r:List AV} {k:List AV→Prop},Cj b g l r k→∃ r',k r'∧∀ c c',tS b g l c c'→∀ vs,VL c r vs→VL c' r' vs
 | [],_,H=>⟨[],H,fun _ _ _ _ hv=>⟨hv.1,fun j x v hx=>by simp at hx⟩⟩
 |x::r,k,H=>by
  obtain ⟨y,H,hy⟩:=Nw H;obtain ⟨r',H,hr⟩:=GG H;refine ⟨y::r',H,fun c c' hf vs hv=>?_⟩;cases vs with
  |nil=>have:=hv.1; simp at this
  |cons v vs=>exact .cons (hy c c' hf v hv.head.1) (hr c c' hf vs hv.head.2)
def yV (b g:Nat) (l:List DV) (x y:ae):Prop:=match x with
 | .cells cs=>∃ cs',y = .cells cs'∧cs'.length=cs.length∧∀ c c',tS b g l c c'→∀ vs,VL c cs vs→VL c' cs' vs
 |x=>y=x
theorem Ck:∀ {r:List ae} {k:List ae→Prop},wH b g l r k→∃ r',k r'∧r'.length=r.length∧∀ (i:Nat) (x:ae),r[i]? = some x→∃ y,r'[i]? = some y∧yV b g l x y
 | [],_,H=>⟨[],H,rfl,fun i x hx=>by simp at hx⟩
 |x::r,k,H=>by
  unfold wH at H;have fin:∀ {y:ae} {r':List ae},yV b g l x y→(∀ (i:Nat) (x:ae),r[i]? = some x→∃ y,r'[i]? = some y∧yV b g l x y)→∀ (i:Nat) (z:ae),(x::r)[i]? = some z→∃ y',(y::r')[i]? = some y'∧yV b g l z y':=fun {y r'} h1 h2 i z hz=>by
   cases i with
   |zero=>simp at hz; subst hz; exact ⟨y,rfl,h1⟩
   |succ i=>obtain ⟨y',k1,k2⟩:=h2 i z (by simpa using hz); exact ⟨y',by simpa using k1,k2⟩
  split at H
  ·obtain ⟨c',H,hl,hr⟩:=tT H;obtain ⟨r',H,Cl,qW⟩:=Ck H;exact ⟨_,H,by simp [Cl],fin ⟨c',rfl,hl,hr⟩ qW⟩
  ·rename_i aJ;obtain ⟨r',H,Cl,qW⟩:=Ck H;refine ⟨_,H,by simp [Cl],fin ?_ qW⟩;cases x with
   |cells c=>exact absurd rfl (aJ c)
   |arr _ _ _=>rfl
   |map _=>rfl
   |gone=>rfl
   |hole=>rfl
end
section
variable {E:Env} {ag:FuncId} {R:cx} {td:List aP} {s:List AV} {h:List ae}
theorem I.freeze {lits:List Nat} (b:Nat) (H:GD b s h fun s' h'=>I E ag R lits td s' h'):I E ag R lits td s h:=by
 unfold GD at H;rcases a8 H with H | ⟨bx,hb,H⟩
 ·exact H.elim
 split at H
 case h_2=>exact H.elim
 rename_i g ts l;obtain ⟨s',H,Nx⟩:=GG H;obtain ⟨h',H,hlen,yN⟩:=Ck H;rw [fQ] at H;refine .of (.ji (fun c t dD h1 h2 h3 h4 h5=>?_) H.to);subst h2;have er:=aT hb
 let c':Cx:={ c with own:=fun i=>if i=b then none else c.own i,heap:=h'.set b .gone }
 have eh:c'.heap[b]? = some .gone:=by show (h'.set b .gone)[b]? = _; rw [List.getElem?_set_self (by omega)]
 have iH:∀ i,i≠b→c'.heap[i]? = h'[i]? := fun i hi=>by show (h'.set b .gone)[i]? = _; rw [List.getElem?_set_ne (Ne.symm hi)]
 have bA:∀ i,i≠b→c'.own i=c.own i:=fun i hi=>by simp only [c',if_neg hi]
 have ig:∀ i p,c'.own i=some p→i≠b∧c.own i=some p:=fun i p hp=>by
  simp only [c'] at hp;split at hp
  ·cases hp
  ·rename_i q; exact ⟨q,hp⟩
 have aX:Step c c':=⟨rfl,h3.bN,rfl,rfl,rfl,Nat.le_refl _,fun _ _ _=>rfl,fun i x n hi _=>⟨n,(ig i _ hi).2⟩,fun i bx hi=>by
  by_cases bu:i=b
  ·subst bu;cases bx with
   |cells cs=>exact .inr eh
   |arr g sz l=>exact .inr eh
   |map es=>exact .inr eh
   |gone=>exact eh
   |hole=>exact ⟨_,eh⟩
  ·obtain ⟨y,k1,k2⟩:=yN i bx hi;rw [← iH i bu] at k1;cases bx with
   |cells cs=>obtain ⟨cs',rfl,e,-⟩:=k2; exact .inl ⟨cs',k1,bA i bu,e⟩
   |arr g sz l=>obtain rfl:y=_:=k2; exact .inl ⟨g,l,k1,.inr ⟨rfl,rfl,bA i bu⟩⟩
   |map es=>obtain rfl:y=_:=k2; exact .inl ⟨es,k1,bA i bu⟩
   |gone=>obtain rfl:y=_:=k2; exact k1
   |hole=>obtain rfl:y=_:=k2; exact ⟨_,k1⟩⟩
 have ob:∀ x,c'.bad x→c.bad x:=fun x hx=>hx.elim .inl fun ⟨i,n,hi⟩ => .inr ⟨i,n,(ig i _ hi).2⟩
 have yW:tS b g l c c':=⟨aX,fun v hv=>by
  obtain ⟨q0,q1,q2⟩:=h3.box b _ hb;rcases lU hb hv with ⟨blk,cap,r1,rfl⟩ | ⟨rfl,rfl,r1⟩
  ·rcases q2 with ⟨q2,-⟩ | ⟨je,iz,vs,q2,q3,q4,q5,q6,q7⟩
   ·rw [r1] at q2; cases q2
   rw [r1] at q2; cases q2;refine .d _ _ (.sl l blk 0 cap ts.2 (fun i j=>(vs[i*ts.2+j]?).getD undef) (fun _ gG=>?_) q0 q5 (fun i e he=>q1 i e he) (fun i j e x he hx=>?_) (fun i j e x he hx=>?_) (fun i j e x he hx=>?_))
   ·rcases gG with gG | ⟨i,n,hi⟩
    ·exact h3.sep b blk cap r1 gG
    ·obtain ⟨k1,k2⟩:=ig i _ hi;exact k1 (h3.inj i b blk n cap k2 r1)
   ·obtain ⟨v,p1,p2,p3⟩:=q7 i j e x he hx;rw [p1,Option.getD_some];exact kL q3 _ v (by simpa using p1)
   ·obtain ⟨v,p1,p2,p3⟩:=q7 i j e x he hx;simp only [p1,Option.getD_some];exact aX.vd p3
   ·obtain ⟨v,p1,p2,p3⟩:=q7 i j e x he hx;simp only [p1,Option.getD_some];exact p2
  ·exact .d _ _ .slnil⟩
 have aM:aK E.G c':=by
  refine h3.next aX (fun i x n hi=>?_) (fun i j x n m hi hj=>h3.inj i j x n m (ig i _ hi).2 (ig j _ hj).2) (fun i bx hi=>?_)
  ·have:=h3.br i x n (ig i _ hi).2;refine ⟨this.1,?_⟩;show i<(h'.set b .gone).length;rw [List.length_set,hlen];exact this.2
  ·right;by_cases bu:i=b
   ·subst bu;rw [eh] at hi;cases hi;show c'.own i=none;simp [c']
   ·rw [iH i bu] at hi;have fF:i<c.heap.length:=by rw [← hlen]; exact aT hi
    obtain ⟨y,k1,k2⟩:=yN i c.heap[i] (by simp [fF]);rw [hi] at k1;cases k1;have gw:c.heap[i]? = some c.heap[i]:=by simp [fF]
    generalize c.heap[i]=x at k2 gw;cases x with
    |cells cs =>
     obtain ⟨cs',rfl,e,hv⟩:=k2;obtain ⟨blk,cap,vs,ty,g1,g2,g3⟩:=h3.cells gw;have:=hv c c' yW vs.toList g3;exact ⟨blk,cap,vs,ty,(bA i bu).trans g1,g2,by simpa using this.1.symm,fun j x v hx hv=>this.2 j x v hx (by simpa using hv)⟩
    |arr _ _ _=>obtain rfl:bx=_:=k2; exact (h3.box i _ gw).keep aX (bA i bu) (fun _ _ _=>rfl)
    |map _=>obtain rfl:bx=_:=k2; exact (h3.box i _ gw).keep aX (bA i bu) (fun _ _ _=>rfl)
    |gone=>obtain rfl:bx=_:=k2; exact (h3.box i _ gw).keep aX (bA i bu) (fun _ _ _=>rfl)
    |hole=>obtain rfl:bx=_:=k2; exact (h3.box i _ gw).keep aX (bA i bu) (fun _ _ _=>rfl)
 have hv:=Nx c c' yW t.toList ⟨by simpa using h4.1,fun j x v hx hv=>h4.2 j x v hx (by simpa using hv)⟩;exact ⟨c',t,dD,h1,rfl,aM,⟨by simpa using hv.1,fun j x v hx hu=>hv.2 j x v hx (by simpa using hu)⟩,aX.cr h5,aX,fun _ => .refl _ _⟩
theorem I.l4 {lits:List Nat} {b:Code} {k:List aP} (H:I E ag R [] (.code b :: .inLoop b::k) s h):I E ag R lits (.code (.loop b)::k) s h := .of (.loop H.to)
theorem I.again {lits:List Nat} {b:Code} {k:List aP} (H:I E ag R [] (.code b :: .inLoop b::k) s h):I E ag R lits (.inLoop b::k) s h := .of (.inLoop H.to)
end
def yX:DV→Bool
 | .int _ _=>true
 | .bool _=>true
 | .str _=>true
 | .undef=>true
 | .aL=>true
 |_=>false
def Cm:DV→Bool
 | .aF c=>c.all yX
 | .agg c=>c.all yX
 |x=>yX x
theorem GH {x:DV} (hx:yX x=true) {bad sL:Nat→Prop} {w w':World} {v:Value} (hv:VD bad w x v):VD sL w' x v:=by
 cases hv <;> first | (cases hx; done) | (constructor; done)
theorem GI {x:DV} (hx:Cm x=true) {bad sL:Nat→Prop} {w w':World} {v:Value} (hv:VD bad w x v):VD sL w' x v:=by
 cases hv with
 |agg c vs hl bD=>exact .agg c vs hl fun j x v h1 h2=>GH (List.all_eq_true.1 hx x (List.mem_of_getElem? h1)) (bD j x v h1 h2)
 |aF c vs hl bD=>exact .aF c vs hl fun j x v h1 h2=>GH (List.all_eq_true.1 hx x (List.mem_of_getElem? h1)) (bD j x v h1 h2)
 |_=>first | (cases hx; done) | (constructor; done)
def oJ (h:List ae):List AV→Option (List DV)
 | []=>some []
 | .d x::l=>match oJ h l with
  |some r=>some (x::r)
  |none=>none
 | .own b _::l=>match dc h b with
  |some (.arr _ _ m)=>match oJ h l with
   |some r=>some (.sl m::r)
   |none=>none
  |_=>none
 |_::_=>none
def tU:List AV→Bool
 | []=>true
 | .own _ g::l=>match Nat.beq g 0 with
  |true=>tU l
  |false=>false
 |_::l=>tU l
theorem yY {G:List (Nat × DV)} {c:Cx} (ho:aK G c) (hf:s7 c.heap):∀ {args:List AV} {ds:List DV} {vs:List Value},oJ c.heap args=some ds→tU args=true→VL c args vs→iC c.ay c.w ds vs
 | [],ds,vs,h,_,hv=>by cases h; exact ⟨hv.1,fun j x v hx=>by simp at hx⟩
 |x::l,ds,vs,h,hg,hv=>by
  cases vs with
  |nil=>have:=hv.1; simp at this
  |cons v vs =>
   obtain ⟨tV,yZ⟩:=hv.head
   have fin:∀ {d:DV} {r:List DV},VD c.ay c.w d v→iC c.ay c.w r vs→iC c.ay c.w (d::r) (v::vs):=fun {d r} h1 h2=>⟨by simp [h2.1],fun j x u hx hu=>by
    cases j with
    |zero=>simp at hx hu; subst hx; subst hu; exact h1
    |succ j=>exact h2.2 j x u (by simpa using hx) (by simpa using hu)⟩
   have less:∀ {d:DV} {u:Value},VD c.bad c.w d u→VD c.ay c.w d u:=fun hd=>hd.mono fun b _ hn=>⟨fun hb=>hn (.inl hb),rfl⟩;cases x with
   |d x =>
    simp only [oJ] at h;cases hr:oJ c.heap l with
    |none=>rw [hr] at h; cases h
    |some r =>
     rw [hr] at h;cases h;cases tV with
     |d _ _ hd=>exact fin (less hd) (yY ho hf hr hg yZ)
   |own b g =>
    simp only [oJ,dC] at h;simp only [tU] at hg;split at hg
    case h_2=>cases hg
    rename_i q;have q:=Nat.eq_of_beq_eq_true q;subst q;split at h
    case h_2=>cases h
    rename_i g' ts m hb;obtain rfl:=hf b g' ts m hb;cases hr:oJ c.heap l with
    |none=>rw [hr] at h; cases h
    |some r =>
     rw [hr] at h;cases h;refine fin ?_ (yY ho hf hr hg yZ);obtain ⟨q0,q1,q2⟩:=ho.box b _ hb;rcases lU hb tV with ⟨blk,cap,r1,rfl⟩ | ⟨rfl,rfl,r1⟩
     ·rcases q2 with ⟨q2,-⟩ | ⟨je,iz,vs',q2,q3,q4,q5,q6,q7⟩
      ·rw [r1] at q2; cases q2
      rw [r1] at q2; cases q2;refine .sl m blk 0 cap ts.2 (fun i j=>(vs'[i*ts.2+j]?).getD undef) (fun _ gG=>ho.sep b blk cap r1 gG) q0 q5 (fun i e he=>q1 i e he) (fun i j e x he hx=>?_) (fun i j e x he hx=>?_) (fun i j e x he hx=>?_)
      ·obtain ⟨v,p1,p2,p3⟩:=q7 i j e x he hx;rw [p1,Option.getD_some];exact kL q3 _ v (by simpa using p1)
      ·obtain ⟨v,p1,p2,p3⟩:=q7 i j e x he hx;simp only [p1,Option.getD_some];exact less p3
      ·obtain ⟨v,p1,p2,p3⟩:=q7 i j e x he hx;simp only [p1,Option.getD_some];exact p2
     ·exact .slnil
   |_=>cases h
theorem aq.c7 {E:Env} {f:FuncId} {ds:List DV} {h:List ae} {args:List AV} {R:DV→Prop} (H:aq E f ds R) (lR:oH h=true) (hd:oJ h args=some ds) (hg:tU args=true) (hr:∀ r,R r→Cm r=true):aw E f h args (fun a b=>∃ r,R r∧a = .d r∧b=h):=by
 unfold aq at H;unfold aw;refine ⟨H.1,l3 lR,fun c vs h1 h2 h3=>?_⟩;subst h1;have iK:qU E.G c.ay c.w:=fun g e aC=>by
  have hp:∀ p,VR c (.bJ e 0) p→VR ⟨fun _=>none,[],c.ay,c.w⟩ (.bJ e 0) p:=fun p hp=>by
   cases hp with
   |bJ _ _ blk o' fv k1 k2 k3 k4=>exact .bJ _ _ blk o' fv (fun hb=>k1 (.inl (ta.1 hb))) k2 k3 (fun j x hx=>tc ((k4 j x hx).mono fun b _ hn=>⟨fun hb=>hn (.inl hb),rfl⟩))
  exact hp _ (h2.fm g e aC)
 refine (H.2 c.ay c.w vs h2.bN iK (yY h2 (l3 lR) hd hg h3)).mono fun e w' ⟨v,r,k1,k2,k3,k4⟩=>?_;obtain ⟨q1,q2⟩:=h2.grow k4;exact ⟨c.dL w',.d r,v,k1,rfl,⟨r,k2,rfl,rfl⟩,.d _ _ (GI (hr r k2) k3),q1,(Rel.refl c (l3 lR)).step q2⟩
end Go.ax
end
