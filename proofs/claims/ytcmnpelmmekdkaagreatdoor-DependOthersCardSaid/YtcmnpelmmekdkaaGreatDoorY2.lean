/- Several texts of mine, one behind the other. Conditions: as each says. -/
import Derived.Test.YtcmnpelmmekdkaaGreatDoorY1
set_option linter.unusedVariables false
set_option linter.unusedSimpArgs false
section
namespace Go.ax
open Go Go.RowKit
def dY:List Nat→Nat→Option Nat
 | [],_=>none
 |a::l,j=>match Nat.beq a j with
  |true=>some 0
  |false=>(dY l j).map (· + 1)
theorem nz:∀ {l:List Nat} {j i:Nat},dY l j=some i→l[i]? = some j
 |a::l,j,i,h=>by
  simp only [dY] at h;split at h
  ·rename_i q; cases h; simp [Nat.eq_of_beq_eq_true q]
  ·cases hx:dY l j with
   |none=>rw [hx] at h; cases h
   |some k=>rw [hx] at h; cases h; simpa using nz hx
theorem tX:∀ {l:List Nat} {j i:Nat},l.Nodup→l[i]? = some j→dY l j=some i
 | [],_,_,_,h=>by simp at h
 |a::l,j,0,_,h=>by simp at h; subst h; simp [dY]
 |a::l,j,i+1,hn,h=>by
  have hl:l[i]? = some j:=by simpa using h
  have aJ:(Nat.beq a j)=false:=by
   cases hb:Nat.beq a j with
   |false=>rfl
   |true =>
    have:=Nat.eq_of_beq_eq_true hb;subst this;exact absurd (List.mem_of_getElem? hl) (List.nodup_cons.1 hn).1
  simp only [dY,aJ,tX (List.nodup_cons.1 hn).2 hl];rfl
theorem Kk {l:List Nat} {j:Nat} (h:dY l j=none) (hn:l.Nodup):j ∉ l:=fun hm=>by
 obtain ⟨i,hi,he⟩:=List.getElem_of_mem hm;rw [tX hn (i:=i) (by simp [hi,he])] at h;cases h
def qE (h:List ag) (j:Nat):Nat:=match ey h j with
 |some (.arr g _ _)=>g
 |_=>0
section
variable (ah:List Nat) (h:List ag)
def ou:AV→AV
 | .own j g=>match dY ah j with
  |some i=>match ey h j with
   |some (.arr g' _ _)=>match Nat.beq g g' with
    |true => .own i 0
    |false => .any
   |_ => .any
  |none => .any
 | .ptr j off=>match dY ah j with
  |some i=>match ey h j with
   |some (.cells _) => .ptr i off
   |_ => .any
  |none => .any
 | .cK j g k off=>match dY ah j with
  |some i=>match ey h j with
   |some (.arr g' _ _)=>match Nat.beq g g' with
    |true => .cK i 0 k off
    |false => .any
   |_ => .any
  |none => .any
 | .cut j g k q=>match dY ah j with
  |some i=>match ey h j with
   |some (.arr g' _ _)=>match Nat.beq g g' with
    |true => .cut i 0 k q
    |false => .any
   |_ => .any
  |none => .any
 | .map j=>match dY ah j with
  |some i=>match ey h j with
   |some (.map _) => .map i
   |_ => .any
  |none => .any
 | .d x => .d x
 | .b8 e off => .b8 e off
 |_ => .any
def kW:AV→AV
 | .agg l => .agg (l.map (ou ah h))
 | .aL l => .aL (l.map (ou ah h))
 | .fn f a b => .fn f (a.map (ou ah h)) (b.map (ou ah h))
 |x=>ou ah h x
def qF:ag→ag
 | .arr _ ts l => .arr 0 ts l
 | .cells cs => .cells (cs.map (ou ah h))
 |b=>b
def jL:List ag:=ah.map fun j=>match ey h j with
 |some b=>qF ah h b
 |none => .gone
def gH (i:Nat):Nat:=match ey ah i with
 |some j=>j
 |none=>h.length+(i - ah.length)
def tY (i:Nat):Nat:=match ey ah i with
 |some j=>qE h j
 |none=>0
def nA:AV→AV
 | .own i g => .own (gH ah h i) (tY ah h i+g)
 | .ptr i off => .ptr (gH ah h i) off
 | .cK i g k off => .cK (gH ah h i) (tY ah h i+g) k off
 | .cut i g k q => .cut (gH ah h i) (tY ah h i+g) k q
 | .map i => .map (gH ah h i)
 | .d x => .d x
 | .b8 e off => .b8 e off
 |_ => .any
def wj:AV→AV
 | .agg l => .agg (l.map (nA ah h))
 | .aL l => .aL (l.map (nA ah h))
 | .fn f a b => .fn f (a.map (nA ah h)) (b.map (nA ah h))
 |x=>nA ah h x
def jM:AV→AV
 | .aL l => .aL (l.map (wj ah h))
 |x=>wj ah h x
def pc (g0:Nat):ag→ag
 | .arr g ts l => .arr (g0+g) ts l
 | .cells cs => .cells (cs.map (nA ah h))
 |b=>b
def pd (h1:List ag):Nat→List ag→List ag
 |_,[]=>[]
 |j,b::r=>(match dY ah j with
  |some i=>match ey h1 i with
   |some b1=>pc ah h (qE h j) b1
   |none => .gone
  |none=>b)::pd h1 (j+1) r
def fD (h1:List ag):List ag:=pd ah h h1 0 h++(h1.drop ah.length).map (pc ah h 0)
end
section
variable {ah:List Nat} {h:List ag}
theorem wk (h1:List ag):∀ (j:Nat) (r:List ag),(pd ah h h1 j r).length=r.length
 |_,[]=>rfl
 |j,b::r=>by simp [pd,wk h1 (j+1) r]
theorem E6 (h1:List ag):∀ (j k:Nat) (r:List ag),(pd ah h h1 j r)[k]? = (r[k]?).map fun b=>match dY ah (j+k) with
  |some i=>match ey h1 i with
   |some b1=>pc ah h (qE h (j+k)) b1
   |none => .gone
  |none=>b
 |_,_,[]=>by simp [pd]
 |j,0,b::r=>by simp [pd]
 |j,k+1,b::r=>by
  simp only [pd,List.getElem?_cons_succ];rw [E6 h1 (j+1) k r,show j+1+k=j+(k+1) by omega]
theorem SQ (h1:List ag):(fD ah h h1).length=h.length+(h1.length - ah.length):=by simp [fD,wk]
theorem Kl {h1:List ag} {j:Nat} (hj:j<h.length) (hn:dY ah j=none):(fD ah h h1)[j]? = h[j]? := by
 rw [fD,List.getElem?_append_left (by rw [wk]; exact hj),E6,Nat.zero_add,hn];simp
theorem wm {h1:List ag} {i j:Nat} (hj:j<h.length) (hi:dY ah j=some i) {b:ag} (hb:h1[i]? = some b):(fD ah h h1)[j]? = some (pc ah h (qE h j) b):=by
 rw [fD,List.getElem?_append_left (by rw [wk]; exact hj),E6,Nat.zero_add,hi];simp [gj,hb,hj]
theorem Km {h1:List ag} {k:Nat}:(fD ah h h1)[h.length+k]? = (h1[ah.length+k]?).map (pc ah h 0):=by
 rw [fD,List.getElem?_append_right (by rw [wk]; omega),wk];simp
def Cx.fV (c:Cx) (ah:List Nat):Cx:=⟨fun i=>match ah[i]? with | some j=>c.own j | none=>none,jL ah c.heap,fun b=>c.au b∨∃ j n,j ∉ ah∧c.own j=some (b,n),c.w⟩
def Cx.take (c c1:Cx) (ah:List Nat):Cx:=⟨fun j=>match dY ah j with | some i=>c1.own i | none=>if j<c.heap.length then c.own j else c1.own (ah.length+(j - c.heap.length)),fD ah c.heap c1.heap,c.au,c1.w⟩
variable {c c1:Cx} {G:List (Nat × DV)}
theorem Kn (b:Nat):(c.fV ah).bad b↔c.bad b:=by
 constructor
 ·rintro ((hb | ⟨j,n,-,hj⟩) | ⟨i,n,hi⟩)
  ·exact .inl hb
  ·exact .inr ⟨j,n,hj⟩
  ·simp only [Cx.fV] at hi;split at hi
   ·exact .inr ⟨_,n,hi⟩
   ·cases hi
 ·rintro (hb | ⟨j,n,hj⟩)
  ·exact .inl (.inl hb)
  ·by_cases hm:j∈ah
   ·obtain ⟨i,hi,he⟩:=List.getElem_of_mem hm;refine .inr ⟨i,n,?_⟩;simp only [Cx.fV];rw [show ah[i]? = some j by simp [hi,he]];exact hj
   ·exact .inl (.inr ⟨j,n,hm,hj⟩)
theorem yT {x:DV} {v:Value} (hv:VD c.bad c.w x v):VD (c.fV ah).bad (c.fV ah).w x v:=hv.mono fun b _ hn=>⟨fun hb=>hn ((Kn b).1 hb),rfl⟩
theorem tZ {i j:Nat} {b:ag} (hi:ah[i]? = some j) (hb:h[j]? = some b):(jL ah h)[i]? = some (qF ah h b):=by
 simp [jL,hi,gj,hb]
theorem sb {i j:Nat} (hi:ah[i]? = some j):(c.fV ah).own i=c.own j:=by simp only [Cx.fV,hi]
theorem E7 {x:AV} {v:Value} (hv:VR c x v):VR (c.fV ah) (ou ah c.heap x) v:=by
 unfold ou;split
 ·rename_i j g;split
  ·rename_i i hi;have hi:=nz hi;rw [gj];split
   ·rename_i g' ts l hb;split
    ·rename_i q;have q:=Nat.eq_of_beq_eq_true q;subst q;have cP:=tZ hi hb;cases hv with
     |own _ _ _ l' blk cap k1 k2=>rw [hb] at k1; cases k1; exact .own i 0 ts l blk cap cP ((sb hi).trans k2)
     |iL _ _ _ k1 k2=>rw [hb] at k1; cases k1; exact .iL i 0 ts cP ((sb hi).trans k2)
     |kg _ _ g2 _ _ _ k1 k2 _=>rw [hb] at k1; cases k1; omega
     |jD _ _ _ k1 _=>rw [hb] at k1; cases k1
     |mu _ _ _ _ _ _ k1 _ _=>rw [hb] at k1; cases k1
    ·exact .any _
   ·exact .any _
  ·exact .any _
 ·rename_i j off;split
  ·rename_i i hi;have hi:=nz hi;rw [gj];split
   ·rename_i cs hb;have cP:=tZ hi hb;cases hv with
    |ptr _ _ cs' blk cap k1 k2=>exact .ptr i off _ blk cap cP ((sb hi).trans k2)
    |jf _ _ _ k1 _=>rw [hb] at k1; cases k1
   ·exact .any _
  ·exact .any _
 ·rename_i j g k off;split
  ·rename_i i hi;have hi:=nz hi;rw [gj];split
   ·rename_i g' ts l hb;split
    ·rename_i q;have q:=Nat.eq_of_beq_eq_true q;subst q;have cP:=tZ hi hb;cases hv with
     |cK _ _ _ _ _ l' blk cap k1 k2 k3=>rw [hb] at k1; cases k1; exact .cK i 0 k off ts l blk cap cP ((sb hi).trans k2) k3
     |lF _ _ g2 _ _ _ _ _ k1 k2 _=>rw [hb] at k1; cases k1; omega
     |lG _ _ _ _ _ k1 _=>rw [hb] at k1; cases k1
    ·exact .any _
   ·exact .any _
  ·exact .any _
 ·rename_i j g k qq;split
  ·rename_i i hi;have hi:=nz hi;rw [gj];split
   ·rename_i g' ts l hb;split
    ·rename_i q;have q:=Nat.eq_of_beq_eq_true q;subst q;have cP:=tZ hi hb;cases hv with
     |cut _ _ _ _ _ l' blk cap o k1 k2 k3 k4 k5=>rw [hb] at k1; cases k1; exact .cut i 0 k qq ts l blk cap o cP ((sb hi).trans k2) k3 k4 k5
     |mv _ _ g2 _ _ _ _ _ k1 k2 _=>rw [hb] at k1; cases k1; omega
     |mw _ _ _ _ _ k1 _=>rw [hb] at k1; cases k1
    ·exact .any _
   ·exact .any _
  ·exact .any _
 ·rename_i j;split
  ·rename_i i hi;have hi:=nz hi;rw [gj];split
   ·rename_i es hb;have cP:=tZ hi hb;cases hv with
    |map _ ew blk cap k1 k2=>exact .map i _ blk cap cP ((sb hi).trans k2)
    |nd _ _ k1 _=>rw [hb] at k1; cases k1
   ·exact .any _
  ·exact .any _
 ·cases hv with | d _ _ hx=>exact .d _ _ (yT hx)
 ·cases hv with
  |b8 _ _ blk o f k1 k2 k3 k4=>exact .b8 _ _ blk o f (fun hb=>k1 ((Kn _).1 hb)) k2 k3 (fun j x hx=>yT (k4 j x hx))
 ·exact .any _
theorem yU {l:List AV} {vs:List Value} (hv:VL c l vs):VL (c.fV ah) (l.map (ou ah c.heap)) vs :=
 ⟨by simpa using hv.1,fun j x v hx hu=>by
  rw [List.getElem?_map] at hx;cases hy:l[j]? with
  |none=>rw [hy] at hx; cases hx
  |some y=>rw [hy] at hx; cases hx; exact E7 (hv.2 j y v hy hu)⟩
theorem BJ {l:List AV} {v:Value} (h:VR c (.aL l) v):∃ vs:List Value,v = .tuple vs.toArray∧VL c l vs:=by
 cases h with
 |aL _ vs hl hv=>exact ⟨vs.toList,by simp,by simpa using hl,fun j x v hx hu=>hv j x v hx (by simpa using hu)⟩
theorem BK {l:List AV} {vs:List Value} (h:VL c l vs):VR c (.aL l) (.tuple vs.toArray) :=
 .aL l vs.toArray (by simpa using h.1) (fun j x v hx hv=>h.2 j x v hx (by simpa using hv))
theorem E8 {f:Fn} {a b:List AV} {v1 v2:List Value} (h1:VL c a v1) (h2:VL c b v2):VR c (.fn f a b) (.func f v1.toArray v2.toArray) :=
 .fn _ _ _ _ _ (by simpa using h1.1) (by simpa using h2.1) (fun j x v hx hv=>h1.2 j x v hx (by simpa using hv)) (fun j x v hx hv=>h2.2 j x v hx (by simpa using hv))
theorem SR {x:AV} {v:Value} (hv:VR c x v):VR (c.fV ah) (kW ah c.heap x) v:=by
 unfold kW;split
 ·obtain ⟨vs,rfl,h1⟩:=rR hv; exact x9 (yU h1)
 ·obtain ⟨vs,rfl,h1⟩:=BJ hv; exact BK (yU h1)
 ·obtain ⟨v1,v2,rfl,h1,h2⟩:=lP hv; exact E8 (yU h1) (yU h2)
 ·exact E7 hv
theorem SS {l:List AV} {vs:List Value} (hv:VL c l vs):VL (c.fV ah) (l.map (kW ah c.heap)) vs :=
 ⟨by simpa using hv.1,fun j x v hx hu=>by
  rw [List.getElem?_map] at hx;cases hy:l[j]? with
  |none=>rw [hy] at hx; cases hx
  |some y=>rw [hy] at hx; cases hx; exact SR (hv.2 j y v hy hu)⟩
theorem E9 {l:List Nat} (hn:l.Nodup) {i j a:Nat} (hi:l[i]? = some a) (hj:l[j]? = some a):i=j:=by
 have h1:=tX hn hi;have h2:=tX hn hj;rw [h1] at h2;cases h2; rfl
theorem aE.fV (ho:aE G c) (hn:ah.Nodup):aE G (c.fV ah) where
 bD:=fun b hb=>hb.elim (ho.bD b) fun ⟨j,n,_,hj⟩=>(ho.bI j b n hj).1
 bI:=fun i b n hi=>by
  simp only [Cx.fV] at hi;split at hi
  ·rename_i j hj;exact ⟨(ho.bI j b n hi).1,by show i<(jL ah c.heap).length; simp only [jL,List.length_map]; exact aZ hj⟩
  ·cases hi
 inj:=fun i j b n m hi hj=>by
  simp only [Cx.fV] at hi hj;split at hi
  ·rename_i a ha;split at hj
   ·rename_i a' yV;have:=ho.inj a a' b n m hi hj;subst this;exact E9 hn ha yV
   ·cases hj
  ·cases hi
 sep:=fun i b n hi hb=>by
  simp only [Cx.fV] at hi;split at hi
  ·rename_i a ha;rcases hb with hb | ⟨j,m,hj,hb⟩
   ·exact ho.sep a b n hi hb
   ·have:=ho.inj a j b n m hi hb;subst this;exact hj (List.mem_of_getElem? ha)
  ·cases hi
 box:=fun i bx hi=>by
  have cO:(jL ah c.heap)[i]? = some bx:=hi;simp only [jL,List.getElem?_map] at cO;cases hs:ah[i]? with
  |none=>rw [hs] at cO; cases cO
  |some j =>
   rw [hs] at cO;simp only [Option.map_some,Option.some.injEq,gj] at cO;have bC:=sb (c:=c) hs;cases hb:c.heap[j]? with
   |none =>
    rw [hb] at cO;subst cO;show (c.fV ah).own i=none;rw [bC];cases hx:c.own j with
    |none=>rfl
    |some p=>have:=(ho.bI j p.1 p.2 hx).2; rw [List.getElem?_eq_none_iff] at hb; omega
   |some b =>
    rw [hb] at cO;subst cO;have dX:=ho.box j b hb;cases b with
    |cells cs =>
     obtain ⟨blk,cap,vs,ty,k1,k2,k3⟩:=ho.cells hb;have:=yU (ah:=ah) k3;exact ⟨blk,cap,vs,ty,bC.trans k1,k2,by simpa using this.1.symm,fun j x v hx hv=>this.2 j x v hx (by simpa using hv)⟩
    |arr g ts l =>
     obtain ⟨q0,q1,q2⟩:=dX;refine ⟨q0,q1,?_⟩;rcases q2 with ⟨q2,q3⟩ | ⟨blk,cap,vs,q2,q3,q4,q5,q6,q7⟩
     ·exact .inl ⟨bC.trans q2,q3⟩
     ·refine .inr ⟨blk,cap,vs,bC.trans q2,q3,q4,q5,q6,fun i j e x he hx=>?_⟩;obtain ⟨v,r1,r2,r3⟩:=q7 i j e x he hx;exact ⟨v,r1,r2,yT r3⟩
    |map es =>
     obtain ⟨blk,cap,en,ck,k1,k2,k3,k4⟩:=dX;exact ⟨blk,cap,en,ck,bC.trans k1,k2,k3,fun j k x m hx hm=>⟨yT (k4 j k x m hx hm).1,yT (k4 j k x m hx hm).2⟩⟩
    |gone=>exact bC.trans dX
 fO:=fun g e hg=>by
  have:=E7 (ah:=ah) (ho.fO g e hg);exact this
structure qG (c c1:Cx) (ah:List Nat):Prop where
 nodup:ah.Nodup
 lt:∀ j∈ah,j<c.heap.length
 rel:Rel (c.fV ah) c1
theorem Ko {i j:Nat} (hn:ah.Nodup) (hi:ah[i]? = some j):(c.take c1 ah).own j=c1.own i:=by
 simp only [Cx.take,tX hn hi]
theorem SU {k:Nat} (ai:∀ j∈ah,j<c.heap.length):(c.take c1 ah).own (c.heap.length+k)=c1.own (ah.length+k):=by
 have:dY ah (c.heap.length+k)=none:=by
  cases hx:dY ah (c.heap.length+k) with
  |none=>rfl
  |some i=>have:=ai _ (List.mem_of_getElem? (nz hx)); omega
 simp only [Cx.take,this];rw [if_neg (by omega),Nat.add_sub_cancel_left]
theorem E' {j:Nat} (hj:j<c.heap.length) (hn:dY ah j=none):(c.take c1 ah).own j=c.own j:=by
 simp only [Cx.take,hn,if_pos hj]
theorem qH (hn:ah.Nodup) (ai:∀ j∈ah,j<c.heap.length) (i:Nat):(c.take c1 ah).own (gH ah c.heap i)=c1.own i:=by
 unfold gH;rw [gj];split
 ·rename_i j hj; exact Ko hn hj
 ·rename_i hj;rw [List.getElem?_eq_none_iff] at hj;rw [SU ai,show ah.length+(i - ah.length)=i by omega]
theorem kp (hn:ah.Nodup) (ai:∀ j∈ah,j<c.heap.length) {i:Nat} {b:ag} (hb:c1.heap[i]? = some b):(c.take c1 ah).heap[gH ah c.heap i]? = some (pc ah c.heap (tY ah c.heap i) b):=by
 unfold gH tY;rw [gj];show (fD ah c.heap c1.heap)[_]? = _;split
 ·rename_i j hj; exact wm (ai j (List.mem_of_getElem? hj)) (tX hn hj) hb
 ·rename_i hj;rw [List.getElem?_eq_none_iff] at hj;rw [Km,show ah.length+(i - ah.length)=i by omega,hb];rfl
theorem Kq (ho:aE G c) (hb:qG c c1 ah) (b:Nat):(c.take c1 ah).bad b↔c1.bad b:=by
 obtain ⟨hn,ai,hr⟩:=hb;constructor
 ·rintro (h | ⟨j,n,h⟩)
  ·refine .inl ?_; rw [hr.au]; exact .inl h
  ·simp only [Cx.take] at h;split at h
   ·exact .inr ⟨_,n,h⟩
   ·rename_i hx;split at h
    ·refine .inl ?_; rw [hr.au]; exact .inr ⟨j,n,Kk hx hn,h⟩
    ·exact .inr ⟨_,n,h⟩
 ·rintro (h | ⟨i,n,h⟩)
  ·rw [hr.au] at h;rcases h with h | ⟨j,n,hj,h⟩
   ·exact .inl h
   ·refine .inr ⟨j,n,?_⟩;have hx:dY ah j=none:=by
     cases hx:dY ah j with
     |none=>rfl
     |some i=>exact absurd (List.mem_of_getElem? (nz hx)) hj
    rw [E' (ho.bI j b n h).2 hx];exact h
  ·exact .inr ⟨_,n,(qH hn ai i).trans h⟩
theorem yW (ho:aE G c) (hb:qG c c1 ah) {x:DV} {v:Value} (hv:VD c1.bad c1.w x v):VD (c.take c1 ah).bad (c.take c1 ah).w x v :=
 hv.mono fun b _ hn=>⟨fun h=>hn ((Kq ho hb b).1 h),rfl⟩
theorem Kr (ho:aE G c) (hb:qG c c1 ah) {x:AV} {v:Value} (hv:VR c1 x v):VR (c.take c1 ah) (nA ah c.heap x) v:=by
 have hn:=hb.nodup;have ai:=hb.lt;unfold nA;split
 ·rename_i i g;cases hv with
  |own _ _ ts l blk cap k1 k2=>exact .own _ _ ts l blk cap (kp hn ai k1) ((qH hn ai i).trans k2)
  |iL _ _ ts k1 k2=>exact .iL _ _ ts (kp hn ai k1) ((qH hn ai i).trans k2)
  |kg _ _ g2 ts l _ k1 k2 k3=>exact .kg _ _ _ ts l _ (kp hn ai k1) (by omega) k3
  |jD _ _ _ k1 k3=>exact .jD _ _ _ (kp hn ai k1) k3
  |mu _ _ cs blk cap m k1 k2 k3=>exact .mu _ _ _ blk cap m (kp hn ai k1) ((qH hn ai i).trans k2) (by simpa using k3)
 ·rename_i i off;cases hv with
  |ptr _ _ cs blk cap k1 k2=>exact .ptr _ _ _ blk cap (kp hn ai k1) ((qH hn ai i).trans k2)
  |jf _ _ _ k1 k3=>exact .jf _ _ _ (kp hn ai k1) k3
 ·rename_i i g k off;cases hv with
  |cK _ _ _ _ ts l blk cap k1 k2 k3=>exact .cK _ _ _ _ ts l blk cap (kp hn ai k1) ((qH hn ai i).trans k2) k3
  |lF _ _ g2 _ _ ts l _ k1 k2 k3=>exact .lF _ _ _ _ _ ts l _ (kp hn ai k1) (by omega) k3
  |lG _ _ _ _ _ k1 k3=>exact .lG _ _ _ _ _ (kp hn ai k1) k3
 ·rename_i i g k qq;cases hv with
  |cut _ _ _ _ ts l blk cap o k1 k2 k3 k4 k5=>exact .cut _ _ _ _ ts l blk cap o (kp hn ai k1) ((qH hn ai i).trans k2) k3 k4 k5
  |mv _ _ g2 _ _ ts l _ k1 k2 k3=>exact .mv _ _ _ _ _ ts l _ (kp hn ai k1) (by omega) k3
  |mw _ _ _ _ _ k1 k3=>exact .mw _ _ _ _ _ (kp hn ai k1) k3
 ·rename_i i;cases hv with
  |map _ es blk cap k1 k2=>exact .map _ es blk cap (kp hn ai k1) ((qH hn ai i).trans k2)
  |nd _ _ k1 k3=>exact .nd _ _ (kp hn ai k1) k3
 ·cases hv with | d _ _ hx=>exact .d _ _ (yW ho hb hx)
 ·cases hv with
  |b8 _ _ blk o f k1 k2 k3 k4=>exact .b8 _ _ blk o f (fun h=>k1 ((Kq ho hb _).1 h)) k2 k3 (fun j x hx=>yW ho hb (k4 j x hx))
 ·exact .any _
theorem wo {c c':Cx} {f:AV→AV} (hf:∀ {x:AV} {v:Value},VR c x v→VR c' (f x) v) {l:List AV} {vs:List Value} (hv:VL c l vs):VL c' (l.map f) vs :=
 ⟨by simpa using hv.1,fun j x v hx hu=>by
  rw [List.getElem?_map] at hx;cases hy:l[j]? with
  |none=>rw [hy] at hx; cases hx
  |some y=>rw [hy] at hx; cases hx; exact hf (hv.2 j y v hy hu)⟩
theorem Ks (ho:aE G c) (hb:qG c c1 ah) {x:AV} {v:Value} (hv:VR c1 x v):VR (c.take c1 ah) (wj ah c.heap x) v:=by
 have hA:∀ {x:AV} {v:Value},VR c1 x v→VR (c.take c1 ah) (nA ah c.heap x) v:=fun h=>Kr ho hb h;unfold wj;split
 ·obtain ⟨vs,rfl,h1⟩:=rR hv; exact x9 (wo hA h1)
 ·obtain ⟨vs,rfl,h1⟩:=BJ hv; exact BK (wo hA h1)
 ·obtain ⟨v1,v2,rfl,h1,h2⟩:=lP hv; exact E8 (wo hA h1) (wo hA h2)
 ·exact hA hv
theorem SV (ho:aE G c) (hb:qG c c1 ah) {x:AV} {v:Value} (hv:VR c1 x v):VR (c.take c1 ah) (jM ah c.heap x) v:=by
 unfold jM;split
 ·obtain ⟨vs,rfl,h1⟩:=BJ hv; exact BK (wo (fun h=>Ks ho hb h) h1)
 ·exact Ks ho hb hv
theorem jE.take (ho:aE G c) (hb:qG c c1 ah) {i g:Nat} {b:ag} (dX:jE c1 i b):jE (c.take c1 ah) (gH ah c.heap i) (pc ah c.heap g b):=by
 have bC:=qH (c1:=c1) hb.nodup hb.lt i;cases b with
 |cells cs =>
  obtain ⟨blk,cap,vs,ty,k1,k2,k3,k4⟩:=dX;have:VL (c.take c1 ah) (cs.map (nA ah c.heap)) vs.toList:=wo (fun h=>Kr ho hb h) ⟨by simpa using k3.symm,fun j x v hx hv=>k4 j x v hx (by simpa using hv)⟩;exact ⟨blk,cap,vs,ty,bC.trans k1,k2,by simpa using this.1.symm,fun j x v hx hv=>this.2 j x v hx (by simpa using hv)⟩
 |arr g ts l =>
  obtain ⟨q0,q1,q2⟩:=dX;refine ⟨q0,q1,?_⟩;rcases q2 with ⟨q2,q3⟩ | ⟨blk,cap,vs,q2,q3,q4,q5,q6,q7⟩
  ·exact .inl ⟨bC.trans q2,q3⟩
  ·refine .inr ⟨blk,cap,vs,bC.trans q2,q3,q4,q5,q6,fun i j e x he hx=>?_⟩;obtain ⟨v,r1,r2,r3⟩:=q7 i j e x he hx;exact ⟨v,r1,r2,yW ho hb r3⟩
 |map es =>
  obtain ⟨blk,cap,en,ck,k1,k2,k3,k4⟩:=dX;exact ⟨blk,cap,en,ck,bC.trans k1,k2,k3,fun j k x m hx hm=>⟨yW ho hb (k4 j k x m hx hm).1,yW ho hb (k4 j k x m hx hm).2⟩⟩
 |gone=>exact bC.trans dX
theorem Kt (ho:aE G c) (hb:qG c c1 ah):Step c (c.take c1 ah) where
 au:=rfl
 bD:=ho.bD
 os:=hb.rel.os
 tape:=hb.rel.tape
 output:=hb.rel.output
 size:=hb.rel.size
 keep:=fun b ai hn=>hb.rel.keep b ai (fun i n hi=>by
  simp only [Cx.fV] at hi;split at hi
  ·exact hn _ n hi
  ·cases hi)
 dC:=fun j b n hj ai=>by
  have key:∀ i,c1.own i=some (b,n)→∃ k m,ah[i]? = some k∧c.own k=some (b,m):=fun i hi=>by
   obtain ⟨m,hk⟩:=hb.rel.dC i b n hi ai;simp only [Cx.fV] at hk;split at hk
   ·rename_i k hs; exact ⟨k,m,hs,hk⟩
   ·cases hk
  simp only [Cx.take] at hj;split at hj
  ·rename_i i hi;obtain ⟨k,m,hs,hk⟩:=key _ hj;rw [nz hi] at hs;cases hs;exact ⟨m,hk⟩
  ·split at hj
   ·exact ⟨n,hj⟩
   ·obtain ⟨k,m,hs,hk⟩:=key _ hj;rw [List.getElem?_eq_none (by omega)] at hs;cases hs
 boxes:=fun j bx hj=>by
  cases hx:dY ah j with
  |none =>
   have ai:=aZ hj;have h':(c.take c1 ah).heap[j]? = some bx:=(Kl ai hx).trans hj;have cQ:=E' (c1:=c1) ai hx;cases bx with
   |cells cs=>exact .inl ⟨cs,h',cQ,rfl⟩
   |arr g sz l=>exact .inl ⟨g,l,h',.inr ⟨rfl,rfl,cQ⟩⟩
   |map es=>exact .inl ⟨es,h',cQ⟩
   |gone=>exact h'
  |some i =>
   have hi:=nz hx;have ai:=aZ hj;have hg:(c.fV ah).heap[i]? = some (qF ah c.heap bx):=tZ hi hj;have h1:=hb.rel.boxes i _ hg;have cQ:=Ko (c:=c) (c1:=c1) hb.nodup hi;have ov:=sb (c:=c) hi;have fz:c1.heap[i]? = some .gone→(c.take c1 ah).heap[j]? = some .gone:=fun h=>wm ai hx h;cases bx with
   |cells cs =>
    rcases h1 with ⟨cs',h1,h2,h3⟩ | h1
    ·exact .inl ⟨_,wm ai hx h1,cQ.trans (h2.trans ov),by simpa [qF] using h3⟩
    ·exact .inr (fz h1)
   |arr g ts l =>
    rcases h1 with ⟨g',l',h1,h2⟩ | h1
    ·have aP:qE c.heap j=g:=by simp only [qE,gj,hj]
     have h3:=wm (h:=c.heap) ai hx h1;simp only [pc,aP] at h3;refine .inl ⟨g+g',l',h3,?_⟩;rcases h2 with h2 | ⟨h2,h4,h5⟩
     ·left; omega
     ·exact .inr ⟨by omega,h4,cQ.trans (h5.trans ov)⟩
    ·exact .inr (fz h1)
   |map es =>
    rcases h1 with ⟨ew,h1,h2⟩ | h1
    ·exact .inl ⟨ew,wm ai hx h1,cQ.trans (h2.trans ov)⟩
    ·exact .inr (fz h1)
   |gone=>exact fz h1
theorem aE.take (ho:aE G c) (sc:aE G c1) (hb:qG c c1 ah):aE G (c.take c1 ah):=by
 have aR:=Kt ho hb;have hn:=hb.nodup;have ai:=hb.lt;have BL:∀ j b n,(c.take c1 ah).own j=some (b,n)→(∃ i,j=gH ah c.heap i∧c1.own i=some (b,n))∨(j<c.heap.length∧dY ah j=none∧c.own j=some (b,n)):=by
  intro j b n hj;simp only [Cx.take] at hj;split at hj
  ·rename_i i hi;exact .inl ⟨i,by simp only [gH,gj,nz hi],hj⟩
  ·rename_i hx;split at hj
   ·rename_i hl; exact .inr ⟨hl,hx,hj⟩
   ·rename_i hl;refine .inl ⟨_,?_,hj⟩;have:ah[ah.length+(j - c.heap.length)]? = none:=List.getElem?_eq_none (by omega);simp only [gH,gj,this];omega
 have ab':∀ i i',i<c1.heap.length→i'<c1.heap.length→gH ah c.heap i=gH ah c.heap i'→i=i':=by
  intro i i' _ _ he;simp only [gH,gj] at he;split at he
  ·rename_i j hj;split at he
   ·rename_i j' dK; subst he; exact E9 hn hj dK
   ·have:=ai j (List.mem_of_getElem? hj); omega
  ·rename_i hj;split at he
   ·rename_i j' dK; have:=ai j' (List.mem_of_getElem? dK); omega
   ·rename_i dK;rw [List.getElem?_eq_none_iff] at hj dK;omega
 refine ho.next aR (fun j b n hj=>?_) (fun j j' b n m hj dK=>?_) (fun j bx hj=>?_)
 ·rcases BL j b n hj with ⟨i,rfl,hi⟩ | ⟨hl,hx,dK⟩
  ·obtain ⟨h1,h2⟩:=sc.bI i b n hi;refine ⟨h1,?_⟩;have:(c.take c1 ah).heap[gH ah c.heap i]? = some _:=kp hn ai (List.getElem?_eq_getElem h2);exact aZ this
  ·exact ⟨Nat.lt_of_lt_of_le (ho.bI j b n dK).1 hb.rel.size,by show j<(fD ah c.heap c1.heap).length; rw [SQ]; omega⟩
 ·have Ku:∀ j i n m,dY ah j=none→c.own j=some (b,n)→c1.own i=some (b,m)→False:=fun j i n m hx hj hi=>by
   refine sc.sep i b m hi ?_;rw [hb.rel.au];exact .inr ⟨j,n,Kk hx hn,hj⟩
  rcases BL j b n hj with ⟨i,rfl,hi⟩ | ⟨hl,hx,gw⟩
  ·rcases BL j' b m dK with ⟨i',rfl,cO⟩ | ⟨wq,gF,Fa⟩
   ·rw [sc.inj i i' b n m hi cO]
   ·exact (Ku j' i m n gF Fa hi).elim
  ·rcases BL j' b m dK with ⟨i',rfl,cO⟩ | ⟨wq,gF,Fa⟩
   ·exact (Ku j i' n m hx gw cO).elim
   ·exact ho.inj j j' b n m gw Fa
 ·by_cases hl:j<c.heap.length
  ·cases hx:dY ah j with
   |none =>
    left;have dK:(fD ah c.heap c1.heap)[j]? = some bx:=hj;rw [Kl hl hx] at dK;refine ⟨dK,E' hl hx,fun b n cP=>hb.rel.keep b (ho.bI j b n cP).1 (fun i m hi=>?_)⟩;simp only [Cx.fV] at hi;split at hi
    ·rename_i a ha;have:=ho.inj j a b n m cP hi;subst this;rw [tX hn ha] at hx;cases hx
    ·cases hi
   |some i =>
    right;have hi:=nz hx;have dK:(fD ah c.heap c1.heap)[j]? = some bx:=hj;have iC:(c.fV ah).heap[i]? = some (qF ah c.heap c.heap[j]):=tZ hi (List.getElem?_eq_getElem hl);have ua:=hb.rel.boxes i _ iC;obtain ⟨b1,jl⟩:∃ b1,c1.heap[i]? = some b1:=by
     generalize qF ah c.heap c.heap[j]=bb at ua;cases bb with
     |cells cs=>rcases ua with ⟨_,h,_⟩ | h <;> exact ⟨_,h⟩
     |arr g ts l=>rcases ua with ⟨_,_,h,_⟩ | h <;> exact ⟨_,h⟩
     |map es=>rcases ua with ⟨_,h,_⟩ | h <;> exact ⟨_,h⟩
     |gone=>exact ⟨_,ua⟩
    rw [wm hl hx jl] at dK;cases dK;have:=(sc.box i b1 jl).take (g:=qE c.heap j) ho hb;have Fb:gH ah c.heap i=j:=by simp only [gH,gj,hi]
    rw [Fb] at this;exact this
  ·right;have dK:(fD ah c.heap c1.heap)[j]? = some bx:=hj;rw [show j=c.heap.length+(j - c.heap.length) by omega,Km] at dK;cases jl:c1.heap[ah.length+(j - c.heap.length)]? with
   |none=>rw [jl] at dK; cases dK
   |some b1 =>
    rw [jl] at dK;cases dK;have:=(sc.box _ b1 jl).take (g:=0) ho hb;have Fb:gH ah c.heap (ah.length+(j - c.heap.length))=j:=by
     have:ah[ah.length+(j - c.heap.length)]? = none:=List.getElem?_eq_none (by omega);simp only [gH,gj,this];omega
    rw [Fb] at this;exact this
theorem aC.at {E:Env} {f:FuncId} {args:List AV} {Q:AV→List ag→Prop} (H:aC E f (jL ah h) (args.map (kW ah h)) Q) (hn:ah.Nodup) (ai:∀ j∈ah,j<h.length) (hh:c.heap=h) (ho:aE E.G c) {vs:List Value} (hv:VL c args vs) :
  Calls E.P f vs.toArray c.w fun e w'=>∃ (c':Cx) (r:AV) (h1:List ag) (v:Value),e = .returned v∧c'.w=w'∧Q r h1∧c'.heap=fD ah h h1∧VR c' (jM ah h r) v∧aE E.G c'∧Step c c':=by
 subst hh;unfold aC at H;refine (H.2.2 (c.fV ah) vs rfl (ho.fV hn) (SS hv)).mono fun e w' ⟨c1,r,v,k1,k2,k3,k4,k5,k6⟩=>?_;have hb:qG c c1 ah:=⟨hn,ai,k6⟩;exact ⟨c.take c1 ah,r,c1.heap,v,k1,k2,k3,rfl,SV ho hb k4,ho.take k5 hb,Kt ho hb⟩
end
end Go.ax
end
section
namespace Go.ax
open Go Go.RowKit
universe u
section D7
variable {α:Sort u} {β γ:Type}
def jm (f:β→(γ→α)→α):List β→(List γ→α)→α
 | [],k=>k []
 |a::l,k=>f a fun b=>jm f l fun l'=>k (b::l')
theorem pf {f:β→(γ→α)→α} {g:β→γ} (h:∀ x k,f x k=k (g x)):∀ (l:List β) (k:List γ→α),jm f l k=k (l.map g)
 | [],_=>rfl
 |a::l,k=>by simp only [jm,h,pf h l,List.map_cons]
def ub:List β→List β→(List β→α)→α
 | [],m,k=>k m
 |a::l,m,k=>ub l m fun l'=>k (a::l')
theorem yX:∀ (l m:List β) (k:List β→α),ub l m k=k (l++m)
 | [],_,_=>rfl
 |a::l,m,k=>by simp only [ub,yX l,List.cons_append]
def qI:List β→Nat→(Nat→α)→α
 | [],n,k=>k n
 |_::l,n,k=>qI l (n+1) k
theorem wu:∀ (l:List β) (n:Nat) (k:Nat→α),qI l n k=k (n+l.length)
 | [],_,_=>rfl
 |_::l,n,k=>by rw [qI,wu l,List.length_cons]; congr 1; omega
def qJ:List Nat→Nat→Nat→α→(Nat→α)→α
 | [],_,_,no,_=>no
 |a::l,j,n,no,k=>match Nat.beq a j with
  |true=>k n
  |false=>qJ l j (n+1) no k
theorem Fc:∀ (l:List Nat) (j n:Nat) (no:α) (k:Nat→α),qJ l j n no k=match dY l j with
  |some i=>k (n+i)
  |none=>no
 | [],_,_,_,_=>rfl
 |a::l,j,n,no,k=>by
  simp only [qJ,dY];cases Nat.beq a j with
  |true=>rfl
  |false =>
   rw [Fc l];cases dY l j with
   |none=>rfl
   |some i=>simp only [Option.map_some]; congr 1; omega
theorem wv {l:List β} {i:Nat} {no:α} {k:β→α}:aV l i no k=match ey l i with
  |some x=>k x
  |none=>no:=by
 rw [gj];cases h:l[i]? with
 |none=>exact Jl h no k
 |some x=>exact Bb h no k
def sd (ah:List Nat) (h:List ag) (x:AV) (k:AV→α):α :=
 match x with
 | .own j g=>qJ ah j 0 (k .any) fun i=>aV h j (k .any) fun
  | .arr g' _ _=>match Nat.beq g g' with
   |true=>k (.own i 0)
   |false=>k .any
  |_=>k .any
 | .ptr j off=>qJ ah j 0 (k .any) fun i=>aV h j (k .any) fun
  | .cells _=>k (.ptr i off)
  |_=>k .any
 | .cK j g n off=>qJ ah j 0 (k .any) fun i=>aV h j (k .any) fun
  | .arr g' _ _=>match Nat.beq g g' with
   |true=>k (.cK i 0 n off)
   |false=>k .any
  |_=>k .any
 | .cut j g n q=>qJ ah j 0 (k .any) fun i=>aV h j (k .any) fun
  | .arr g' _ _=>match Nat.beq g g' with
   |true=>k (.cut i 0 n q)
   |false=>k .any
  |_=>k .any
 | .map j=>qJ ah j 0 (k .any) fun i=>aV h j (k .any) fun
  | .map _=>k (.map i)
  |_=>k .any
 | .d x=>k (.d x)
 | .b8 e off=>k (.b8 e off)
 |_=>k .any
theorem Fe (ah:List Nat) (h:List ag) (x:AV) (k:AV→α):sd ah h x k=k (ou ah h x):=by
 unfold sd ou;simp only [Fc,wv,Nat.zero_add];cases x with
 |own j g =>
  dsimp only;generalize dY ah j=a;generalize ey h j=o;cases a with
  |none=>rfl
  |some i=>cases o with
   |none=>rfl
   |some b=>cases b with
    |arr g' _ _=>dsimp only; cases Nat.beq g g' <;> rfl
    |_=>rfl
 |ptr j off =>
  dsimp only;generalize dY ah j=a;generalize ey h j=o;cases a with
  |none=>rfl
  |some i=>cases o with
   |none=>rfl
   |some b=>cases b <;> rfl
 |cut j g n q =>
  dsimp only;generalize dY ah j=a;generalize ey h j=o;cases a with
  |none=>rfl
  |some i=>cases o with
   |none=>rfl
   |some b=>cases b with
    |arr g' _ _=>dsimp only; cases Nat.beq g g' <;> rfl
    |_=>rfl
 |cK j g n off =>
  dsimp only;generalize dY ah j=a;generalize ey h j=o;cases a with
  |none=>rfl
  |some i=>cases o with
   |none=>rfl
   |some b=>cases b with
    |arr g' _ _=>dsimp only; cases Nat.beq g g' <;> rfl
    |_=>rfl
 |map j =>
  dsimp only;generalize dY ah j=a;generalize ey h j=o;cases a with
  |none=>rfl
  |some i=>cases o with
   |none=>rfl
   |some b=>cases b <;> rfl
 |_=>rfl
def BM (ah:List Nat) (h:List ag) (x:AV) (k:AV→α):α :=
 match x with
 | .agg l=>jm (sd ah h) l fun l'=>k (.agg l')
 | .aL l=>jm (sd ah h) l fun l'=>k (.aL l')
 | .fn f a b=>jm (sd ah h) a fun a'=>jm (sd ah h) b fun b'=>k (.fn f a' b')
 |x=>sd ah h x k
theorem Kv (ah:List Nat) (h:List ag) (x:AV) (k:AV→α):BM ah h x k=k (kW ah h x):=by
 unfold BM kW;cases x <;> simp only [pf (Fe ah h),Fe]
def Ff (ah:List Nat) (h:List ag) (b:ag) (k:ag→α):α :=
 match b with
 | .arr _ ts l=>k (.arr 0 ts l)
 | .cells cs=>jm (sd ah h) cs fun cs'=>k (.cells cs')
 | .map es=>k (.map es)
 | .gone=>k .gone
theorem SX (ah:List Nat) (h:List ag) (b:ag) (k:ag→α):Ff ah h b k=k (qF ah h b):=by
 unfold Ff qF;cases b <;> simp only [pf (Fe ah h)]
def Fg (ah:List Nat) (h:List ag) (j:Nat) (k:ag→α):α:=aV h j (k .gone) fun b=>Ff ah h b k
theorem SY (ah:List Nat) (h:List ag) (j:Nat) (k:ag→α):Fg ah h j k=k (match ey h j with | some b=>qF ah h b | none => .gone):=by
 unfold Fg;rw [wv];generalize ey h j=o;cases o with
 |none=>rfl
 |some b=>exact SX ah h b k
def BN (ah:List Nat) (h:List ag) (k:List ag→α):α:=jm (Fg ah h) ah k
theorem Kw (ah:List Nat) (h:List ag) (k:List ag→α):BN ah h k=k (jL ah h):=by
 unfold BN jL;rw [pf (SY ah h)];all_goals rfl
def uc (ah:List Nat) (h:List ag) (i:Nat) (k:Nat→α):α:=aV ah i (qI h 0 fun n=>qI ah 0 fun m=>k (n+(i - m))) k
theorem SZ (ah:List Nat) (h:List ag) (i:Nat) (k:Nat→α):uc ah h i k=k (gH ah h i):=by
 unfold uc gH;rw [wv];simp only [wu,Nat.zero_add];generalize ey ah i=o;cases o <;> rfl
def BO (h:List ag) (j:Nat) (k:Nat→α):α:=aV h j (k 0) fun
 | .arr g _ _=>k g
 |_=>k 0
theorem Kx (h:List ag) (j:Nat) (k:Nat→α):BO h j k=k (qE h j):=by
 unfold BO qE;rw [wv];generalize ey h j=o;cases o with
 |none=>rfl
 |some b=>cases b <;> rfl
def yY (ah:List Nat) (h:List ag) (i:Nat) (k:Nat→α):α:=aV ah i (k 0) fun j=>BO h j k
theorem S0 (ah:List Nat) (h:List ag) (i:Nat) (k:Nat→α):yY ah h i k=k (tY ah h i):=by
 unfold yY tY;rw [wv];generalize ey ah i=o;cases o with
 |none=>rfl
 |some b=>exact Kx h b k
def se (ah:List Nat) (h:List ag) (x:AV) (k:AV→α):α :=
 match x with
 | .own i g=>uc ah h i fun j=>yY ah h i fun g0=>k (.own j (g0+g))
 | .ptr i off=>uc ah h i fun j=>k (.ptr j off)
 | .cK i g n off=>uc ah h i fun j=>yY ah h i fun g0=>k (.cK j (g0+g) n off)
 | .cut i g n q=>uc ah h i fun j=>yY ah h i fun g0=>k (.cut j (g0+g) n q)
 | .map i=>uc ah h i fun j=>k (.map j)
 | .d x=>k (.d x)
 | .b8 e off=>k (.b8 e off)
 |_=>k .any
theorem Fh (ah:List Nat) (h:List ag) (x:AV) (k:AV→α):se ah h x k=k (nA ah h x):=by
 unfold se nA;cases x <;> simp only [SZ,S0]
def BP (ah:List Nat) (h:List ag) (x:AV) (k:AV→α):α :=
 match x with
 | .agg l=>jm (se ah h) l fun l'=>k (.agg l')
 | .aL l=>jm (se ah h) l fun l'=>k (.aL l')
 | .fn f a b=>jm (se ah h) a fun a'=>jm (se ah h) b fun b'=>k (.fn f a' b')
 |x=>se ah h x k
theorem Ky (ah:List Nat) (h:List ag) (x:AV) (k:AV→α):BP ah h x k=k (wj ah h x):=by
 unfold BP wj;cases x <;> simp only [pf (Fh ah h),Fh]
def wx (ah:List Nat) (h:List ag) (x:AV) (k:AV→α):α :=
 match x with
 | .aL l=>jm (BP ah h) l fun l'=>k (.aL l')
 |x=>BP ah h x k
theorem Fi (ah:List Nat) (h:List ag) (x:AV) (k:AV→α):wx ah h x k=k (jM ah h x):=by
 unfold wx jM;cases x <;> simp only [pf (Ky ah h),Ky]
def BQ (ah:List Nat) (h:List ag) (g0:Nat) (b:ag) (k:ag→α):α :=
 match b with
 | .arr g ts l=>k (.arr (g0+g) ts l)
 | .cells cs=>jm (se ah h) cs fun cs'=>k (.cells cs')
 | .map es=>k (.map es)
 | .gone=>k .gone
theorem Kz (ah:List Nat) (h:List ag) (g0:Nat) (b:ag) (k:ag→α):BQ ah h g0 b k=k (pc ah h g0 b):=by
 unfold BQ pc;cases b <;> simp only [pf (Fh ah h)]
def wy (ah:List Nat) (h h1:List ag):Nat→List ag→(List ag→α)→α
 |_,[],k=>k []
 |j,b::r,k=>qJ ah j 0 (wy ah h h1 (j+1) r fun r'=>k (b::r')) fun i=>aV h1 i (wy ah h h1 (j+1) r fun r'=>k (.gone::r')) fun b1=>BO h j fun g=>BQ ah h g b1 fun b2=>wy ah h h1 (j+1) r fun r'=>k (b2::r')
theorem KA (ah:List Nat) (h h1:List ag):∀ (j:Nat) (r:List ag) (k:List ag→α),wy ah h h1 j r k=k (pd ah h h1 j r)
 |_,[],_=>rfl
 |j,b::r,k=>by
  simp only [wy,Fc,wv,Kx,Kz,KA ah h h1 (j+1) r,Nat.zero_add,pd];generalize dY ah j=a;cases a with
  |none=>rfl
  |some i =>
   dsimp only;generalize ey h1 i=o;cases o <;> rfl
def wz (ah:List Nat) (h h1:List ag) (k:List ag→α):α:=wy ah h h1 0 h fun a=>qI ah 0 fun n=>qa n h1 fun h2=>jm (BQ ah h 0) h2 fun b=>ub a b k
theorem Fj (ah:List Nat) (h h1:List ag) (k:List ag→α):wz ah h h1 k=k (fD ah h h1):=by
 unfold wz fD;simp only [KA,wu,Nat.zero_add,x7,pf (Kz ah h 0),yX]
def wA (d:Nat):List Nat→Bool
 | []=>false
 |a::l=>match Nat.beq a d with
  |true=>true
  |false=>wA d l
def ud (j:Nat) (ah:List Nat) (k:List Nat→α):α:=match wA j ah with
 |true=>k ah
 |false=>ub ah [j] k
def BR (h:List ag) (x:AV) (ah:List Nat) (k:List Nat→α):α :=
 match x with
 | .own j g=>aV h j (k ah) fun
  | .arr g' _ _=>match Nat.beq g g' with
   |true=>ud j ah k
   |false=>k ah
  |_=>k ah
 | .ptr j _=>aV h j (k ah) fun
  | .cells _=>ud j ah k
  |_=>k ah
 | .cK j g _ _=>aV h j (k ah) fun
  | .arr g' _ _=>match Nat.beq g g' with
   |true=>ud j ah k
   |false=>k ah
  |_=>k ah
 | .cut j g _ _=>aV h j (k ah) fun
  | .arr g' _ _=>match Nat.beq g g' with
   |true=>ud j ah k
   |false=>k ah
  |_=>k ah
 | .map j=>aV h j (k ah) fun
  | .map _=>ud j ah k
  |_=>k ah
 |_=>k ah
def sh (h:List ag):List AV→List Nat→(List Nat→α)→α
 | [],ah,k=>k ah
 |x::l,ah,k=>BR h x ah fun ow=>sh h l ow k
def si (h:List ag):List AV→List Nat→(List Nat→α)→α
 | [],ah,k=>k ah
 |x::l,ah,k=>match x with
  | .agg c=>sh h c ah fun ow=>si h l ow k
  | .aL c=>sh h c ah fun ow=>si h l ow k
  | .fn _ a b=>sh h a ah fun ow=>sh h b ow fun S1=>si h l S1 k
  |x=>BR h x ah fun ow=>si h l ow k
def ue (h:List ag):Nat→Nat→List Nat→(List Nat→α)→α
 | 0,_,ah,k=>k ah
 |n+1,p,ah,k=>aV ah p (k ah) fun j=>aV h j (ue h n (p+1) ah k) fun
  | .cells cs=>sh h cs ah fun ow=>ue h n (p+1) ow k
  |_=>ue h n (p+1) ah k
def yZ (n:Nat):List Nat→Bool
 | []=>true
 |j::l=>match wA j l,Nat.blt j n with
  |false,true=>yZ n l
  |_,_=>false
end D7
theorem KB {d:Nat}:∀ {l:List Nat},wA d l=true↔d∈l
 | []=>by simp [wA]
 |a::l=>by
  simp only [wA];split
  ·rename_i q; simp [Nat.eq_of_beq_eq_true q]
  ·rename_i q;have aJ:d≠a:=fun e=>by rw [e,Nat.beq_refl] at q; cases q
   rw [KB (l:=l)];simp [aJ]
theorem Fk {n:Nat}:∀ {l:List Nat},yZ n l=true→l.Nodup∧∀ j∈l,j<n
 | [],_=>⟨.nil,fun j hj=>by simp at hj⟩
 |j::l,H=>by
  simp only [yZ] at H;split at H
  ·rename_i q1 q2;obtain ⟨h1,h2⟩:=Fk H;refine ⟨List.nodup_cons.2 ⟨fun hm=>?_,h1⟩,fun i hi=>?_⟩
   ·rw [KB.2 hm] at q1; cases q1
   ·rcases List.mem_cons.1 hi with rfl | hi
    ·exact Nat.le_of_ble_eq_true q2
    ·exact h2 i hi
  ·cases H
@[irreducible] def y0 (E : Env) (f : FuncId) (h0 : List ag) (args : List AV) (K : AV → List ag → Prop) : Prop := ∃ Q, aC E f h0 args Q ∧ ∀ r h1, Q r h1 → K r h1
theorem uf {E:Env} {f:FuncId} {h0:List ag} {args:List AV} {K Q:AV→List ag→Prop} (H:aC E f h0 args Q) (hk:∀ r h1,Q r h1→K r h1):y0 E f h0 args K:=by unfold y0; exact ⟨Q,H,hk⟩
theorem bR {E:Env} {f:FuncId} {h0:List ag} {args:List AV} {K:AV→List ag→Prop} {r:AV} {h1:List ag} (H:aC E f h0 args (fun a b=>a=r∧b=h1)) (hk:K r h1):y0 E f h0 args K:=uf H fun _ _ ⟨e1,e2⟩=>by subst e1; subst e2; exact hk
def BS (E:Env) (f:FuncId) (eT:List AV) (h:List ag) (stop:Prop) (k:AV→List ag→Prop):Prop :=
 si h eT [] fun Fl=>ue h 20 0 Fl fun ah=>qI h 0 fun n=>match yZ n ah with
  |true=>BN ah h fun h0=>jm (BM ah h) eT fun Fm=>y0 E f h0 Fm fun r h1=>wx ah h r fun v=>wz ah h h1 fun h'=>k v h'
  |false=>stop
theorem KC {h:List ag} {x:AV} {ah:List Nat} {k:List Nat→Prop} (H:BR h x ah k):∃ l,k l:=by
 have BU:∀ {j:Nat},ud j ah k→∃ l,k l:=fun {j} H=>by
  unfold ud at H;split at H
  ·exact ⟨_,H⟩
  ·rw [yX] at H; exact ⟨_,H⟩
 unfold BR at H;split at H;all_goals first
  |exact ⟨_,H⟩
  |(rcases bj H with H | ⟨_, _, H⟩
    · exact ⟨_, H⟩
    split at H
    · first
      | exact BU H
      | (split at H
         · exact BU H
         · exact ⟨_, H⟩)
    · exact ⟨_, H⟩)
theorem wB {h:List ag}:∀ {l:List AV} {ah:List Nat} {k:List Nat→Prop},sh h l ah k→∃ l,k l
 | [],_,_,H=>⟨_,H⟩
 |_::_,_,_,H=>by
  simp only [sh] at H;obtain ⟨_,H⟩:=KC H;exact wB H
theorem wC {h:List ag}:∀ {l:List AV} {ah:List Nat} {k:List Nat→Prop},si h l ah k→∃ l,k l
 | [],_,_,H=>⟨_,H⟩
 |x::_,_,_,H=>by
  simp only [si] at H;split at H
  ·obtain ⟨_,H⟩:=wB H; exact wC H
  ·obtain ⟨_,H⟩:=wB H; exact wC H
  ·obtain ⟨_,H⟩:=wB H; obtain ⟨_,H⟩:=wB H; exact wC H
  ·obtain ⟨_,H⟩:=KC H; exact wC H
theorem y5 {h:List ag}:∀ {n p:Nat} {ah:List Nat} {k:List Nat→Prop},ue h n p ah k→∃ l,k l
 | 0,_,_,_,H=>⟨_,H⟩
 |n+1,p,ah,k,H=>by
  simp only [ue] at H;rcases bj H with H | ⟨j,_,H⟩
  ·exact ⟨_,H⟩
  rcases bj H with H | ⟨b,_,H⟩
  ·exact y5 H
  split at H
  ·obtain ⟨_,H⟩:=wB H; exact y5 H
  ·exact y5 H
theorem S2 {E:Env} {f:FuncId} {eT:List AV} {h:List ag} {stop:Prop} {k:AV→List ag→Prop} (H:BS E f eT h stop k):stop∨∃ (ah:List Nat) (Q:AV→List ag→Prop),
  aC E f (jL ah h) (eT.map (kW ah h)) Q∧ah.Nodup∧(∀ j∈ah,j<h.length)∧∀ r h1,Q r h1→k (jM ah h r) (fD ah h h1):=by
 unfold BS at H;obtain ⟨s0,H⟩:=wC H;obtain ⟨ah,H⟩:=y5 H;rw [wu,Nat.zero_add] at H;split at H
 ·rename_i q;obtain ⟨h1,h2⟩:=Fk q;rw [Kw,pf (Kv ah h)] at H;unfold y0 at H;obtain ⟨Q,h3,h4⟩:=H;refine .inr ⟨ah,Q,h3,h1,h2,fun r h1 hq=>?_⟩;have:=h4 r h1 hq;dsimp only at this;rw [Fi,Fj] at this;exact this
 ·exact .inl H
section
variable {E:Env} {f0:FuncId} {ae:ie} {k:List aG} {s:List AV} {cls:List cC} {h:List ag} {R:bY}
theorem AW.oy {ops:Array Oper} {o:Oper} {l:List Oper} {fx:Operand} {args:Array Operand} {ts:Array TypeId} {f:FuncId} {a1 a2 av:List AV} {ah:List Nat} {Q:AV→List ag→Prop} (hw:ik ops o s true) (ho:o.op = .call { callee := .value fx,args:=args,argTypes:=ts })
  (hf:bp E.G s fx (.fn (.func f) a1 a2)) (ha:gU E.G s args.toList av) (hc:aC E f (jL ah h) ((a1++av++a2).map (kW ah h)) Q) (hn:ah.Nodup) (ai:∀ j∈ah,j<h.length)
  (H:∀ r h1,Q r h1→AW E f0 ⟨ae,.bE ops l::k,bG s o.dst (jM ah h r)⟩ cls (fD ah h h1) R):AW E f0 ⟨ae,.bE ops (o::l)::k,s⟩ cls h R:=by
 unfold AW at H ⊢;intro c0 c t ts h0 h1 h2 h3 hr bX h4 h5 cs;obtain ⟨i,hi,eB,aK⟩:=mB (h1 _ (List.mem_cons_self ..));obtain ⟨v1,v2,e1,e2,e3⟩:=lP (hf c ⟨t,marks ae.aH⟩ h3 h4);have e4:=ha c ⟨t,marks ae.aH⟩ h3 h4;have e5:=(e2.append e4).append e3;have hb:qu E.P f:=by unfold aC at hc; exact hc.1
 obtain ⟨e,w',fr,⟨c',r,hp,v,rfl,rfl,hQ,BV,hv,cQ,aR⟩,Ez,od,EA⟩:=hc.at (c:=c) hn ai h2 h3 e5 ((bf ae).atR ⟨t,marks ae.aH⟩ (.inRegion ops (i::(List.range ops.size).drop (ops.size - l.length))::k.map aG.bM)::(eY cls ts++cs));have tK:VS c' (bG s o.dst (jM ah h r)) ((⟨t,marks ae.aH⟩:Act).put o.dst v).tmps:=VS.bG (a:=⟨t,marks ae.aH⟩) (aR.vs h4) o.dst hv;obtain ⟨c2,tL,r2,u2,q1,q2,q3,tM,q4,q5,q6⟩:=H r hp hQ c0 c' _ ts h0 (gq aK (eb h1)) BV cQ (hr.step aR) (bX.step h3 aR) tK (aR.cr h5) cs;refine ⟨c2,tL,r2,u2,q1,q2,q3,tM,?_,q5,q6⟩;have cR:=yy (P:=E.P) (w:=c.w) (a:=⟨t,marks ae.aH⟩) ho e1 hb;have jK:(v1.toArray++args.map (⟨t,marks ae.aH⟩:Act).eval++v2.toArray)=(v1++args.toList.map (⟨t,marks ae.aH⟩:Act).eval++v2).toArray:=by
  apply Array.ext';simp
 rw [jK] at cR;have s1:=Ey (P:=E.P) (b:=bf ae) (k:=k.map aG.bM) (cs:=eY cls ts++cs) (rest:=(List.range ops.size).drop (ops.size - l.length)) hi (hw c t h4) cR;have s2:=step_leave_returned (c:=(bf ae).atR ⟨t,marks ae.aH⟩ (.inRegion ops (i::(List.range ops.size).drop (ops.size - l.length))::k.map aG.bM)) (cs:=eY cls ts++cs) EA;rw [Frame.finish_atR,hi] at s2;have EB:(⟨ae,.bE ops (o::l)::k,s⟩:cC).bM t=(bf ae).atR ⟨t,marks ae.aH⟩ (.inRegion ops (i::(List.range ops.size).drop (ops.size - l.length))::k.map aG.bM):=by
  simp only [cC.bM,List.map_cons,eB]
 rw [EB];refine .head s1 (Steps.trans Ez (.head s2 ?_));have aX:(bf ae).atR ((⟨t,marks ae.aH⟩:Act).put ((some o).bind (·.dst)) v) (.inRegion ops ((List.range ops.size).drop (ops.size - l.length))::k.map aG.bM)=(⟨ae,.bE ops l::k,bG s o.dst (jM ah h r)⟩:cC).bM ((⟨t,marks ae.aH⟩:Act).put o.dst v).tmps:=by
  simp only [cC.bM,List.map_cons,aG.bM,Option.bind_some];rw [put_defers]
 rw [aX];exact q4
end
end Go.ax
end
section
namespace Go.ax
open Go Go.RowKit
@[irreducible] def kX (b : Bool) (A B : Prop) : Prop := (b = true → A) ∧ (b = false → B)
theorem aw {b:Bool} {A B:Prop} (h1:b=true→A) (h2:b=false→B):kX b A B:=by unfold kX; exact ⟨h1,h2⟩
theorem bq {A B:Prop} (h:A):kX true A B:=aw (fun _=>h) (fun h=>by cases h)
theorem ba {A B:Prop} (h:B):kX false A B:=aw (fun h=>by cases h) (fun _=>h)
theorem aM {b:Bool} {A B:Prop} (hb:b=true) (h:A):kX b A B:=by subst hb; exact bq h
theorem aI {b:Bool} {A B:Prop} (hb:b=false) (h:B):kX b A B:=by subst hb; exact ba h
theorem y6 {b:Bool} {A B C:Prop} (h:kX b A B) (h1:b=true→A→C) (h2:b=false→B→C):C:=by
 unfold kX at h;cases hb:b
 ·exact h2 hb (h.2 hb)
 ·exact h1 hb (h.1 hb)
@[irreducible] def qK (E : Env) (f : FuncId) (ds : List DV) (h : List ag) (K : AV → List ag → Prop) : Prop :=
 (∃ R1,aA E f ds R1∧∀ r,R1 r→K (.d r) h)∨∃ Q,aC E f [] (ds.map .d) Q∧∀ r h1,Q r h1→K (jM [] h r) (fD [] h h1)
theorem ug {E:Env} {f:FuncId} {ds:List DV} {h:List ag} {K:AV→List ag→Prop} {R1:DV→Prop} (hc:aA E f ds R1) (hk:∀ r,R1 r→K (.d r) h):qK E f ds h K:=by unfold qK; exact .inl ⟨R1,hc,hk⟩
theorem ar {E:Env} {f:FuncId} {ds:List DV} {h:List ag} {K:AV→List ag→Prop} {r:DV} (hc:aA E f ds (· = r)) (hk:K (.d r) h):qK E f ds h K:=ug hc fun _ e=>e ▸ hk
theorem wD {E:Env} {f:FuncId} {ds:List DV} {h:List ag} {K:AV→List ag→Prop} {Q:AV→List ag→Prop} (hc:aC E f [] (ds.map .d) Q) (hk:∀ r h1,Q r h1→wx [] h r fun v=>wz [] h h1 fun h'=>K v h'):qK E f ds h K:=by
 unfold qK;refine .inr ⟨Q,hc,fun r h1 hq=>?_⟩;have:=hk r h1 hq;rw [Fi,Fj] at this;exact this
theorem y7 {E:Env} {f:FuncId} {ds:List DV} {h:List ag} {K:AV→List ag→Prop} {r:AV} {h1:List ag} {args:List AV} (hc:aC E f [] args (fun a b=>a=r∧b=h1)) (ha:args=ds.map .d) (hk:wx [] h r fun v=>wz [] h h1 fun h'=>K v h'):qK E f ds h K :=
 wD (ha ▸ hc) fun _ _ ⟨e1,e2⟩=>by subst e1; subst e2; exact hk
def bV (d:Nat):List Nat→Bool
 | []=>false
 |a::l=>match Nat.beq a d with
  |true=>true
  |false=>bV d l
def jn (G:List (Nat × DV)) (s:List AV) (o:Oper) (stop:Prop) (k:FuncId→List AV→Prop):Prop :=
 match o.op with
 | .call { callee := .value fx,args:=args,.. }=>cH G s fx stop fun
  | .fn (.func f) a1 a2=>tr G s args.toList stop fun av=>ub a1 av fun a3=>ub a3 a2 fun a4=>k f a4
  | .d (.fn (.func f))=>tr G s args.toList stop fun av=>k f av
  |_=>stop
 |_=>stop
def Fp (inl:List FuncId) (E:Env) (s:List AV) (h:List ag) (o:Oper) (stop:Prop) (k:AV→List ag→Prop):Prop :=
 jn E.G s o stop fun f eT=>match bV f inl with
  |true=>stop
  |false=>my eT (BS E f eT h stop k) fun ds=>qK E f ds h k
theorem BW {G:List (Nat × DV)} {s:List AV} {o:Oper} {stop:Prop} {k:FuncId→List AV→Prop} (H:jn G s o stop k):stop∨∃ (fx:Operand) (args:Array Operand) (ts:Array TypeId) (f:FuncId) (a1 av a2:List AV),
  o.op = .call { callee := .value fx,args:=args,argTypes:=ts }∧bp G s fx (.fn (.func f) a1 a2)∧gU G s args.toList av∧k f (a1++av++a2):=by
 unfold jn at H;split at H
 ·rename_i fx args ts cm;rcases cI H with H | ⟨v,hv,H⟩
  ·exact .inl H
  split at H
  ·rename_i f a1 a2;rcases yh H with H | ⟨av,kq,H⟩
   ·exact .inl H
   rw [yX,yX] at H;exact .inr ⟨fx,args,ts,f,a1,av,a2,cm,hv,kq,H⟩
  ·rename_i f;rcases yh H with H | ⟨av,kq,H⟩
   ·exact .inl H
   refine .inr ⟨fx,args,ts,f,[],av,[],cm,fun c a h1 h2=>?_,kq,by simpa using H⟩;have:=hv c a h1 h2;generalize a.eval fx=u at this;cases this with
   |d _ _ hx =>
    cases hx;exact .fn _ _ _ _ _ rfl rfl (fun j x v hx=>by simp at hx) (fun j x v hx=>by simp at hx)
  ·exact .inl H
 ·exact .inl H
def sj (ops:Array Oper) (g:Option (Nat × Bool)) (no stop:Prop) (k:Nat→Bool→Prop):Prop :=
 match g with
 |none=>no
 |some (j,b)=>aV ops.toList j stop fun o=>match o.dst with
  |some d=>k d b
  |none=>stop
def BX:Bool→Bool→Bool
 |true,true=>true
 |false,false=>true
 |_,_=>false
def y8 (id:Nat):List aG→(stop:Prop)→(List aG→Prop)→Prop
 | .inBlock i::r,stop,k=>match Nat.beq i id with
  |true=>k r
  |false=>y8 id r stop k
 |_::r,stop,k=>y8 id r stop k
 | [],stop,_=>stop
theorem uh {id:Nat} {stop:Prop} {k:List aG→Prop}:∀ {l:List aG},y8 id l stop k→stop∨∃ r,o8 id l=some r∧k r
 | [],H => .inl H
 | .inBlock i::l,H=>by
  simp only [y8] at H;split at H
  ·rename_i q; exact .inr ⟨l,by simp only [o8,q],H⟩
  ·rename_i q;rcases uh H with h | ⟨r,hr,h⟩
   ·exact .inl h
   ·exact .inr ⟨r,by simp only [o8,q]; exact hr,h⟩
 | .code c::l,H=>uh (l:=l) H
 | .inLoop c::l,H=>uh (l:=l) H
 | .ql c::l,H=>uh (l:=l) H
 | .tF::l,H=>uh (l:=l) H
 | .bE ops q::l,H=>uh (l:=l) H
@[irreducible] def aa (E : Env) (ae : FuncId) (R : bY) (Fq : List Nat) (td : List aG) (s : List AV) (h : List ag) : Prop := AW E R.fx.f0 ⟨⟨ae, R.fx.cE, R.fx.aH⟩, td, s⟩ R.fx.cls h R
theorem aa.of {E:Env} {ae:FuncId} {R:bY} {lits:List Nat} {td:List aG} {s:List AV} {h:List ag} (H:AW E R.fx.f0 ⟨⟨ae,R.fx.cE,R.fx.aH⟩,td,s⟩ R.fx.cls h R):aa E ae R lits td s h:=by unfold aa; exact H
theorem aa.to {E:Env} {ae:FuncId} {R:bY} {lits:List Nat} {td:List aG} {s:List AV} {h:List ag} (H:aa E ae R lits td s h):AW E R.fx.f0 ⟨⟨ae,R.fx.cE,R.fx.aH⟩,td,s⟩ R.fx.cls h R:=by unfold aa at H; exact H
def y9 (ae:FuncId) (x:FX):Bool:=match x.cE,x.aH,x.cls with
 |none,[],[]=>Nat.beq x.f0 ae
 |_,_,_=>false
theorem S3 {ae:FuncId} {x:FX} (h:y9 ae x=true):x.cE=none∧x.aH=[]∧x.cls=[]∧x.f0=ae:=by
 unfold y9 at h;split at h
 ·rename_i a b c; exact ⟨a,b,c,Nat.eq_of_beq_eq_true h⟩
 ·cases h
def runK (E:Env) (ae:FuncId) (rs:List ResultVar) (R:bY):Nat→List Nat→List aG→List AV→List ag→Prop
 | 0,lits,td,s,h=>aa E ae R lits td s h
 |n+1,lits,td,s,h =>
  match td with
  | []=>match y9 ae R.fx with
   |true=>nk E.T s h rs (aa E ae R lits td s h) R.Q
   |false=>aa E ae R lits td s h
  | .inBlock _::r=>runK E ae rs R n lits r s h
  | .inLoop _::_=>aa E ae R lits td s h
  | .ql _::_=>aa E ae R lits td s h
  | .tF::_=>aa E ae R lits td s h
  | .code c::r=>match c with
   | .skip=>runK E ae rs R n lits r s h
   | .seq a b=>runK E ae rs R n lits (.code a :: .code b::r) s h
   | .block id b=>runK E ae rs R n lits (.code b :: .inBlock id::r) s h
   | .exit id=>y8 id r (aa E ae R lits td s h) fun r'=>runK E ae rs R n lits r' s h
   | .region _ ops false=>runK E ae rs R n lits (.bE ops ops.toList::r) s h
   | .ret=>match y9 ae R.fx with
    |true=>nk E.T s h rs (aa E ae R lits td s h) R.Q
    |false=>aa E ae R lits td s h
   | .cond x a b=>cH E.G s x (aa E ae R lits td s h) fun
    | .d (.bool t)=>kX t (aa E ae R lits (.code a::r) s h) (aa E ae R lits (.code b::r) s h)
    |_=>aa E ae R lits td s h
   |_=>aa E ae R lits td s h
  | .bE _ []::r=>runK E ae rs R n lits r s h
  | .bE ops (o::l)::r =>
   let go:Prop:=eX E.T E.G o.op s h (oq E o.op s h (fU E o.op s h (Fp R.fx.inl E s h o (aa E ae R lits td s h) fun v h'=>bJ s o.dst v fun s'=>aa E ae R lits (.bE ops l::r) s' h')
     fun v h'=>bJ s o.dst v fun s'=>aa E ae R lits (.bE ops l::r) s' h')
     fun v h'=>bJ s o.dst v fun s'=>runK E ae rs R n lits (.bE ops l::r) s' h')
    fun v h'=>bJ s o.dst v fun s'=>runK E ae rs R n lits (.bE ops l::r) s' h'
   sj ops o.guard go (aa E ae R lits td s h) fun d b=>aV s d (aa E ae R lits td s h) fun
    | .d (.bool t)=>match bV d lits with
     |false=>kX t (fN s d (.d (.bool true)) fun s'=>aa E ae R (d::lits) td s' h) (fN s d (.d (.bool false)) fun s'=>aa E ae R (d::lits) td s' h)
     |true=>match BX t b with
      |true=>go
      |false=>bJ s o.dst (.d .undef) fun s'=>runK E ae rs R n lits (.bE ops l::r) s' h
    | .d .undef=>bJ s o.dst (.d .undef) fun s'=>runK E ae rs R n lits (.bE ops l::r) s' h
    |_=>aa E ae R lits td s h
section
variable {E:Env} {ae:FuncId} {R:bY}
theorem kY {β:Type}:∀ {l:List β} {d:Nat} {x:β},l[d]? = some x→l.set d x=l
 | [],_,_,h=>by simp at h
 |a::l,0,x,h=>by simp at h; subst h; rfl
 |a::l,d+1,x,h=>by simp only [List.set_cons_succ]; rw [kY (by simpa using h)]
theorem Fs (hE:E.OK) {fn:Func} (hf:E.P.funcs[ae]? = some fn):∀ (n:Nat) (lits:List Nat) (td:List aG) (s:List AV) (h:List ag),
  runK E ae fn.results.toList R n lits td s h→AW E R.fx.f0 ⟨⟨ae,R.fx.cE,R.fx.aH⟩,td,s⟩ R.fx.cls h R:=by
 have ret:∀ (lits:List Nat) (td:List aG) (s:List AV) (h:List ag),(td=[]∨∃ r,td = .code .ret::r)→(match y9 ae R.fx with | true=>nk E.T s h fn.results.toList (aa E ae R lits td s h) R.Q | false=>aa E ae R lits td s h)→AW E R.fx.f0 ⟨⟨ae,R.fx.cE,R.fx.aH⟩,td,s⟩ R.fx.cls h R:=by
  intro lits td s h oe H;split at H
  ·rename_i q;by_cases hA:aa E ae R lits td s h
   ·exact hA.to
   ·rw [eq_false hA] at H;obtain ⟨q1,q2,q3,q4⟩:=S3 q;rw [q1,q2,q3,q4];rcases oe with rfl | ⟨r,rfl⟩
    ·exact .RG hE hf H
    ·exact .ret hE hf H
  ·exact H.to
 intro n
 induction n with
 |zero=>intro lits td s h H; exact aa.to H
 |succ n ih =>
  intro lits td s h H;unfold runK at H;split at H
  ·exact ret _ _ s h (.inl rfl) H
  ·exact .inBlock (ih _ _ _ _ H)
  ·exact aa.to H
  ·exact aa.to H
  ·exact aa.to H
  ·rename_i c r;split at H
   ·exact .skip (ih _ _ _ _ H)
   ·exact .seq (ih _ _ _ _ H)
   ·exact .block (ih _ _ _ _ H)
   ·rcases uh H with h' | ⟨r',hr,H⟩
    ·exact h'.to
    ·exact .exit hr (ih _ _ _ _ H)
   ·exact .region (ih _ _ _ _ H)
   ·exact ret _ _ s h (.inr ⟨_,rfl⟩) H
   ·rcases cI H with h' | ⟨v,hv,H⟩
    ·exact h'.to
    split at H
    ·rename_i t;refine y6 H (fun e H2=>?_) (fun e H2=>?_)
     ·subst e; exact .cond hv (by simpa using H2.to)
     ·subst e; exact .cond hv (by simpa using H2.to)
    ·exact aa.to H
   ·exact aa.to H
  ·exact .Ry (ih _ _ _ _ H)
  ·rename_i ops o l r
   have go : ik ops o s true → (eX E.T E.G o.op s h (oq E o.op s h (fU E o.op s h (Fp R.fx.inl E s h o (aa E ae R lits (.bE ops (o :: l) :: r) s h) fun v h' => bJ s o.dst v fun s' => aa E ae R lits (.bE ops l :: r) s' h')
         fun v h' => bJ s o.dst v fun s' => aa E ae R lits (.bE ops l :: r) s' h')
         fun v h' => bJ s o.dst v fun s' => runK E ae fn.results.toList R n lits (.bE ops l :: r) s' h')
     fun v h'=>bJ s o.dst v fun s'=>runK E ae fn.results.toList R n lits (.bE ops l::r) s' h')→AW E R.fx.f0 ⟨⟨ae,R.fx.cE,R.fx.aH⟩,.bE ops (o::l)::r,s⟩ R.fx.cls h R:=by
    intro hw H;rcases tE hE H with H | ⟨v,h',H,ho⟩
    ·rcases yL hE H with H | ⟨v,h',H,ho⟩
     case inr =>
      rw [di] at H;exact .op hw ho (ih _ _ _ _ H)
     rcases tW hE H with H | ⟨v,h',H,ho⟩
     case inr =>
      rw [di] at H;exact .op hw ho H.to
     unfold Fp at H;rcases BW H with H | ⟨fx,args,ts,f,a1,av,a2,cm,hv,kq,H⟩
     ·exact aa.to H
     split at H
     ·exact aa.to H
     rcases tq (a1++av++a2) (BS E f (a1++av++a2) h (aa E ae R lits (.bE ops (o::l)::r) s h) fun v h'=>bJ s o.dst v fun s'=>aa E ae R lits (.bE ops l::r) s' h') (fun ds=>qK E f ds h fun v h'=>bJ s o.dst v fun s'=>aa E ae R lits (.bE ops l::r) s' h') with ⟨ds,e1,e2⟩ | e2
     ·rw [e2] at H;unfold qK at H;rcases H with ⟨R1,hc,hk⟩ | ⟨Q,hc,hk⟩
      ·refine .call hw cm hv kq e1 hc fun u hu=>?_;have:=hk u hu;simp only [di] at this;exact this.to
      ·refine .oy (ah:=[]) hw cm hv kq (Q:=Q) ?_ List.nodup_nil (fun j hj=>by simp at hj) fun u h1 hu=>?_
       ·have e3:(a1++av++a2).map (kW [] h)=ds.map .d:=by rw [e1,List.map_map]; rfl
        rw [e3];exact hc
       ·have:=hk u h1 hu;simp only [di] at this;exact this.to
     ·rw [e2] at H;rcases S2 H with H | ⟨ah,Q,hc,hn,ai,hk⟩
      ·exact aa.to H
      refine .oy hw cm hv kq hc hn ai fun u h1 hu=>?_;have:=hk u h1 hu;simp only [di] at this;exact this.to
    ·rw [di] at H;exact .op hw ho (ih _ _ _ _ H)
   dsimp only at H;unfold sj at H;split at H
   ·rename_i hg;exact go (eO hg) H
   ·rename_i j b hg;rcases bj H with H | ⟨oj,kr,H⟩
    ·exact aa.to H
    split at H
    ·rename_i d hd;rcases bj H with H | ⟨x,hx,H⟩
     ·exact aa.to H
     split at H
     ·rename_i t;split at H
      ·refine y6 H (fun e H2=>?_) (fun e H2=>?_)
       ·subst e;rw [gQ,kY hx] at H2;exact aa.to H2
       ·subst e;rw [gQ,kY hx] at H2;exact aa.to H2
      ·have hw:=Bt hg kr hd hx;split at H
       ·rename_i q;have:(t==b)=true:=by cases t <;> cases b <;> first | rfl | cases q
        rw [this] at hw;exact go hw H
       ·rename_i q;have:(t==b)=false:=by cases t <;> cases b <;> first | rfl | cases q
        rw [this] at hw;rw [di] at H;exact .JE hw (ih _ _ _ _ H)
     ·rw [di] at H;exact .JE (yu hg kr hd hx) (ih _ _ _ _ H)
     ·exact aa.to H
    ·exact aa.to H
theorem aa.run (hE:E.OK) {fn:Func} (hf:E.P.funcs[ae]? = some fn) (n:Nat) {lits:List Nat} {td:List aG} {s:List AV} {h:List ag} (H:runK E ae fn.results.toList R n lits td s h):aa E ae R lits td s h := .of (Fs hE hf n lits td s h H)
theorem aA.run (hE : E.OK) {fn : Func} (hf : E.P.funcs[ae]? = some fn) {body : Code} (hb : fn.body = some body) (hn : (fn.name == "runtime.NumGoroutine") = false) (n : Nat) {args : List DV} {R : DV → Prop}
  (H:nZ .d args fun a=>runK E ae fn.results.toList ⟨0,yB R,[],⟨ae,none,[],[],[],[]⟩⟩ n [] [.code body] (nj a fn.ntmps) []):aA E ae args R:=by
 rw [qb] at H;exact .RF (.JF hf hb hn (fun i g ts l h=>by simp at h) (Fs hE hf n _ _ _ _ H))
def ui:List ag→Bool
 | []=>true
 | .arr g _ _::l=>match Nat.beq g 0 with
  |true=>ui l
  |false=>false
 |_::l=>ui l
theorem sk:∀ {h:List ag},ui h=true→Bq h
 | [],_=>fun i g ts l h=>by simp at h
 |b::r,H=>by
  have hr:ui r=true:=by
   unfold ui at H;split at H
   ·rename_i e; cases e
   ·rename_i e; cases e; split at H
    ·exact H
    ·cases H
   ·rename_i e; cases e; exact H
  intro i g ts l h;cases i with
  |zero =>
   simp at h;subst h;simp only [ui] at H;split at H
   ·rename_i q; exact Nat.eq_of_beq_eq_true q
   ·cases H
  |succ i=>exact sk hr i g ts l (by simpa using h)
theorem aC.run (hE : E.OK) {fn : Func} (hf : E.P.funcs[ae]? = some fn) {body : Code} (hb : fn.body = some body) (hn : (fn.name == "runtime.NumGoroutine") = false) (n : Nat) {h : List ag} (vW : ui h = true) {args : List AV} {Q : AV → List ag → Prop}
  (H:runK E ae fn.results.toList ⟨h.length,Q,[],⟨ae,none,[],[],[],[]⟩⟩ n [] [.code body] (nj args fn.ntmps) h):aC E ae h args Q :=
 .JF hf hb hn (sk vW) (Fs hE hf n _ _ _ _ H)
end
end Go.ax
end
section
namespace Go.ax
open Go Go.RowKit
def wE (h h':List ag) (x y:AV) (K:Prop):Prop :=
 match y with
 | .any=>K
 | .d b=>match x with
  | .d a=>a=b∧K
  |_=>False
 | .own b' g'=>match x with
  | .own b g=>match Nat.beq b b' with
   |true=>aV h b False fun
    | .arr g0 _ _=>aV h' b False fun
     | .arr g1 _ _=>match Nat.beq g g0,Nat.beq g' g1 with
      |true,true=>K
      |_,_=>False
     |_=>False
    |_=>False
   |false=>False
  |_=>False
 | .ptr b' Ft=>match x with
  | .ptr b off=>match Nat.beq b b',Nat.beq off Ft with
   |true,true=>aV h b False fun
    | .cells _=>aV h' b False fun
     | .cells _=>K
     |_=>False
    |_=>False
   |_,_=>False
  |_=>False
 | .b8 e' Ft=>match x with
  | .b8 e off=>match Nat.beq off Ft with
   |true=>e=e'∧K
   |false=>False
  |_=>False
 | .map b'=>match x with
  | .map b=>match Nat.beq b b' with
   |true=>aV h b False fun
    | .map _=>aV h' b False fun
     | .map _=>K
     |_=>False
    |_=>False
   |false=>False
  |_=>False
 | .cut b' g' k' q'=>match x with
  | .cut b g k q=>match Nat.beq b b' with
   |true=>aV h b False fun
    | .arr g0 _ _=>aV h' b False fun
     | .arr g1 _ _=>match Nat.beq g g0,Nat.beq g' g1 with
      |true,true=>k=k'∧q=q'∧K
      |_,_=>False
     |_=>False
    |_=>False
   |false=>False
  |_=>False
 |_=>False
def pg (h h':List ag):List AV→List AV→Prop→Prop
 | [],[],K=>K
 |x::l,y::l',K=>wE h h' x y (pg h h' l l' K)
 |_,_,_=>False
def Fu (h h':List ag) (x y:AV) (K:Prop):Prop :=
 match y with
 | .agg l'=>match x with
  | .agg l=>pg h h' l l' K
  |_=>False
 | .aL l'=>match x with
  | .aL l=>pg h h' l l' K
  |_=>False
 | .fn f' a' b'=>match x with
  | .fn f a b=>f=f'∧pg h h' a a' (pg h h' b b' K)
  |_=>False
 |y=>wE h h' x y K
def BY (h h':List ag):List AV→List AV→Prop→Prop
 | [],[],K=>K
 |x::l,y::l',K=>Fu h h' x y (BY h h' l l' K)
 |_,_,_=>False
def KD (g g':Nat):Bool:=match Nat.beq g' 0 with
 |true=>Nat.beq g 0
 |false=>true
theorem S4 {g g':Nat} (h:KD g g'=true):g'=0→g=0:=fun e=>by
 subst e;exact Nat.eq_of_beq_eq_true h
def BZ (h h':List ag) (x y:ag) (K:Prop):Prop :=
 match y with
 | .gone=>K
 | .cells l'=>match x with
  | .cells l=>pg h h' l l' K
  |_=>False
 | .arr g' ea l'=>match x with
  | .arr g ts l=>match KD g g' with
   |true=>ts=ea∧l=l'∧K
   |false=>False
  |_=>False
 | .map ew=>match x with
  | .map es=>es=ew∧K
  |_=>False
def sm (h h':List ag):List ag→List ag→Prop→Prop
 |_,[],K=>K
 |x::l,y::l',K=>BZ h h' x y (sm h h' l l' K)
 |_,_,_=>False
def B0 (own:Nat→Option (Nat × Nat)) (h':List ag) (i:Nat):Option (Nat × Nat):=match h'[i]? with
 |none=>none
 |some .gone=>none
 |some _=>own i
def Cx.cut (c:Cx) (h':List ag):Cx:={ c with own:=B0 c.own h',heap:=h' }
def KE (x y:ag):Prop:=match y with
 | .gone=>True
 | .cells l'=>∃ l,x = .cells l∧l.length=l'.length
 | .arr g' ea l'=>∃ g,x = .arr g ea l'∧(g'=0→g=0)
 | .map ew=>x = .map ew
def HSub (h h':List ag):Prop:=∀ (i:Nat) (y:ag),h'[i]? = some y→∃ x,h[i]? = some x∧KE x y
theorem kZ {c:Cx} {h':List ag} {i:Nat} {y:ag} (hy:h'[i]? = some y) (hg:y ≠ .gone):(c.cut h').own i=c.own i:=by
 simp only [Cx.cut,B0,hy]
theorem qL {c:Cx} {h':List ag} {i:Nat} {p:Nat × Nat} (hi:(c.cut h').own i=some p):c.own i=some p∧∃ y,h'[i]? = some y∧y ≠ .gone:=by
 simp only [Cx.cut,B0] at hi;split at hi
 ·cases hi
 ·cases hi
 ·rename_i y aJ hy; exact ⟨hi,y,hy,fun e=>aJ (by rw [← e])⟩
theorem pj {c:Cx} {h':List ag} {x:DV} {v:Value} (hv:VD c.bad c.w x v):VD (c.cut h').bad (c.cut h').w x v :=
 hv.mono fun _ _ hn=>⟨fun hb=>hn (hb.elim .inl fun ⟨i,n,hi⟩ => .inr ⟨i,n,(qL hi).1⟩),rfl⟩
theorem KF {h h':List ag} {x y:AV} {K:Prop} (H:wE h h' x y K) (hs:HSub h h'):K∧∀ (c:Cx) (v:Value),c.heap=h→VR c x v→VR (c.cut h') y v:=by
 unfold wE at H;split at H
 ·exact ⟨H,fun c v _ _ => .any v⟩
 ·split at H
  ·obtain ⟨rfl,H⟩:=H;exact ⟨H,fun c v _ hv=>by cases hv with | d _ _ hv=>exact .d _ _ (pj hv)⟩
  ·exact H.elim
 ·rename_i b' g';split at H
  ·rename_i b g;split at H
   ·rename_i q;have:=Nat.eq_of_beq_eq_true q;subst this;rcases bj H with H1 | ⟨bx,hb,H1⟩
    ·exact H1.elim
    clear H;split at H1
    ·rename_i g0 ts l;rcases bj H1 with H2 | ⟨Fv,cP,H2⟩
     ·exact H2.elim
     clear H1;split at H2
     ·rename_i g1 ea l';split at H2
      ·rename_i q1 q2;have q1:=Nat.eq_of_beq_eq_true q1;have q2:=Nat.eq_of_beq_eq_true q2;subst q1; subst q2;refine ⟨H2,fun c v hc hv=>?_⟩;obtain ⟨x0,k1,gx,k2,-⟩:=hs b _ cP;rw [hb] at k1;cases k1;cases k2;subst hc;have ho:=kZ (c:=c) cP (by simp);rcases oh hb hv with ⟨blk,cap,r1,rfl⟩ | ⟨rfl,rfl,r1⟩
       ·exact .own b _ _ _ blk cap cP (ho.trans r1)
       ·exact .iL b _ _ cP (ho.trans r1)
      ·exact H2.elim
     ·exact H2.elim
    ·exact H1.elim
   ·exact H.elim
  ·exact H.elim
 ·split at H
  ·split at H
   ·rename_i q1 q2;have q1:=Nat.eq_of_beq_eq_true q1;have q2:=Nat.eq_of_beq_eq_true q2;subst q1; subst q2;rcases bj H with H | ⟨bx,hb,H⟩
    ·exact H.elim
    split at H
    ·rcases bj H with H | ⟨Fv,cP,H⟩
     ·exact H.elim
     split at H
     ·refine ⟨H,fun c v hc hv=>?_⟩;subst hc;have ho:=kZ (c:=c) cP (by simp);cases hv with
      |ptr _ _ cs blk cap k1 k2=>exact .ptr _ _ _ blk cap cP (ho.trans k2)
      |jf _ _ _ k1 _=>rw [hb] at k1; cases k1
     ·exact H.elim
    ·exact H.elim
   ·exact H.elim
  ·exact H.elim
 ·split at H
  ·split at H
   ·rename_i q;have:=Nat.eq_of_beq_eq_true q;subst this;obtain ⟨rfl,H⟩:=H;refine ⟨H,fun c v hc hv=>?_⟩;cases hv with
    |b8 _ _ blk o f k1 k2 k3 k4=>exact .b8 _ _ blk o f (fun hb=>k1 (hb.elim .inl fun ⟨i,n,hi⟩ => .inr ⟨i,n,(qL hi).1⟩)) k2 k3 (fun j x hx=>pj (k4 j x hx))
   ·exact H.elim
  ·exact H.elim
 ·split at H
  ·split at H
   ·rename_i q1;have q1:=Nat.eq_of_beq_eq_true q1;subst q1;rcases bj H with H | ⟨bx,hb,H⟩
    ·exact H.elim
    split at H
    ·rcases bj H with H | ⟨Fv,cP,H⟩
     ·exact H.elim
     split at H
     ·refine ⟨H,fun c v hc hv=>?_⟩;subst hc;have ho:=kZ (c:=c) cP (by simp);cases hv with
      |map _ es blk cap k1 k2=>exact .map _ _ blk cap cP (ho.trans k2)
      |nd _ _ k1 _=>rw [hb] at k1; cases k1
     ·exact H.elim
    ·exact H.elim
   ·exact H.elim
  ·exact H.elim
 ·rename_i b' g' k' q';split at H
  ·rename_i b g k qq;split at H
   ·rename_i q;have:=Nat.eq_of_beq_eq_true q;subst this;rcases bj H with H1 | ⟨bx,hb,H1⟩
    ·exact H1.elim
    clear H;split at H1
    ·rename_i g0 ts l;rcases bj H1 with H2 | ⟨Fv,cP,H2⟩
     ·exact H2.elim
     clear H1;split at H2
     ·rename_i g1 ea l';split at H2
      ·rename_i q1 q2;have q1:=Nat.eq_of_beq_eq_true q1;have q2:=Nat.eq_of_beq_eq_true q2;subst q1; subst q2;obtain ⟨rfl,rfl,H2⟩:=H2;refine ⟨H2,fun c v hc hv=>?_⟩;obtain ⟨x0,k1,gx,k2,-⟩:=hs b _ cP;rw [hb] at k1;cases k1;cases k2;subst hc;have ho:=kZ (c:=c) cP (by simp);cases hv with
       |cut _ _ _ _ _ l2 blk cap o r1 r2 r3 r4 r5=>rw [hb] at r1; cases r1; exact .cut b _ k _ _ _ blk cap o cP (ho.trans r2) r3 r4 r5
       |mv _ _ g2 _ _ _ _ _ r1 r2 _=>rw [hb] at r1; cases r1; omega
       |mw _ _ _ _ _ r1 _=>rw [hb] at r1; cases r1
      ·exact H2.elim
     ·exact H2.elim
    ·exact H1.elim
   ·exact H.elim
  ·exact H.elim
 ·exact H.elim
theorem wF {h h':List ag} {K:Prop} (hs:HSub h h'):∀ {l l':List AV},pg h h' l l' K→K∧l.length=l'.length∧∀ (c:Cx) (vs:List Value),c.heap=h→VL c l vs→VL (c.cut h') l' vs
 | [],[],H=>⟨H,rfl,fun c vs _ hv=>⟨hv.1,fun j x v hx=>by simp at hx⟩⟩
 |x::l,y::l',H=>by
  simp only [pg] at H;obtain ⟨H,h1⟩:=KF H hs;obtain ⟨H,h2,h3⟩:=wF hs H;refine ⟨H,by simp [h2],fun c vs hc hv=>?_⟩;cases vs with
  |nil=>have:=hv.1; simp at this
  |cons v vs=>exact .cons (h1 c v hc hv.head.1) (h3 c vs hc hv.head.2)
 | [],_::_,H=>H.elim
 |_::_,[],H=>H.elim
theorem S5 {h h':List ag} {x y:AV} {K:Prop} (H:Fu h h' x y K) (hs:HSub h h'):K∧∀ (c:Cx) (v:Value),c.heap=h→VR c x v→VR (c.cut h') y v:=by
 unfold Fu at H;split at H
 ·split at H
  ·obtain ⟨H,-,h1⟩:=wF hs H;refine ⟨H,fun c v hc hv=>?_⟩;obtain ⟨vs,rfl,gT⟩:=rR hv;exact x9 (h1 c vs hc gT)
  ·exact H.elim
 ·split at H
  ·obtain ⟨H,-,h1⟩:=wF hs H;refine ⟨H,fun c v hc hv=>?_⟩;cases hv with
   |aL _ vs hl bT =>
    have:=h1 c vs.toList hc ⟨by simpa using hl,fun j x v hx hv=>bT j x v hx (by simpa using hv)⟩;exact .aL _ vs (by simpa using this.1) (fun j x v hx hv=>this.2 j x v hx (by simpa using hv))
  ·exact H.elim
 ·split at H
  ·obtain ⟨rfl,H⟩:=H;obtain ⟨H,-,h1⟩:=wF hs H;obtain ⟨H,-,h2⟩:=wF hs H;refine ⟨H,fun c v hc hv=>?_⟩;obtain ⟨v1,v2,rfl,r1,r2⟩:=lP hv;have r1:=h1 c v1 hc r1;have r2:=h2 c v2 hc r2;exact .fn _ _ _ _ _ (by simpa using r1.1) (by simpa using r2.1) (fun j x v hx hv=>r1.2 j x v hx (by simpa using hv)) (fun j x v hx hv=>r2.2 j x v hx (by simpa using hv))
  ·exact H.elim
 ·exact KF H hs
theorem KG {h h':List ag} {K:Prop} (hs:HSub h h'):∀ {l l':List AV},BY h h' l l' K→K∧∀ (c:Cx) (vs:List Value),c.heap=h→VL c l vs→VL (c.cut h') l' vs
 | [],[],H=>⟨H,fun c vs _ hv=>⟨hv.1,fun j x v hx=>by simp at hx⟩⟩
 |x::l,y::l',H=>by
  simp only [BY] at H;obtain ⟨H,h1⟩:=S5 H hs;obtain ⟨H,h3⟩:=KG hs H;refine ⟨H,fun c vs hc hv=>?_⟩;cases vs with
  |nil=>have:=hv.1; simp at this
  |cons v vs=>exact .cons (h1 c v hc hv.head.1) (h3 c vs hc hv.head.2)
 | [],_::_,H=>H.elim
 |_::_,[],H=>H.elim
theorem Fw {h h':List ag} {K:Prop}:∀ {l l':List AV},pg h h' l l' K→l.length=l'.length∧K
 | [],[],H=>⟨rfl,H⟩
 |x::l,y::l',H=>by
  have hK:∀ {Q:Prop},wE h h' x y Q→Q:=fun {Q} H=>by
   unfold wE at H;repeat' split at H
   all_goals first
    |exact H
    |exact H.elim
    |exact H.2
    |(rcases bj H with H | ⟨_, _, H⟩
      · exact H.elim
      split at H
      · rcases bj H with H | ⟨_, _, H⟩
        · exact H.elim
        repeat' split at H
        all_goals first | exact H | exact H.elim | exact H.2.2 | exact H.2
      all_goals exact H.elim)
  simp only [pg] at H;obtain ⟨h1,h2⟩:=Fw (hK H);exact ⟨by simp [h1],h2⟩
 | [],_::_,H=>H.elim
 |_::_,[],H=>H.elim
theorem KH {h h':List ag} {K:Prop}:∀ {l l':List ag},sm h h' l l' K→HSub l l'∧K
 | [],[],H=>⟨fun i y hy=>by simp at hy,H⟩
 |_::_,[],H=>⟨fun i y hy=>by simp at hy,H⟩
 |x::l,y::l',H=>by
  simp only [sm] at H;have key:KE x y∧sm h h' l l' K:=by
   unfold BZ at H;split at H
   ·exact ⟨trivial,H⟩
   ·split at H
    ·obtain ⟨h1,h2⟩:=Fw H; exact ⟨⟨_,rfl,h1⟩,h2⟩
    ·exact H.elim
   ·split at H
    ·split at H
     ·rename_i q; obtain ⟨rfl,rfl,H⟩:=H; exact ⟨⟨_,rfl,S4 q⟩,H⟩
     ·exact H.elim
    ·exact H.elim
   ·split at H
    ·obtain ⟨rfl,H⟩:=H; exact ⟨rfl,H⟩
    ·exact H.elim
  obtain ⟨h1,h2⟩:=KH key.2;refine ⟨fun i z hz=>?_,h2⟩;cases i with
  |zero=>simp at hz; subst hz; exact ⟨x,rfl,key.1⟩
  |succ i=>obtain ⟨w,k1,k2⟩:=h1 i z (by simpa using hz); exact ⟨w,by simpa using k1,k2⟩
 | [],_::_,H=>H.elim
theorem KI {h h':List ag} {K:Prop} (hs:HSub h h'):∀ {l l':List ag},sm h h' l l' K→∀ (i:Nat) (cs:List AV),l'[i]? = some (.cells cs)→∃ pk,l[i]? = some (.cells pk)∧∀ (c:Cx) (vs:List Value),c.heap=h→VL c pk vs→VL (c.cut h') cs vs
 |_,[],H=>fun i y hy=>by simp at hy
 |x::l,y::l',H=>by
  simp only [sm] at H;intro i cs hi;cases i with
  |zero =>
   simp at hi;subst hi;simp only [BZ] at H;split at H
   ·obtain ⟨-,-,h3⟩:=wF hs H;exact ⟨_,rfl,h3⟩
   ·exact H.elim
  |succ i =>
   have tU:sm h h' l l' K:=by
    unfold BZ at H;split at H
    ·exact H
    ·split at H
     ·exact (Fw H).2
     ·exact H.elim
    ·split at H
     ·split at H
      ·exact H.2.2
      ·exact H.elim
     ·exact H.elim
    ·split at H
     ·exact H.2
     ·exact H.elim
   obtain ⟨pk,k1,k2⟩:=KI hs tU i cs (by simpa using hi);exact ⟨pk,by simpa using k1,k2⟩
 | [],_::_,H=>H.elim
theorem aE.cut {G:List (Nat × DV)} {c:Cx} (ho:aE G c) {h':List ag} (hs:HSub c.heap h') (vT:∀ (i:Nat) (cs:List AV),h'[i]? = some (.cells cs)→∃ pk,c.heap[i]? = some (.cells pk)∧∀ (vs:List Value),VL c pk vs→VL (c.cut h') cs vs):aE G (c.cut h') where
 bD:=ho.bD
 bI:=fun i b n hi=>by
  obtain ⟨h1,y,h2,-⟩:=qL hi;exact ⟨(ho.bI i b n h1).1,aZ h2⟩
 inj:=fun i j b n m hi hj=>ho.inj i j b n m (qL hi).1 (qL hj).1
 sep:=fun i b n hi=>ho.sep i b n (qL hi).1
 box:=fun i bx hi=>by
  have cO:h'[i]? = some bx:=hi;obtain ⟨x,hx,hb⟩:=hs i bx cO;cases bx with
  |gone=>show (c.cut h').own i=none; simp only [Cx.cut,B0,cO]
  |cells cs =>
   obtain ⟨pk,k1,k2⟩:=vT i cs cO;obtain ⟨blk,cap,vs,ty,g1,g2,g3⟩:=ho.cells k1;have:=k2 vs.toList g3;exact ⟨blk,cap,vs,ty,(kZ cO (by simp)).trans g1,g2,by simpa using this.1.symm,fun j x v hx hv=>this.2 j x v hx (by simpa using hv)⟩
  |arr g ts l =>
   obtain ⟨g0,rfl,-⟩:=hb;obtain ⟨q0,q1,q2⟩:=ho.box i _ hx;refine ⟨q0,q1,?_⟩;have cQ:=kZ (c:=c) cO (by simp);rcases q2 with ⟨q2,q3⟩ | ⟨blk,cap,vs,q2,q3,q4,q5,q6,q7⟩
   ·exact .inl ⟨cQ.trans q2,q3⟩
   ·refine .inr ⟨blk,cap,vs,cQ.trans q2,q3,q4,q5,q6,fun i j e x he hx=>?_⟩;obtain ⟨v,r1,r2,r3⟩:=q7 i j e x he hx;exact ⟨v,r1,r2,pj r3⟩
  |map es =>
   obtain rfl:x = .map es:=hb;obtain ⟨blk,cap,en,ck,k1,k2,k3,k4⟩:=ho.box i _ hx;exact ⟨blk,cap,en,ck,(kZ cO (by simp)).trans k1,k2,k3,fun j k x m hx hm=>⟨pj (k4 j k x m hx hm).1,pj (k4 j k x m hx hm).2⟩⟩
 fO:=fun g e hg=>by
  have hp:∀ p,VR c (.b8 e 0) p→VR (c.cut h') (.b8 e 0) p:=fun p hp=>by
   cases hp with
   |b8 _ _ blk o' fv k1 k2 k3 k4=>exact .b8 _ _ blk o' fv (fun hb=>k1 (hb.elim .inl fun ⟨i,n,hi⟩ => .inr ⟨i,n,(qL hi).1⟩)) k2 k3 (fun j x hx=>pj (k4 j x hx))
  exact hp _ (ho.fO g e hg)
def uj (n:Nat) (h:List ag) (s:List AV) (h':List ag) (s':List AV):Prop:=match Nat.ble n h'.length with
 |true=>sm h h' h h' (BY h h' s s' True)
 |false=>False
theorem fw.cut {c0 c:Cx} (hr:fw c0 c) {h':List ag} (hn:c0.heap.length≤h'.length) (hs:HSub c.heap h'):fw c0 (c.cut h') where
 lim:=hr.lim
 nh:=hr.nh
 au:=hr.au
 qo:=hr.qo
 os:=hr.os
 tape:=hr.tape
 output:=hr.output
 size:=hr.size
 keep:=hr.keep
 dC:=fun i b n hi hb=>hr.dC i b n (qL hi).1 hb
 boxes:=fun i bx hi=>by
  have ai:i<h'.length:=Nat.lt_of_lt_of_le (aZ hi) hn;obtain ⟨y,hy⟩:∃ y,h'[i]? = some y:=⟨h'[i],by simp [ai]⟩;obtain ⟨x,hx,hb⟩:=hs i y hy;have ji:(c.cut h').heap[i]? = some y:=hy;have h1:=hr.boxes i bx hi;have fz:y = .gone→yq c0 (c.cut h') i bx:=fun e=>by
   subst e;cases bx with
   |cells cs=>exact .inr ji
   |arr g sz l=>exact .inr ji
   |map es=>exact .inr ji
   |gone=>exact ji
  cases y with
  |gone=>exact fz rfl
  |cells cs' =>
   obtain ⟨cs1,rfl,hl⟩:=hb;have ho:=kZ (c:=c) hy (by simp);cases bx with
   |cells cs =>
    rcases h1 with ⟨cs2,h1,h2,h3⟩ | h1
    ·rw [hx] at h1; cases h1;exact .inl ⟨cs',ji,ho.trans h2,by omega⟩
    ·rw [hx] at h1; cases h1
   |arr g sz l =>
    rcases h1 with ⟨_,_,h1,_⟩ | h1 <;> (rw [hx] at h1; cases h1)
   |map es=>rcases h1 with ⟨_,h1,_⟩ | h1 <;> (rw [hx] at h1; cases h1)
   |gone=>have h1:c.heap[i]? = some .gone:=h1; rw [hx] at h1; cases h1
  |arr g' ea l' =>
   obtain ⟨g1,rfl,hl⟩:=hb;have ho:=kZ (c:=c) hy (by simp);cases bx with
   |cells cs=>rcases h1 with ⟨_,h1,_⟩ | h1 <;> (rw [hx] at h1; cases h1)
   |arr g sz l =>
    rcases h1 with ⟨g2,l2,h1,h2⟩ | h1
    ·rw [hx] at h1; cases h1;refine .inl ⟨g',l',ji,?_⟩;by_cases hz:g'=0
     ·have:=hl hz;rcases h2 with h2 | ⟨h2,h3,h4⟩
      ·omega
      ·exact .inr ⟨hz,h3,ho.trans h4⟩
     ·left; omega
    ·rw [hx] at h1; cases h1
   |map es=>rcases h1 with ⟨_,h1,_⟩ | h1 <;> (rw [hx] at h1; cases h1)
   |gone=>have h1:c.heap[i]? = some .gone:=h1; rw [hx] at h1; cases h1
  |map ew =>
   obtain rfl:x = .map ew:=hb;have ho:=kZ (c:=c) hy (by simp);cases bx with
   |cells cs=>rcases h1 with ⟨_,h1,_⟩ | h1 <;> (rw [hx] at h1; cases h1)
   |arr g sz l=>rcases h1 with ⟨_,_,h1,_⟩ | h1 <;> (rw [hx] at h1; cases h1)
   |map es =>
    rcases h1 with ⟨KJ,h1,h2⟩ | h1
    ·rw [hx] at h1; cases h1;exact .inl ⟨ew,ji,ho.trans h2⟩
    ·rw [hx] at h1; cases h1
   |gone=>have h1:c.heap[i]? = some .gone:=h1; rw [hx] at h1; cases h1
def wG (h h':List ag) (x:AV) (K:Prop):Prop :=
 match x with
 | .any=>K
 | .d _=>K
 | .own b g=>aV h' b False fun
  | .gone=>K
  | .arr g1 _ _=>aV h b False fun
   | .arr g0 _ _=>match Nat.blt g g1 with
    |true=>match Nat.ble g g0 with
     |true=>K
     |false=>False
    |false=>match Nat.beq g g0,Nat.beq g g1 with
     |true,true=>K
     |_,_=>False
   |_=>False
  |_=>False
 | .ptr b _=>aV h' b False fun
  | .gone=>K
  | .cells _=>aV h b False fun
   | .cells _=>K
   |_=>False
  |_=>False
 | .b8 _ _=>K
 | .map b=>aV h' b False fun
  | .gone=>K
  | .map _=>aV h b False fun
   | .map _=>K
   |_=>False
  |_=>False
 | .cut b g _ _=>aV h' b False fun
  | .gone=>K
  | .arr g1 _ _=>aV h b False fun
   | .arr g0 _ _=>match Nat.blt g g1 with
    |true=>match Nat.ble g g0 with
     |true=>K
     |false=>False
    |false=>match Nat.beq g g0,Nat.beq g g1 with
     |true,true=>K
     |_,_=>False
   |_=>False
  |_=>False
 | .cK b g _ _=>aV h' b False fun
  | .gone=>K
  | .arr g1 _ _=>aV h b False fun
   | .arr g0 _ _=>match Nat.blt g g1 with
    |true=>match Nat.ble g g0 with
     |true=>K
     |false=>False
    |false=>match Nat.beq g g0,Nat.beq g g1 with
     |true,true=>K
     |_,_=>False
   |_=>False
  |_=>False
 |_=>False
def uk (h h':List ag):List AV→Prop→Prop
 | [],K=>K
 |x::l,K=>wG h h' x (uk h h' l K)
def zb (h h':List ag) (x:AV) (K:Prop):Prop :=
 match x with
 | .agg l=>uk h h' l K
 | .aL l=>uk h h' l K
 | .fn _ a b=>uk h h' a (uk h h' b K)
 |x=>wG h h' x K
def zc (h h':List ag):List AV→Prop→Prop
 | [],K=>K
 |x::l,K=>zb h h' x (zc h h' l K)
def B1 (h h':List ag):List cC→Prop→Prop
 | [],K=>K
 |f::l,K=>zc h h' f.jh (B1 h h' l K)
def wH (h h':List ag):List bU→Prop→Prop
 | [],K=>K
 | .loop i::l,K=>zc h h' i.jh (wH h h' l K)
 | .mark _::l,K=>wH h h' l K
 |_::_,_=>False
def wI (h h':List ag) (x:FX) (K:Prop):Prop:=B1 h h' x.cls (wH h h' x.loops K)
theorem wJ {β:Type} {l:List β} {i:Nat} {k:β→Prop} {K:Prop} (hk:∀ x,k x→K) (H:aV l i False k):K:=by
 rcases bj H with H | ⟨x,_,H⟩
 ·exact H.elim
 ·exact hk x H
theorem KK {h h':List ag} {x:AV} {K:Prop} (H:wG h h' x K):K:=by
 have arr:∀ (b g:Nat),(aV h' b False fun
  | .gone=>K
  | .arr g1 _ _=>aV h b False fun
   | .arr g0 _ _=>match Nat.blt g g1 with
    |true=>match Nat.ble g g0 with
     |true=>K
     |false=>False
    |false=>match Nat.beq g g0,Nat.beq g g1 with
     |true,true=>K
     |_,_=>False
   |_=>False
  |_=>False)→K:=fun b g H=>wJ (fun y H=>by
   split at H
   ·exact H
   ·refine wJ (fun z H=>?_) H;split at H
    ·split at H
     ·split at H
      ·exact H
      ·exact H.elim
     ·split at H
      ·exact H
      ·exact H.elim
    ·exact H.elim
   ·exact H.elim) H
 cases x with
 |own b g=>exact arr b g H
 |cK b g i off=>exact arr b g H
 |cut b g k q=>exact arr b g H
 |ptr b off =>
  exact wJ (fun y H=>by
   split at H
   ·exact H
   ·refine wJ (fun z H=>?_) H;split at H
    ·exact H
    ·exact H.elim
   ·exact H.elim) H
 |map b =>
  exact wJ (fun y H=>by
   split at H
   ·exact H
   ·refine wJ (fun z H=>?_) H;split at H
    ·exact H
    ·exact H.elim
   ·exact H.elim) H
 |any=>exact H
 |d x=>exact H
 |b8 e off=>exact H
 |agg l=>exact H.elim
 |aL l=>exact H.elim
 |fn f a b=>exact H.elim
theorem ze {h h':List ag}:∀ {l:List AV} {K:Prop},uk h h' l K→K
 | [],_,H=>H
 |_::_,_,H=>ze (KK H)
theorem S6 {h h':List ag} {x:AV} {K:Prop} (H:zb h h' x K):K:=by
 unfold zb at H;split at H
 ·exact ze H
 ·exact ze H
 ·exact ze (ze H)
 ·exact KK H
theorem Fx {h h':List ag}:∀ {l:List AV} {K:Prop},zc h h' l K→K
 | [],_,H=>H
 |_::_,_,H=>Fx (S6 H)
theorem KL {h h':List ag}:∀ {l:List cC} {K:Prop},B1 h h' l K→K
 | [],_,H=>H
 |_::_,_,H=>KL (Fx H)
theorem Fy {h h':List ag}:∀ {l:List bU} {K:Prop},wH h h' l K→K
 | [],_,H=>H
 | .loop _::_,_,H=>Fy (Fx H)
 | .mark _::l,_,H=>Fy (l:=l) H
 | .row _::_,_,H=>H.elim
 | .iter _::_,_,H=>H.elim
theorem KM {h h':List ag} (hs:HSub h h') {x:AV} {K:Prop} (H:wG h h' x K):K∧∀ (c:Cx),c.heap=h→∀ v,VR c x v→VR (c.cut h') x v:=by
 have own:∀ (b g:Nat) (K:Prop),(aV h' b False fun
  | .gone=>K
  | .arr g1 _ _=>aV h b False fun
   | .arr g0 _ _=>match Nat.blt g g1 with
    |true=>match Nat.ble g g0 with
     |true=>K
     |false=>False
    |false=>match Nat.beq g g0,Nat.beq g g1 with
     |true,true=>K
     |_,_=>False
   |_=>False
  |_=>False)→K∧(h'[b]? = some .gone∨∃ g0 g1 ts l,h[b]? = some (.arr g0 ts l)∧h'[b]? = some (.arr g1 ts l)∧(g<g1∨g=g0∧g=g1)):=fun b g K H=>by
  rcases bj H with H | ⟨y,hy,H⟩
  ·exact H.elim
  split at H
  ·exact ⟨H,.inl hy⟩
  ·rename_i g1 ts1 l1;rcases bj H with H | ⟨x,hx,H⟩
   ·exact H.elim
   split at H
   ·rename_i g0 ts0 l0;obtain ⟨x',gF,q⟩:=hs b _ hy;rw [hx] at gF;cases gF;obtain ⟨g2,q,-⟩:=q;cases q;split at H
    ·rename_i q1;split at H
     ·exact ⟨H,.inr ⟨_,_,_,_,hx,hy,.inl (Nat.le_of_ble_eq_true q1)⟩⟩
     ·exact H.elim
    ·split at H
     ·rename_i q1 q2;exact ⟨H,.inr ⟨_,_,_,_,hx,hy,.inr ⟨Nat.eq_of_beq_eq_true q1,Nat.eq_of_beq_eq_true q2⟩⟩⟩
     ·exact H.elim
   ·exact H.elim
  ·exact H.elim
 cases x with
 |any=>exact ⟨H,fun c _ v _ => .any v⟩
 |d x=>exact ⟨H,fun c _ v hv=>by cases hv with | d _ _ hv=>exact .d _ _ (pj hv)⟩
 |b8 e off=>exact ⟨H,fun c _ v hv=>by cases hv with | b8 _ _ blk o f k1 k2 k3 k4=>exact .b8 _ _ blk o f (fun hb=>k1 (hb.elim .inl fun ⟨i,n,hi⟩ => .inr ⟨i,n,(qL hi).1⟩)) k2 k3 (fun j x hx=>pj (k4 j x hx))⟩
 |own b g =>
  obtain ⟨hK,hq⟩:=own b g K H;refine ⟨hK,fun c hc v hv=>?_⟩;subst hc;rcases hq with hq | ⟨g0,g1,ts,l,q1,q2,q3⟩
  ·have cg:v.oneCell'=true:=by cases hv <;> first | rfl | assumption
   exact .jD b g v hq cg
  ·have ho:=kZ (c:=c) q2 (by simp);rcases q3 with q3 | ⟨rfl,rfl⟩
   ·have cg:v.oneCell'=true:=by cases hv <;> first | rfl | assumption
    exact .kg b g g1 ts l v q2 q3 cg
   ·cases hv with
    |own _ _ sz l' blk cap hb cQ=>rw [q1] at hb; cases hb; exact .own b g ts l blk cap q2 (ho.trans cQ)
    |iL _ _ sz hb cQ=>rw [q1] at hb; cases hb; exact .iL b g ts q2 (ho.trans cQ)
    |kg _ _ g' sz l' v hb hg hv=>rw [q1] at hb; cases hb; omega
    |jD _ _ v hb hv=>rw [q1] at hb; cases hb
    |mu _ _ _ _ _ _ hb _ _=>rw [q1] at hb; cases hb
 |cut b g k qq =>
  obtain ⟨hK,hq⟩:=own b g K H;refine ⟨hK,fun c hc v hv=>?_⟩;subst hc;rcases hq with hq | ⟨g0,g1,ts,l,q1,q2,q3⟩
  ·have cg:v.oneCell'=true:=by cases hv <;> first | rfl | assumption
   exact .mw b g k qq v hq cg
  ·have ho:=kZ (c:=c) q2 (by simp);rcases q3 with q3 | ⟨rfl,rfl⟩
   ·have cg:v.oneCell'=true:=by cases hv <;> first | rfl | assumption
    exact .mv b g g1 k qq ts l v q2 q3 cg
   ·cases hv with
    |cut _ _ _ _ sz l' blk cap o hb cQ hk th S7=>rw [q1] at hb; cases hb; exact .cut b g k qq ts l blk cap o q2 (ho.trans cQ) hk th S7
    |mv _ _ g' _ _ sz l' v hb hg hv=>rw [q1] at hb; cases hb; omega
    |mw _ _ _ _ v hb hv=>rw [q1] at hb; cases hb
 |cK b g i off =>
  obtain ⟨hK,hq⟩:=own b g K H;refine ⟨hK,fun c hc v hv=>?_⟩;subst hc;rcases hq with hq | ⟨g0,g1,ts,l,q1,q2,q3⟩
  ·have cg:v.oneCell'=true:=by cases hv <;> first | rfl | assumption
   exact .lG b g i off v hq cg
  ·have ho:=kZ (c:=c) q2 (by simp);rcases q3 with q3 | ⟨rfl,rfl⟩
   ·have cg:v.oneCell'=true:=by cases hv <;> first | rfl | assumption
    exact .lF b g g1 i off ts l v q2 q3 cg
   ·cases hv with
    |cK _ _ _ _ sz l' blk cap hb cQ hi=>rw [q1] at hb; cases hb; exact .cK b g i off ts l blk cap q2 (ho.trans cQ) hi
    |lF _ _ g' _ _ sz l' v hb hg hv=>rw [q1] at hb; cases hb; omega
    |lG _ _ _ _ v hb hv=>rw [q1] at hb; cases hb
 |ptr b off =>
  simp only [wG] at H;rcases bj H with H | ⟨y,hy,H⟩
  ·exact H.elim
  split at H
  ·refine ⟨H,fun c _ v hv=>?_⟩;have cg:v.oneCell'=true:=by cases hv <;> first | rfl | assumption
   exact .jf b off v hy cg
  ·rcases bj H with H | ⟨x,hx,H⟩
   ·exact H.elim
   split at H
   ·refine ⟨H,fun c hc v hv=>?_⟩;subst hc;have ho:=kZ (c:=c) hy (by simp);cases hv with
    |ptr _ _ cs blk cap hb cQ=>exact .ptr b off _ blk cap hy (ho.trans cQ)
    |jf _ _ v hb hv=>rw [hx] at hb; cases hb
   ·exact H.elim
  ·exact H.elim
 |map b =>
  simp only [wG] at H;rcases bj H with H | ⟨y,hy,H⟩
  ·exact H.elim
  split at H
  ·refine ⟨H,fun c _ v hv=>?_⟩;have cg:v.oneCell'=true:=by cases hv <;> first | rfl | assumption
   exact .nd b v hy cg
  ·rcases bj H with H | ⟨x,hx,H⟩
   ·exact H.elim
   split at H
   ·refine ⟨H,fun c hc v hv=>?_⟩;subst hc;have ho:=kZ (c:=c) hy (by simp);cases hv with
    |map _ es blk cap hb cQ=>exact .map b _ blk cap hy (ho.trans cQ)
    |nd _ v hb hv=>rw [hx] at hb; cases hb
   ·exact H.elim
  ·exact H.elim
 |agg l=>exact H.elim
 |aL l=>exact H.elim
 |fn f a b=>exact H.elim
theorem zf {h h':List ag} (hs:HSub h h'):∀ {l:List AV} {K:Prop},uk h h' l K→K∧∀ (c:Cx),c.heap=h→∀ (j:Nat) x v,l[j]? = some x→VR c x v→VR (c.cut h') x v
 | [],K,H=>⟨H,fun c _ j x v hx=>by simp at hx⟩
 |y::l,K,H=>by
  obtain ⟨H,h1⟩:=KM hs H;obtain ⟨H,h2⟩:=zf hs H;refine ⟨H,fun c hc j x v hx hv=>?_⟩;cases j with
  |zero=>simp at hx; subst hx; exact h1 c hc v hv
  |succ j=>exact h2 c hc j x v (by simpa using hx) hv
theorem S8 {h h':List ag} (hs:HSub h h') {x:AV} {K:Prop} (H:zb h h' x K):K∧∀ (c:Cx),c.heap=h→∀ v,VR c x v→VR (c.cut h') x v:=by
 unfold zb at H;split at H
 ·obtain ⟨H,h1⟩:=zf hs H;exact ⟨H,fun c hc v hv=>by cases hv with | agg _ vs hl bT=>exact .agg _ vs hl fun j x v hx hu=>h1 c hc j x v hx (bT j x v hx hu)⟩
 ·obtain ⟨H,h1⟩:=zf hs H;exact ⟨H,fun c hc v hv=>by cases hv with | aL _ vs hl bT=>exact .aL _ vs hl fun j x v hx hu=>h1 c hc j x v hx (bT j x v hx hu)⟩
 ·obtain ⟨H,h1⟩:=zf hs H;obtain ⟨H,h2⟩:=zf hs H;exact ⟨H,fun c hc v hv=>by cases hv with | fn _ _ _ v1 v2 k1 k2 k3 k4=>exact .fn _ _ _ v1 v2 k1 k2 (fun j x v hx hu=>h1 c hc j x v hx (k3 j x v hx hu)) (fun j x v hx hu=>h2 c hc j x v hx (k4 j x v hx hu))⟩
 ·exact KM hs H
theorem Fz {h h':List ag} (hs:HSub h h'):∀ {l:List AV} {K:Prop},zc h h' l K→K∧∀ (c:Cx),c.heap=h→∀ t,VS c l t→VS (c.cut h') l t
 | [],K,H=>⟨H,fun c _ t ht=>⟨ht.1,fun j x v hx=>by simp at hx⟩⟩
 |y::l,K,H=>by
  obtain ⟨H,h1⟩:=S8 hs H;obtain ⟨H,h2⟩:=Fz hs H;refine ⟨H,fun c hc t ht=>⟨ht.1,fun j x v hx hv=>?_⟩⟩;cases j with
  |zero=>simp at hx; subst hx; exact h1 c hc v (ht.2 0 _ v rfl hv)
  |succ j =>
   have gR:(t.extract 1)[j]? = some v:=by
    rw [Array.getElem?_extract];have:=(Array.getElem?_eq_some_iff.1 hv).1;rw [if_pos (by omega),Nat.add_comm];exact hv
   have:=h2 c hc (t.extract 1) ⟨by have:=ht.1; simp at this ⊢; omega,fun i x v hx hv=>ht.2 (i+1) x v (by simpa using hx) (by
    rw [Array.getElem?_extract] at hv;split at hv
    ·rw [Nat.add_comm] at hv; exact hv
    ·cases hv)⟩
   exact this.2 j x v (by simpa using hx) gR
theorem KN {h h':List ag} (hs:HSub h h'):∀ {l:List cC} {K:Prop},B1 h h' l K→K∧∀ (c:Cx),c.heap=h→∀ ts,CR c l ts→CR (c.cut h') l ts
 | [],K,H=>⟨H,fun c _ ts ht=>by cases ts with | nil=>trivial | cons t ts=>exact ht.elim⟩
 |f::l,K,H=>by
  obtain ⟨H,h1⟩:=Fz hs H;obtain ⟨H,h2⟩:=KN hs H;refine ⟨H,fun c hc ts ht=>?_⟩;cases ts with
  |nil=>exact ht.elim
  |cons t ts=>exact ⟨h1 c hc t ht.1,ht.2.1,h2 c hc ts ht.2.2⟩
theorem FA {h h':List ag} (hs:HSub h h'):∀ {l:List bU} {K:Prop},wH h h' l K→K∧∀ (lim:Nat) (c:Cx),c.heap=h→∀ g∈l,iO lim c g→iO lim (c.cut h') g
 | [],K,H=>⟨H,fun lim c _ g hg=>by simp at hg⟩
 | .loop i::l,K,H=>by
  obtain ⟨H,h1⟩:=Fz hs H;obtain ⟨H,h2⟩:=FA hs H;refine ⟨H,fun lim c hc g hg hk=>?_⟩;rcases List.mem_cons.1 hg with rfl | hg
  ·obtain ⟨k1,k2,k3,k4⟩:=(show oc lim c i from hk);exact (show oc lim (c.cut h') i from ⟨k1,k2,k3,h1 c hc _ k4⟩)
  ·exact h2 lim c hc g hg hk
 | .mark d::l,K,H=>by
  obtain ⟨H,h2⟩:=FA (l:=l) hs H;refine ⟨H,fun lim c hc g hg hk=>?_⟩;rcases List.mem_cons.1 hg with rfl | hg
  ·obtain ⟨k1,k2,k3⟩:=(show rV lim c d from hk);exact (show rV lim (c.cut h') d from ⟨k1,k2,k3⟩)
  ·exact h2 lim c hc g hg hk
 | .row _::_,_,H=>H.elim
 | .iter _::_,_,H=>H.elim
theorem iO.S9 {lim:Nat} {c:Cx} {h':List ag}:∀ {g:bU},iO lim c g→g.flat→iO lim (c.cut h') g
 | .row r,h,_=>qp.gen (c:=c) h (qp.au (c:=c) h) rfl (fun _ _=>pj)
 | .iter i,h,_=>lN.gen (c:=c) h (lN.Eu (c:=c) h) (lN.yr (c:=c) h) rfl rfl (fun _ _=>pj)
 | .loop _,_,h=>h.elim
 | .mark d,h,_=>by obtain ⟨k1,k2,k3⟩:=(show rV lim c d from h); exact (show rV lim (c.cut h') d from ⟨k1,k2,k3⟩)
section
variable {E:Env} {ae:FuncId} {R:bY} {td:List aG} {s s':List AV} {h h':List ag}
theorem ep.cut {lim:Nat} {c:Cx} {rows loops:List bU} (h:ep lim c rows loops) {h':List ag} (hl:∀ g∈loops,iO lim c g→iO lim (c.cut h') g):ep lim (c.cut h') rows loops :=
 ⟨⟨fun g hg=>(List.mem_append.1 hg).elim (fun mH=>(h.all.each g hg).S9 (h.flat g mH)) (fun mH=>hl g mH (h.all.each g hg)),h.all.nodup⟩,h.flat⟩
theorem AW.weaken {f0:FuncId} {fd:ie} (hs:wI h h' R.fx (uj R.n h s h' s')) (H:AW E f0 ⟨fd,td,s'⟩ R.fx.cls h' R):AW E f0 ⟨fd,td,s⟩ R.fx.cls h R:=by
 unfold AW at H ⊢;intro c0 c t ts h0 h1 h2 h3 hr bX h4 h5 cs;subst h2;unfold wI at hs;have qM:=hs;replace hs:=Fy (KL hs);unfold uj at hs;split at hs
 case h_2=>exact hs.elim
 rename_i q;have hn:=Nat.le_of_ble_eq_true q;obtain ⟨k1,k2⟩:=KH hs;have k3:=KI k1 hs;obtain ⟨-,k4⟩:=KG k1 k2;obtain ⟨um,f1⟩:=KN k1 qM;obtain ⟨-,f2⟩:=FA k1 um;have hv:=k4 c t.toList rfl ⟨by simpa using h4.1,fun j x v hx hv=>h4.2 j x v hx (by simpa using hv)⟩;have aK:=h3.cut k1 (fun i cs hi=>by obtain ⟨pk,r1,r2⟩:=k3 i cs hi; exact ⟨pk,r1,fun vs hv=>r2 c vs rfl hv⟩);exact H c0 (c.cut h') t ts h0 h1 rfl aK (hr.cut (by omega) k1) (bX.cut fun g hg=>f2 _ c rfl g hg) ⟨by simpa using hv.1,fun j x v hx hu=>hv.2 j x v hx (by simpa using hu)⟩ (f1 c rfl ts h5) cs
def anyS:List Nat→List AV→List AV
 | [],s=>s
 |d::l,s=>anyS l (s.set d .any)
def k8:List (Nat × AV)→List AV→List AV
 | [],s=>s
 |(d,v)::l,s=>k8 l (s.set d v)
def k9:List (Nat × ag)→List ag→List ag
 | [],h=>h
 |(d,v)::l,h=>k9 l (h.set d v)
def B3 {α:Sort _}:List Nat→List AV→(List AV→α)→α
 | [],s,k=>k s
 |d::l,s,k=>fN s d .any fun s'=>B3 l s' k
theorem KO {α:Sort _}:∀ (l:List Nat) (s:List AV) (k:List AV→α),B3 l s k=k (anyS l s)
 | [],_,_=>rfl
 |d::l,s,k=>by simp only [B3,gQ,anyS,KO l]
def uo {α:Sort _} {β:Type}:List (Nat × β)→List β→(List β→α)→α
 | [],s,k=>k s
 |(d,v)::l,s,k=>fN s d v fun s'=>uo l s' k
theorem KP {α:Sort _}:∀ (l:List (Nat × AV)) (s:List AV) (k:List AV→α),uo l s k=k (k8 l s)
 | [],_,_=>rfl
 |(d,v)::l,s,k=>by simp only [uo,gQ,k8,KP l]
theorem KQ {α:Sort _}:∀ (l:List (Nat × ag)) (s:List ag) (k:List ag→α),uo l s k=k (k9 l s)
 | [],_,_=>rfl
 |(d,v)::l,s,k=>by simp only [uo,gQ,k9,KQ l]
def zg (ks:List Nat):AV→Bool
 | .own j _=>bV j ks
 | .cut j _ _ _=>bV j ks
 | .cK j _ _ _=>bV j ks
 |_=>false
def KR (ks:List Nat):AV→Bool
 | .agg l=>l.any (zg ks)
 | .aL l=>l.any (zg ks)
 | .fn _ a b=>a.any (zg ks)||b.any (zg ks)
 |x=>zg ks x
def la (ks:List Nat):List AV→List AV
 | []=>[]
 |x::s=>(match KR ks x with | true => .any | false=>x)::la ks s
def zh {α:Sort _} (ks:List Nat):List AV→(List AV→α)→α
 | [],k=>k []
 |x::s,k=>match KR ks x with
  |true=>zh ks s fun s'=>k (.any::s')
  |false=>zh ks s fun s'=>k (x::s')
theorem KS {α:Sort _} (ks:List Nat):∀ (s:List AV) (k:List AV→α),zh ks s k=k (la ks s)
 | [],_=>rfl
 |x::s,k=>by
  simp only [zh,la];split <;> rename_i q <;> rw [KS ks s] <;> simp only [q]
def mI:List (Nat × ag)→List Nat
 | []=>[]
 |p::l=>p.1::mI l
def qN {α:Sort _} (fk ks:List Nat) (vars:List (Nat × AV)) (boxes:List (Nat × ag)) (s:List AV) (h:List ag) (k:List AV→List ag→α):α :=
 zh ks s fun s0=>B3 fk s0 fun s1=>uo vars s1 fun s2=>uo boxes h fun h2=>k s2 h2
theorem wK {α:Sort _} (fk ks:List Nat) (vars:List (Nat × AV)) (boxes:List (Nat × ag)) (s:List AV) (h:List ag) (k:List AV→List ag→α):qN fk ks vars boxes s h k=k (k8 vars (anyS fk (la ks s))) (k9 boxes h):=by
 simp only [qN,KS,KO,KP,KQ]
theorem aa.loop {lits:List Nat} {b:Code} {k:List aG} {κ:Type} (fk:List Nat) (vars:κ→List (Nat × AV)) (boxes:κ→List (Nat × ag)) (Φ:κ→Prop) (μ:κ→Nat) (x0:κ) (h0:Φ x0)
  (lS:qN fk (mI (boxes x0)) (vars x0) (boxes x0) s h fun s' h'=>wI h h' R.fx (uj R.n h s h' s'))
  (sn:∀ x,Φ x→(∀ y,Φ y→μ y<μ x→aa E ae R [] (.inLoop b::k) (k8 (vars y) (anyS fk (la (mI (boxes x0)) s))) (k9 (boxes y) h))→aa E ae R [] (.code b :: .inLoop b::k) (k8 (vars x) (anyS fk (la (mI (boxes x0)) s))) (k9 (boxes x) h)) :
  aa E ae R lits (.code (.loop b)::k) s h:=by
 have main:∀ n x,μ x<n→Φ x→aa E ae R [] (.inLoop b::k) (k8 (vars x) (anyS fk (la (mI (boxes x0)) s))) (k9 (boxes x) h):=by
  intro n
  induction n with
  |zero=>intro x hx; omega
  |succ n ih=>intro x hx hP; exact .of (.inLoop (sn x hP fun y hy hm=>ih y (by omega) hy).to)
 rw [wK] at lS;exact .of (.loop (.weaken lS (sn x0 h0 fun y hy _=>main (μ y+1) y (by omega) hy).to))
theorem aa.head (hE:E.OK) {fn:Func} (hf:E.P.funcs[ae]? = some fn) (n:Nat) {lits fk ks:List Nat} {vars:List (Nat × AV)} {boxes:List (Nat × ag)} {s0:List AV} {h0:List ag}
  (H:qN fk ks vars boxes s0 h0 fun s' h'=>runK E ae fn.results.toList R n lits td s' h'):aa E ae R lits td (k8 vars (anyS fk (la ks s0))) (k9 boxes h0):=by
 rw [wK] at H;exact .run hE hf n H
theorem aa.back {lits S' fk ks:List Nat} {vars:List (Nat × AV)} {boxes:List (Nat × ag)} {s0:List AV} {h0:List ag} (H:aa E ae R lits td (k8 vars (anyS fk (la ks s0))) (k9 boxes h0))
  (hs:qN fk ks vars boxes s0 h0 fun s' h'=>wI h h' R.fx (uj R.n h s h' s')):aa E ae R S' td s h:=by
 rw [wK] at hs;exact .of (.weaken hs H.to)
theorem aa.rY {lits:List Nat} (d:Nat) (ts:Nat × Nat) (mD:0<ts.2) (hd:s[d]? = some (.d .a8)) (H:aa E ae R lits td (s.set d (.own h.length 0)) (h++[.arr 0 ts []])):aa E ae R lits td s h:=by
 replace H:=H.to;refine .of (.jJ (fun c t ea h1 h2 h3 h4 h5=>?_) H);subst h2
 let c':Cx:={ c with heap:=c.heap++[.arr 0 ts []] }
 have dQ:c.own c.heap.length=none:=by
  cases ho:c.own c.heap.length with
  |none=>rfl
  |some p=>have:=(h3.bI _ p.1 p.2 ho).2; omega
 have aR:Step c c':=⟨rfl,h3.bD,rfl,rfl,rfl,Nat.le_refl _,fun _ _ _=>rfl,fun i b n hi _=>⟨n,hi⟩,fun i bx hi=>by
  have h':c'.heap[i]? = some bx:=by show (c.heap++_)[i]? = _; rw [List.getElem?_append_left (aZ hi)]; exact hi
  cases bx with
  |cells cs=>exact .inl ⟨cs,h',rfl,rfl⟩
  |arr g sz l=>exact .inl ⟨g,l,h',.inr ⟨rfl,rfl,rfl⟩⟩
  |map es=>exact .inl ⟨es,h',rfl⟩
  |gone=>exact h'⟩
 have mE:c'.heap[c.heap.length]? = some (.arr 0 ts []):=by show (c.heap++_)[_]? = _; simp
 have aK:aE E.G c':=h3.next aR (fun i b n hi=>⟨(h3.bI i b n hi).1,by have:=(h3.bI i b n hi).2; show i<(c.heap++_).length; simp; omega⟩) h3.inj (fun i bx hi=>by
  by_cases iM:i=c.heap.length
  ·subst iM;rw [mE] at hi;cases hi;exact .inr ⟨mD,fun i e he=>by simp at he,.inl ⟨dQ,rfl⟩⟩
  ·have ai : i < c.heap.length := by have := aZ hi; have h2 : c'.heap.length = c.heap.length + 1 := by show (c.heap ++ _).length = _; simp
                                     omega
   have cO:(c.heap++[.arr 0 ts []])[i]? = some bx:=hi;rw [List.getElem?_append_left ai] at cO
   exact .inl ⟨cO,rfl,fun _ _ _=>rfl⟩)
 refine ⟨c',t,ea,h1,rfl,aK,?_,aR.cr h5,aR,fun _ => .refl _ _⟩;have eA:d<t.size:=by rw [← h4.1]; exact aZ hd
 have hv:t[d] = .slice none 0 0:=by
  have:=h4.2 d _ t[d] hd (by simp [eA]);generalize t[d]=u at this;cases this with
  |d _ _ hv=>cases hv; rfl
 have:=VS.put (aR.vs h4) d (x := .own c.heap.length 0) (v:=t[d]) (by rw [hv]; exact .iL _ _ ts mE dQ)
 simpa [Array.setIfInBounds,eA] using this
end
end Go.ax
end
section
namespace Go.ax
open Go Go.RowKit
section
variable {α:Sort _}
def B4 (b g:Nat) (l:List DV) (x:AV) (k:AV→α):α:=match x with
 | .own j g'=>match Nat.beq j b,Nat.beq g' g with
  |true,true=>k (.d (.sl l))
  |_,_=>k (.own j g')
 |x=>k x
def uq (b g:Nat) (l:List DV):List AV→(List AV→α)→α
 | [],k=>k []
 |x::r,k=>B4 b g l x fun y=>uq b g l r fun r'=>k (y::r')
def FB (b g:Nat) (l:List DV) (x:AV) (k:AV→α):α:=match x with
 | .agg c=>uq b g l c fun c'=>vM c' k
 | .aL c=>uq b g l c fun c'=>k (.aL c')
 | .fn f a1 a2=>uq b g l a1 fun KT=>uq b g l a2 fun KU=>k (.fn f KT KU)
 |x=>B4 b g l x k
def FC (b g:Nat) (l:List DV):List AV→(List AV→α)→α
 | [],k=>k []
 |x::r,k=>FB b g l x fun y=>FC b g l r fun r'=>k (y::r')
def zi (b g:Nat) (l:List DV):List ag→(List ag→α)→α
 | [],k=>k []
 |x::r,k=>match x with
  | .cells c=>uq b g l c fun c'=>zi b g l r fun r'=>k (.cells c'::r')
  |x=>zi b g l r fun r'=>k (x::r')
end
def KV (b:Nat) (s:List AV) (h:List ag) (k:List AV→List ag→Prop):Prop:=aV h b False fun
 | .arr g _ l=>FC b g l s fun s'=>zi b g l h fun h'=>fN h' b .gone fun qd=>k s' qd
 |_=>False
structure wL (b g:Nat) (l:List DV) (c c':Cx):Prop where
 step:Step c c'
 own:∀ v,VR c (.own b g) v→VR c' (.d (.sl l)) v
section
variable {b g:Nat} {l:List DV}
theorem KW {x:AV} {k:AV→Prop} (H:B4 b g l x k):∃ y,k y∧∀ c c',wL b g l c c'→∀ v,VR c x v→VR c' y v:=by
 unfold B4 at H;split at H
 ·split at H
  ·rename_i q1 q2;have q1:=Nat.eq_of_beq_eq_true q1;have q2:=Nat.eq_of_beq_eq_true q2;subst q1; subst q2;exact ⟨_,H,fun c c' hf v hv=>hf.own v hv⟩
  ·exact ⟨_,H,fun c c' hf v hv=>hf.step.vr hv⟩
 ·exact ⟨_,H,fun c c' hf v hv=>hf.step.vr hv⟩
theorem wM:∀ {r:List AV} {k:List AV→Prop},uq b g l r k→∃ r',k r'∧r'.length=r.length∧∀ c c',wL b g l c c'→∀ vs,VL c r vs→VL c' r' vs
 | [],_,H=>⟨[],H,rfl,fun _ _ _ _ hv=>⟨hv.1,fun j x v hx=>by simp at hx⟩⟩
 |x::r,k,H=>by
  obtain ⟨y,H,hy⟩:=KW H;obtain ⟨r',H,hl,hr⟩:=wM H;refine ⟨y::r',H,by simp [hl],fun c c' hf vs hv=>?_⟩;cases vs with
  |nil=>have:=hv.1; simp at this
  |cons v vs=>exact .cons (hy c c' hf v hv.head.1) (hr c c' hf vs hv.head.2)
theorem Ta {x:AV} {k:AV→Prop} (H:FB b g l x k):∃ y,k y∧∀ c c',wL b g l c c'→∀ v,VR c x v→VR c' y v:=by
 unfold FB at H;split at H
 ·obtain ⟨r',H,-,hr⟩:=wM H;obtain ⟨y,H,hy⟩:=ya H;refine ⟨y,H,fun c c' hf v hv=>?_⟩;obtain ⟨vs,rfl,gT⟩:=rR hv;exact hy c' vs (hr c c' hf vs gT)
 ·obtain ⟨r',H,-,hr⟩:=wM H;refine ⟨_,H,fun c c' hf v hv=>?_⟩;cases hv with
  |aL _ vs hl bT =>
   have:=hr c c' hf vs.toList ⟨by simpa using hl,fun j x v hx hv=>bT j x v hx (by simpa using hv)⟩;exact .aL _ vs (by simpa using this.1) (fun j x v hx hv=>this.2 j x v hx (by simpa using hv))
 ·obtain ⟨KT,H,-,h1⟩:=wM H;obtain ⟨KU,H,-,h2⟩:=wM H;refine ⟨_,H,fun c c' hf v hv=>?_⟩;obtain ⟨v1,v2,rfl,r1,r2⟩:=lP hv;have r1:=h1 c c' hf v1 r1;have r2:=h2 c c' hf v2 r2;exact .fn _ _ _ _ _ (by simpa using r1.1) (by simpa using r2.1) (fun j x v hx hv=>r1.2 j x v hx (by simpa using hv)) (fun j x v hx hv=>r2.2 j x v hx (by simpa using hv))
 ·exact KW H
theorem KX:∀ {r:List AV} {k:List AV→Prop},FC b g l r k→∃ r',k r'∧∀ c c',wL b g l c c'→∀ vs,VL c r vs→VL c' r' vs
 | [],_,H=>⟨[],H,fun _ _ _ _ hv=>⟨hv.1,fun j x v hx=>by simp at hx⟩⟩
 |x::r,k,H=>by
  obtain ⟨y,H,hy⟩:=Ta H;obtain ⟨r',H,hr⟩:=KX H;refine ⟨y::r',H,fun c c' hf vs hv=>?_⟩;cases vs with
  |nil=>have:=hv.1; simp at this
  |cons v vs=>exact .cons (hy c c' hf v hv.head.1) (hr c c' hf vs hv.head.2)
def B5 (b g:Nat) (l:List DV) (x y:ag):Prop:=match x with
 | .cells cs=>∃ cs',y = .cells cs'∧cs'.length=cs.length∧∀ c c',wL b g l c c'→∀ vs,VL c cs vs→VL c' cs' vs
 |x=>y=x
theorem FD:∀ {r:List ag} {k:List ag→Prop},zi b g l r k→∃ r',k r'∧r'.length=r.length∧∀ (i:Nat) (x:ag),r[i]? = some x→∃ y,r'[i]? = some y∧B5 b g l x y
 | [],_,H=>⟨[],H,rfl,fun i x hx=>by simp at hx⟩
 |x::r,k,H=>by
  unfold zi at H;have fin:∀ {y:ag} {r':List ag},B5 b g l x y→(∀ (i:Nat) (x:ag),r[i]? = some x→∃ y,r'[i]? = some y∧B5 b g l x y)→∀ (i:Nat) (z:ag),(x::r)[i]? = some z→∃ y',(y::r')[i]? = some y'∧B5 b g l z y':=fun {y r'} h1 h2 i z hz=>by
   cases i with
   |zero=>simp at hz; subst hz; exact ⟨y,rfl,h1⟩
   |succ i=>obtain ⟨y',k1,k2⟩:=h2 i z (by simpa using hz); exact ⟨y',by simpa using k1,k2⟩
  split at H
  ·obtain ⟨c',H,hl,hr⟩:=wM H;obtain ⟨r',H,wq,tJ⟩:=FD H;exact ⟨_,H,by simp [wq],fin ⟨c',rfl,hl,hr⟩ tJ⟩
  ·rename_i aJ;obtain ⟨r',H,wq,tJ⟩:=FD H;refine ⟨_,H,by simp [wq],fin ?_ tJ⟩;cases x with
   |cells c=>exact absurd rfl (aJ c)
   |arr _ _ _=>rfl
   |map _=>rfl
   |gone=>rfl
end
section
variable {E:Env} {ae:FuncId} {R:bY} {td:List aG} {s:List AV} {h:List ag}
theorem aa.freeze {lits:List Nat} (b:Nat) (H:KV b s h fun s' h'=>aa E ae R lits td s' h'):aa E ae R lits td s h:=by
 unfold KV at H;rcases bj H with H | ⟨bx,hb,H⟩
 ·exact H.elim
 split at H
 case h_2=>exact H.elim
 rename_i g ts l;obtain ⟨s',H,wN⟩:=KX H;obtain ⟨h',H,hlen,BV⟩:=FD H;rw [gQ] at H;refine .of (.jJ (fun c t ea h1 h2 h3 h4 h5=>?_) H.to);subst h2;have ez:=aZ hb
 let c':Cx:={ c with own:=fun i=>if i=b then none else c.own i,heap:=h'.set b .gone }
 have fz:c'.heap[b]? = some .gone:=by show (h'.set b .gone)[b]? = _; rw [List.getElem?_set_self (by omega)]
 have oo:∀ i,i≠b→c'.heap[i]? = h'[i]? := fun i hi=>by show (h'.set b .gone)[i]? = _; rw [List.getElem?_set_ne (Ne.symm hi)]
 have bC:∀ i,i≠b→c'.own i=c.own i:=fun i hi=>by simp only [c',if_neg hi]
 have jk:∀ i p,c'.own i=some p→i≠b∧c.own i=some p:=fun i p hp=>by
  simp only [c'] at hp;split at hp
  ·cases hp
  ·rename_i q; exact ⟨q,hp⟩
 have aR:Step c c':=⟨rfl,h3.bD,rfl,rfl,rfl,Nat.le_refl _,fun _ _ _=>rfl,fun i x n hi _=>⟨n,(jk i _ hi).2⟩,fun i bx hi=>by
  by_cases bL:i=b
  ·subst bL;cases bx with
   |cells cs=>exact .inr fz
   |arr g sz l=>exact .inr fz
   |map es=>exact .inr fz
   |gone=>exact fz
  ·obtain ⟨y,k1,k2⟩:=BV i bx hi;rw [← oo i bL] at k1;cases bx with
   |cells cs=>obtain ⟨cs',rfl,e,-⟩:=k2; exact .inl ⟨cs',k1,bC i bL,e⟩
   |arr g sz l=>obtain rfl:y=_:=k2; exact .inl ⟨g,l,k1,.inr ⟨rfl,rfl,bC i bL⟩⟩
   |map es=>obtain rfl:y=_:=k2; exact .inl ⟨es,k1,bC i bL⟩
   |gone=>obtain rfl:y=_:=k2; exact k1⟩
 have gP:∀ x,c'.bad x→c.bad x:=fun x hx=>hx.elim .inl fun ⟨i,n,hi⟩ => .inr ⟨i,n,(jk i _ hi).2⟩
 have B6:wL b g l c c':=⟨aR,fun v hv=>by
  obtain ⟨q0,q1,q2⟩:=h3.box b _ hb;rcases oh hb hv with ⟨blk,cap,r1,rfl⟩ | ⟨rfl,rfl,r1⟩
  ·rcases q2 with ⟨q2,-⟩ | ⟨lI,ki,vs,q2,q3,q4,q5,q6,q7⟩
   ·rw [r1] at q2; cases q2
   rw [r1] at q2; cases q2;refine .d _ _ (.sl l blk 0 cap ts.2 (fun i j=>(vs[i*ts.2+j]?).getD undef) (fun _ im=>?_) q0 q5 (fun i e he=>q1 i e he) (fun i j e x he hx=>?_) (fun i j e x he hx=>?_) (fun i j e x he hx=>?_))
   ·rcases im with im | ⟨i,n,hi⟩
    ·exact h3.sep b blk cap r1 im
    ·obtain ⟨k1,k2⟩:=jk i _ hi;exact k1 (h3.inj i b blk n cap k2 r1)
   ·obtain ⟨v,p1,p2,p3⟩:=q7 i j e x he hx;rw [p1,Option.getD_some];exact ng q3 _ v (by simpa using p1)
   ·obtain ⟨v,p1,p2,p3⟩:=q7 i j e x he hx;simp only [p1,Option.getD_some];exact aR.vd p3
   ·obtain ⟨v,p1,p2,p3⟩:=q7 i j e x he hx;simp only [p1,Option.getD_some];exact p2
  ·exact .d _ _ .slnil⟩
 have aK:aE E.G c':=by
  refine h3.next aR (fun i x n hi=>?_) (fun i j x n m hi hj=>h3.inj i j x n m (jk i _ hi).2 (jk j _ hj).2) (fun i bx hi=>?_)
  ·have:=h3.bI i x n (jk i _ hi).2;refine ⟨this.1,?_⟩;show i<(h'.set b .gone).length;rw [List.length_set,hlen];exact this.2
  ·right;by_cases bL:i=b
   ·subst bL;rw [fz] at hi;cases hi;show c'.own i=none;simp [c']
   ·rw [oo i bL] at hi;have iM:i<c.heap.length:=by rw [← hlen]; exact aZ hi
    obtain ⟨y,k1,k2⟩:=BV i c.heap[i] (by simp [iM]);rw [hi] at k1;cases k1;have iA:c.heap[i]? = some c.heap[i]:=by simp [iM]
    generalize c.heap[i]=x at k2 iA;cases x with
    |cells cs =>
     obtain ⟨cs',rfl,e,hv⟩:=k2;obtain ⟨blk,cap,vs,ty,g1,g2,g3⟩:=h3.cells iA;have:=hv c c' B6 vs.toList g3;exact ⟨blk,cap,vs,ty,(bC i bL).trans g1,g2,by simpa using this.1.symm,fun j x v hx hv=>this.2 j x v hx (by simpa using hv)⟩
    |arr _ _ _=>obtain rfl:bx=_:=k2; exact (h3.box i _ iA).keep aR (bC i bL) (fun _ _ _=>rfl)
    |map _=>obtain rfl:bx=_:=k2; exact (h3.box i _ iA).keep aR (bC i bL) (fun _ _ _=>rfl)
    |gone=>obtain rfl:bx=_:=k2; exact (h3.box i _ iA).keep aR (bC i bL) (fun _ _ _=>rfl)
 have hv:=wN c c' B6 t.toList ⟨by simpa using h4.1,fun j x v hx hv=>h4.2 j x v hx (by simpa using hv)⟩;exact ⟨c',t,ea,h1,rfl,aK,⟨by simpa using hv.1,fun j x v hx hu=>hv.2 j x v hx (by simpa using hu)⟩,aR.cr h5,aR,fun _ => .refl _ _⟩
theorem aa.zj {lits:List Nat} {b:Code} {k:List aG} (H:aa E ae R [] (.code b :: .inLoop b::k) s h):aa E ae R lits (.code (.loop b)::k) s h := .of (.loop H.to)
theorem aa.again {lits:List Nat} {b:Code} {k:List aG} (H:aa E ae R [] (.code b :: .inLoop b::k) s h):aa E ae R lits (.inLoop b::k) s h := .of (.inLoop H.to)
end
end Go.ax
end
