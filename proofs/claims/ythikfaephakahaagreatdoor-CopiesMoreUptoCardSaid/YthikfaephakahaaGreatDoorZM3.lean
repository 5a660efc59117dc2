/- Several texts of mine, one behind the other. Conditions: as each says. -/
import Derived.Test.YthikfaephakahaaGreatDoorZM2
set_option linter.unusedVariables false
set_option linter.unusedSimpArgs false
section
namespace Go.Eng
open Go Go.RowKit
def ixOf:List Nat→Nat→Option Nat
 | [],_=>none
 |a::l,j=>match Nat.beq a j with
  |true=>some 0
  |false=>(ixOf l j).map (· + 1)
theorem ixOf_some:∀ {l:List Nat} {j i:Nat},ixOf l j=some i→l[i]? = some j
 |a::l,j,i,h=>by
  simp only [ixOf] at h;split at h
  ·rename_i q; cases h; simp [Nat.eq_of_beq_eq_true q]
  ·cases hx:ixOf l j with
   |none=>rw [hx] at h; cases h
   |some k=>rw [hx] at h; cases h; simpa using ixOf_some hx
theorem ixOf_of:∀ {l:List Nat} {j i:Nat},l.Nodup→l[i]? = some j→ixOf l j=some i
 | [],_,_,_,h=>by simp at h
 |a::l,j,0,_,h=>by simp at h; subst h; simp [ixOf]
 |a::l,j,i+1,hn,h=>by
  have hl:l[i]? = some j:=by simpa using h
  have hne:(Nat.beq a j)=false:=by
   cases hb:Nat.beq a j with
   |false=>rfl
   |true =>
    have:=Nat.eq_of_beq_eq_true hb;subst this;exact absurd (List.mem_of_getElem? hl) (List.nodup_cons.1 hn).1
  simp only [ixOf,hne,ixOf_of (List.nodup_cons.1 hn).2 hl];rfl
theorem ixOf_none {l:List Nat} {j:Nat} (h:ixOf l j=none) (hn:l.Nodup):j ∉ l:=fun hm=>by
 obtain ⟨i,hi,he⟩:=List.getElem_of_mem hm;rw [ixOf_of hn (i:=i) (by simp [hi,he])] at h;cases h
def genOf (h:List Box) (j:Nat):Nat:=match at? h j with
 |some (.arr g _ _)=>g
 |_=>0
section
variable (sel:List Nat) (h:List Box)
def unA:AV→AV
 | .own j g=>match ixOf sel j with
  |some i=>match at? h j with
   |some (.arr g' _ _)=>match Nat.beq g g' with
    |true => .own i 0
    |false => .any
   |_ => .any
  |none => .any
 | .ptr j off=>match ixOf sel j with
  |some i=>match at? h j with
   |some (.cells _) => .ptr i off
   |_ => .any
  |none => .any
 | .aptr j g k off=>match ixOf sel j with
  |some i=>match at? h j with
   |some (.arr g' _ _)=>match Nat.beq g g' with
    |true => .aptr i 0 k off
    |false => .any
   |_ => .any
  |none => .any
 | .map j=>match ixOf sel j with
  |some i=>match at? h j with
   |some (.map _) => .map i
   |_ => .any
  |none => .any
 | .d x => .d x
 | .eptr e off => .eptr e off
 |_ => .any
def unV:AV→AV
 | .agg l => .agg (l.map (unA sel h))
 | .tup l => .tup (l.map (unA sel h))
 | .fn f a b => .fn f (a.map (unA sel h)) (b.map (unA sel h))
 |x=>unA sel h x
def unB:Box→Box
 | .arr _ ts l => .arr 0 ts l
 | .cells cs => .cells (cs.map (unA sel h))
 |b=>b
def unH:List Box:=sel.map fun j=>match at? h j with
 |some b=>unB sel h b
 |none => .gone
def reI (i:Nat):Nat:=match at? sel i with
 |some j=>j
 |none=>h.length+(i - sel.length)
def reG (i:Nat):Nat:=match at? sel i with
 |some j=>genOf h j
 |none=>0
def reA:AV→AV
 | .own i g => .own (reI sel h i) (reG sel h i+g)
 | .ptr i off => .ptr (reI sel h i) off
 | .aptr i g k off => .aptr (reI sel h i) (reG sel h i+g) k off
 | .map i => .map (reI sel h i)
 | .d x => .d x
 | .eptr e off => .eptr e off
 |_ => .any
def reV1:AV→AV
 | .agg l => .agg (l.map (reA sel h))
 | .tup l => .tup (l.map (reA sel h))
 | .fn f a b => .fn f (a.map (reA sel h)) (b.map (reA sel h))
 |x=>reA sel h x
def reV:AV→AV
 | .tup l => .tup (l.map (reV1 sel h))
 |x=>reV1 sel h x
def reB (g0:Nat):Box→Box
 | .arr g ts l => .arr (g0+g) ts l
 | .cells cs => .cells (cs.map (reA sel h))
 |b=>b
def reOld (h1:List Box):Nat→List Box→List Box
 |_,[]=>[]
 |j,b::r=>(match ixOf sel j with
  |some i=>match at? h1 i with
   |some b1=>reB sel h (genOf h j) b1
   |none => .gone
  |none=>b)::reOld h1 (j+1) r
def reH (h1:List Box):List Box:=reOld sel h h1 0 h++(h1.drop sel.length).map (reB sel h 0)
end
section
variable {sel:List Nat} {h:List Box}
theorem reOld_len (h1:List Box):∀ (j:Nat) (r:List Box),(reOld sel h h1 j r).length=r.length
 |_,[]=>rfl
 |j,b::r=>by simp [reOld,reOld_len h1 (j+1) r]
theorem reOld_get (h1:List Box):∀ (j k:Nat) (r:List Box),(reOld sel h h1 j r)[k]? = (r[k]?).map fun b=>match ixOf sel (j+k) with
  |some i=>match at? h1 i with
   |some b1=>reB sel h (genOf h (j+k)) b1
   |none => .gone
  |none=>b
 |_,_,[]=>by simp [reOld]
 |j,0,b::r=>by simp [reOld]
 |j,k+1,b::r=>by
  simp only [reOld,List.getElem?_cons_succ];rw [reOld_get h1 (j+1) k r,show j+1+k=j+(k+1) by omega]
theorem reH_len (h1:List Box):(reH sel h h1).length=h.length+(h1.length - sel.length):=by simp [reH,reOld_len]
theorem reH_other {h1:List Box} {j:Nat} (hj:j<h.length) (hn:ixOf sel j=none):(reH sel h h1)[j]? = h[j]? := by
 rw [reH,List.getElem?_append_left (by rw [reOld_len]; exact hj),reOld_get,Nat.zero_add,hn];simp
theorem reH_sel {h1:List Box} {i j:Nat} (hj:j<h.length) (hi:ixOf sel j=some i) {b:Box} (hb:h1[i]? = some b):(reH sel h h1)[j]? = some (reB sel h (genOf h j) b):=by
 rw [reH,List.getElem?_append_left (by rw [reOld_len]; exact hj),reOld_get,Nat.zero_add,hi];simp [at?_eq,hb,hj]
theorem reH_new {h1:List Box} {k:Nat}:(reH sel h h1)[h.length+k]? = (h1[sel.length+k]?).map (reB sel h 0):=by
 rw [reH,List.getElem?_append_right (by rw [reOld_len]; omega),reOld_len];simp
def Cx.give (c:Cx) (sel:List Nat):Cx:=⟨fun i=>match sel[i]? with | some j=>c.own j | none=>none,unH sel c.heap,fun b=>c.bar b∨∃ j n,j ∉ sel∧c.own j=some (b,n),c.w⟩
def Cx.take (c c1:Cx) (sel:List Nat):Cx:=⟨fun j=>match ixOf sel j with | some i=>c1.own i | none=>if j<c.heap.length then c.own j else c1.own (sel.length+(j - c.heap.length)),reH sel c.heap c1.heap,c.bar,c1.w⟩
variable {c c1:Cx} {G:List (Nat × DV)}
theorem give_bad (b:Nat):(c.give sel).bad b↔c.bad b:=by
 constructor
 ·rintro ((hb | ⟨j,n,-,hj⟩) | ⟨i,n,hi⟩)
  ·exact .inl hb
  ·exact .inr ⟨j,n,hj⟩
  ·simp only [Cx.give] at hi;split at hi
   ·exact .inr ⟨_,n,hi⟩
   ·cases hi
 ·rintro (hb | ⟨j,n,hj⟩)
  ·exact .inl (.inl hb)
  ·by_cases hm:j∈sel
   ·obtain ⟨i,hi,he⟩:=List.getElem_of_mem hm;refine .inr ⟨i,n,?_⟩;simp only [Cx.give];rw [show sel[i]? = some j by simp [hi,he]];exact hj
   ·exact .inl (.inr ⟨j,n,hm,hj⟩)
theorem give_vd {x:DV} {v:Value} (hv:VD c.bad c.w x v):VD (c.give sel).bad (c.give sel).w x v:=hv.mono fun b _ hn=>⟨fun hb=>hn ((give_bad b).1 hb),rfl⟩
theorem unH_get {i j:Nat} {b:Box} (hi:sel[i]? = some j) (hb:h[j]? = some b):(unH sel h)[i]? = some (unB sel h b):=by
 simp [unH,hi,at?_eq,hb]
theorem give_own {i j:Nat} (hi:sel[i]? = some j):(c.give sel).own i=c.own j:=by simp only [Cx.give,hi]
theorem unA_vr {x:AV} {v:Value} (hv:VR c x v):VR (c.give sel) (unA sel c.heap x) v:=by
 unfold unA;split
 ·rename_i j g;split
  ·rename_i i hi;have hi:=ixOf_some hi;rw [at?_eq];split
   ·rename_i g' ts l hb;split
    ·rename_i q;have q:=Nat.eq_of_beq_eq_true q;subst q;have hb':=unH_get hi hb;cases hv with
     |own _ _ _ l' blk cap k1 k2=>rw [hb] at k1; cases k1; exact .own i 0 ts l blk cap hb' ((give_own hi).trans k2)
     |ownnil _ _ _ k1 k2=>rw [hb] at k1; cases k1; exact .ownnil i 0 ts hb' ((give_own hi).trans k2)
     |ownold _ _ g2 _ _ _ k1 k2 _=>rw [hb] at k1; cases k1; omega
     |owngone _ _ _ k1 _=>rw [hb] at k1; cases k1
    ·exact .any _
   ·exact .any _
  ·exact .any _
 ·rename_i j off;split
  ·rename_i i hi;have hi:=ixOf_some hi;rw [at?_eq];split
   ·rename_i cs hb;have hb':=unH_get hi hb;cases hv with
    |ptr _ _ cs' blk cap k1 k2=>exact .ptr i off _ blk cap hb' ((give_own hi).trans k2)
    |ptrgone _ _ _ k1 _=>rw [hb] at k1; cases k1
   ·exact .any _
  ·exact .any _
 ·rename_i j g k off;split
  ·rename_i i hi;have hi:=ixOf_some hi;rw [at?_eq];split
   ·rename_i g' ts l hb;split
    ·rename_i q;have q:=Nat.eq_of_beq_eq_true q;subst q;have hb':=unH_get hi hb;cases hv with
     |aptr _ _ _ _ _ l' blk cap k1 k2 k3=>rw [hb] at k1; cases k1; exact .aptr i 0 k off ts l blk cap hb' ((give_own hi).trans k2) k3
     |aptrold _ _ g2 _ _ _ _ _ k1 k2 _=>rw [hb] at k1; cases k1; omega
     |aptrgone _ _ _ _ _ k1 _=>rw [hb] at k1; cases k1
    ·exact .any _
   ·exact .any _
  ·exact .any _
 ·rename_i j;split
  ·rename_i i hi;have hi:=ixOf_some hi;rw [at?_eq];split
   ·rename_i es hb;have hb':=unH_get hi hb;cases hv with
    |map _ es' blk cap k1 k2=>exact .map i _ blk cap hb' ((give_own hi).trans k2)
    |mapgone _ _ k1 _=>rw [hb] at k1; cases k1
   ·exact .any _
  ·exact .any _
 ·cases hv with | d _ _ hx=>exact .d _ _ (give_vd hx)
 ·cases hv with
  |eptr _ _ blk o f k1 k2 k3 k4=>exact .eptr _ _ blk o f (fun hb=>k1 ((give_bad _).1 hb)) k2 k3 (fun j x hx=>give_vd (k4 j x hx))
 ·exact .any _
theorem unA_vl {l:List AV} {vs:List Value} (hv:VL c l vs):VL (c.give sel) (l.map (unA sel c.heap)) vs :=
 ⟨by simpa using hv.1,fun j x v hx hu=>by
  rw [List.getElem?_map] at hx;cases hy:l[j]? with
  |none=>rw [hy] at hx; cases hx
  |some y=>rw [hy] at hx; cases hx; exact unA_vr (hv.2 j y v hy hu)⟩
theorem vr_tup_inv {l:List AV} {v:Value} (h:VR c (.tup l) v):∃ vs:List Value,v = .tuple vs.toArray∧VL c l vs:=by
 cases h with
 |tup _ vs hl hv=>exact ⟨vs.toList,by simp,by simpa using hl,fun j x v hx hu=>hv j x v hx (by simpa using hu)⟩
theorem vr_tup {l:List AV} {vs:List Value} (h:VL c l vs):VR c (.tup l) (.tuple vs.toArray) :=
 .tup l vs.toArray (by simpa using h.1) (fun j x v hx hv=>h.2 j x v hx (by simpa using hv))
theorem vr_fn_of {f:Fn} {a b:List AV} {v1 v2:List Value} (h1:VL c a v1) (h2:VL c b v2):VR c (.fn f a b) (.func f v1.toArray v2.toArray) :=
 .fn _ _ _ _ _ (by simpa using h1.1) (by simpa using h2.1) (fun j x v hx hv=>h1.2 j x v hx (by simpa using hv)) (fun j x v hx hv=>h2.2 j x v hx (by simpa using hv))
theorem unV_vr {x:AV} {v:Value} (hv:VR c x v):VR (c.give sel) (unV sel c.heap x) v:=by
 unfold unV;split
 ·obtain ⟨vs,rfl,h1⟩:=vr_agg_inv hv; exact vr_agg (unA_vl h1)
 ·obtain ⟨vs,rfl,h1⟩:=vr_tup_inv hv; exact vr_tup (unA_vl h1)
 ·obtain ⟨v1,v2,rfl,h1,h2⟩:=vr_fn hv; exact vr_fn_of (unA_vl h1) (unA_vl h2)
 ·exact unA_vr hv
theorem unV_vl {l:List AV} {vs:List Value} (hv:VL c l vs):VL (c.give sel) (l.map (unV sel c.heap)) vs :=
 ⟨by simpa using hv.1,fun j x v hx hu=>by
  rw [List.getElem?_map] at hx;cases hy:l[j]? with
  |none=>rw [hy] at hx; cases hx
  |some y=>rw [hy] at hx; cases hx; exact unV_vr (hv.2 j y v hy hu)⟩
theorem nodup_inj {l:List Nat} (hn:l.Nodup) {i j a:Nat} (hi:l[i]? = some a) (hj:l[j]? = some a):i=j:=by
 have h1:=ixOf_of hn hi;have h2:=ixOf_of hn hj;rw [h1] at h2;cases h2; rfl
theorem HOk.give (ho:HOk G c) (hn:sel.Nodup):HOk G (c.give sel) where
 barlt:=fun b hb=>hb.elim (ho.barlt b) fun ⟨j,n,_,hj⟩=>(ho.ownlt j b n hj).1
 ownlt:=fun i b n hi=>by
  simp only [Cx.give] at hi;split at hi
  ·rename_i j hj;exact ⟨(ho.ownlt j b n hi).1,by show i<(unH sel c.heap).length; simp only [unH,List.length_map]; exact lt_of_getElem? hj⟩
  ·cases hi
 inj:=fun i j b n m hi hj=>by
  simp only [Cx.give] at hi hj;split at hi
  ·rename_i a ha;split at hj
   ·rename_i a' ha';have:=ho.inj a a' b n m hi hj;subst this;exact nodup_inj hn ha ha'
   ·cases hj
  ·cases hi
 sep:=fun i b n hi hb=>by
  simp only [Cx.give] at hi;split at hi
  ·rename_i a ha;rcases hb with hb | ⟨j,m,hj,hb⟩
   ·exact ho.sep a b n hi hb
   ·have:=ho.inj a j b n m hi hb;subst this;exact hj (List.mem_of_getElem? ha)
  ·cases hi
 box:=fun i bx hi=>by
  have hi':(unH sel c.heap)[i]? = some bx:=hi;simp only [unH,List.getElem?_map] at hi';cases hs:sel[i]? with
  |none=>rw [hs] at hi'; cases hi'
  |some j =>
   rw [hs] at hi';simp only [Option.map_some,Option.some.injEq,at?_eq] at hi';have hown:=give_own (c:=c) hs;cases hb:c.heap[j]? with
   |none =>
    rw [hb] at hi';subst hi';show (c.give sel).own i=none;rw [hown];cases hx:c.own j with
    |none=>rfl
    |some p=>have:=(ho.ownlt j p.1 p.2 hx).2; rw [List.getElem?_eq_none_iff] at hb; omega
   |some b =>
    rw [hb] at hi';subst hi';have hbox:=ho.box j b hb;cases b with
    |cells cs =>
     obtain ⟨blk,cap,vs,ty,k1,k2,k3⟩:=ho.cells hb;have:=unA_vl (sel:=sel) k3;exact ⟨blk,cap,vs,ty,hown.trans k1,k2,by simpa using this.1.symm,fun j x v hx hv=>this.2 j x v hx (by simpa using hv)⟩
    |arr g ts l =>
     obtain ⟨q0,q1,q2⟩:=hbox;refine ⟨q0,q1,?_⟩;rcases q2 with ⟨q2,q3⟩ | ⟨blk,cap,vs,q2,q3,q4,q5,q6,q7⟩
     ·exact .inl ⟨hown.trans q2,q3⟩
     ·refine .inr ⟨blk,cap,vs,hown.trans q2,q3,q4,q5,q6,fun i j e x he hx=>?_⟩;obtain ⟨v,r1,r2,r3⟩:=q7 i j e x he hx;exact ⟨v,r1,r2,give_vd r3⟩
    |map es =>
     obtain ⟨blk,cap,en,ck,k1,k2,k3,k4⟩:=hbox;exact ⟨blk,cap,en,ck,hown.trans k1,k2,k3,fun j k x m hx hm=>⟨give_vd (k4 j k x m hx hm).1,give_vd (k4 j k x m hx hm).2⟩⟩
    |gone=>exact hown.trans hbox
 glob:=fun g e hg=>by
  have:=unA_vr (sel:=sel) (ho.glob g e hg);exact this
structure Back (c c1:Cx) (sel:List Nat):Prop where
 nodup:sel.Nodup
 lt:∀ j∈sel,j<c.heap.length
 rel:Rel (c.give sel) c1
theorem take_own_sel {i j:Nat} (hn:sel.Nodup) (hi:sel[i]? = some j):(c.take c1 sel).own j=c1.own i:=by
 simp only [Cx.take,ixOf_of hn hi]
theorem take_own_new {k:Nat} (hlt:∀ j∈sel,j<c.heap.length):(c.take c1 sel).own (c.heap.length+k)=c1.own (sel.length+k):=by
 have:ixOf sel (c.heap.length+k)=none:=by
  cases hx:ixOf sel (c.heap.length+k) with
  |none=>rfl
  |some i=>have:=hlt _ (List.mem_of_getElem? (ixOf_some hx)); omega
 simp only [Cx.take,this];rw [if_neg (by omega),Nat.add_sub_cancel_left]
theorem take_own_other {j:Nat} (hj:j<c.heap.length) (hn:ixOf sel j=none):(c.take c1 sel).own j=c.own j:=by
 simp only [Cx.take,hn,if_pos hj]
theorem reI_own (hn:sel.Nodup) (hlt:∀ j∈sel,j<c.heap.length) (i:Nat):(c.take c1 sel).own (reI sel c.heap i)=c1.own i:=by
 unfold reI;rw [at?_eq];split
 ·rename_i j hj; exact take_own_sel hn hj
 ·rename_i hj;rw [List.getElem?_eq_none_iff] at hj;rw [take_own_new hlt,show sel.length+(i - sel.length)=i by omega]
theorem reI_heap (hn:sel.Nodup) (hlt:∀ j∈sel,j<c.heap.length) {i:Nat} {b:Box} (hb:c1.heap[i]? = some b):(c.take c1 sel).heap[reI sel c.heap i]? = some (reB sel c.heap (reG sel c.heap i) b):=by
 unfold reI reG;rw [at?_eq];show (reH sel c.heap c1.heap)[_]? = _;split
 ·rename_i j hj; exact reH_sel (hlt j (List.mem_of_getElem? hj)) (ixOf_of hn hj) hb
 ·rename_i hj;rw [List.getElem?_eq_none_iff] at hj;rw [reH_new,show sel.length+(i - sel.length)=i by omega,hb];rfl
theorem take_bad (ho:HOk G c) (hb:Back c c1 sel) (b:Nat):(c.take c1 sel).bad b↔c1.bad b:=by
 obtain ⟨hn,hlt,hr⟩:=hb;constructor
 ·rintro (h | ⟨j,n,h⟩)
  ·refine .inl ?_; rw [hr.bar]; exact .inl h
  ·simp only [Cx.take] at h;split at h
   ·exact .inr ⟨_,n,h⟩
   ·rename_i hx;split at h
    ·refine .inl ?_; rw [hr.bar]; exact .inr ⟨j,n,ixOf_none hx hn,h⟩
    ·exact .inr ⟨_,n,h⟩
 ·rintro (h | ⟨i,n,h⟩)
  ·rw [hr.bar] at h;rcases h with h | ⟨j,n,hj,h⟩
   ·exact .inl h
   ·refine .inr ⟨j,n,?_⟩;have hx:ixOf sel j=none:=by
     cases hx:ixOf sel j with
     |none=>rfl
     |some i=>exact absurd (List.mem_of_getElem? (ixOf_some hx)) hj
    rw [take_own_other (ho.ownlt j b n h).2 hx];exact h
  ·exact .inr ⟨_,n,(reI_own hn hlt i).trans h⟩
theorem take_vd (ho:HOk G c) (hb:Back c c1 sel) {x:DV} {v:Value} (hv:VD c1.bad c1.w x v):VD (c.take c1 sel).bad (c.take c1 sel).w x v :=
 hv.mono fun b _ hn=>⟨fun h=>hn ((take_bad ho hb b).1 h),rfl⟩
theorem reA_vr (ho:HOk G c) (hb:Back c c1 sel) {x:AV} {v:Value} (hv:VR c1 x v):VR (c.take c1 sel) (reA sel c.heap x) v:=by
 have hn:=hb.nodup;have hlt:=hb.lt;unfold reA;split
 ·rename_i i g;cases hv with
  |own _ _ ts l blk cap k1 k2=>exact .own _ _ ts l blk cap (reI_heap hn hlt k1) ((reI_own hn hlt i).trans k2)
  |ownnil _ _ ts k1 k2=>exact .ownnil _ _ ts (reI_heap hn hlt k1) ((reI_own hn hlt i).trans k2)
  |ownold _ _ g2 ts l _ k1 k2 k3=>exact .ownold _ _ _ ts l _ (reI_heap hn hlt k1) (by omega) k3
  |owngone _ _ _ k1 k3=>exact .owngone _ _ _ (reI_heap hn hlt k1) k3
 ·rename_i i off;cases hv with
  |ptr _ _ cs blk cap k1 k2=>exact .ptr _ _ _ blk cap (reI_heap hn hlt k1) ((reI_own hn hlt i).trans k2)
  |ptrgone _ _ _ k1 k3=>exact .ptrgone _ _ _ (reI_heap hn hlt k1) k3
 ·rename_i i g k off;cases hv with
  |aptr _ _ _ _ ts l blk cap k1 k2 k3=>exact .aptr _ _ _ _ ts l blk cap (reI_heap hn hlt k1) ((reI_own hn hlt i).trans k2) k3
  |aptrold _ _ g2 _ _ ts l _ k1 k2 k3=>exact .aptrold _ _ _ _ _ ts l _ (reI_heap hn hlt k1) (by omega) k3
  |aptrgone _ _ _ _ _ k1 k3=>exact .aptrgone _ _ _ _ _ (reI_heap hn hlt k1) k3
 ·rename_i i;cases hv with
  |map _ es blk cap k1 k2=>exact .map _ es blk cap (reI_heap hn hlt k1) ((reI_own hn hlt i).trans k2)
  |mapgone _ _ k1 k3=>exact .mapgone _ _ (reI_heap hn hlt k1) k3
 ·cases hv with | d _ _ hx=>exact .d _ _ (take_vd ho hb hx)
 ·cases hv with
  |eptr _ _ blk o f k1 k2 k3 k4=>exact .eptr _ _ blk o f (fun h=>k1 ((take_bad ho hb _).1 h)) k2 k3 (fun j x hx=>take_vd ho hb (k4 j x hx))
 ·exact .any _
theorem map_vl {c c':Cx} {f:AV→AV} (hf:∀ {x:AV} {v:Value},VR c x v→VR c' (f x) v) {l:List AV} {vs:List Value} (hv:VL c l vs):VL c' (l.map f) vs :=
 ⟨by simpa using hv.1,fun j x v hx hu=>by
  rw [List.getElem?_map] at hx;cases hy:l[j]? with
  |none=>rw [hy] at hx; cases hx
  |some y=>rw [hy] at hx; cases hx; exact hf (hv.2 j y v hy hu)⟩
theorem reV1_vr (ho:HOk G c) (hb:Back c c1 sel) {x:AV} {v:Value} (hv:VR c1 x v):VR (c.take c1 sel) (reV1 sel c.heap x) v:=by
 have hA:∀ {x:AV} {v:Value},VR c1 x v→VR (c.take c1 sel) (reA sel c.heap x) v:=fun h=>reA_vr ho hb h;unfold reV1;split
 ·obtain ⟨vs,rfl,h1⟩:=vr_agg_inv hv; exact vr_agg (map_vl hA h1)
 ·obtain ⟨vs,rfl,h1⟩:=vr_tup_inv hv; exact vr_tup (map_vl hA h1)
 ·obtain ⟨v1,v2,rfl,h1,h2⟩:=vr_fn hv; exact vr_fn_of (map_vl hA h1) (map_vl hA h2)
 ·exact hA hv
theorem reV_vr (ho:HOk G c) (hb:Back c c1 sel) {x:AV} {v:Value} (hv:VR c1 x v):VR (c.take c1 sel) (reV sel c.heap x) v:=by
 unfold reV;split
 ·obtain ⟨vs,rfl,h1⟩:=vr_tup_inv hv; exact vr_tup (map_vl (fun h=>reV1_vr ho hb h) h1)
 ·exact reV1_vr ho hb hv
theorem BoxOk.take (ho:HOk G c) (hb:Back c c1 sel) {i g:Nat} {b:Box} (hbox:BoxOk c1 i b):BoxOk (c.take c1 sel) (reI sel c.heap i) (reB sel c.heap g b):=by
 have hown:=reI_own (c1:=c1) hb.nodup hb.lt i;cases b with
 |cells cs =>
  obtain ⟨blk,cap,vs,ty,k1,k2,k3,k4⟩:=hbox;have:VL (c.take c1 sel) (cs.map (reA sel c.heap)) vs.toList:=map_vl (fun h=>reA_vr ho hb h) ⟨by simpa using k3.symm,fun j x v hx hv=>k4 j x v hx (by simpa using hv)⟩;exact ⟨blk,cap,vs,ty,hown.trans k1,k2,by simpa using this.1.symm,fun j x v hx hv=>this.2 j x v hx (by simpa using hv)⟩
 |arr g ts l =>
  obtain ⟨q0,q1,q2⟩:=hbox;refine ⟨q0,q1,?_⟩;rcases q2 with ⟨q2,q3⟩ | ⟨blk,cap,vs,q2,q3,q4,q5,q6,q7⟩
  ·exact .inl ⟨hown.trans q2,q3⟩
  ·refine .inr ⟨blk,cap,vs,hown.trans q2,q3,q4,q5,q6,fun i j e x he hx=>?_⟩;obtain ⟨v,r1,r2,r3⟩:=q7 i j e x he hx;exact ⟨v,r1,r2,take_vd ho hb r3⟩
 |map es =>
  obtain ⟨blk,cap,en,ck,k1,k2,k3,k4⟩:=hbox;exact ⟨blk,cap,en,ck,hown.trans k1,k2,k3,fun j k x m hx hm=>⟨take_vd ho hb (k4 j k x m hx hm).1,take_vd ho hb (k4 j k x m hx hm).2⟩⟩
 |gone=>exact hown.trans hbox
theorem take_step (ho:HOk G c) (hb:Back c c1 sel):Step c (c.take c1 sel) where
 bar:=rfl
 barlt:=ho.barlt
 os:=hb.rel.os
 tape:=hb.rel.tape
 output:=hb.rel.output
 size:=hb.rel.size
 keep:=fun b hlt hn=>hb.rel.keep b hlt (fun i n hi=>by
  simp only [Cx.give] at hi;split at hi
  ·exact hn _ n hi
  ·cases hi)
 newown:=fun j b n hj hlt=>by
  have key:∀ i,c1.own i=some (b,n)→∃ k m,sel[i]? = some k∧c.own k=some (b,m):=fun i hi=>by
   obtain ⟨m,hk⟩:=hb.rel.newown i b n hi hlt;simp only [Cx.give] at hk;split at hk
   ·rename_i k hs; exact ⟨k,m,hs,hk⟩
   ·cases hk
  simp only [Cx.take] at hj;split at hj
  ·rename_i i hi;obtain ⟨k,m,hs,hk⟩:=key _ hj;rw [ixOf_some hi] at hs;cases hs;exact ⟨m,hk⟩
  ·split at hj
   ·exact ⟨n,hj⟩
   ·obtain ⟨k,m,hs,hk⟩:=key _ hj;rw [List.getElem?_eq_none (by omega)] at hs;cases hs
 boxes:=fun j bx hj=>by
  cases hx:ixOf sel j with
  |none =>
   have hlt:=lt_of_getElem? hj;have h':(c.take c1 sel).heap[j]? = some bx:=(reH_other hlt hx).trans hj;have ho':=take_own_other (c1:=c1) hlt hx;cases bx with
   |cells cs=>exact .inl ⟨cs,h',ho',rfl⟩
   |arr g sz l=>exact .inl ⟨g,l,h',.inr ⟨rfl,rfl,ho'⟩⟩
   |map es=>exact .inl ⟨es,h',ho'⟩
   |gone=>exact h'
  |some i =>
   have hi:=ixOf_some hx;have hlt:=lt_of_getElem? hj;have hg:(c.give sel).heap[i]? = some (unB sel c.heap bx):=unH_get hi hj;have h1:=hb.rel.boxes i _ hg;have ho':=take_own_sel (c:=c) (c1:=c1) hb.nodup hi;have hgo:=give_own (c:=c) hi;have hgone:c1.heap[i]? = some .gone→(c.take c1 sel).heap[j]? = some .gone:=fun h=>reH_sel hlt hx h;cases bx with
   |cells cs =>
    rcases h1 with ⟨cs',h1,h2,h3⟩ | h1
    ·exact .inl ⟨_,reH_sel hlt hx h1,ho'.trans (h2.trans hgo),by simpa [unB] using h3⟩
    ·exact .inr (hgone h1)
   |arr g ts l =>
    rcases h1 with ⟨g',l',h1,h2⟩ | h1
    ·have hge:genOf c.heap j=g:=by simp only [genOf,at?_eq,hj]
     have h3:=reH_sel (h:=c.heap) hlt hx h1;simp only [reB,hge] at h3;refine .inl ⟨g+g',l',h3,?_⟩;rcases h2 with h2 | ⟨h2,h4,h5⟩
     ·left; omega
     ·exact .inr ⟨by omega,h4,ho'.trans (h5.trans hgo)⟩
    ·exact .inr (hgone h1)
   |map es =>
    rcases h1 with ⟨es',h1,h2⟩ | h1
    ·exact .inl ⟨es',reH_sel hlt hx h1,ho'.trans (h2.trans hgo)⟩
    ·exact .inr (hgone h1)
   |gone=>exact hgone h1
theorem HOk.take (ho:HOk G c) (ho1:HOk G c1) (hb:Back c c1 sel):HOk G (c.take c1 sel):=by
 have hst:=take_step ho hb;have hn:=hb.nodup;have hlt:=hb.lt;have own_cases:∀ j b n,(c.take c1 sel).own j=some (b,n)→(∃ i,j=reI sel c.heap i∧c1.own i=some (b,n))∨(j<c.heap.length∧ixOf sel j=none∧c.own j=some (b,n)):=by
  intro j b n hj;simp only [Cx.take] at hj;split at hj
  ·rename_i i hi;exact .inl ⟨i,by simp only [reI,at?_eq,ixOf_some hi],hj⟩
  ·rename_i hx;split at hj
   ·rename_i hl; exact .inr ⟨hl,hx,hj⟩
   ·rename_i hl;refine .inl ⟨_,?_,hj⟩;have:sel[sel.length+(j - c.heap.length)]? = none:=List.getElem?_eq_none (by omega);simp only [reI,at?_eq,this];omega
 have reI_inj:∀ i i',i<c1.heap.length→i'<c1.heap.length→reI sel c.heap i=reI sel c.heap i'→i=i':=by
  intro i i' _ _ he;simp only [reI,at?_eq] at he;split at he
  ·rename_i j hj;split at he
   ·rename_i j' hj'; subst he; exact nodup_inj hn hj hj'
   ·have:=hlt j (List.mem_of_getElem? hj); omega
  ·rename_i hj;split at he
   ·rename_i j' hj'; have:=hlt j' (List.mem_of_getElem? hj'); omega
   ·rename_i hj';rw [List.getElem?_eq_none_iff] at hj hj';omega
 refine ho.next hst (fun j b n hj=>?_) (fun j j' b n m hj hj'=>?_) (fun j bx hj=>?_)
 ·rcases own_cases j b n hj with ⟨i,rfl,hi⟩ | ⟨hl,hx,hj'⟩
  ·obtain ⟨h1,h2⟩:=ho1.ownlt i b n hi;refine ⟨h1,?_⟩;have:(c.take c1 sel).heap[reI sel c.heap i]? = some _:=reI_heap hn hlt (List.getElem?_eq_getElem h2);exact lt_of_getElem? this
  ·exact ⟨Nat.lt_of_lt_of_le (ho.ownlt j b n hj').1 hb.rel.size,by show j<(reH sel c.heap c1.heap).length; rw [reH_len]; omega⟩
 ·have cross:∀ j i n m,ixOf sel j=none→c.own j=some (b,n)→c1.own i=some (b,m)→False:=fun j i n m hx hj hi=>by
   refine ho1.sep i b m hi ?_;rw [hb.rel.bar];exact .inr ⟨j,n,ixOf_none hx hn,hj⟩
  rcases own_cases j b n hj with ⟨i,rfl,hi⟩ | ⟨hl,hx,hj1⟩
  ·rcases own_cases j' b m hj' with ⟨i',rfl,hi'⟩ | ⟨hl',hx',hj1'⟩
   ·rw [ho1.inj i i' b n m hi hi']
   ·exact (cross j' i m n hx' hj1' hi).elim
  ·rcases own_cases j' b m hj' with ⟨i',rfl,hi'⟩ | ⟨hl',hx',hj1'⟩
   ·exact (cross j i' n m hx hj1 hi').elim
   ·exact ho.inj j j' b n m hj1 hj1'
 ·by_cases hl:j<c.heap.length
  ·cases hx:ixOf sel j with
   |none =>
    left;have hj':(reH sel c.heap c1.heap)[j]? = some bx:=hj;rw [reH_other hl hx] at hj';refine ⟨hj',take_own_other hl hx,fun b n hb'=>hb.rel.keep b (ho.ownlt j b n hb').1 (fun i m hi=>?_)⟩;simp only [Cx.give] at hi;split at hi
    ·rename_i a ha;have:=ho.inj j a b n m hb' hi;subst this;rw [ixOf_of hn ha] at hx;cases hx
    ·cases hi
   |some i =>
    right;have hi:=ixOf_some hx;have hj':(reH sel c.heap c1.heap)[j]? = some bx:=hj;have hi0:(c.give sel).heap[i]? = some (unB sel c.heap c.heap[j]):=unH_get hi (List.getElem?_eq_getElem hl);have hrb:=hb.rel.boxes i _ hi0;obtain ⟨b1,hb1⟩:∃ b1,c1.heap[i]? = some b1:=by
     generalize unB sel c.heap c.heap[j]=bb at hrb;cases bb with
     |cells cs=>rcases hrb with ⟨_,h,_⟩ | h <;> exact ⟨_,h⟩
     |arr g ts l=>rcases hrb with ⟨_,_,h,_⟩ | h <;> exact ⟨_,h⟩
     |map es=>rcases hrb with ⟨_,h,_⟩ | h <;> exact ⟨_,h⟩
     |gone=>exact ⟨_,hrb⟩
    rw [reH_sel hl hx hb1] at hj';cases hj';have:=(ho1.box i b1 hb1).take (g:=genOf c.heap j) ho hb;have hre:reI sel c.heap i=j:=by simp only [reI,at?_eq,hi]
    rw [hre] at this;exact this
  ·right;have hj':(reH sel c.heap c1.heap)[j]? = some bx:=hj;rw [show j=c.heap.length+(j - c.heap.length) by omega,reH_new] at hj';cases hb1:c1.heap[sel.length+(j - c.heap.length)]? with
   |none=>rw [hb1] at hj'; cases hj'
   |some b1 =>
    rw [hb1] at hj';cases hj';have:=(ho1.box _ b1 hb1).take (g:=0) ho hb;have hre:reI sel c.heap (sel.length+(j - c.heap.length))=j:=by
     have:sel[sel.length+(j - c.heap.length)]? = none:=List.getElem?_eq_none (by omega);simp only [reI,at?_eq,this];omega
    rw [hre] at this;exact this
theorem ACalls.at {E:Env} {f:FuncId} {args:List AV} {Q:AV→List Box→Prop} (H:ACalls E f (unH sel h) (args.map (unV sel h)) Q) (hn:sel.Nodup) (hlt:∀ j∈sel,j<h.length) (hh:c.heap=h) (ho:HOk E.G c) {vs:List Value} (hv:VL c args vs) :
  Calls E.P f vs.toArray c.w fun e w'=>∃ (c':Cx) (r:AV) (h1:List Box) (v:Value),e = .returned v∧c'.w=w'∧Q r h1∧c'.heap=reH sel h h1∧VR c' (reV sel h r) v∧HOk E.G c'∧Step c c':=by
 subst hh;unfold ACalls at H;refine (H.2.2 (c.give sel) vs rfl (ho.give hn) (unV_vl hv)).mono fun e w' ⟨c1,r,v,k1,k2,k3,k4,k5,k6⟩=>?_;have hb:Back c c1 sel:=⟨hn,hlt,k6⟩;exact ⟨c.take c1 sel,r,c1.heap,v,k1,k2,k3,rfl,reV_vr ho hb k4,ho.take k5 hb,take_step ho hb⟩
end
end Go.Eng
end
section
namespace Go.Eng
open Go Go.RowKit
universe u
section cps
variable {α:Sort u} {β γ:Type}
def mapsK (f:β→(γ→α)→α):List β→(List γ→α)→α
 | [],k=>k []
 |a::l,k=>f a fun b=>mapsK f l fun l'=>k (b::l')
theorem mapsK_eq {f:β→(γ→α)→α} {g:β→γ} (h:∀ x k,f x k=k (g x)):∀ (l:List β) (k:List γ→α),mapsK f l k=k (l.map g)
 | [],_=>rfl
 |a::l,k=>by simp only [mapsK,h,mapsK_eq h l,List.map_cons]
def appendK:List β→List β→(List β→α)→α
 | [],m,k=>k m
 |a::l,m,k=>appendK l m fun l'=>k (a::l')
theorem appendK_eq:∀ (l m:List β) (k:List β→α),appendK l m k=k (l++m)
 | [],_,_=>rfl
 |a::l,m,k=>by simp only [appendK,appendK_eq l,List.cons_append]
def lenK:List β→Nat→(Nat→α)→α
 | [],n,k=>k n
 |_::l,n,k=>lenK l (n+1) k
theorem lenK_eq:∀ (l:List β) (n:Nat) (k:Nat→α),lenK l n k=k (n+l.length)
 | [],_,_=>rfl
 |_::l,n,k=>by rw [lenK,lenK_eq l,List.length_cons]; congr 1; omega
def ixK:List Nat→Nat→Nat→α→(Nat→α)→α
 | [],_,_,no,_=>no
 |a::l,j,n,no,k=>match Nat.beq a j with
  |true=>k n
  |false=>ixK l j (n+1) no k
theorem ixK_eq:∀ (l:List Nat) (j n:Nat) (no:α) (k:Nat→α),ixK l j n no k=match ixOf l j with
  |some i=>k (n+i)
  |none=>no
 | [],_,_,_,_=>rfl
 |a::l,j,n,no,k=>by
  simp only [ixK,ixOf];cases Nat.beq a j with
  |true=>rfl
  |false =>
   rw [ixK_eq l];cases ixOf l j with
   |none=>rfl
   |some i=>simp only [Option.map_some]; congr 1; omega
theorem getK_at {l:List β} {i:Nat} {no:α} {k:β→α}:getK l i no k=match at? l i with
  |some x=>k x
  |none=>no:=by
 rw [at?_eq];cases h:l[i]? with
 |none=>exact getK_none h no k
 |some x=>exact getK_some h no k
def unAK (sel:List Nat) (h:List Box) (x:AV) (k:AV→α):α :=
 match x with
 | .own j g=>ixK sel j 0 (k .any) fun i=>getK h j (k .any) fun
  | .arr g' _ _=>match Nat.beq g g' with
   |true=>k (.own i 0)
   |false=>k .any
  |_=>k .any
 | .ptr j off=>ixK sel j 0 (k .any) fun i=>getK h j (k .any) fun
  | .cells _=>k (.ptr i off)
  |_=>k .any
 | .aptr j g n off=>ixK sel j 0 (k .any) fun i=>getK h j (k .any) fun
  | .arr g' _ _=>match Nat.beq g g' with
   |true=>k (.aptr i 0 n off)
   |false=>k .any
  |_=>k .any
 | .map j=>ixK sel j 0 (k .any) fun i=>getK h j (k .any) fun
  | .map _=>k (.map i)
  |_=>k .any
 | .d x=>k (.d x)
 | .eptr e off=>k (.eptr e off)
 |_=>k .any
theorem unAK_eq (sel:List Nat) (h:List Box) (x:AV) (k:AV→α):unAK sel h x k=k (unA sel h x):=by
 unfold unAK unA;simp only [ixK_eq,getK_at,Nat.zero_add];cases x with
 |own j g =>
  dsimp only;generalize ixOf sel j=a;generalize at? h j=o;cases a with
  |none=>rfl
  |some i=>cases o with
   |none=>rfl
   |some b=>cases b with
    |arr g' _ _=>dsimp only; cases Nat.beq g g' <;> rfl
    |_=>rfl
 |ptr j off =>
  dsimp only;generalize ixOf sel j=a;generalize at? h j=o;cases a with
  |none=>rfl
  |some i=>cases o with
   |none=>rfl
   |some b=>cases b <;> rfl
 |aptr j g n off =>
  dsimp only;generalize ixOf sel j=a;generalize at? h j=o;cases a with
  |none=>rfl
  |some i=>cases o with
   |none=>rfl
   |some b=>cases b with
    |arr g' _ _=>dsimp only; cases Nat.beq g g' <;> rfl
    |_=>rfl
 |map j =>
  dsimp only;generalize ixOf sel j=a;generalize at? h j=o;cases a with
  |none=>rfl
  |some i=>cases o with
   |none=>rfl
   |some b=>cases b <;> rfl
 |_=>rfl
def unVK (sel:List Nat) (h:List Box) (x:AV) (k:AV→α):α :=
 match x with
 | .agg l=>mapsK (unAK sel h) l fun l'=>k (.agg l')
 | .tup l=>mapsK (unAK sel h) l fun l'=>k (.tup l')
 | .fn f a b=>mapsK (unAK sel h) a fun a'=>mapsK (unAK sel h) b fun b'=>k (.fn f a' b')
 |x=>unAK sel h x k
theorem unVK_eq (sel:List Nat) (h:List Box) (x:AV) (k:AV→α):unVK sel h x k=k (unV sel h x):=by
 unfold unVK unV;cases x <;> simp only [mapsK_eq (unAK_eq sel h),unAK_eq]
def unBK (sel:List Nat) (h:List Box) (b:Box) (k:Box→α):α :=
 match b with
 | .arr _ ts l=>k (.arr 0 ts l)
 | .cells cs=>mapsK (unAK sel h) cs fun cs'=>k (.cells cs')
 | .map es=>k (.map es)
 | .gone=>k .gone
theorem unBK_eq (sel:List Nat) (h:List Box) (b:Box) (k:Box→α):unBK sel h b k=k (unB sel h b):=by
 unfold unBK unB;cases b <;> simp only [mapsK_eq (unAK_eq sel h)]
def unH1K (sel:List Nat) (h:List Box) (j:Nat) (k:Box→α):α:=getK h j (k .gone) fun b=>unBK sel h b k
theorem unH1K_eq (sel:List Nat) (h:List Box) (j:Nat) (k:Box→α):unH1K sel h j k=k (match at? h j with | some b=>unB sel h b | none => .gone):=by
 unfold unH1K;rw [getK_at];generalize at? h j=o;cases o with
 |none=>rfl
 |some b=>exact unBK_eq sel h b k
def unHK (sel:List Nat) (h:List Box) (k:List Box→α):α:=mapsK (unH1K sel h) sel k
theorem unHK_eq (sel:List Nat) (h:List Box) (k:List Box→α):unHK sel h k=k (unH sel h):=by
 unfold unHK unH;rw [mapsK_eq (unH1K_eq sel h)];all_goals rfl
def reIK (sel:List Nat) (h:List Box) (i:Nat) (k:Nat→α):α:=getK sel i (lenK h 0 fun n=>lenK sel 0 fun m=>k (n+(i - m))) k
theorem reIK_eq (sel:List Nat) (h:List Box) (i:Nat) (k:Nat→α):reIK sel h i k=k (reI sel h i):=by
 unfold reIK reI;rw [getK_at];simp only [lenK_eq,Nat.zero_add];generalize at? sel i=o;cases o <;> rfl
def genK (h:List Box) (j:Nat) (k:Nat→α):α:=getK h j (k 0) fun
 | .arr g _ _=>k g
 |_=>k 0
theorem genK_eq (h:List Box) (j:Nat) (k:Nat→α):genK h j k=k (genOf h j):=by
 unfold genK genOf;rw [getK_at];generalize at? h j=o;cases o with
 |none=>rfl
 |some b=>cases b <;> rfl
def reGK (sel:List Nat) (h:List Box) (i:Nat) (k:Nat→α):α:=getK sel i (k 0) fun j=>genK h j k
theorem reGK_eq (sel:List Nat) (h:List Box) (i:Nat) (k:Nat→α):reGK sel h i k=k (reG sel h i):=by
 unfold reGK reG;rw [getK_at];generalize at? sel i=o;cases o with
 |none=>rfl
 |some b=>exact genK_eq h b k
def reAK (sel:List Nat) (h:List Box) (x:AV) (k:AV→α):α :=
 match x with
 | .own i g=>reIK sel h i fun j=>reGK sel h i fun g0=>k (.own j (g0+g))
 | .ptr i off=>reIK sel h i fun j=>k (.ptr j off)
 | .aptr i g n off=>reIK sel h i fun j=>reGK sel h i fun g0=>k (.aptr j (g0+g) n off)
 | .map i=>reIK sel h i fun j=>k (.map j)
 | .d x=>k (.d x)
 | .eptr e off=>k (.eptr e off)
 |_=>k .any
theorem reAK_eq (sel:List Nat) (h:List Box) (x:AV) (k:AV→α):reAK sel h x k=k (reA sel h x):=by
 unfold reAK reA;cases x <;> simp only [reIK_eq,reGK_eq]
def reV1K (sel:List Nat) (h:List Box) (x:AV) (k:AV→α):α :=
 match x with
 | .agg l=>mapsK (reAK sel h) l fun l'=>k (.agg l')
 | .tup l=>mapsK (reAK sel h) l fun l'=>k (.tup l')
 | .fn f a b=>mapsK (reAK sel h) a fun a'=>mapsK (reAK sel h) b fun b'=>k (.fn f a' b')
 |x=>reAK sel h x k
theorem reV1K_eq (sel:List Nat) (h:List Box) (x:AV) (k:AV→α):reV1K sel h x k=k (reV1 sel h x):=by
 unfold reV1K reV1;cases x <;> simp only [mapsK_eq (reAK_eq sel h),reAK_eq]
def reVK (sel:List Nat) (h:List Box) (x:AV) (k:AV→α):α :=
 match x with
 | .tup l=>mapsK (reV1K sel h) l fun l'=>k (.tup l')
 |x=>reV1K sel h x k
theorem reVK_eq (sel:List Nat) (h:List Box) (x:AV) (k:AV→α):reVK sel h x k=k (reV sel h x):=by
 unfold reVK reV;cases x <;> simp only [mapsK_eq (reV1K_eq sel h),reV1K_eq]
def reBK (sel:List Nat) (h:List Box) (g0:Nat) (b:Box) (k:Box→α):α :=
 match b with
 | .arr g ts l=>k (.arr (g0+g) ts l)
 | .cells cs=>mapsK (reAK sel h) cs fun cs'=>k (.cells cs')
 | .map es=>k (.map es)
 | .gone=>k .gone
theorem reBK_eq (sel:List Nat) (h:List Box) (g0:Nat) (b:Box) (k:Box→α):reBK sel h g0 b k=k (reB sel h g0 b):=by
 unfold reBK reB;cases b <;> simp only [mapsK_eq (reAK_eq sel h)]
def reOldK (sel:List Nat) (h h1:List Box):Nat→List Box→(List Box→α)→α
 |_,[],k=>k []
 |j,b::r,k=>ixK sel j 0 (reOldK sel h h1 (j+1) r fun r'=>k (b::r')) fun i=>getK h1 i (reOldK sel h h1 (j+1) r fun r'=>k (.gone::r')) fun b1=>genK h j fun g=>reBK sel h g b1 fun b2=>reOldK sel h h1 (j+1) r fun r'=>k (b2::r')
theorem reOldK_eq (sel:List Nat) (h h1:List Box):∀ (j:Nat) (r:List Box) (k:List Box→α),reOldK sel h h1 j r k=k (reOld sel h h1 j r)
 |_,[],_=>rfl
 |j,b::r,k=>by
  simp only [reOldK,ixK_eq,getK_at,genK_eq,reBK_eq,reOldK_eq sel h h1 (j+1) r,Nat.zero_add,reOld];generalize ixOf sel j=a;cases a with
  |none=>rfl
  |some i =>
   dsimp only;generalize at? h1 i=o;cases o <;> rfl
def reHK (sel:List Nat) (h h1:List Box) (k:List Box→α):α:=reOldK sel h h1 0 h fun a=>lenK sel 0 fun n=>dropK n h1 fun h2=>mapsK (reBK sel h 0) h2 fun b=>appendK a b k
theorem reHK_eq (sel:List Nat) (h h1:List Box) (k:List Box→α):reHK sel h h1 k=k (reH sel h h1):=by
 unfold reHK reH;simp only [reOldK_eq,lenK_eq,Nat.zero_add,dropK_eq,mapsK_eq (reBK_eq sel h 0),appendK_eq]
def memN (d:Nat):List Nat→Bool
 | []=>false
 |a::l=>match Nat.beq a d with
  |true=>true
  |false=>memN d l
def addK (j:Nat) (sel:List Nat) (k:List Nat→α):α:=match memN j sel with
 |true=>k sel
 |false=>appendK sel [j] k
def seeA (h:List Box) (x:AV) (sel:List Nat) (k:List Nat→α):α :=
 match x with
 | .own j g=>getK h j (k sel) fun
  | .arr g' _ _=>match Nat.beq g g' with
   |true=>addK j sel k
   |false=>k sel
  |_=>k sel
 | .ptr j _=>getK h j (k sel) fun
  | .cells _=>addK j sel k
  |_=>k sel
 | .aptr j g _ _=>getK h j (k sel) fun
  | .arr g' _ _=>match Nat.beq g g' with
   |true=>addK j sel k
   |false=>k sel
  |_=>k sel
 | .map j=>getK h j (k sel) fun
  | .map _=>addK j sel k
  |_=>k sel
 |_=>k sel
def seesA (h:List Box):List AV→List Nat→(List Nat→α)→α
 | [],sel,k=>k sel
 |x::l,sel,k=>seeA h x sel fun sel'=>seesA h l sel' k
def seesV (h:List Box):List AV→List Nat→(List Nat→α)→α
 | [],sel,k=>k sel
 |x::l,sel,k=>match x with
  | .agg c=>seesA h c sel fun sel'=>seesV h l sel' k
  | .tup c=>seesA h c sel fun sel'=>seesV h l sel' k
  | .fn _ a b=>seesA h a sel fun sel'=>seesA h b sel' fun sel''=>seesV h l sel'' k
  |x=>seeA h x sel fun sel'=>seesV h l sel' k
def closeK (h:List Box):Nat→Nat→List Nat→(List Nat→α)→α
 | 0,_,sel,k=>k sel
 |n+1,p,sel,k=>getK sel p (k sel) fun j=>getK h j (closeK h n (p+1) sel k) fun
  | .cells cs=>seesA h cs sel fun sel'=>closeK h n (p+1) sel' k
  |_=>closeK h n (p+1) sel k
def okSel (n:Nat):List Nat→Bool
 | []=>true
 |j::l=>match memN j l,Nat.blt j n with
  |false,true=>okSel n l
  |_,_=>false
end cps
theorem memN_iff {d:Nat}:∀ {l:List Nat},memN d l=true↔d∈l
 | []=>by simp [memN]
 |a::l=>by
  simp only [memN];split
  ·rename_i q; simp [Nat.eq_of_beq_eq_true q]
  ·rename_i q;have hne:d≠a:=fun e=>by rw [e,Nat.beq_refl] at q; cases q
   rw [memN_iff (l:=l)];simp [hne]
theorem okSel_spec {n:Nat}:∀ {l:List Nat},okSel n l=true→l.Nodup∧∀ j∈l,j<n
 | [],_=>⟨.nil,fun j hj=>by simp at hj⟩
 |j::l,H=>by
  simp only [okSel] at H;split at H
  ·rename_i q1 q2;obtain ⟨h1,h2⟩:=okSel_spec H;refine ⟨List.nodup_cons.2 ⟨fun hm=>?_,h1⟩,fun i hi=>?_⟩
   ·rw [memN_iff.2 hm] at q1; cases q1
   ·rcases List.mem_cons.1 hi with rfl | hi
    ·exact Nat.le_of_ble_eq_true q2
    ·exact h2 i hi
  ·cases H
@[irreducible] def callS (E : Env) (f : FuncId) (h0 : List Box) (args : List AV) (K : AV → List Box → Prop) : Prop := ∃ Q, ACalls E f h0 args Q ∧ ∀ r h1, Q r h1 → K r h1
theorem callS_any {E:Env} {f:FuncId} {h0:List Box} {args:List AV} {K Q:AV→List Box→Prop} (H:ACalls E f h0 args Q) (hk:∀ r h1,Q r h1→K r h1):callS E f h0 args K:=by unfold callS; exact ⟨Q,H,hk⟩
theorem callS_eq {E:Env} {f:FuncId} {h0:List Box} {args:List AV} {K:AV→List Box→Prop} {r:AV} {h1:List Box} (H:ACalls E f h0 args (fun a b=>a=r∧b=h1)) (hk:K r h1):callS E f h0 args K:=callS_any H fun _ _ ⟨e1,e2⟩=>by subst e1; subst e2; exact hk
def callBK (E:Env) (f:FuncId) (avs:List AV) (h:List Box) (stop:Prop) (k:AV→List Box→Prop):Prop :=
 seesV h avs [] fun sel0=>closeK h 20 0 sel0 fun sel=>lenK h 0 fun n=>match okSel n sel with
  |true=>unHK sel h fun h0=>mapsK (unVK sel h) avs fun args0=>callS E f h0 args0 fun r h1=>reVK sel h r fun v=>reHK sel h h1 fun h'=>k v h'
  |false=>stop
theorem seeA_some {h:List Box} {x:AV} {sel:List Nat} {k:List Nat→Prop} (H:seeA h x sel k):∃ l,k l:=by
 have hadd:∀ {j:Nat},addK j sel k→∃ l,k l:=fun {j} H=>by
  unfold addK at H;split at H
  ·exact ⟨_,H⟩
  ·rw [appendK_eq] at H; exact ⟨_,H⟩
 unfold seeA at H;split at H;all_goals first
  |exact ⟨_,H⟩
  |(rcases getK_or H with H | ⟨_, _, H⟩
    · exact ⟨_, H⟩
    split at H
    · first
      | exact hadd H
      | (split at H
         · exact hadd H
         · exact ⟨_, H⟩)
    · exact ⟨_, H⟩)
theorem seesA_some {h:List Box}:∀ {l:List AV} {sel:List Nat} {k:List Nat→Prop},seesA h l sel k→∃ l,k l
 | [],_,_,H=>⟨_,H⟩
 |_::_,_,_,H=>by
  simp only [seesA] at H;obtain ⟨_,H⟩:=seeA_some H;exact seesA_some H
theorem seesV_some {h:List Box}:∀ {l:List AV} {sel:List Nat} {k:List Nat→Prop},seesV h l sel k→∃ l,k l
 | [],_,_,H=>⟨_,H⟩
 |x::_,_,_,H=>by
  simp only [seesV] at H;split at H
  ·obtain ⟨_,H⟩:=seesA_some H; exact seesV_some H
  ·obtain ⟨_,H⟩:=seesA_some H; exact seesV_some H
  ·obtain ⟨_,H⟩:=seesA_some H; obtain ⟨_,H⟩:=seesA_some H; exact seesV_some H
  ·obtain ⟨_,H⟩:=seeA_some H; exact seesV_some H
theorem closeK_some {h:List Box}:∀ {n p:Nat} {sel:List Nat} {k:List Nat→Prop},closeK h n p sel k→∃ l,k l
 | 0,_,_,_,H=>⟨_,H⟩
 |n+1,p,sel,k,H=>by
  simp only [closeK] at H;rcases getK_or H with H | ⟨j,_,H⟩
  ·exact ⟨_,H⟩
  rcases getK_or H with H | ⟨b,_,H⟩
  ·exact closeK_some H
  split at H
  ·obtain ⟨_,H⟩:=seesA_some H; exact closeK_some H
  ·exact closeK_some H
theorem callBK_sound {E:Env} {f:FuncId} {avs:List AV} {h:List Box} {stop:Prop} {k:AV→List Box→Prop} (H:callBK E f avs h stop k):stop∨∃ (sel:List Nat) (Q:AV→List Box→Prop),
  ACalls E f (unH sel h) (avs.map (unV sel h)) Q∧sel.Nodup∧(∀ j∈sel,j<h.length)∧∀ r h1,Q r h1→k (reV sel h r) (reH sel h h1):=by
 unfold callBK at H;obtain ⟨s0,H⟩:=seesV_some H;obtain ⟨sel,H⟩:=closeK_some H;rw [lenK_eq,Nat.zero_add] at H;split at H
 ·rename_i q;obtain ⟨h1,h2⟩:=okSel_spec q;rw [unHK_eq,mapsK_eq (unVK_eq sel h)] at H;unfold callS at H;obtain ⟨Q,h3,h4⟩:=H;refine .inr ⟨sel,Q,h3,h1,h2,fun r h1 hq=>?_⟩;have:=h4 r h1 hq;dsimp only at this;rw [reVK_eq,reHK_eq] at this;exact this
 ·exact .inl H
section
variable {E:Env} {f0:FuncId} {fid:FId} {k:List AItem} {s:List AV} {cls:List AFrame} {h:List Box} {R:Post}
theorem AW.acall {ops:Array Oper} {o:Oper} {l:List Oper} {fx:Operand} {args:Array Operand} {ts:Array TypeId} {f:FuncId} {a1 a2 av:List AV} {sel:List Nat} {Q:AV→List Box→Prop} (hw:Wanted ops o s true) (ho:o.op = .call { callee := .value fx,args:=args,argTypes:=ts })
  (hf:EvOK E.G s fx (.fn (.func f) a1 a2)) (ha:EvsOK E.G s args.toList av) (hc:ACalls E f (unH sel h) ((a1++av++a2).map (unV sel h)) Q) (hn:sel.Nodup) (hlt:∀ j∈sel,j<h.length)
  (H:∀ r h1,Q r h1→AW E f0 ⟨fid,.reg ops l::k,putS s o.dst (reV sel h r)⟩ cls (reH sel h h1) R):AW E f0 ⟨fid,.reg ops (o::l)::k,s⟩ cls h R:=by
 unfold AW at H ⊢;intro c0 c t ts h0 h1 h2 h3 hr hrow h4 h5 cs;obtain ⟨i,hi,hcn,hok⟩:=reg_at (h1 _ (List.mem_cons_self ..));obtain ⟨v1,v2,e1,e2,e3⟩:=vr_fn (hf c ⟨t,marks fid.dfs⟩ h3 h4);have e4:=ha c ⟨t,marks fid.dfs⟩ h3 h4;have e5:=(e2.append e4).append e3;have hb:HasBody E.P f:=by unfold ACalls at hc; exact hc.1
 obtain ⟨e,w',fr,⟨c',r,hp,v,rfl,rfl,hQ,hh',hv,ho',hst⟩,hcomes,hfn,hleave⟩:=hc.at (c:=c) hn hlt h2 h3 e5 ((bf fid).atR ⟨t,marks fid.dfs⟩ (.inRegion ops (i::(List.range ops.size).drop (ops.size - l.length))::k.map AItem.conc)::(concs cls ts++cs));have hput:VS c' (putS s o.dst (reV sel h r)) ((⟨t,marks fid.dfs⟩:Act).put o.dst v).tmps:=VS.putS (a:=⟨t,marks fid.dfs⟩) (hst.vs h4) o.dst hv;obtain ⟨c2,fr2,r2,u2,q1,q2,q3,q3',q4,q5,q6⟩:=H r hp hQ c0 c' _ ts h0 (ok_cons hok (ok_tail h1)) hh' ho' (hr.step hst) (hrow.step h3 hst) hput (hst.cr h5) cs;refine ⟨c2,fr2,r2,u2,q1,q2,q3,q3',?_,q5,q6⟩;have hrun:=run_call (P:=E.P) (w:=c.w) (a:=⟨t,marks fid.dfs⟩) ho e1 hb;have hargs:(v1.toArray++args.map (⟨t,marks fid.dfs⟩:Act).eval++v2.toArray)=(v1++args.toList.map (⟨t,marks fid.dfs⟩:Act).eval++v2).toArray:=by
  apply Array.ext';simp
 rw [hargs] at hrun;have s1:=step_enter (P:=E.P) (b:=bf fid) (k:=k.map AItem.conc) (cs:=concs cls ts++cs) (rest:=(List.range ops.size).drop (ops.size - l.length)) hi (hw c t h4) hrun;have s2:=step_leave_returned (c:=(bf fid).atR ⟨t,marks fid.dfs⟩ (.inRegion ops (i::(List.range ops.size).drop (ops.size - l.length))::k.map AItem.conc)) (cs:=concs cls ts++cs) hleave;rw [Frame.finish_atR,hi] at s2;have hcur:(⟨fid,.reg ops (o::l)::k,s⟩:AFrame).conc t=(bf fid).atR ⟨t,marks fid.dfs⟩ (.inRegion ops (i::(List.range ops.size).drop (ops.size - l.length))::k.map AItem.conc):=by
  simp only [AFrame.conc,List.map_cons,hcn]
 rw [hcur];refine .head s1 (Steps.trans hcomes (.head s2 ?_));have hnext:(bf fid).atR ((⟨t,marks fid.dfs⟩:Act).put ((some o).bind (·.dst)) v) (.inRegion ops ((List.range ops.size).drop (ops.size - l.length))::k.map AItem.conc)=(⟨fid,.reg ops l::k,putS s o.dst (reV sel h r)⟩:AFrame).conc ((⟨t,marks fid.dfs⟩:Act).put o.dst v).tmps:=by
  simp only [AFrame.conc,List.map_cons,AItem.conc,Option.bind_some];rw [put_defers]
 rw [hnext];exact q4
end
end Go.Eng
end
section
namespace Go.Eng
open Go Go.RowKit
@[irreducible] def caseB (b : Bool) (A B : Prop) : Prop := (b = true → A) ∧ (b = false → B)
theorem caseB_split {b:Bool} {A B:Prop} (h1:b=true→A) (h2:b=false→B):caseB b A B:=by unfold caseB; exact ⟨h1,h2⟩
theorem caseB_true {A B:Prop} (h:A):caseB true A B:=caseB_split (fun _=>h) (fun h=>by cases h)
theorem caseB_false {A B:Prop} (h:B):caseB false A B:=caseB_split (fun h=>by cases h) (fun _=>h)
theorem caseB_yes {b:Bool} {A B:Prop} (hb:b=true) (h:A):caseB b A B:=by subst hb; exact caseB_true h
theorem caseB_no {b:Bool} {A B:Prop} (hb:b=false) (h:B):caseB b A B:=by subst hb; exact caseB_false h
theorem caseB_elim {b:Bool} {A B C:Prop} (h:caseB b A B) (h1:b=true→A→C) (h2:b=false→B→C):C:=by
 unfold caseB at h;cases hb:b
 ·exact h2 hb (h.2 hb)
 ·exact h1 hb (h.1 hb)
@[irreducible] def callP (E : Env) (f : FuncId) (ds : List DV) (h : List Box) (K : AV → List Box → Prop) : Prop :=
 (∃ R1,PCalls E f ds R1∧∀ r,R1 r→K (.d r) h)∨∃ Q,ACalls E f [] (ds.map .d) Q∧∀ r h1,Q r h1→K (reV [] h r) (reH [] h h1)
theorem callP_any {E:Env} {f:FuncId} {ds:List DV} {h:List Box} {K:AV→List Box→Prop} {R1:DV→Prop} (hc:PCalls E f ds R1) (hk:∀ r,R1 r→K (.d r) h):callP E f ds h K:=by unfold callP; exact .inl ⟨R1,hc,hk⟩
theorem callP_eq {E:Env} {f:FuncId} {ds:List DV} {h:List Box} {K:AV→List Box→Prop} {r:DV} (hc:PCalls E f ds (· = r)) (hk:K (.d r) h):callP E f ds h K:=callP_any hc fun _ e=>e ▸ hk
def memB (d:Nat):List Nat→Bool
 | []=>false
 |a::l=>match Nat.beq a d with
  |true=>true
  |false=>memB d l
def callK (G:List (Nat × DV)) (s:List AV) (o:Oper) (stop:Prop) (k:FuncId→List AV→Prop):Prop :=
 match o.op with
 | .call { callee := .value fx,args:=args,.. }=>evalK G s fx stop fun
  | .fn (.func f) a1 a2=>evalsK G s args.toList stop fun av=>appendK a1 av fun a3=>appendK a3 a2 fun a4=>k f a4
  | .d (.fn (.func f))=>evalsK G s args.toList stop fun av=>k f av
  |_=>stop
 |_=>stop
def callsK (inl:List FuncId) (E:Env) (s:List AV) (h:List Box) (o:Oper) (stop:Prop) (k:AV→List Box→Prop):Prop :=
 callK E.G s o stop fun f avs=>match memB f inl with
  |true=>stop
  |false=>allDK avs (callBK E f avs h stop k) fun ds=>callP E f ds h k
theorem callK_sound {G:List (Nat × DV)} {s:List AV} {o:Oper} {stop:Prop} {k:FuncId→List AV→Prop} (H:callK G s o stop k):stop∨∃ (fx:Operand) (args:Array Operand) (ts:Array TypeId) (f:FuncId) (a1 av a2:List AV),
  o.op = .call { callee := .value fx,args:=args,argTypes:=ts }∧EvOK G s fx (.fn (.func f) a1 a2)∧EvsOK G s args.toList av∧k f (a1++av++a2):=by
 unfold callK at H;split at H
 ·rename_i fx args ts hop;rcases evalK_sound H with H | ⟨v,hv,H⟩
  ·exact .inl H
  split at H
  ·rename_i f a1 a2;rcases evalsK_sound H with H | ⟨av,hav,H⟩
   ·exact .inl H
   rw [appendK_eq,appendK_eq] at H;exact .inr ⟨fx,args,ts,f,a1,av,a2,hop,hv,hav,H⟩
  ·rename_i f;rcases evalsK_sound H with H | ⟨av,hav,H⟩
   ·exact .inl H
   refine .inr ⟨fx,args,ts,f,[],av,[],hop,fun c a h1 h2=>?_,hav,by simpa using H⟩;have:=hv c a h1 h2;generalize a.eval fx=u at this;cases this with
   |d _ _ hx =>
    cases hx;exact .fn _ _ _ _ _ rfl rfl (fun j x v hx=>by simp at hx) (fun j x v hx=>by simp at hx)
  ·exact .inl H
 ·exact .inl H
def guardK (ops:Array Oper) (g:Option (Nat × Bool)) (no stop:Prop) (k:Nat→Bool→Prop):Prop :=
 match g with
 |none=>no
 |some (j,b)=>getK ops.toList j stop fun o=>match o.dst with
  |some d=>k d b
  |none=>stop
def sameB:Bool→Bool→Bool
 |true,true=>true
 |false,false=>true
 |_,_=>false
def exitK (id:Nat):List AItem→(stop:Prop)→(List AItem→Prop)→Prop
 | .inBlock i::r,stop,k=>match Nat.beq i id with
  |true=>k r
  |false=>exitK id r stop k
 |_::r,stop,k=>exitK id r stop k
 | [],stop,_=>stop
theorem exitK_sound {id:Nat} {stop:Prop} {k:List AItem→Prop}:∀ {l:List AItem},exitK id l stop k→stop∨∃ r,exitA id l=some r∧k r
 | [],H => .inl H
 | .inBlock i::l,H=>by
  simp only [exitK] at H;split at H
  ·rename_i q; exact .inr ⟨l,by simp only [exitA,q],H⟩
  ·rename_i q;rcases exitK_sound H with h | ⟨r,hr,h⟩
   ·exact .inl h
   ·exact .inr ⟨r,by simp only [exitA,q]; exact hr,h⟩
 | .code c::l,H=>exitK_sound (l:=l) H
 | .inLoop c::l,H=>exitK_sound (l:=l) H
 | .inRF c::l,H=>exitK_sound (l:=l) H
 | .begR::l,H=>exitK_sound (l:=l) H
 | .reg ops q::l,H=>exitK_sound (l:=l) H
@[irreducible] def AWL (E : Env) (fid : FuncId) (R : Post) (_lits : List Nat) (td : List AItem) (s : List AV) (h : List Box) : Prop := AW E R.fx.f0 ⟨⟨fid, R.fx.rnd, R.fx.dfs⟩, td, s⟩ R.fx.cls h R
theorem AWL.of {E:Env} {fid:FuncId} {R:Post} {lits:List Nat} {td:List AItem} {s:List AV} {h:List Box} (H:AW E R.fx.f0 ⟨⟨fid,R.fx.rnd,R.fx.dfs⟩,td,s⟩ R.fx.cls h R):AWL E fid R lits td s h:=by unfold AWL; exact H
theorem AWL.to {E:Env} {fid:FuncId} {R:Post} {lits:List Nat} {td:List AItem} {s:List AV} {h:List Box} (H:AWL E fid R lits td s h):AW E R.fx.f0 ⟨⟨fid,R.fx.rnd,R.fx.dfs⟩,td,s⟩ R.fx.cls h R:=by unfold AWL at H; exact H
def topB (fid:FuncId) (x:FX):Bool:=match x.rnd,x.dfs,x.cls with
 |none,[],[]=>Nat.beq x.f0 fid
 |_,_,_=>false
theorem topB_spec {fid:FuncId} {x:FX} (h:topB fid x=true):x.rnd=none∧x.dfs=[]∧x.cls=[]∧x.f0=fid:=by
 unfold topB at h;split at h
 ·rename_i a b c; exact ⟨a,b,c,Nat.eq_of_beq_eq_true h⟩
 ·cases h
def runK (E:Env) (fid:FuncId) (rs:List ResultVar) (R:Post):Nat→List Nat→List AItem→List AV→List Box→Prop
 | 0,lits,td,s,h=>AWL E fid R lits td s h
 |n+1,lits,td,s,h =>
  match td with
  | []=>match topB fid R.fx with
   |true=>retK E.T s h rs (AWL E fid R lits td s h) R.Q
   |false=>AWL E fid R lits td s h
  | .inBlock _::r=>runK E fid rs R n lits r s h
  | .inLoop _::_=>AWL E fid R lits td s h
  | .inRF _::_=>AWL E fid R lits td s h
  | .begR::_=>AWL E fid R lits td s h
  | .code c::r=>match c with
   | .skip=>runK E fid rs R n lits r s h
   | .seq a b=>runK E fid rs R n lits (.code a :: .code b::r) s h
   | .block id b=>runK E fid rs R n lits (.code b :: .inBlock id::r) s h
   | .exit id=>exitK id r (AWL E fid R lits td s h) fun r'=>runK E fid rs R n lits r' s h
   | .region _ ops false=>runK E fid rs R n lits (.reg ops ops.toList::r) s h
   | .ret=>match topB fid R.fx with
    |true=>retK E.T s h rs (AWL E fid R lits td s h) R.Q
    |false=>AWL E fid R lits td s h
   | .cond x a b=>evalK E.G s x (AWL E fid R lits td s h) fun
    | .d (.bool t)=>caseB t (AWL E fid R lits (.code a::r) s h) (AWL E fid R lits (.code b::r) s h)
    |_=>AWL E fid R lits td s h
   |_=>AWL E fid R lits td s h
  | .reg _ []::r=>runK E fid rs R n lits r s h
  | .reg ops (o::l)::r =>
   let go:Prop:=opK E.T E.G o.op s h (plainK E o.op s h (sideMK E o.op s h (callsK R.fx.inl E s h o (AWL E fid R lits td s h) fun v h'=>putK s o.dst v fun s'=>AWL E fid R lits (.reg ops l::r) s' h')
     fun v h'=>putK s o.dst v fun s'=>AWL E fid R lits (.reg ops l::r) s' h')
     fun v h'=>putK s o.dst v fun s'=>runK E fid rs R n lits (.reg ops l::r) s' h')
    fun v h'=>putK s o.dst v fun s'=>runK E fid rs R n lits (.reg ops l::r) s' h'
   guardK ops o.guard go (AWL E fid R lits td s h) fun d b=>getK s d (AWL E fid R lits td s h) fun
    | .d (.bool t)=>match memB d lits with
     |false=>caseB t (setK s d (.d (.bool true)) fun s'=>AWL E fid R (d::lits) td s' h) (setK s d (.d (.bool false)) fun s'=>AWL E fid R (d::lits) td s' h)
     |true=>match sameB t b with
      |true=>go
      |false=>putK s o.dst (.d .undef) fun s'=>runK E fid rs R n lits (.reg ops l::r) s' h
    | .d .undef=>putK s o.dst (.d .undef) fun s'=>runK E fid rs R n lits (.reg ops l::r) s' h
    |_=>AWL E fid R lits td s h
section
variable {E:Env} {fid:FuncId} {R:Post}
theorem set_same {β:Type}:∀ {l:List β} {d:Nat} {x:β},l[d]? = some x→l.set d x=l
 | [],_,_,h=>by simp at h
 |a::l,0,x,h=>by simp at h; subst h; rfl
 |a::l,d+1,x,h=>by simp only [List.set_cons_succ]; rw [set_same (by simpa using h)]
theorem runK_sound (hE:E.OK) {fn:Func} (hf:E.P.funcs[fid]? = some fn):∀ (n:Nat) (lits:List Nat) (td:List AItem) (s:List AV) (h:List Box),
  runK E fid fn.results.toList R n lits td s h→AW E R.fx.f0 ⟨⟨fid,R.fx.rnd,R.fx.dfs⟩,td,s⟩ R.fx.cls h R:=by
 have ret:∀ (lits:List Nat) (td:List AItem) (s:List AV) (h:List Box),(td=[]∨∃ r,td = .code .ret::r)→(match topB fid R.fx with | true=>retK E.T s h fn.results.toList (AWL E fid R lits td s h) R.Q | false=>AWL E fid R lits td s h)→AW E R.fx.f0 ⟨⟨fid,R.fx.rnd,R.fx.dfs⟩,td,s⟩ R.fx.cls h R:=by
  intro lits td s h htd H;split at H
  ·rename_i q;by_cases hA:AWL E fid R lits td s h
   ·exact hA.to
   ·rw [eq_false hA] at H;obtain ⟨q1,q2,q3,q4⟩:=topB_spec q;rw [q1,q2,q3,q4];rcases htd with rfl | ⟨r,rfl⟩
    ·exact .fall hE hf H
    ·exact .ret hE hf H
  ·exact H.to
 intro n
 induction n with
 |zero=>intro lits td s h H; exact AWL.to H
 |succ n ih =>
  intro lits td s h H;unfold runK at H;split at H
  ·exact ret _ _ s h (.inl rfl) H
  ·exact .inBlock (ih _ _ _ _ H)
  ·exact AWL.to H
  ·exact AWL.to H
  ·exact AWL.to H
  ·rename_i c r;split at H
   ·exact .skip (ih _ _ _ _ H)
   ·exact .seq (ih _ _ _ _ H)
   ·exact .block (ih _ _ _ _ H)
   ·rcases exitK_sound H with h' | ⟨r',hr,H⟩
    ·exact h'.to
    ·exact .exit hr (ih _ _ _ _ H)
   ·exact .region (ih _ _ _ _ H)
   ·exact ret _ _ s h (.inr ⟨_,rfl⟩) H
   ·rcases evalK_sound H with h' | ⟨v,hv,H⟩
    ·exact h'.to
    split at H
    ·rename_i t;refine caseB_elim H (fun e H2=>?_) (fun e H2=>?_)
     ·subst e; exact .cond hv (by simpa using H2.to)
     ·subst e; exact .cond hv (by simpa using H2.to)
    ·exact AWL.to H
   ·exact AWL.to H
  ·exact .regEnd (ih _ _ _ _ H)
  ·rename_i ops o l r
   have go : Wanted ops o s true → (opK E.T E.G o.op s h (plainK E o.op s h (sideMK E o.op s h (callsK R.fx.inl E s h o (AWL E fid R lits (.reg ops (o :: l) :: r) s h) fun v h' => putK s o.dst v fun s' => AWL E fid R lits (.reg ops l :: r) s' h')
         fun v h' => putK s o.dst v fun s' => AWL E fid R lits (.reg ops l :: r) s' h')
         fun v h' => putK s o.dst v fun s' => runK E fid fn.results.toList R n lits (.reg ops l :: r) s' h')
     fun v h'=>putK s o.dst v fun s'=>runK E fid fn.results.toList R n lits (.reg ops l::r) s' h')→AW E R.fx.f0 ⟨⟨fid,R.fx.rnd,R.fx.dfs⟩,.reg ops (o::l)::r,s⟩ R.fx.cls h R:=by
    intro hw H;rcases opK_sound hE H with H | ⟨v,h',H,ho⟩
    ·rcases plainK_sound hE H with H | ⟨v,h',H,ho⟩
     case inr =>
      rw [putK_eq] at H;exact .op hw ho (ih _ _ _ _ H)
     rcases sideMK_sound hE H with H | ⟨v,h',H,ho⟩
     case inr =>
      rw [putK_eq] at H;exact .op hw ho H.to
     unfold callsK at H;rcases callK_sound H with H | ⟨fx,args,ts,f,a1,av,a2,hop,hv,hav,H⟩
     ·exact AWL.to H
     split at H
     ·exact AWL.to H
     rcases allDK_cases (a1++av++a2) (callBK E f (a1++av++a2) h (AWL E fid R lits (.reg ops (o::l)::r) s h) fun v h'=>putK s o.dst v fun s'=>AWL E fid R lits (.reg ops l::r) s' h') (fun ds=>callP E f ds h fun v h'=>putK s o.dst v fun s'=>AWL E fid R lits (.reg ops l::r) s' h') with ⟨ds,e1,e2⟩ | e2
     ·rw [e2] at H;unfold callP at H;rcases H with ⟨R1,hc,hk⟩ | ⟨Q,hc,hk⟩
      ·refine .call hw hop hv hav e1 hc fun u hu=>?_;have:=hk u hu;simp only [putK_eq] at this;exact this.to
      ·refine .acall (sel:=[]) hw hop hv hav (Q:=Q) ?_ List.nodup_nil (fun j hj=>by simp at hj) fun u h1 hu=>?_
       ·have e3:(a1++av++a2).map (unV [] h)=ds.map .d:=by rw [e1,List.map_map]; rfl
        rw [e3];exact hc
       ·have:=hk u h1 hu;simp only [putK_eq] at this;exact this.to
     ·rw [e2] at H;rcases callBK_sound H with H | ⟨sel,Q,hc,hn,hlt,hk⟩
      ·exact AWL.to H
      refine .acall hw hop hv hav hc hn hlt fun u h1 hu=>?_;have:=hk u h1 hu;simp only [putK_eq] at this;exact this.to
    ·rw [putK_eq] at H;exact .op hw ho (ih _ _ _ _ H)
   dsimp only at H;unfold guardK at H;split at H
   ·rename_i hg;exact go (wanted_none hg) H
   ·rename_i j b hg;rcases getK_or H with H | ⟨oj,hoj,H⟩
    ·exact AWL.to H
    split at H
    ·rename_i d hd;rcases getK_or H with H | ⟨x,hx,H⟩
     ·exact AWL.to H
     split at H
     ·rename_i t;split at H
      ·refine caseB_elim H (fun e H2=>?_) (fun e H2=>?_)
       ·subst e;rw [setK_eq,set_same hx] at H2;exact AWL.to H2
       ·subst e;rw [setK_eq,set_same hx] at H2;exact AWL.to H2
      ·have hw:=wanted_lit hg hoj hd hx;split at H
       ·rename_i q;have:(t==b)=true:=by cases t <;> cases b <;> first | rfl | cases q
        rw [this] at hw;exact go hw H
       ·rename_i q;have:(t==b)=false:=by cases t <;> cases b <;> first | rfl | cases q
        rw [this] at hw;rw [putK_eq] at H;exact .opSkip hw (ih _ _ _ _ H)
     ·rw [putK_eq] at H;exact .opSkip (wanted_undef hg hoj hd hx) (ih _ _ _ _ H)
     ·exact AWL.to H
    ·exact AWL.to H
theorem AWL.run (hE:E.OK) {fn:Func} (hf:E.P.funcs[fid]? = some fn) (n:Nat) {lits:List Nat} {td:List AItem} {s:List AV} {h:List Box} (H:runK E fid fn.results.toList R n lits td s h):AWL E fid R lits td s h := .of (runK_sound hE hf n lits td s h H)
theorem PCalls.run (hE : E.OK) {fn : Func} (hf : E.P.funcs[fid]? = some fn) {body : Code} (hb : fn.body = some body) (hn : (fn.name == "runtime.NumGoroutine") = false) (n : Nat) {args : List DV} {R : DV → Prop}
  (H:mapK .d args fun a=>runK E fid fn.results.toList ⟨0,deepQ R,[],⟨fid,none,[],[],[],[]⟩⟩ n [] [.code body] (enterS a fn.ntmps) []):PCalls E fid args R:=by
 rw [mapK_eq] at H;exact .of_A (.of_AW hf hb hn (fun i g ts l h=>by simp at h) (runK_sound hE hf n _ _ _ _ H))
def freshB:List Box→Bool
 | []=>true
 | .arr g _ _::l=>match Nat.beq g 0 with
  |true=>freshB l
  |false=>false
 |_::l=>freshB l
theorem freshB_spec:∀ {h:List Box},freshB h=true→Fresh h
 | [],_=>fun i g ts l h=>by simp at h
 |b::r,H=>by
  have hr:freshB r=true:=by
   unfold freshB at H;split at H
   ·rename_i e; cases e
   ·rename_i e; cases e; split at H
    ·exact H
    ·cases H
   ·rename_i e; cases e; exact H
  intro i g ts l h;cases i with
  |zero =>
   simp at h;subst h;simp only [freshB] at H;split at H
   ·rename_i q; exact Nat.eq_of_beq_eq_true q
   ·cases H
  |succ i=>exact freshB_spec hr i g ts l (by simpa using h)
theorem ACalls.run (hE : E.OK) {fn : Func} (hf : E.P.funcs[fid]? = some fn) {body : Code} (hb : fn.body = some body) (hn : (fn.name == "runtime.NumGoroutine") = false) (n : Nat) {h : List Box} (hfr : freshB h = true) {args : List AV} {Q : AV → List Box → Prop}
  (H:runK E fid fn.results.toList ⟨h.length,Q,[],⟨fid,none,[],[],[],[]⟩⟩ n [] [.code body] (enterS args fn.ntmps) h):ACalls E fid h args Q :=
 .of_AW hf hb hn (freshB_spec hfr) (runK_sound hE hf n _ _ _ _ H)
end
end Go.Eng
end
section
namespace Go.Eng
open Go Go.RowKit
def sub1K (h h':List Box) (x y:AV) (K:Prop):Prop :=
 match y with
 | .any=>K
 | .d b=>match x with
  | .d a=>a=b∧K
  |_=>False
 | .own b' g'=>match x with
  | .own b g=>match Nat.beq b b' with
   |true=>getK h b False fun
    | .arr g0 _ _=>getK h' b False fun
     | .arr g1 _ _=>match Nat.beq g g0,Nat.beq g' g1 with
      |true,true=>K
      |_,_=>False
     |_=>False
    |_=>False
   |false=>False
  |_=>False
 | .ptr b' off'=>match x with
  | .ptr b off=>match Nat.beq b b',Nat.beq off off' with
   |true,true=>getK h b False fun
    | .cells _=>getK h' b False fun
     | .cells _=>K
     |_=>False
    |_=>False
   |_,_=>False
  |_=>False
 | .eptr e' off'=>match x with
  | .eptr e off=>match Nat.beq off off' with
   |true=>e=e'∧K
   |false=>False
  |_=>False
 | .map b'=>match x with
  | .map b=>match Nat.beq b b' with
   |true=>getK h b False fun
    | .map _=>getK h' b False fun
     | .map _=>K
     |_=>False
    |_=>False
   |false=>False
  |_=>False
 |_=>False
def subs1K (h h':List Box):List AV→List AV→Prop→Prop
 | [],[],K=>K
 |x::l,y::l',K=>sub1K h h' x y (subs1K h h' l l' K)
 |_,_,_=>False
def sub2K (h h':List Box) (x y:AV) (K:Prop):Prop :=
 match y with
 | .agg l'=>match x with
  | .agg l=>subs1K h h' l l' K
  |_=>False
 | .tup l'=>match x with
  | .tup l=>subs1K h h' l l' K
  |_=>False
 | .fn f' a' b'=>match x with
  | .fn f a b=>f=f'∧subs1K h h' a a' (subs1K h h' b b' K)
  |_=>False
 |y=>sub1K h h' x y K
def subsK (h h':List Box):List AV→List AV→Prop→Prop
 | [],[],K=>K
 |x::l,y::l',K=>sub2K h h' x y (subsK h h' l l' K)
 |_,_,_=>False
def gensB (g g':Nat):Bool:=match Nat.beq g' 0 with
 |true=>Nat.beq g 0
 |false=>true
theorem gensB_spec {g g':Nat} (h:gensB g g'=true):g'=0→g=0:=fun e=>by
 subst e;exact Nat.eq_of_beq_eq_true h
def subBK (h h':List Box) (x y:Box) (K:Prop):Prop :=
 match y with
 | .gone=>K
 | .cells l'=>match x with
  | .cells l=>subs1K h h' l l' K
  |_=>False
 | .arr g' ts' l'=>match x with
  | .arr g ts l=>match gensB g g' with
   |true=>ts=ts'∧l=l'∧K
   |false=>False
  |_=>False
 | .map es'=>match x with
  | .map es=>es=es'∧K
  |_=>False
def subHK (h h':List Box):List Box→List Box→Prop→Prop
 |_,[],K=>K
 |x::l,y::l',K=>subBK h h' x y (subHK h h' l l' K)
 |_,_,_=>False
def cutOwn (own:Nat→Option (Nat × Nat)) (h':List Box) (i:Nat):Option (Nat × Nat):=match h'[i]? with
 |none=>none
 |some .gone=>none
 |some _=>own i
def Cx.cut (c:Cx) (h':List Box):Cx:={ c with own:=cutOwn c.own h',heap:=h' }
def BSub (x y:Box):Prop:=match y with
 | .gone=>True
 | .cells l'=>∃ l,x = .cells l∧l.length=l'.length
 | .arr g' ts' l'=>∃ g,x = .arr g ts' l'∧(g'=0→g=0)
 | .map es'=>x = .map es'
def HSub (h h':List Box):Prop:=∀ (i:Nat) (y:Box),h'[i]? = some y→∃ x,h[i]? = some x∧BSub x y
theorem cut_own {c:Cx} {h':List Box} {i:Nat} {y:Box} (hy:h'[i]? = some y) (hg:y ≠ .gone):(c.cut h').own i=c.own i:=by
 simp only [Cx.cut,cutOwn,hy]
theorem cut_own_le {c:Cx} {h':List Box} {i:Nat} {p:Nat × Nat} (hi:(c.cut h').own i=some p):c.own i=some p∧∃ y,h'[i]? = some y∧y ≠ .gone:=by
 simp only [Cx.cut,cutOwn] at hi;split at hi
 ·cases hi
 ·cases hi
 ·rename_i y hne hy; exact ⟨hi,y,hy,fun e=>hne (by rw [← e])⟩
theorem cut_vd {c:Cx} {h':List Box} {x:DV} {v:Value} (hv:VD c.bad c.w x v):VD (c.cut h').bad (c.cut h').w x v :=
 hv.mono fun _ _ hn=>⟨fun hb=>hn (hb.elim .inl fun ⟨i,n,hi⟩ => .inr ⟨i,n,(cut_own_le hi).1⟩),rfl⟩
theorem sub1K_sound {h h':List Box} {x y:AV} {K:Prop} (H:sub1K h h' x y K) (hs:HSub h h'):K∧∀ (c:Cx) (v:Value),c.heap=h→VR c x v→VR (c.cut h') y v:=by
 unfold sub1K at H;split at H
 ·exact ⟨H,fun c v _ _ => .any v⟩
 ·split at H
  ·obtain ⟨rfl,H⟩:=H;exact ⟨H,fun c v _ hv=>by cases hv with | d _ _ hv=>exact .d _ _ (cut_vd hv)⟩
  ·exact H.elim
 ·rename_i b' g';split at H
  ·rename_i b g;split at H
   ·rename_i q;have:=Nat.eq_of_beq_eq_true q;subst this;rcases getK_or H with H1 | ⟨bx,hb,H1⟩
    ·exact H1.elim
    clear H;split at H1
    ·rename_i g0 ts l;rcases getK_or H1 with H2 | ⟨by',hb',H2⟩
     ·exact H2.elim
     clear H1;split at H2
     ·rename_i g1 ts' l';split at H2
      ·rename_i q1 q2;have q1:=Nat.eq_of_beq_eq_true q1;have q2:=Nat.eq_of_beq_eq_true q2;subst q1; subst q2;refine ⟨H2,fun c v hc hv=>?_⟩;obtain ⟨x0,k1,gx,k2,-⟩:=hs b _ hb';rw [hb] at k1;cases k1;cases k2;subst hc;have ho:=cut_own (c:=c) hb' (by simp);rcases vr_own hb hv with ⟨blk,cap,r1,rfl⟩ | ⟨rfl,rfl,r1⟩
       ·exact .own b _ _ _ blk cap hb' (ho.trans r1)
       ·exact .ownnil b _ _ hb' (ho.trans r1)
      ·exact H2.elim
     ·exact H2.elim
    ·exact H1.elim
   ·exact H.elim
  ·exact H.elim
 ·split at H
  ·split at H
   ·rename_i q1 q2;have q1:=Nat.eq_of_beq_eq_true q1;have q2:=Nat.eq_of_beq_eq_true q2;subst q1; subst q2;rcases getK_or H with H | ⟨bx,hb,H⟩
    ·exact H.elim
    split at H
    ·rcases getK_or H with H | ⟨by',hb',H⟩
     ·exact H.elim
     split at H
     ·refine ⟨H,fun c v hc hv=>?_⟩;subst hc;have ho:=cut_own (c:=c) hb' (by simp);cases hv with
      |ptr _ _ cs blk cap k1 k2=>exact .ptr _ _ _ blk cap hb' (ho.trans k2)
      |ptrgone _ _ _ k1 _=>rw [hb] at k1; cases k1
     ·exact H.elim
    ·exact H.elim
   ·exact H.elim
  ·exact H.elim
 ·split at H
  ·split at H
   ·rename_i q;have:=Nat.eq_of_beq_eq_true q;subst this;obtain ⟨rfl,H⟩:=H;refine ⟨H,fun c v hc hv=>?_⟩;cases hv with
    |eptr _ _ blk o f k1 k2 k3 k4=>exact .eptr _ _ blk o f (fun hb=>k1 (hb.elim .inl fun ⟨i,n,hi⟩ => .inr ⟨i,n,(cut_own_le hi).1⟩)) k2 k3 (fun j x hx=>cut_vd (k4 j x hx))
   ·exact H.elim
  ·exact H.elim
 ·split at H
  ·split at H
   ·rename_i q1;have q1:=Nat.eq_of_beq_eq_true q1;subst q1;rcases getK_or H with H | ⟨bx,hb,H⟩
    ·exact H.elim
    split at H
    ·rcases getK_or H with H | ⟨by',hb',H⟩
     ·exact H.elim
     split at H
     ·refine ⟨H,fun c v hc hv=>?_⟩;subst hc;have ho:=cut_own (c:=c) hb' (by simp);cases hv with
      |map _ es blk cap k1 k2=>exact .map _ _ blk cap hb' (ho.trans k2)
      |mapgone _ _ k1 _=>rw [hb] at k1; cases k1
     ·exact H.elim
    ·exact H.elim
   ·exact H.elim
  ·exact H.elim
 ·exact H.elim
theorem subs1K_sound {h h':List Box} {K:Prop} (hs:HSub h h'):∀ {l l':List AV},subs1K h h' l l' K→K∧l.length=l'.length∧∀ (c:Cx) (vs:List Value),c.heap=h→VL c l vs→VL (c.cut h') l' vs
 | [],[],H=>⟨H,rfl,fun c vs _ hv=>⟨hv.1,fun j x v hx=>by simp at hx⟩⟩
 |x::l,y::l',H=>by
  simp only [subs1K] at H;obtain ⟨H,h1⟩:=sub1K_sound H hs;obtain ⟨H,h2,h3⟩:=subs1K_sound hs H;refine ⟨H,by simp [h2],fun c vs hc hv=>?_⟩;cases vs with
  |nil=>have:=hv.1; simp at this
  |cons v vs=>exact .cons (h1 c v hc hv.head.1) (h3 c vs hc hv.head.2)
 | [],_::_,H=>H.elim
 |_::_,[],H=>H.elim
theorem sub2K_sound {h h':List Box} {x y:AV} {K:Prop} (H:sub2K h h' x y K) (hs:HSub h h'):K∧∀ (c:Cx) (v:Value),c.heap=h→VR c x v→VR (c.cut h') y v:=by
 unfold sub2K at H;split at H
 ·split at H
  ·obtain ⟨H,-,h1⟩:=subs1K_sound hs H;refine ⟨H,fun c v hc hv=>?_⟩;obtain ⟨vs,rfl,hvl⟩:=vr_agg_inv hv;exact vr_agg (h1 c vs hc hvl)
  ·exact H.elim
 ·split at H
  ·obtain ⟨H,-,h1⟩:=subs1K_sound hs H;refine ⟨H,fun c v hc hv=>?_⟩;cases hv with
   |tup _ vs hl hval =>
    have:=h1 c vs.toList hc ⟨by simpa using hl,fun j x v hx hv=>hval j x v hx (by simpa using hv)⟩;exact .tup _ vs (by simpa using this.1) (fun j x v hx hv=>this.2 j x v hx (by simpa using hv))
  ·exact H.elim
 ·split at H
  ·obtain ⟨rfl,H⟩:=H;obtain ⟨H,-,h1⟩:=subs1K_sound hs H;obtain ⟨H,-,h2⟩:=subs1K_sound hs H;refine ⟨H,fun c v hc hv=>?_⟩;obtain ⟨v1,v2,rfl,r1,r2⟩:=vr_fn hv;have r1:=h1 c v1 hc r1;have r2:=h2 c v2 hc r2;exact .fn _ _ _ _ _ (by simpa using r1.1) (by simpa using r2.1) (fun j x v hx hv=>r1.2 j x v hx (by simpa using hv)) (fun j x v hx hv=>r2.2 j x v hx (by simpa using hv))
  ·exact H.elim
 ·exact sub1K_sound H hs
theorem subsK_sound {h h':List Box} {K:Prop} (hs:HSub h h'):∀ {l l':List AV},subsK h h' l l' K→K∧∀ (c:Cx) (vs:List Value),c.heap=h→VL c l vs→VL (c.cut h') l' vs
 | [],[],H=>⟨H,fun c vs _ hv=>⟨hv.1,fun j x v hx=>by simp at hx⟩⟩
 |x::l,y::l',H=>by
  simp only [subsK] at H;obtain ⟨H,h1⟩:=sub2K_sound H hs;obtain ⟨H,h3⟩:=subsK_sound hs H;refine ⟨H,fun c vs hc hv=>?_⟩;cases vs with
  |nil=>have:=hv.1; simp at this
  |cons v vs=>exact .cons (h1 c v hc hv.head.1) (h3 c vs hc hv.head.2)
 | [],_::_,H=>H.elim
 |_::_,[],H=>H.elim
theorem len_of_subs1 {h h':List Box} {K:Prop}:∀ {l l':List AV},subs1K h h' l l' K→l.length=l'.length∧K
 | [],[],H=>⟨rfl,H⟩
 |x::l,y::l',H=>by
  have hK:∀ {Q:Prop},sub1K h h' x y Q→Q:=fun {Q} H=>by
   unfold sub1K at H;repeat' split at H
   all_goals first
    |exact H
    |exact H.elim
    |exact H.2
    |(rcases getK_or H with H | ⟨_, _, H⟩
      · exact H.elim
      split at H
      · rcases getK_or H with H | ⟨_, _, H⟩
        · exact H.elim
        repeat' split at H
        all_goals first | exact H | exact H.elim
      all_goals exact H.elim)
  simp only [subs1K] at H;obtain ⟨h1,h2⟩:=len_of_subs1 (hK H);exact ⟨by simp [h1],h2⟩
 | [],_::_,H=>H.elim
 |_::_,[],H=>H.elim
theorem subHK_hsub {h h':List Box} {K:Prop}:∀ {l l':List Box},subHK h h' l l' K→HSub l l'∧K
 | [],[],H=>⟨fun i y hy=>by simp at hy,H⟩
 |_::_,[],H=>⟨fun i y hy=>by simp at hy,H⟩
 |x::l,y::l',H=>by
  simp only [subHK] at H;have key:BSub x y∧subHK h h' l l' K:=by
   unfold subBK at H;split at H
   ·exact ⟨trivial,H⟩
   ·split at H
    ·obtain ⟨h1,h2⟩:=len_of_subs1 H; exact ⟨⟨_,rfl,h1⟩,h2⟩
    ·exact H.elim
   ·split at H
    ·split at H
     ·rename_i q; obtain ⟨rfl,rfl,H⟩:=H; exact ⟨⟨_,rfl,gensB_spec q⟩,H⟩
     ·exact H.elim
    ·exact H.elim
   ·split at H
    ·obtain ⟨rfl,H⟩:=H; exact ⟨rfl,H⟩
    ·exact H.elim
  obtain ⟨h1,h2⟩:=subHK_hsub key.2;refine ⟨fun i z hz=>?_,h2⟩;cases i with
  |zero=>simp at hz; subst hz; exact ⟨x,rfl,key.1⟩
  |succ i=>obtain ⟨w,k1,k2⟩:=h1 i z (by simpa using hz); exact ⟨w,by simpa using k1,k2⟩
 | [],_::_,H=>H.elim
theorem subHK_cells {h h':List Box} {K:Prop} (hs:HSub h h'):∀ {l l':List Box},subHK h h' l l' K→∀ (i:Nat) (cs:List AV),l'[i]? = some (.cells cs)→∃ cs0,l[i]? = some (.cells cs0)∧∀ (c:Cx) (vs:List Value),c.heap=h→VL c cs0 vs→VL (c.cut h') cs vs
 |_,[],H=>fun i y hy=>by simp at hy
 |x::l,y::l',H=>by
  simp only [subHK] at H;intro i cs hi;cases i with
  |zero =>
   simp at hi;subst hi;simp only [subBK] at H;split at H
   ·obtain ⟨-,-,h3⟩:=subs1K_sound hs H;exact ⟨_,rfl,h3⟩
   ·exact H.elim
  |succ i =>
   have hrest:subHK h h' l l' K:=by
    unfold subBK at H;split at H
    ·exact H
    ·split at H
     ·exact (len_of_subs1 H).2
     ·exact H.elim
    ·split at H
     ·split at H
      ·exact H.2.2
      ·exact H.elim
     ·exact H.elim
    ·split at H
     ·exact H.2
     ·exact H.elim
   obtain ⟨cs0,k1,k2⟩:=subHK_cells hs hrest i cs (by simpa using hi);exact ⟨cs0,by simpa using k1,k2⟩
 | [],_::_,H=>H.elim
theorem HOk.cut {G:List (Nat × DV)} {c:Cx} (ho:HOk G c) {h':List Box} (hs:HSub c.heap h') (hcells:∀ (i:Nat) (cs:List AV),h'[i]? = some (.cells cs)→∃ cs0,c.heap[i]? = some (.cells cs0)∧∀ (vs:List Value),VL c cs0 vs→VL (c.cut h') cs vs):HOk G (c.cut h') where
 barlt:=ho.barlt
 ownlt:=fun i b n hi=>by
  obtain ⟨h1,y,h2,-⟩:=cut_own_le hi;exact ⟨(ho.ownlt i b n h1).1,lt_of_getElem? h2⟩
 inj:=fun i j b n m hi hj=>ho.inj i j b n m (cut_own_le hi).1 (cut_own_le hj).1
 sep:=fun i b n hi=>ho.sep i b n (cut_own_le hi).1
 box:=fun i bx hi=>by
  have hi':h'[i]? = some bx:=hi;obtain ⟨x,hx,hb⟩:=hs i bx hi';cases bx with
  |gone=>show (c.cut h').own i=none; simp only [Cx.cut,cutOwn,hi']
  |cells cs =>
   obtain ⟨cs0,k1,k2⟩:=hcells i cs hi';obtain ⟨blk,cap,vs,ty,g1,g2,g3⟩:=ho.cells k1;have:=k2 vs.toList g3;exact ⟨blk,cap,vs,ty,(cut_own hi' (by simp)).trans g1,g2,by simpa using this.1.symm,fun j x v hx hv=>this.2 j x v hx (by simpa using hv)⟩
  |arr g ts l =>
   obtain ⟨g0,rfl,-⟩:=hb;obtain ⟨q0,q1,q2⟩:=ho.box i _ hx;refine ⟨q0,q1,?_⟩;have ho':=cut_own (c:=c) hi' (by simp);rcases q2 with ⟨q2,q3⟩ | ⟨blk,cap,vs,q2,q3,q4,q5,q6,q7⟩
   ·exact .inl ⟨ho'.trans q2,q3⟩
   ·refine .inr ⟨blk,cap,vs,ho'.trans q2,q3,q4,q5,q6,fun i j e x he hx=>?_⟩;obtain ⟨v,r1,r2,r3⟩:=q7 i j e x he hx;exact ⟨v,r1,r2,cut_vd r3⟩
  |map es =>
   obtain rfl:x = .map es:=hb;obtain ⟨blk,cap,en,ck,k1,k2,k3,k4⟩:=ho.box i _ hx;exact ⟨blk,cap,en,ck,(cut_own hi' (by simp)).trans k1,k2,k3,fun j k x m hx hm=>⟨cut_vd (k4 j k x m hx hm).1,cut_vd (k4 j k x m hx hm).2⟩⟩
 glob:=fun g e hg=>by
  have hp:∀ p,VR c (.eptr e 0) p→VR (c.cut h') (.eptr e 0) p:=fun p hp=>by
   cases hp with
   |eptr _ _ blk o' fv k1 k2 k3 k4=>exact .eptr _ _ blk o' fv (fun hb=>k1 (hb.elim .inl fun ⟨i,n,hi⟩ => .inr ⟨i,n,(cut_own_le hi).1⟩)) k2 k3 (fun j x hx=>cut_vd (k4 j x hx))
  exact hp _ (ho.glob g e hg)
def subAllK (n:Nat) (h:List Box) (s:List AV) (h':List Box) (s':List AV):Prop:=match Nat.ble n h'.length with
 |true=>subHK h h' h h' (subsK h h' s s' True)
 |false=>False
theorem RelX.cut {c0 c:Cx} (hr:RelX c0 c) {h':List Box} (hn:c0.heap.length≤h'.length) (hs:HSub c.heap h'):RelX c0 (c.cut h') where
 lim:=hr.lim
 own0:=hr.own0
 bar:=hr.bar
 barnew:=hr.barnew
 os:=hr.os
 tape:=hr.tape
 output:=hr.output
 size:=hr.size
 keep:=hr.keep
 newown:=fun i b n hi hb=>hr.newown i b n (cut_own_le hi).1 hb
 boxes:=fun i bx hi=>by
  have hlt:i<h'.length:=Nat.lt_of_lt_of_le (lt_of_getElem? hi) hn;obtain ⟨y,hy⟩:∃ y,h'[i]? = some y:=⟨h'[i],by simp [hlt]⟩;obtain ⟨x,hx,hb⟩:=hs i y hy;have hy':(c.cut h').heap[i]? = some y:=hy;have h1:=hr.boxes i bx hi;have hgone:y = .gone→RelBox c0 (c.cut h') i bx:=fun e=>by
   subst e;cases bx with
   |cells cs=>exact .inr hy'
   |arr g sz l=>exact .inr hy'
   |map es=>exact .inr hy'
   |gone=>exact hy'
  cases y with
  |gone=>exact hgone rfl
  |cells cs' =>
   obtain ⟨cs1,rfl,hl⟩:=hb;have ho:=cut_own (c:=c) hy (by simp);cases bx with
   |cells cs =>
    rcases h1 with ⟨cs2,h1,h2,h3⟩ | h1
    ·rw [hx] at h1; cases h1;exact .inl ⟨cs',hy',ho.trans h2,by omega⟩
    ·rw [hx] at h1; cases h1
   |arr g sz l =>
    rcases h1 with ⟨_,_,h1,_⟩ | h1 <;> (rw [hx] at h1; cases h1)
   |map es=>rcases h1 with ⟨_,h1,_⟩ | h1 <;> (rw [hx] at h1; cases h1)
   |gone=>have h1:c.heap[i]? = some .gone:=h1; rw [hx] at h1; cases h1
  |arr g' ts' l' =>
   obtain ⟨g1,rfl,hl⟩:=hb;have ho:=cut_own (c:=c) hy (by simp);cases bx with
   |cells cs=>rcases h1 with ⟨_,h1,_⟩ | h1 <;> (rw [hx] at h1; cases h1)
   |arr g sz l =>
    rcases h1 with ⟨g2,l2,h1,h2⟩ | h1
    ·rw [hx] at h1; cases h1;refine .inl ⟨g',l',hy',?_⟩;by_cases hz:g'=0
     ·have:=hl hz;rcases h2 with h2 | ⟨h2,h3,h4⟩
      ·omega
      ·exact .inr ⟨hz,h3,ho.trans h4⟩
     ·left; omega
    ·rw [hx] at h1; cases h1
   |map es=>rcases h1 with ⟨_,h1,_⟩ | h1 <;> (rw [hx] at h1; cases h1)
   |gone=>have h1:c.heap[i]? = some .gone:=h1; rw [hx] at h1; cases h1
  |map es' =>
   obtain rfl:x = .map es':=hb;have ho:=cut_own (c:=c) hy (by simp);cases bx with
   |cells cs=>rcases h1 with ⟨_,h1,_⟩ | h1 <;> (rw [hx] at h1; cases h1)
   |arr g sz l=>rcases h1 with ⟨_,_,h1,_⟩ | h1 <;> (rw [hx] at h1; cases h1)
   |map es =>
    rcases h1 with ⟨es2,h1,h2⟩ | h1
    ·rw [hx] at h1; cases h1;exact .inl ⟨es',hy',ho.trans h2⟩
    ·rw [hx] at h1; cases h1
   |gone=>have h1:c.heap[i]? = some .gone:=h1; rw [hx] at h1; cases h1
def self1K (h h':List Box) (x:AV) (K:Prop):Prop :=
 match x with
 | .any=>K
 | .d _=>K
 | .own b g=>getK h' b False fun
  | .gone=>K
  | .arr g1 _ _=>getK h b False fun
   | .arr g0 _ _=>match Nat.blt g g1 with
    |true=>match Nat.ble g g0 with
     |true=>K
     |false=>False
    |false=>match Nat.beq g g0,Nat.beq g g1 with
     |true,true=>K
     |_,_=>False
   |_=>False
  |_=>False
 | .ptr b _=>getK h' b False fun
  | .gone=>K
  | .cells _=>getK h b False fun
   | .cells _=>K
   |_=>False
  |_=>False
 | .eptr _ _=>K
 | .map b=>getK h' b False fun
  | .gone=>K
  | .map _=>getK h b False fun
   | .map _=>K
   |_=>False
  |_=>False
 | .aptr b g _ _=>getK h' b False fun
  | .gone=>K
  | .arr g1 _ _=>getK h b False fun
   | .arr g0 _ _=>match Nat.blt g g1 with
    |true=>match Nat.ble g g0 with
     |true=>K
     |false=>False
    |false=>match Nat.beq g g0,Nat.beq g g1 with
     |true,true=>K
     |_,_=>False
   |_=>False
  |_=>False
 |_=>False
def selfs1K (h h':List Box):List AV→Prop→Prop
 | [],K=>K
 |x::l,K=>self1K h h' x (selfs1K h h' l K)
def self2K (h h':List Box) (x:AV) (K:Prop):Prop :=
 match x with
 | .agg l=>selfs1K h h' l K
 | .tup l=>selfs1K h h' l K
 | .fn _ a b=>selfs1K h h' a (selfs1K h h' b K)
 |x=>self1K h h' x K
def selfsK (h h':List Box):List AV→Prop→Prop
 | [],K=>K
 |x::l,K=>self2K h h' x (selfsK h h' l K)
def selfFK (h h':List Box):List AFrame→Prop→Prop
 | [],K=>K
 |f::l,K=>selfsK h h' f.slots (selfFK h h' l K)
def selfGK (h h':List Box):List Ghost→Prop→Prop
 | [],K=>K
 | .loop i::l,K=>selfsK h h' i.slots (selfGK h h' l K)
 | .mark _::l,K=>selfGK h h' l K
 |_::_,_=>False
def selfXK (h h':List Box) (x:FX) (K:Prop):Prop:=selfFK h h' x.cls (selfGK h h' x.loops K)
theorem getK_K {β:Type} {l:List β} {i:Nat} {k:β→Prop} {K:Prop} (hk:∀ x,k x→K) (H:getK l i False k):K:=by
 rcases getK_or H with H | ⟨x,_,H⟩
 ·exact H.elim
 ·exact hk x H
theorem self1K_K {h h':List Box} {x:AV} {K:Prop} (H:self1K h h' x K):K:=by
 have arr:∀ (b g:Nat),(getK h' b False fun
  | .gone=>K
  | .arr g1 _ _=>getK h b False fun
   | .arr g0 _ _=>match Nat.blt g g1 with
    |true=>match Nat.ble g g0 with
     |true=>K
     |false=>False
    |false=>match Nat.beq g g0,Nat.beq g g1 with
     |true,true=>K
     |_,_=>False
   |_=>False
  |_=>False)→K:=fun b g H=>getK_K (fun y H=>by
   split at H
   ·exact H
   ·refine getK_K (fun z H=>?_) H;split at H
    ·split at H
     ·split at H
      ·exact H
      ·exact H.elim
     ·split at H
      ·exact H
      ·exact H.elim
    ·exact H.elim
   ·exact H.elim) H
 cases x with
 |own b g=>exact arr b g H
 |aptr b g i off=>exact arr b g H
 |ptr b off =>
  exact getK_K (fun y H=>by
   split at H
   ·exact H
   ·refine getK_K (fun z H=>?_) H;split at H
    ·exact H
    ·exact H.elim
   ·exact H.elim) H
 |map b =>
  exact getK_K (fun y H=>by
   split at H
   ·exact H
   ·refine getK_K (fun z H=>?_) H;split at H
    ·exact H
    ·exact H.elim
   ·exact H.elim) H
 |any=>exact H
 |d x=>exact H
 |eptr e off=>exact H
 |agg l=>exact H.elim
 |tup l=>exact H.elim
 |fn f a b=>exact H.elim
theorem selfs1K_K {h h':List Box}:∀ {l:List AV} {K:Prop},selfs1K h h' l K→K
 | [],_,H=>H
 |_::_,_,H=>selfs1K_K (self1K_K H)
theorem self2K_K {h h':List Box} {x:AV} {K:Prop} (H:self2K h h' x K):K:=by
 unfold self2K at H;split at H
 ·exact selfs1K_K H
 ·exact selfs1K_K H
 ·exact selfs1K_K (selfs1K_K H)
 ·exact self1K_K H
theorem selfsK_K {h h':List Box}:∀ {l:List AV} {K:Prop},selfsK h h' l K→K
 | [],_,H=>H
 |_::_,_,H=>selfsK_K (self2K_K H)
theorem selfFK_K {h h':List Box}:∀ {l:List AFrame} {K:Prop},selfFK h h' l K→K
 | [],_,H=>H
 |_::_,_,H=>selfFK_K (selfsK_K H)
theorem selfGK_K {h h':List Box}:∀ {l:List Ghost} {K:Prop},selfGK h h' l K→K
 | [],_,H=>H
 | .loop _::_,_,H=>selfGK_K (selfsK_K H)
 | .mark _::l,_,H=>selfGK_K (l:=l) H
 | .row _::_,_,H=>H.elim
 | .iter _::_,_,H=>H.elim
theorem self1K_sound {h h':List Box} (hs:HSub h h') {x:AV} {K:Prop} (H:self1K h h' x K):K∧∀ (c:Cx),c.heap=h→∀ v,VR c x v→VR (c.cut h') x v:=by
 have own:∀ (b g:Nat) (K:Prop),(getK h' b False fun
  | .gone=>K
  | .arr g1 _ _=>getK h b False fun
   | .arr g0 _ _=>match Nat.blt g g1 with
    |true=>match Nat.ble g g0 with
     |true=>K
     |false=>False
    |false=>match Nat.beq g g0,Nat.beq g g1 with
     |true,true=>K
     |_,_=>False
   |_=>False
  |_=>False)→K∧(h'[b]? = some .gone∨∃ g0 g1 ts l,h[b]? = some (.arr g0 ts l)∧h'[b]? = some (.arr g1 ts l)∧(g<g1∨g=g0∧g=g1)):=fun b g K H=>by
  rcases getK_or H with H | ⟨y,hy,H⟩
  ·exact H.elim
  split at H
  ·exact ⟨H,.inl hy⟩
  ·rename_i g1 ts1 l1;rcases getK_or H with H | ⟨x,hx,H⟩
   ·exact H.elim
   split at H
   ·rename_i g0 ts0 l0;obtain ⟨x',hx',q⟩:=hs b _ hy;rw [hx] at hx';cases hx';obtain ⟨g2,q,-⟩:=q;cases q;split at H
    ·rename_i q1;split at H
     ·exact ⟨H,.inr ⟨_,_,_,_,hx,hy,.inl (Nat.le_of_ble_eq_true q1)⟩⟩
     ·exact H.elim
    ·split at H
     ·rename_i q1 q2;exact ⟨H,.inr ⟨_,_,_,_,hx,hy,.inr ⟨Nat.eq_of_beq_eq_true q1,Nat.eq_of_beq_eq_true q2⟩⟩⟩
     ·exact H.elim
   ·exact H.elim
  ·exact H.elim
 cases x with
 |any=>exact ⟨H,fun c _ v _ => .any v⟩
 |d x=>exact ⟨H,fun c _ v hv=>by cases hv with | d _ _ hv=>exact .d _ _ (cut_vd hv)⟩
 |eptr e off=>exact ⟨H,fun c _ v hv=>by cases hv with | eptr _ _ blk o f k1 k2 k3 k4=>exact .eptr _ _ blk o f (fun hb=>k1 (hb.elim .inl fun ⟨i,n,hi⟩ => .inr ⟨i,n,(cut_own_le hi).1⟩)) k2 k3 (fun j x hx=>cut_vd (k4 j x hx))⟩
 |own b g =>
  obtain ⟨hK,hq⟩:=own b g K H;refine ⟨hK,fun c hc v hv=>?_⟩;subst hc;rcases hq with hq | ⟨g0,g1,ts,l,q1,q2,q3⟩
  ·have hone:v.oneCell'=true:=by cases hv <;> first | rfl | assumption
   exact .owngone b g v hq hone
  ·have ho:=cut_own (c:=c) q2 (by simp);rcases q3 with q3 | ⟨rfl,rfl⟩
   ·have hone:v.oneCell'=true:=by cases hv <;> first | rfl | assumption
    exact .ownold b g g1 ts l v q2 q3 hone
   ·cases hv with
    |own _ _ sz l' blk cap hb ho'=>rw [q1] at hb; cases hb; exact .own b g ts l blk cap q2 (ho.trans ho')
    |ownnil _ _ sz hb ho'=>rw [q1] at hb; cases hb; exact .ownnil b g ts q2 (ho.trans ho')
    |ownold _ _ g' sz l' v hb hg hv=>rw [q1] at hb; cases hb; omega
    |owngone _ _ v hb hv=>rw [q1] at hb; cases hb
 |aptr b g i off =>
  obtain ⟨hK,hq⟩:=own b g K H;refine ⟨hK,fun c hc v hv=>?_⟩;subst hc;rcases hq with hq | ⟨g0,g1,ts,l,q1,q2,q3⟩
  ·have hone:v.oneCell'=true:=by cases hv <;> first | rfl | assumption
   exact .aptrgone b g i off v hq hone
  ·have ho:=cut_own (c:=c) q2 (by simp);rcases q3 with q3 | ⟨rfl,rfl⟩
   ·have hone:v.oneCell'=true:=by cases hv <;> first | rfl | assumption
    exact .aptrold b g g1 i off ts l v q2 q3 hone
   ·cases hv with
    |aptr _ _ _ _ sz l' blk cap hb ho' hi=>rw [q1] at hb; cases hb; exact .aptr b g i off ts l blk cap q2 (ho.trans ho') hi
    |aptrold _ _ g' _ _ sz l' v hb hg hv=>rw [q1] at hb; cases hb; omega
    |aptrgone _ _ _ _ v hb hv=>rw [q1] at hb; cases hb
 |ptr b off =>
  simp only [self1K] at H;rcases getK_or H with H | ⟨y,hy,H⟩
  ·exact H.elim
  split at H
  ·refine ⟨H,fun c _ v hv=>?_⟩;have hone:v.oneCell'=true:=by cases hv <;> first | rfl | assumption
   exact .ptrgone b off v hy hone
  ·rcases getK_or H with H | ⟨x,hx,H⟩
   ·exact H.elim
   split at H
   ·refine ⟨H,fun c hc v hv=>?_⟩;subst hc;have ho:=cut_own (c:=c) hy (by simp);cases hv with
    |ptr _ _ cs blk cap hb ho'=>exact .ptr b off _ blk cap hy (ho.trans ho')
    |ptrgone _ _ v hb hv=>rw [hx] at hb; cases hb
   ·exact H.elim
  ·exact H.elim
 |map b =>
  simp only [self1K] at H;rcases getK_or H with H | ⟨y,hy,H⟩
  ·exact H.elim
  split at H
  ·refine ⟨H,fun c _ v hv=>?_⟩;have hone:v.oneCell'=true:=by cases hv <;> first | rfl | assumption
   exact .mapgone b v hy hone
  ·rcases getK_or H with H | ⟨x,hx,H⟩
   ·exact H.elim
   split at H
   ·refine ⟨H,fun c hc v hv=>?_⟩;subst hc;have ho:=cut_own (c:=c) hy (by simp);cases hv with
    |map _ es blk cap hb ho'=>exact .map b _ blk cap hy (ho.trans ho')
    |mapgone _ v hb hv=>rw [hx] at hb; cases hb
   ·exact H.elim
  ·exact H.elim
 |agg l=>exact H.elim
 |tup l=>exact H.elim
 |fn f a b=>exact H.elim
theorem selfs1K_sound {h h':List Box} (hs:HSub h h'):∀ {l:List AV} {K:Prop},selfs1K h h' l K→K∧∀ (c:Cx),c.heap=h→∀ (j:Nat) x v,l[j]? = some x→VR c x v→VR (c.cut h') x v
 | [],K,H=>⟨H,fun c _ j x v hx=>by simp at hx⟩
 |y::l,K,H=>by
  obtain ⟨H,h1⟩:=self1K_sound hs H;obtain ⟨H,h2⟩:=selfs1K_sound hs H;refine ⟨H,fun c hc j x v hx hv=>?_⟩;cases j with
  |zero=>simp at hx; subst hx; exact h1 c hc v hv
  |succ j=>exact h2 c hc j x v (by simpa using hx) hv
theorem self2K_sound {h h':List Box} (hs:HSub h h') {x:AV} {K:Prop} (H:self2K h h' x K):K∧∀ (c:Cx),c.heap=h→∀ v,VR c x v→VR (c.cut h') x v:=by
 unfold self2K at H;split at H
 ·obtain ⟨H,h1⟩:=selfs1K_sound hs H;exact ⟨H,fun c hc v hv=>by cases hv with | agg _ vs hl hval=>exact .agg _ vs hl fun j x v hx hu=>h1 c hc j x v hx (hval j x v hx hu)⟩
 ·obtain ⟨H,h1⟩:=selfs1K_sound hs H;exact ⟨H,fun c hc v hv=>by cases hv with | tup _ vs hl hval=>exact .tup _ vs hl fun j x v hx hu=>h1 c hc j x v hx (hval j x v hx hu)⟩
 ·obtain ⟨H,h1⟩:=selfs1K_sound hs H;obtain ⟨H,h2⟩:=selfs1K_sound hs H;exact ⟨H,fun c hc v hv=>by cases hv with | fn _ _ _ v1 v2 k1 k2 k3 k4=>exact .fn _ _ _ v1 v2 k1 k2 (fun j x v hx hu=>h1 c hc j x v hx (k3 j x v hx hu)) (fun j x v hx hu=>h2 c hc j x v hx (k4 j x v hx hu))⟩
 ·exact self1K_sound hs H
theorem selfsK_sound {h h':List Box} (hs:HSub h h'):∀ {l:List AV} {K:Prop},selfsK h h' l K→K∧∀ (c:Cx),c.heap=h→∀ t,VS c l t→VS (c.cut h') l t
 | [],K,H=>⟨H,fun c _ t ht=>⟨ht.1,fun j x v hx=>by simp at hx⟩⟩
 |y::l,K,H=>by
  obtain ⟨H,h1⟩:=self2K_sound hs H;obtain ⟨H,h2⟩:=selfsK_sound hs H;refine ⟨H,fun c hc t ht=>⟨ht.1,fun j x v hx hv=>?_⟩⟩;cases j with
  |zero=>simp at hx; subst hx; exact h1 c hc v (ht.2 0 _ v rfl hv)
  |succ j =>
   have hv':(t.extract 1)[j]? = some v:=by
    rw [Array.getElem?_extract];have:=(Array.getElem?_eq_some_iff.1 hv).1;rw [if_pos (by omega),Nat.add_comm];exact hv
   have:=h2 c hc (t.extract 1) ⟨by have:=ht.1; simp at this ⊢; omega,fun i x v hx hv=>ht.2 (i+1) x v (by simpa using hx) (by
    rw [Array.getElem?_extract] at hv;split at hv
    ·rw [Nat.add_comm] at hv; exact hv
    ·cases hv)⟩
   exact this.2 j x v (by simpa using hx) hv'
theorem selfFK_sound {h h':List Box} (hs:HSub h h'):∀ {l:List AFrame} {K:Prop},selfFK h h' l K→K∧∀ (c:Cx),c.heap=h→∀ ts,CR c l ts→CR (c.cut h') l ts
 | [],K,H=>⟨H,fun c _ ts ht=>by cases ts with | nil=>trivial | cons t ts=>exact ht.elim⟩
 |f::l,K,H=>by
  obtain ⟨H,h1⟩:=selfsK_sound hs H;obtain ⟨H,h2⟩:=selfFK_sound hs H;refine ⟨H,fun c hc ts ht=>?_⟩;cases ts with
  |nil=>exact ht.elim
  |cons t ts=>exact ⟨h1 c hc t ht.1,ht.2.1,h2 c hc ts ht.2.2⟩
theorem selfGK_sound {h h':List Box} (hs:HSub h h'):∀ {l:List Ghost} {K:Prop},selfGK h h' l K→K∧∀ (lim:Nat) (c:Cx),c.heap=h→∀ g∈l,GhostOK lim c g→GhostOK lim (c.cut h') g
 | [],K,H=>⟨H,fun lim c _ g hg=>by simp at hg⟩
 | .loop i::l,K,H=>by
  obtain ⟨H,h1⟩:=selfsK_sound hs H;obtain ⟨H,h2⟩:=selfGK_sound hs H;refine ⟨H,fun lim c hc g hg hk=>?_⟩;rcases List.mem_cons.1 hg with rfl | hg
  ·obtain ⟨k1,k2,k3,k4⟩:=(show LoopOK lim c i from hk);exact (show LoopOK lim (c.cut h') i from ⟨k1,k2,k3,h1 c hc _ k4⟩)
  ·exact h2 lim c hc g hg hk
 | .mark d::l,K,H=>by
  obtain ⟨H,h2⟩:=selfGK_sound (l:=l) hs H;refine ⟨H,fun lim c hc g hg hk=>?_⟩;rcases List.mem_cons.1 hg with rfl | hg
  ·obtain ⟨k1,k2,k3⟩:=(show MarkOK lim c d from hk);exact (show MarkOK lim (c.cut h') d from ⟨k1,k2,k3⟩)
  ·exact h2 lim c hc g hg hk
 | .row _::_,_,H=>H.elim
 | .iter _::_,_,H=>H.elim
theorem GhostOK.cut' {lim:Nat} {c:Cx} {h':List Box}:∀ {g:Ghost},GhostOK lim c g→g.flat→GhostOK lim (c.cut h') g
 | .row r,h,_=>RowOK.gen (c:=c) h (RowOK.bar (c:=c) h) rfl (fun _ _=>cut_vd)
 | .iter i,h,_=>IterOK.gen (c:=c) h (IterOK.barm (c:=c) h) (IterOK.barr (c:=c) h) rfl rfl (fun _ _=>cut_vd)
 | .loop _,_,h=>h.elim
 | .mark d,h,_=>by obtain ⟨k1,k2,k3⟩:=(show MarkOK lim c d from h); exact (show MarkOK lim (c.cut h') d from ⟨k1,k2,k3⟩)
section
variable {E:Env} {fid:FuncId} {R:Post} {td:List AItem} {s s':List AV} {h h':List Box}
theorem RowsX.cut {lim:Nat} {c:Cx} {rows loops:List Ghost} (h:RowsX lim c rows loops) {h':List Box} (hl:∀ g∈loops,GhostOK lim c g→GhostOK lim (c.cut h') g):RowsX lim (c.cut h') rows loops :=
 ⟨⟨fun g hg=>(List.mem_append.1 hg).elim (fun hg'=>(h.all.each g hg).cut' (h.flat g hg')) (fun hg'=>hl g hg' (h.all.each g hg)),h.all.nodup⟩,h.flat⟩
theorem AW.weaken {f0:FuncId} {fd:FId} (hs:selfXK h h' R.fx (subAllK R.n h s h' s')) (H:AW E f0 ⟨fd,td,s'⟩ R.fx.cls h' R):AW E f0 ⟨fd,td,s⟩ R.fx.cls h R:=by
 unfold AW at H ⊢;intro c0 c t ts h0 h1 h2 h3 hr hrow h4 h5 cs;subst h2;unfold selfXK at hs;have hs0:=hs;replace hs:=selfGK_K (selfFK_K hs);unfold subAllK at hs;split at hs
 case h_2=>exact hs.elim
 rename_i q;have hn:=Nat.le_of_ble_eq_true q;obtain ⟨k1,k2⟩:=subHK_hsub hs;have k3:=subHK_cells k1 hs;obtain ⟨-,k4⟩:=subsK_sound k1 k2;obtain ⟨hs1,f1⟩:=selfFK_sound k1 hs0;obtain ⟨-,f2⟩:=selfGK_sound k1 hs1;have hv:=k4 c t.toList rfl ⟨by simpa using h4.1,fun j x v hx hv=>h4.2 j x v hx (by simpa using hv)⟩;have hok:=h3.cut k1 (fun i cs hi=>by obtain ⟨cs0,r1,r2⟩:=k3 i cs hi; exact ⟨cs0,r1,fun vs hv=>r2 c vs rfl hv⟩);exact H c0 (c.cut h') t ts h0 h1 rfl hok (hr.cut (by omega) k1) (hrow.cut fun g hg=>f2 _ c rfl g hg) ⟨by simpa using hv.1,fun j x v hx hu=>hv.2 j x v hx (by simpa using hu)⟩ (f1 c rfl ts h5) cs
def anyS:List Nat→List AV→List AV
 | [],s=>s
 |d::l,s=>anyS l (s.set d .any)
def varS:List (Nat × AV)→List AV→List AV
 | [],s=>s
 |(d,v)::l,s=>varS l (s.set d v)
def varH:List (Nat × Box)→List Box→List Box
 | [],h=>h
 |(d,v)::l,h=>varH l (h.set d v)
def anyK {α:Sort _}:List Nat→List AV→(List AV→α)→α
 | [],s,k=>k s
 |d::l,s,k=>setK s d .any fun s'=>anyK l s' k
theorem anyK_eq {α:Sort _}:∀ (l:List Nat) (s:List AV) (k:List AV→α),anyK l s k=k (anyS l s)
 | [],_,_=>rfl
 |d::l,s,k=>by simp only [anyK,setK_eq,anyS,anyK_eq l]
def varsK {α:Sort _} {β:Type}:List (Nat × β)→List β→(List β→α)→α
 | [],s,k=>k s
 |(d,v)::l,s,k=>setK s d v fun s'=>varsK l s' k
theorem varsK_eq {α:Sort _}:∀ (l:List (Nat × AV)) (s:List AV) (k:List AV→α),varsK l s k=k (varS l s)
 | [],_,_=>rfl
 |(d,v)::l,s,k=>by simp only [varsK,setK_eq,varS,varsK_eq l]
theorem varsK_eqH {α:Sort _}:∀ (l:List (Nat × Box)) (s:List Box) (k:List Box→α),varsK l s k=k (varH l s)
 | [],_,_=>rfl
 |(d,v)::l,s,k=>by simp only [varsK,setK_eq,varH,varsK_eqH l]
def ref1B (ks:List Nat):AV→Bool
 | .own j _=>memB j ks
 | .aptr j _ _ _=>memB j ks
 |_=>false
def refB (ks:List Nat):AV→Bool
 | .agg l=>l.any (ref1B ks)
 | .tup l=>l.any (ref1B ks)
 | .fn _ a b=>a.any (ref1B ks)||b.any (ref1B ks)
 |x=>ref1B ks x
def dropS (ks:List Nat):List AV→List AV
 | []=>[]
 |x::s=>(match refB ks x with | true => .any | false=>x)::dropS ks s
def dropRK {α:Sort _} (ks:List Nat):List AV→(List AV→α)→α
 | [],k=>k []
 |x::s,k=>match refB ks x with
  |true=>dropRK ks s fun s'=>k (.any::s')
  |false=>dropRK ks s fun s'=>k (x::s')
theorem dropRK_eq {α:Sort _} (ks:List Nat):∀ (s:List AV) (k:List AV→α),dropRK ks s k=k (dropS ks s)
 | [],_=>rfl
 |x::s,k=>by
  simp only [dropRK,dropS];split <;> rename_i q <;> rw [dropRK_eq ks s] <;> simp only [q]
def keysOf:List (Nat × Box)→List Nat
 | []=>[]
 |p::l=>p.1::keysOf l
def stK {α:Sort _} (mods ks:List Nat) (vars:List (Nat × AV)) (boxes:List (Nat × Box)) (s:List AV) (h:List Box) (k:List AV→List Box→α):α :=
 dropRK ks s fun s0=>anyK mods s0 fun s1=>varsK vars s1 fun s2=>varsK boxes h fun h2=>k s2 h2
theorem stK_eq {α:Sort _} (mods ks:List Nat) (vars:List (Nat × AV)) (boxes:List (Nat × Box)) (s:List AV) (h:List Box) (k:List AV→List Box→α):stK mods ks vars boxes s h k=k (varS vars (anyS mods (dropS ks s))) (varH boxes h):=by
 simp only [stK,dropRK_eq,anyK_eq,varsK_eq,varsK_eqH]
theorem AWL.loop {lits:List Nat} {b:Code} {k:List AItem} {κ:Type} (mods:List Nat) (vars:κ→List (Nat × AV)) (boxes:κ→List (Nat × Box)) (Φ:κ→Prop) (μ:κ→Nat) (x0:κ) (h0:Φ x0)
  (hsub:stK mods (keysOf (boxes x0)) (vars x0) (boxes x0) s h fun s' h'=>selfXK h h' R.fx (subAllK R.n h s h' s'))
  (hround:∀ x,Φ x→(∀ y,Φ y→μ y<μ x→AWL E fid R [] (.inLoop b::k) (varS (vars y) (anyS mods (dropS (keysOf (boxes x0)) s))) (varH (boxes y) h))→AWL E fid R [] (.code b :: .inLoop b::k) (varS (vars x) (anyS mods (dropS (keysOf (boxes x0)) s))) (varH (boxes x) h)) :
  AWL E fid R lits (.code (.loop b)::k) s h:=by
 have main:∀ n x,μ x<n→Φ x→AWL E fid R [] (.inLoop b::k) (varS (vars x) (anyS mods (dropS (keysOf (boxes x0)) s))) (varH (boxes x) h):=by
  intro n
  induction n with
  |zero=>intro x hx; omega
  |succ n ih=>intro x hx hP; exact .of (.inLoop (hround x hP fun y hy hm=>ih y (by omega) hy).to)
 rw [stK_eq] at hsub;exact .of (.loop (.weaken hsub (hround x0 h0 fun y hy _=>main (μ y+1) y (by omega) hy).to))
theorem AWL.head (hE:E.OK) {fn:Func} (hf:E.P.funcs[fid]? = some fn) (n:Nat) {lits mods ks:List Nat} {vars:List (Nat × AV)} {boxes:List (Nat × Box)} {s0:List AV} {h0:List Box}
  (H:stK mods ks vars boxes s0 h0 fun s' h'=>runK E fid fn.results.toList R n lits td s' h'):AWL E fid R lits td (varS vars (anyS mods (dropS ks s0))) (varH boxes h0):=by
 rw [stK_eq] at H;exact .run hE hf n H
theorem AWL.back {lits lits' mods ks:List Nat} {vars:List (Nat × AV)} {boxes:List (Nat × Box)} {s0:List AV} {h0:List Box} (H:AWL E fid R lits td (varS vars (anyS mods (dropS ks s0))) (varH boxes h0))
  (hs:stK mods ks vars boxes s0 h0 fun s' h'=>selfXK h h' R.fx (subAllK R.n h s h' s')):AWL E fid R lits' td s h:=by
 rw [stK_eq] at hs;exact .of (.weaken hs H.to)
theorem AWL.adopt {lits:List Nat} (d:Nat) (ts:Nat × Nat) (hts:0<ts.2) (hd:s[d]? = some (.d .nilsl)) (H:AWL E fid R lits td (s.set d (.own h.length 0)) (h++[.arr 0 ts []])):AWL E fid R lits td s h:=by
 replace H:=H.to;refine .of (.of_leads (fun c t ts' h1 h2 h3 h4 h5=>?_) H);subst h2
 let c':Cx:={ c with heap:=c.heap++[.arr 0 ts []] }
 have hno:c.own c.heap.length=none:=by
  cases ho:c.own c.heap.length with
  |none=>rfl
  |some p=>have:=(h3.ownlt _ p.1 p.2 ho).2; omega
 have hst:Step c c':=⟨rfl,h3.barlt,rfl,rfl,rfl,Nat.le_refl _,fun _ _ _=>rfl,fun i b n hi _=>⟨n,hi⟩,fun i bx hi=>by
  have h':c'.heap[i]? = some bx:=by show (c.heap++_)[i]? = _; rw [List.getElem?_append_left (lt_of_getElem? hi)]; exact hi
  cases bx with
  |cells cs=>exact .inl ⟨cs,h',rfl,rfl⟩
  |arr g sz l=>exact .inl ⟨g,l,h',.inr ⟨rfl,rfl,rfl⟩⟩
  |map es=>exact .inl ⟨es,h',rfl⟩
  |gone=>exact h'⟩
 have hnew:c'.heap[c.heap.length]? = some (.arr 0 ts []):=by show (c.heap++_)[_]? = _; simp
 have hok:HOk E.G c':=h3.next hst (fun i b n hi=>⟨(h3.ownlt i b n hi).1,by have:=(h3.ownlt i b n hi).2; show i<(c.heap++_).length; simp; omega⟩) h3.inj (fun i bx hi=>by
  by_cases hil:i=c.heap.length
  ·subst hil;rw [hnew] at hi;cases hi;exact .inr ⟨hts,fun i e he=>by simp at he,.inl ⟨hno,rfl⟩⟩
  ·have hlt : i < c.heap.length := by have := lt_of_getElem? hi; have h2 : c'.heap.length = c.heap.length + 1 := by show (c.heap ++ _).length = _; simp
                                      omega
   have hi':(c.heap++[.arr 0 ts []])[i]? = some bx:=hi;rw [List.getElem?_append_left hlt] at hi'
   exact .inl ⟨hi',rfl,fun _ _ _=>rfl⟩)
 refine ⟨c',t,ts',h1,rfl,hok,?_,hst.cr h5,hst,fun _ => .refl _ _⟩;have hdt:d<t.size:=by rw [← h4.1]; exact lt_of_getElem? hd
 have hv:t[d] = .slice none 0 0:=by
  have:=h4.2 d _ t[d] hd (by simp [hdt]);generalize t[d]=u at this;cases this with
  |d _ _ hv=>cases hv; rfl
 have:=VS.put (hst.vs h4) d (x := .own c.heap.length 0) (v:=t[d]) (by rw [hv]; exact .ownnil _ _ ts hnew hno)
 simpa [Array.setIfInBounds,hdt] using this
end
end Go.Eng
end
section
namespace Go.Eng
open Go Go.RowKit
section
variable {α:Sort _}
def frz0K (b g:Nat) (l:List DV) (x:AV) (k:AV→α):α:=match x with
 | .own j g'=>match Nat.beq j b,Nat.beq g' g with
  |true,true=>k (.d (.sl l))
  |_,_=>k (.own j g')
 |x=>k x
def frzsK (b g:Nat) (l:List DV):List AV→(List AV→α)→α
 | [],k=>k []
 |x::r,k=>frz0K b g l x fun y=>frzsK b g l r fun r'=>k (y::r')
def frz1K (b g:Nat) (l:List DV) (x:AV) (k:AV→α):α:=match x with
 | .agg c=>frzsK b g l c fun c'=>aggK c' k
 | .tup c=>frzsK b g l c fun c'=>k (.tup c')
 | .fn f a1 a2=>frzsK b g l a1 fun a1'=>frzsK b g l a2 fun a2'=>k (.fn f a1' a2')
 |x=>frz0K b g l x k
def frzSK (b g:Nat) (l:List DV):List AV→(List AV→α)→α
 | [],k=>k []
 |x::r,k=>frz1K b g l x fun y=>frzSK b g l r fun r'=>k (y::r')
def frzHK (b g:Nat) (l:List DV):List Box→(List Box→α)→α
 | [],k=>k []
 |x::r,k=>match x with
  | .cells c=>frzsK b g l c fun c'=>frzHK b g l r fun r'=>k (.cells c'::r')
  |x=>frzHK b g l r fun r'=>k (x::r')
end
def frzK (b:Nat) (s:List AV) (h:List Box) (k:List AV→List Box→Prop):Prop:=getK h b False fun
 | .arr g _ l=>frzSK b g l s fun s'=>frzHK b g l h fun h'=>setK h' b .gone fun h''=>k s' h''
 |_=>False
structure Frz (b g:Nat) (l:List DV) (c c':Cx):Prop where
 step:Step c c'
 own:∀ v,VR c (.own b g) v→VR c' (.d (.sl l)) v
section
variable {b g:Nat} {l:List DV}
theorem frz0K_sound {x:AV} {k:AV→Prop} (H:frz0K b g l x k):∃ y,k y∧∀ c c',Frz b g l c c'→∀ v,VR c x v→VR c' y v:=by
 unfold frz0K at H;split at H
 ·split at H
  ·rename_i q1 q2;have q1:=Nat.eq_of_beq_eq_true q1;have q2:=Nat.eq_of_beq_eq_true q2;subst q1; subst q2;exact ⟨_,H,fun c c' hf v hv=>hf.own v hv⟩
  ·exact ⟨_,H,fun c c' hf v hv=>hf.step.vr hv⟩
 ·exact ⟨_,H,fun c c' hf v hv=>hf.step.vr hv⟩
theorem frzsK_sound:∀ {r:List AV} {k:List AV→Prop},frzsK b g l r k→∃ r',k r'∧r'.length=r.length∧∀ c c',Frz b g l c c'→∀ vs,VL c r vs→VL c' r' vs
 | [],_,H=>⟨[],H,rfl,fun _ _ _ _ hv=>⟨hv.1,fun j x v hx=>by simp at hx⟩⟩
 |x::r,k,H=>by
  obtain ⟨y,H,hy⟩:=frz0K_sound H;obtain ⟨r',H,hl,hr⟩:=frzsK_sound H;refine ⟨y::r',H,by simp [hl],fun c c' hf vs hv=>?_⟩;cases vs with
  |nil=>have:=hv.1; simp at this
  |cons v vs=>exact .cons (hy c c' hf v hv.head.1) (hr c c' hf vs hv.head.2)
theorem frz1K_sound {x:AV} {k:AV→Prop} (H:frz1K b g l x k):∃ y,k y∧∀ c c',Frz b g l c c'→∀ v,VR c x v→VR c' y v:=by
 unfold frz1K at H;split at H
 ·obtain ⟨r',H,-,hr⟩:=frzsK_sound H;obtain ⟨y,H,hy⟩:=aggK_sound H;refine ⟨y,H,fun c c' hf v hv=>?_⟩;obtain ⟨vs,rfl,hvl⟩:=vr_agg_inv hv;exact hy c' vs (hr c c' hf vs hvl)
 ·obtain ⟨r',H,-,hr⟩:=frzsK_sound H;refine ⟨_,H,fun c c' hf v hv=>?_⟩;cases hv with
  |tup _ vs hl hval =>
   have:=hr c c' hf vs.toList ⟨by simpa using hl,fun j x v hx hv=>hval j x v hx (by simpa using hv)⟩;exact .tup _ vs (by simpa using this.1) (fun j x v hx hv=>this.2 j x v hx (by simpa using hv))
 ·obtain ⟨a1',H,-,h1⟩:=frzsK_sound H;obtain ⟨a2',H,-,h2⟩:=frzsK_sound H;refine ⟨_,H,fun c c' hf v hv=>?_⟩;obtain ⟨v1,v2,rfl,r1,r2⟩:=vr_fn hv;have r1:=h1 c c' hf v1 r1;have r2:=h2 c c' hf v2 r2;exact .fn _ _ _ _ _ (by simpa using r1.1) (by simpa using r2.1) (fun j x v hx hv=>r1.2 j x v hx (by simpa using hv)) (fun j x v hx hv=>r2.2 j x v hx (by simpa using hv))
 ·exact frz0K_sound H
theorem frzSK_sound:∀ {r:List AV} {k:List AV→Prop},frzSK b g l r k→∃ r',k r'∧∀ c c',Frz b g l c c'→∀ vs,VL c r vs→VL c' r' vs
 | [],_,H=>⟨[],H,fun _ _ _ _ hv=>⟨hv.1,fun j x v hx=>by simp at hx⟩⟩
 |x::r,k,H=>by
  obtain ⟨y,H,hy⟩:=frz1K_sound H;obtain ⟨r',H,hr⟩:=frzSK_sound H;refine ⟨y::r',H,fun c c' hf vs hv=>?_⟩;cases vs with
  |nil=>have:=hv.1; simp at this
  |cons v vs=>exact .cons (hy c c' hf v hv.head.1) (hr c c' hf vs hv.head.2)
def FBox (b g:Nat) (l:List DV) (x y:Box):Prop:=match x with
 | .cells cs=>∃ cs',y = .cells cs'∧cs'.length=cs.length∧∀ c c',Frz b g l c c'→∀ vs,VL c cs vs→VL c' cs' vs
 |x=>y=x
theorem frzHK_sound:∀ {r:List Box} {k:List Box→Prop},frzHK b g l r k→∃ r',k r'∧r'.length=r.length∧∀ (i:Nat) (x:Box),r[i]? = some x→∃ y,r'[i]? = some y∧FBox b g l x y
 | [],_,H=>⟨[],H,rfl,fun i x hx=>by simp at hx⟩
 |x::r,k,H=>by
  unfold frzHK at H;have fin:∀ {y:Box} {r':List Box},FBox b g l x y→(∀ (i:Nat) (x:Box),r[i]? = some x→∃ y,r'[i]? = some y∧FBox b g l x y)→∀ (i:Nat) (z:Box),(x::r)[i]? = some z→∃ y',(y::r')[i]? = some y'∧FBox b g l z y':=fun {y r'} h1 h2 i z hz=>by
   cases i with
   |zero=>simp at hz; subst hz; exact ⟨y,rfl,h1⟩
   |succ i=>obtain ⟨y',k1,k2⟩:=h2 i z (by simpa using hz); exact ⟨y',by simpa using k1,k2⟩
  split at H
  ·obtain ⟨c',H,hl,hr⟩:=frzsK_sound H;obtain ⟨r',H,hl',hr'⟩:=frzHK_sound H;exact ⟨_,H,by simp [hl'],fin ⟨c',rfl,hl,hr⟩ hr'⟩
  ·rename_i hne;obtain ⟨r',H,hl',hr'⟩:=frzHK_sound H;refine ⟨_,H,by simp [hl'],fin ?_ hr'⟩;cases x with
   |cells c=>exact absurd rfl (hne c)
   |arr _ _ _=>rfl
   |map _=>rfl
   |gone=>rfl
end
section
variable {E:Env} {fid:FuncId} {R:Post} {td:List AItem} {s:List AV} {h:List Box}
theorem AWL.freeze {lits:List Nat} (b:Nat) (H:frzK b s h fun s' h'=>AWL E fid R lits td s' h'):AWL E fid R lits td s h:=by
 unfold frzK at H;rcases getK_or H with H | ⟨bx,hb,H⟩
 ·exact H.elim
 split at H
 case h_2=>exact H.elim
 rename_i g ts l;obtain ⟨s',H,hs'⟩:=frzSK_sound H;obtain ⟨h',H,hlen,hh'⟩:=frzHK_sound H;rw [setK_eq] at H;refine .of (.of_leads (fun c t ts' h1 h2 h3 h4 h5=>?_) H.to);subst h2;have hbl:=lt_of_getElem? hb
 let c':Cx:={ c with own:=fun i=>if i=b then none else c.own i,heap:=h'.set b .gone }
 have hgone:c'.heap[b]? = some .gone:=by show (h'.set b .gone)[b]? = _; rw [List.getElem?_set_self (by omega)]
 have hother:∀ i,i≠b→c'.heap[i]? = h'[i]? := fun i hi=>by show (h'.set b .gone)[i]? = _; rw [List.getElem?_set_ne (Ne.symm hi)]
 have hown:∀ i,i≠b→c'.own i=c.own i:=fun i hi=>by simp only [c',if_neg hi]
 have hownle:∀ i p,c'.own i=some p→i≠b∧c.own i=some p:=fun i p hp=>by
  simp only [c'] at hp;split at hp
  ·cases hp
  ·rename_i q; exact ⟨q,hp⟩
 have hst:Step c c':=⟨rfl,h3.barlt,rfl,rfl,rfl,Nat.le_refl _,fun _ _ _=>rfl,fun i x n hi _=>⟨n,(hownle i _ hi).2⟩,fun i bx hi=>by
  by_cases hib:i=b
  ·subst hib;cases bx with
   |cells cs=>exact .inr hgone
   |arr g sz l=>exact .inr hgone
   |map es=>exact .inr hgone
   |gone=>exact hgone
  ·obtain ⟨y,k1,k2⟩:=hh' i bx hi;rw [← hother i hib] at k1;cases bx with
   |cells cs=>obtain ⟨cs',rfl,e,-⟩:=k2; exact .inl ⟨cs',k1,hown i hib,e⟩
   |arr g sz l=>obtain rfl:y=_:=k2; exact .inl ⟨g,l,k1,.inr ⟨rfl,rfl,hown i hib⟩⟩
   |map es=>obtain rfl:y=_:=k2; exact .inl ⟨es,k1,hown i hib⟩
   |gone=>obtain rfl:y=_:=k2; exact k1⟩
 have hbad:∀ x,c'.bad x→c.bad x:=fun x hx=>hx.elim .inl fun ⟨i,n,hi⟩ => .inr ⟨i,n,(hownle i _ hi).2⟩
 have hfz:Frz b g l c c':=⟨hst,fun v hv=>by
  obtain ⟨q0,q1,q2⟩:=h3.box b _ hb;rcases vr_own hb hv with ⟨blk,cap,r1,rfl⟩ | ⟨rfl,rfl,r1⟩
  ·rcases q2 with ⟨q2,-⟩ | ⟨blk',cap',vs,q2,q3,q4,q5,q6,q7⟩
   ·rw [r1] at q2; cases q2
   rw [r1] at q2; cases q2;refine .d _ _ (.sl l blk 0 cap ts.2 (fun i j=>(vs[i*ts.2+j]?).getD undef) (fun _ hbd=>?_) q0 q5 (fun i e he=>q1 i e he) (fun i j e x he hx=>?_) (fun i j e x he hx=>?_) (fun i j e x he hx=>?_))
   ·rcases hbd with hbd | ⟨i,n,hi⟩
    ·exact h3.sep b blk cap r1 hbd
    ·obtain ⟨k1,k2⟩:=hownle i _ hi;exact k1 (h3.inj i b blk n cap k2 r1)
   ·obtain ⟨v,p1,p2,p3⟩:=q7 i j e x he hx;rw [p1,Option.getD_some];exact row_of_block q3 _ v (by simpa using p1)
   ·obtain ⟨v,p1,p2,p3⟩:=q7 i j e x he hx;simp only [p1,Option.getD_some];exact hst.vd p3
   ·obtain ⟨v,p1,p2,p3⟩:=q7 i j e x he hx;simp only [p1,Option.getD_some];exact p2
  ·exact .d _ _ .slnil⟩
 have hok:HOk E.G c':=by
  refine h3.next hst (fun i x n hi=>?_) (fun i j x n m hi hj=>h3.inj i j x n m (hownle i _ hi).2 (hownle j _ hj).2) (fun i bx hi=>?_)
  ·have:=h3.ownlt i x n (hownle i _ hi).2;refine ⟨this.1,?_⟩;show i<(h'.set b .gone).length;rw [List.length_set,hlen];exact this.2
  ·right;by_cases hib:i=b
   ·subst hib;rw [hgone] at hi;cases hi;show c'.own i=none;simp [c']
   ·rw [hother i hib] at hi;have hil:i<c.heap.length:=by rw [← hlen]; exact lt_of_getElem? hi
    obtain ⟨y,k1,k2⟩:=hh' i c.heap[i] (by simp [hil]);rw [hi] at k1;cases k1;have hbx:c.heap[i]? = some c.heap[i]:=by simp [hil]
    generalize c.heap[i]=x at k2 hbx;cases x with
    |cells cs =>
     obtain ⟨cs',rfl,e,hv⟩:=k2;obtain ⟨blk,cap,vs,ty,g1,g2,g3⟩:=h3.cells hbx;have:=hv c c' hfz vs.toList g3;exact ⟨blk,cap,vs,ty,(hown i hib).trans g1,g2,by simpa using this.1.symm,fun j x v hx hv=>this.2 j x v hx (by simpa using hv)⟩
    |arr _ _ _=>obtain rfl:bx=_:=k2; exact (h3.box i _ hbx).keep hst (hown i hib) (fun _ _ _=>rfl)
    |map _=>obtain rfl:bx=_:=k2; exact (h3.box i _ hbx).keep hst (hown i hib) (fun _ _ _=>rfl)
    |gone=>obtain rfl:bx=_:=k2; exact (h3.box i _ hbx).keep hst (hown i hib) (fun _ _ _=>rfl)
 have hv:=hs' c c' hfz t.toList ⟨by simpa using h4.1,fun j x v hx hv=>h4.2 j x v hx (by simpa using hv)⟩;exact ⟨c',t,ts',h1,rfl,hok,⟨by simpa using hv.1,fun j x v hx hu=>hv.2 j x v hx (by simpa using hu)⟩,hst.cr h5,hst,fun _ => .refl _ _⟩
theorem AWL.unroll {lits:List Nat} {b:Code} {k:List AItem} (H:AWL E fid R [] (.code b :: .inLoop b::k) s h):AWL E fid R lits (.code (.loop b)::k) s h := .of (.loop H.to)
theorem AWL.again {lits:List Nat} {b:Code} {k:List AItem} (H:AWL E fid R [] (.code b :: .inLoop b::k) s h):AWL E fid R lits (.inLoop b::k) s h := .of (.inLoop H.to)
end
def flat1B:DV→Bool
 | .int _ _=>true
 | .bool _=>true
 | .str _=>true
 | .undef=>true
 | .nilsl=>true
 |_=>false
def flatB:DV→Bool
 | .tup c=>c.all flat1B
 | .agg c=>c.all flat1B
 |x=>flat1B x
theorem flat1B_vd {x:DV} (hx:flat1B x=true) {bad bad':Nat→Prop} {w w':World} {v:Value} (hv:VD bad w x v):VD bad' w' x v:=by
 cases hv <;> first | (cases hx; done) | (constructor; done)
theorem flatB_vd {x:DV} (hx:flatB x=true) {bad bad':Nat→Prop} {w w':World} {v:Value} (hv:VD bad w x v):VD bad' w' x v:=by
 cases hv with
 |agg c vs hl hval=>exact .agg c vs hl fun j x v h1 h2=>flat1B_vd (List.all_eq_true.1 hx x (List.mem_of_getElem? h1)) (hval j x v h1 h2)
 |tup c vs hl hval=>exact .tup c vs hl fun j x v h1 h2=>flat1B_vd (List.all_eq_true.1 hx x (List.mem_of_getElem? h1)) (hval j x v h1 h2)
 |_=>first | (cases hx; done) | (constructor; done)
def lendL (h:List Box):List AV→Option (List DV)
 | []=>some []
 | .d x::l=>match lendL h l with
  |some r=>some (x::r)
  |none=>none
 | .own b _::l=>match at? h b with
  |some (.arr _ _ m)=>match lendL h l with
   |some r=>some (.sl m::r)
   |none=>none
  |_=>none
 |_::_=>none
def gen0B:List AV→Bool
 | []=>true
 | .own _ g::l=>match Nat.beq g 0 with
  |true=>gen0B l
  |false=>false
 |_::l=>gen0B l
theorem lend_vld {G:List (Nat × DV)} {c:Cx} (ho:HOk G c) (hf:Fresh c.heap):∀ {args:List AV} {ds:List DV} {vs:List Value},lendL c.heap args=some ds→gen0B args=true→VL c args vs→VLD c.bar c.w ds vs
 | [],ds,vs,h,_,hv=>by cases h; exact ⟨hv.1,fun j x v hx=>by simp at hx⟩
 |x::l,ds,vs,h,hg,hv=>by
  cases vs with
  |nil=>have:=hv.1; simp at this
  |cons v vs =>
   obtain ⟨hv1,hv2⟩:=hv.head
   have fin:∀ {d:DV} {r:List DV},VD c.bar c.w d v→VLD c.bar c.w r vs→VLD c.bar c.w (d::r) (v::vs):=fun {d r} h1 h2=>⟨by simp [h2.1],fun j x u hx hu=>by
    cases j with
    |zero=>simp at hx hu; subst hx; subst hu; exact h1
    |succ j=>exact h2.2 j x u (by simpa using hx) (by simpa using hu)⟩
   have less:∀ {d:DV} {u:Value},VD c.bad c.w d u→VD c.bar c.w d u:=fun hd=>hd.mono fun b _ hn=>⟨fun hb=>hn (.inl hb),rfl⟩;cases x with
   |d x =>
    simp only [lendL] at h;cases hr:lendL c.heap l with
    |none=>rw [hr] at h; cases h
    |some r =>
     rw [hr] at h;cases h;cases hv1 with
     |d _ _ hd=>exact fin (less hd) (lend_vld ho hf hr hg hv2)
   |own b g =>
    simp only [lendL,at?_eq] at h;simp only [gen0B] at hg;split at hg
    case h_2=>cases hg
    rename_i q;have q:=Nat.eq_of_beq_eq_true q;subst q;split at h
    case h_2=>cases h
    rename_i g' ts m hb;obtain rfl:=hf b g' ts m hb;cases hr:lendL c.heap l with
    |none=>rw [hr] at h; cases h
    |some r =>
     rw [hr] at h;cases h;refine fin ?_ (lend_vld ho hf hr hg hv2);obtain ⟨q0,q1,q2⟩:=ho.box b _ hb;rcases vr_own hb hv1 with ⟨blk,cap,r1,rfl⟩ | ⟨rfl,rfl,r1⟩
     ·rcases q2 with ⟨q2,-⟩ | ⟨blk',cap',vs',q2,q3,q4,q5,q6,q7⟩
      ·rw [r1] at q2; cases q2
      rw [r1] at q2; cases q2;refine .sl m blk 0 cap ts.2 (fun i j=>(vs'[i*ts.2+j]?).getD undef) (fun _ hbd=>ho.sep b blk cap r1 hbd) q0 q5 (fun i e he=>q1 i e he) (fun i j e x he hx=>?_) (fun i j e x he hx=>?_) (fun i j e x he hx=>?_)
      ·obtain ⟨v,p1,p2,p3⟩:=q7 i j e x he hx;rw [p1,Option.getD_some];exact row_of_block q3 _ v (by simpa using p1)
      ·obtain ⟨v,p1,p2,p3⟩:=q7 i j e x he hx;simp only [p1,Option.getD_some];exact less p3
      ·obtain ⟨v,p1,p2,p3⟩:=q7 i j e x he hx;simp only [p1,Option.getD_some];exact p2
     ·exact .slnil
   |_=>cases h
theorem PCalls.lend {E:Env} {f:FuncId} {ds:List DV} {h:List Box} {args:List AV} {R:DV→Prop} (H:PCalls E f ds R) (hfr:freshB h=true) (hd:lendL h args=some ds) (hg:gen0B args=true) (hr:∀ r,R r→flatB r=true):ACalls E f h args (fun a b=>∃ r,R r∧a = .d r∧b=h):=by
 unfold PCalls at H;unfold ACalls;refine ⟨H.1,freshB_spec hfr,fun c vs h1 h2 h3=>?_⟩;subst h1;have hgl:GlobOK E.G c.bar c.w:=fun g e hge=>by
  have hp:∀ p,VR c (.eptr e 0) p→VR ⟨fun _=>none,[],c.bar,c.w⟩ (.eptr e 0) p:=fun p hp=>by
   cases hp with
   |eptr _ _ blk o' fv k1 k2 k3 k4=>exact .eptr _ _ blk o' fv (fun hb=>k1 (.inl (bad_none.1 hb))) k2 k3 (fun j x hx=>vd_none ((k4 j x hx).mono fun b _ hn=>⟨fun hb=>hn (.inl hb),rfl⟩))
  exact hp _ (h2.glob g e hge)
 refine (H.2 c.bar c.w vs h2.barlt hgl (lend_vld h2 (freshB_spec hfr) hd hg h3)).mono fun e w' ⟨v,r,k1,k2,k3,k4⟩=>?_;obtain ⟨q1,q2⟩:=h2.grow k4;exact ⟨c.inW w',.d r,v,k1,rfl,⟨r,k2,rfl,rfl⟩,.d _ _ (flatB_vd (hr r k2) k3),q1,(Rel.refl c (freshB_spec hfr)).step q2⟩
end Go.Eng
end
