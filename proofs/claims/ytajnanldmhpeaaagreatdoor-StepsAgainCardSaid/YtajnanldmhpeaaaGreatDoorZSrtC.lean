/- The library's slices.Compact at rows of numbers, as a contract over own arrays. Conditions: a length that Go allows. -/
import Derived.Test.YtajnanldmhpeaaaGreatDoorZSrtI
import Derived.Shelf.Slices.CompactI
set_option linter.unusedVariables false
set_option linter.unusedSimpArgs false
namespace Go.Proofs.YtajnanldmhpeaaaGreatDoor.P
open Go Go.Eng Go.Sort Go.RowKit
def CompactsI (P:Program) (f:Nat):Prop:=∀ (blk cap:Nat) (zs:List Int) (w:World),Holds (Value.int .i64) w blk 0 zs.toArray→zs.length≤9223372036854775807→zs.length≤cap →
 Calls P f #[.slice (some ⟨blk,0,none⟩) zs.length cap] w fun e w'=>e = .returned (.slice (some ⟨blk,0,none⟩) (Lib.compact zs).length cap)∧∃ q,w'=putRow (Value.int .i64) (Sort.ahead w q) blk 0 (Lib.compact zs++List.replicate (zs.length - (Lib.compact zs).length) 0).toArray
theorem compact_len (l:List Int):(Lib.compact l).length≤l.length:=by
 unfold Lib.compact Lib.compactUpTo;rw [List.length_map];have:=List.length_filter_le (Lib.keeps l.toArray) (List.range l.length)
 simpa using this
theorem compactI_a {E:Env} {f:FuncId} {t:Nat} (hS:CompactsI E.P f) (hbd:HasBody E.P f) (l:List Int) (hl:l≠[]) (hlen:l.length<4611686018427387904) :
  ACalls E f [.arr 0 (t,1) (l.map (DV.int .i64))] [.own 0 0] (fun a b=>a = .own 0 1∧b=[.arr 1 (t,1) ((Lib.compact l).map (DV.int .i64))]):=by
 unfold ACalls;refine ⟨hbd,freshB_spec rfl,fun c vs h1 h2 h3=>?_⟩;obtain ⟨v1,rfl⟩:∃ v1,vs=[v1]:=by
  have:=h3.1
  match vs,this with
  | [a],_=>exact ⟨a,rfl⟩
 have hv1:=h3.2 0 _ v1 rfl rfl;have hbox:c.heap[0]? = some (.arr 0 (t,1) (l.map (DV.int .i64))):=by rw [h1]; rfl
 rcases vr_own hbox hv1 with ⟨blk,cap,r1,rfl⟩ | ⟨hnil,-,-⟩
 case inr=>exact absurd (List.map_eq_nil_iff.1 hnil) hl
 obtain ⟨q0,q1,q2⟩:=h2.box 0 _ hbox;rcases q2 with ⟨q2,-⟩ | ⟨blk',cap',vs',q2,q3,q4,q5,q6,q7⟩
 ·rw [r1] at q2; cases q2
 rw [r1] at q2;cases q2;simp only at q3 q4 q7;have hcell:∀ (i:Nat) (x:Int),l[i]? = some x→vs'[i]? = some (.int .i64 x):=fun i x hx=>by
  have he:(l.map (DV.int .i64))[i]? = some (DV.int .i64 x):=by simp [hx]
  obtain ⟨v,a1,a2,a3⟩:=q7 i 0 (DV.int .i64 x) (.int .i64 x) he rfl;rw [vd_int a3] at a1
  simpa using a1
 have hH:Holds (Value.int .i64) c.w blk 0 l.toArray:=by
  intro j hj;have hj':j<l.length:=by simpa using hj
  obtain ⟨x,hx⟩:∃ x,l[j]? = some x:=⟨l[j]'(by omega),by rw [List.getElem?_eq_getElem]⟩;have hx2:l.toArray[j]! = x:=by
   rw [getElem!_pos l.toArray j (by simpa using hj')];have:=List.getElem?_eq_some_iff.1 hx
   simpa using this.2
  refine ⟨?_,by simp [World.frozen?,q3]⟩;rw [hx2];exact row_of_block q3 _ _ (by simpa using hcell j x hx)
 have hblk:=(h2.ownlt 0 blk cap r1).1;have hcl:(l.map (DV.int .i64)).length=l.length:=by simp
 have hb2:l.length≤cap:=by rw [← hcl]; exact q5
 have hcall:=hS blk cap l c.w hH (by omega) hb2;have hargs:([Value.slice (some ⟨blk,0,none⟩) (l.map (DV.int .i64)).length cap]:List Value).toArray = #[.slice (some ⟨blk,0,none⟩) l.length cap]:=by simp
 rw [hargs];refine hcall.mono fun e w' ⟨he,n,hw⟩=>?_;subst he;have hd':=compact_len l;generalize hK:Lib.compact l=K at *;generalize hD:(K++List.replicate (l.length - K.length) 0).toArray=D at *;have hDs:D.size=l.length:=by rw [← hD]; simp; omega
 have hD2:∀ (i:Nat) (y:Int),K[i]? = some y→D[i]! = y:=fun i y hy=>by
  have hi:i<K.length:=by have:=lt_of_getElem? hy; omega
  rw [getElem!_pos D i (by omega)];subst hD;have:=List.getElem?_eq_some_iff.1 hy;simp [List.getElem_append_left hi,this.2]
 obtain ⟨a1,a2,a3,a4,a5,a6⟩:=sortWorldI_facts (n:=n) (d:=D) (os := #[]) q3;rw [grow_empty,← hw] at a1 a2 a3 a4 a5 a6
 let c':Cx:={ c with heap:=[.arr 1 (t,1) (K.map (DV.int .i64))],w:=w' }
 have hone:∀ i bx,c.heap[i]? = some bx→i=0∧bx = .arr 0 (t,1) (l.map (DV.int .i64)):=fun i bx hi=>by
  rw [h1] at hi;cases i with
  |zero=>simp at hi; exact ⟨rfl,hi.symm⟩
  |succ i=>simp at hi
 have hst:Step c c':=⟨rfl,h2.barlt,a1,a2,a3,a4,fun b hb hn=>a5 b hb (fun e=>by subst e; exact hn 0 cap r1),fun i b n hi _=>⟨n,hi⟩,fun i bx hi=>by
  obtain ⟨rfl,rfl⟩:=hone i bx hi
  exact .inl ⟨1,_,rfl,.inl (by omega)⟩⟩
 have hok:HOk E.G c':=h2.next hst (fun i b n hi=>by
   have:=h2.ownlt i b n hi;refine ⟨Nat.lt_of_lt_of_le this.1 a4,?_⟩;have h0:c.heap.length=1:=by rw [h1]; rfl
   show i<1;omega) h2.inj (fun i bx hi=>by
  right;cases i with
  |succ i=>simp [c'] at hi
  |zero =>
   simp [c'] at hi;subst hi;refine ⟨q0,fun i e he=>?_,.inr ⟨blk,cap,_,r1,a6,?_,?_,q6,fun i j e x he hx=>?_⟩⟩
   ·simp only [List.getElem?_map] at he;cases hq:K[i]? with
    |none=>rw [hq] at he; cases he
    |some y=>rw [hq] at he; cases he; rfl
   ·simp [putCells,q4]
   ·rw [List.length_map]; omega
   ·simp only [List.getElem?_map] at he;cases hq:K[i]? with
    |none=>rw [hq] at he; cases he
    |some y =>
     rw [hq] at he;cases he;have hi:i<K.length:=by have:=lt_of_getElem? hq; omega
     have hvs:vs'.size=cap*1:=q4;have hy:=hD2 i y hq;have at_:(putCells (Value.int .i64) 0 D vs')[i]? = some (.int .i64 y):=by
      have h5:i<vs'.size:=by omega
      simp only [putCells,Array.getElem?_mapIdx,Array.getElem?_eq_getElem h5,Option.map_some];rw [if_pos ⟨Nat.zero_le _,by omega⟩,Nat.sub_zero,hy]
     match j with
     | 0 =>
      simp [DV.cells] at hx;subst hx;exact ⟨_,by simpa using at_,rfl,.int _ _⟩
     |j+1=>simp [DV.cells] at hx)
 refine ⟨c',.own 0 1,.slice (some ⟨blk,0,none⟩) K.length cap,rfl,rfl,⟨rfl,rfl⟩,?_,hok,?_⟩
 ·have:=VR.own (c:=c') 0 1 (t,1) (K.map (DV.int .i64)) blk cap rfl r1
  rwa [List.length_map] at this
 ·exact ⟨rfl,a1,a2,a3,a4,fun b hb hn=>a5 b hb (fun e=>by subst e; exact hn 0 cap r1),fun i b n hi _=>⟨n,hi⟩,fun i bx hi=>by
   obtain ⟨rfl,rfl⟩:=hone i bx hi
   exact .inl ⟨1,_,rfl,.inl (by omega)⟩⟩
theorem compact_mem {l:List Int} {x:Int}:x∈Lib.compact l↔x∈l:=by
 unfold Lib.compact Lib.compactUpTo;rw [List.mem_map];constructor
 ·rintro ⟨j,hj,rfl⟩;have:=(List.mem_filter.1 hj).1;have hlt:j<l.length:=by simpa using this
  rw [getElem!_pos l.toArray j (by simpa using hlt)];simp
 ·intro hx;obtain ⟨i,hi,hmin⟩:∃ i:Nat,l[i]? = some x∧∀ j,j<i→l[j]? ≠ some x:=by
   obtain ⟨i,hi⟩:=List.getElem?_of_mem hx;have main:∀ (n i:Nat),i<n→l[i]? = some x→∃ i:Nat,l[i]? = some x∧∀ j,j<i→l[j]? ≠ some x:=by
    intro n
    induction n with
    |zero=>intro i h; omega
    |succ n ih =>
     intro i hin hi;by_cases hj:∃ j,j<i∧l[j]? = some x
     ·obtain ⟨j,h1,h2⟩:=hj;exact ih j (by omega) h2
     ·exact ⟨i,hi,fun j h1 h2=>hj ⟨j,h1,h2⟩⟩
   exact main (i+1) i (by omega) hi
  have hlt:=lt_of_getElem? hi;have hgx:l.toArray[i]! = x:=by
   rw [getElem!_pos l.toArray i (by simpa using hlt)];have:=List.getElem?_eq_some_iff.1 hi
   simpa using this.2
  refine ⟨i,List.mem_filter.2 ⟨by simpa using hlt,?_⟩,hgx⟩;unfold Lib.keeps;rw [decide_eq_true_eq];by_cases h0:i=0
  ·exact .inl h0
  ·right;rw [hgx];intro e;have hlt2:i - 1<l.length:=by omega
   rw [getElem!_pos l.toArray (i - 1) (by simpa using hlt2)] at e;exact hmin (i - 1) (by omega) (by rw [List.getElem?_eq_getElem hlt2]; simpa using e.symm)
theorem compact_lt {l:List Int} (h:l.Pairwise (· ≤ ·)):(Lib.compact l).Pairwise (· < ·):=by
 have hat:∀ i,i<l.length→l.toArray[i]! = l[i]! := fun i hi=>by
  rw [getElem!_pos l.toArray i (by simpa using hi),getElem!_pos l i hi];simp
 have hmono:∀ i j,i≤j→j<l.length→l[i]! ≤ l[j]! := fun i j hij hj=>by
  rw [getElem!_pos l i (by omega),getElem!_pos l j hj];rcases Nat.lt_or_ge i j with h1 | h1
  ·exact List.pairwise_iff_getElem.1 h i j (by omega) hj h1
  ·have:i=j:=by omega
   subst this;exact Int.le_refl _
 unfold Lib.compact Lib.compactUpTo;rw [List.pairwise_map];have hr:((List.range l.length).filter (Lib.keeps l.toArray)).Pairwise (· < ·):=List.pairwise_lt_range.filter _;refine (hr.imp_of_mem fun {a b} ha hb hab=>?_);obtain ⟨ha1,_⟩:=List.mem_filter.1 ha;obtain ⟨hb1,hb2⟩:=List.mem_filter.1 hb;have ha3:a<l.length:=by simpa using ha1
 have hb3:b<l.length:=by simpa using hb1
 unfold Lib.keeps at hb2;rw [decide_eq_true_eq] at hb2;rw [hat a ha3,hat b hb3];rcases hb2 with h0 | h0
 ·omega
 ·rw [hat b hb3,hat (b - 1) (by omega)] at h0;have h1:=hmono a (b - 1) (by omega) (by omega);have h2:=hmono (b - 1) b (by omega) hb3;omega
end Go.Proofs.YtajnanldmhpeaaaGreatDoor.P
