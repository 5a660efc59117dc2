/- Sorting rows of numbers: the library's sort, as a contract over own arrays. Conditions: a length that Go allows. -/
import Derived.Test.YthikfaephakahaaGreatDoorZN6
import Derived.Shelf.SortM.Plain
set_option linter.unusedVariables false
set_option linter.unusedSimpArgs false
namespace Go.Proofs.YthikfaephakahaaGreatDoor.P
open Go Go.Eng Go.Sort Go.RowKit
def sortI (l:List Int):List Int:=l.mergeSort fun x y=>decide (x≤y)
theorem sortI_perm (l:List Int):(sortI l).Perm l:=List.mergeSort_perm ..
theorem sortI_sorted (l:List Int):(sortI l).Pairwise (· ≤ ·):=by
 have:=List.pairwise_mergeSort (le:=fun x y=>decide (x≤y)) (by intro a b c; simp; omega) (by intro a b; simp; omega) l;exact this.imp fun {a b} h=>by simpa using h
def SortsI (P:Program) (f:Nat):Prop:=∀ (blk cap:Nat) (zs:List Int) (w:World),Holds (Value.int .i64) w blk 0 zs.toArray→blk<w.heap.size→zs.length<4611686018427387904 →
 Calls P f #[.slice (some ⟨blk,0,none⟩) zs.length cap] w fun e w'=>e = .returned (.tuple #[])∧∃ n os,w'=grow (putRow (Value.int .i64) (Sort.ahead w n) blk 0 (sortI zs).toArray) os
theorem sortWorldI_facts {w:World} {blk n:Nat} {d:Array Int} {os:Array Obj} {vs:Array Value} {ty:TypeId} (hb:w.heap[blk]? = some (.cells vs ty (0,0))) :
  let w':=grow (putRow (Value.int .i64) (Sort.ahead w n) blk 0 d) os
  w'.os=w.os∧w'.tape=w.tape∧w'.output=w.output∧w.heap.size≤w'.heap.size∧(∀ b,b<w.heap.size→b≠blk→w'.heap[b]? = w.heap[b]?)∧w'.heap[blk]? = some (.cells (putCells (Value.int .i64) 0 d vs) ty (0,0)):=by
 intro w';have hlt:blk<w.heap.size:=by
  rcases Nat.lt_or_ge blk w.heap.size with h | h
  ·exact h
  ·rw [Array.getElem?_eq_none h] at hb; cases hb
 have hsz:(putRow (Value.int .i64) (Sort.ahead w n) blk 0 d).heap.size=w.heap.size:=by simp [putRow,mapBlock]
 refine ⟨rfl,rfl,rfl,?_,fun b hb' hne=>?_,?_⟩
 ·show w.heap.size≤(grow _ os).heap.size;rw [size_grow,hsz]; omega
 ·show (grow _ os).heap[b]? = _;rw [heap_grow_old _ _ (by rw [hsz]; exact hb')];simp [putRow,mapBlock,Array.getElem?_modify,Ne.symm hne]
 ·show (grow _ os).heap[blk]? = _;rw [heap_grow_old _ _ (by rw [hsz]; exact hlt)];simp [putRow,mapBlock,Array.getElem?_modify,hb,onCells]
theorem sortI_a {E:Env} {f:FuncId} {t:Nat} (hS:SortsI E.P f) (hbd:HasBody E.P f) (l:List Int) (hl:l≠[]) (hlen:l.length<4611686018427387904) :
  ACalls E f [.arr 0 (t,1) (l.map (DV.int .i64))] [.own 0 0] (fun a b=>a = .tup []∧b=[.arr 0 (t,1) ((sortI l).map (DV.int .i64))]):=by
 unfold ACalls;refine ⟨hbd,freshB_spec rfl,fun c vs h1 h2 h3=>?_⟩;obtain ⟨v1,rfl⟩:∃ v1,vs=[v1]:=by
  have:=h3.1
  match vs,this with
  | [a],_=>exact ⟨a,rfl⟩
 have hv1:=h3.2 0 _ v1 rfl rfl;have hbox:c.heap[0]? = some (.arr 0 (t,1) (l.map (DV.int .i64))):=by rw [h1]; rfl
 rcases vr_own hbox hv1 with ⟨blk,cap,r1,rfl⟩ | ⟨hnil,-,-⟩
 case inr=>exact absurd (List.map_eq_nil_iff.1 hnil) hl
 obtain ⟨q0,q1,q2⟩:=h2.box 0 _ hbox;rcases q2 with ⟨q2,-⟩ | ⟨blk',cap',vs',q2,q3,q4,q5,q6,q7⟩
 ·rw [r1] at q2; cases q2
 rw [r1] at q2;cases q2;simp only at q3 q4 q7;have hcell:∀ (i:Nat) (x:Int),l[i]? = some x→vs'[i]? = some (.int .i64 x):=fun i x hx=>by
  have he:(l.map (DV.int .i64))[i]? = some (DV.int .i64 x):=by simp [hx]
  obtain ⟨v,a1,a2,a3⟩:=q7 i 0 (DV.int .i64 x) (.int .i64 x) he rfl;rw [vd_int a3] at a1
  simpa using a1
 have hH:Holds (Value.int .i64) c.w blk 0 l.toArray:=by
  intro j hj;have hj':j<l.length:=by simpa using hj
  obtain ⟨x,hx⟩:∃ x,l[j]? = some x:=⟨l[j]'(by omega),by rw [List.getElem?_eq_getElem]⟩;have hx2:l.toArray[j]! = x:=by
   rw [getElem!_pos l.toArray j (by simpa using hj')];have:=List.getElem?_eq_some_iff.1 hx
   simpa using this.2
  refine ⟨?_,by simp [World.frozen?,q3]⟩;rw [hx2];exact row_of_block q3 _ _ (by simpa using hcell j x hx)
 have hblk:=(h2.ownlt 0 blk cap r1).1;have hcall:=hS blk cap l c.w hH hblk hlen;have hargs:([Value.slice (some ⟨blk,0,none⟩) (l.map (DV.int .i64)).length cap]:List Value).toArray = #[.slice (some ⟨blk,0,none⟩) l.length cap]:=by simp
 rw [hargs];refine hcall.mono fun e w' ⟨he,n,os,hw⟩=>?_;subst he;have hd':(sortI l).length=l.length:=(sortI_perm l).length_eq;obtain ⟨a1,a2,a3,a4,a5,a6⟩:=sortWorldI_facts (n:=n) (d:=(sortI l).toArray) (os:=os) q3;rw [← hw] at a1 a2 a3 a4 a5 a6
 let c':Cx:={ c with heap:=[.arr 0 (t,1) ((sortI l).map (DV.int .i64))],w:=w' }
 have hone:∀ i bx,c.heap[i]? = some bx→i=0∧bx = .arr 0 (t,1) (l.map (DV.int .i64)):=fun i bx hi=>by
  rw [h1] at hi;cases i with
  |zero=>simp at hi; exact ⟨rfl,hi.symm⟩
  |succ i=>simp at hi
 have hlen':((sortI l).map (DV.int .i64)).length=(l.map (DV.int .i64)).length:=by simp [hd']
 have hst:Step c c':=⟨rfl,h2.barlt,a1,a2,a3,a4,fun b hb hn=>a5 b hb (fun e=>by subst e; exact hn 0 cap r1),fun i b n hi _=>⟨n,hi⟩,fun i bx hi=>by
  obtain ⟨rfl,rfl⟩:=hone i bx hi
  exact .inl ⟨0,_,rfl,.inr ⟨rfl,hlen',rfl⟩⟩⟩
 have hok:HOk E.G c':=h2.next hst (fun i b n hi=>by
   have:=h2.ownlt i b n hi;refine ⟨Nat.lt_of_lt_of_le this.1 a4,?_⟩;have h0:c.heap.length=1:=by rw [h1]; rfl
   show i<1;omega) h2.inj (fun i bx hi=>by
  right;cases i with
  |succ i=>simp [c'] at hi
  |zero =>
   simp [c'] at hi;subst hi;refine ⟨q0,fun i e he=>?_,.inr ⟨blk,cap,_,r1,a6,?_,?_,q6,fun i j e x he hx=>?_⟩⟩
   ·simp only [List.getElem?_map] at he;cases hq:(sortI l)[i]? with
    |none=>rw [hq] at he; cases he
    |some y=>rw [hq] at he; cases he; rfl
   ·simp [putCells,q4]
   ·rw [hlen']; exact q5
   ·simp only [List.getElem?_map] at he;cases hq:(sortI l)[i]? with
    |none=>rw [hq] at he; cases he
    |some y =>
     rw [hq] at he;cases he;have hi:i<l.length:=by have:=lt_of_getElem? hq; omega
     have hvs:vs'.size=cap*1:=q4;have hcl:(l.map (DV.int .i64)).length=l.length:=by simp
     have hb2:l.length≤cap:=by rw [← hcl]; exact q5
     have hy:(sortI l).toArray[i]! = y:=by
      rw [getElem!_pos (sortI l).toArray i (by simp; omega)];have:=List.getElem?_eq_some_iff.1 hq
      simpa using this.2
     have at_:(putCells (Value.int .i64) 0 (sortI l).toArray vs')[i]? = some (.int .i64 y):=by
      have h5:i<vs'.size:=by omega
      simp only [putCells,Array.getElem?_mapIdx,Array.getElem?_eq_getElem h5,Option.map_some];rw [if_pos ⟨Nat.zero_le _,by simp; omega⟩,Nat.sub_zero,hy]
     match j with
     | 0 =>
      simp [DV.cells] at hx;subst hx;exact ⟨_,by simpa using at_,rfl,.int _ _⟩
     |j+1=>simp [DV.cells] at hx)
 refine ⟨c',.tup [],.tuple #[],rfl,rfl,⟨rfl,rfl⟩,.tup [] #[] rfl (fun j x v hx=>by simp at hx),hok,?_⟩
 exact ⟨rfl,a1,a2,a3,a4,fun b hb hn=>a5 b hb (fun e=>by subst e; exact hn 0 cap r1),fun i b n hi _=>⟨n,hi⟩,fun i bx hi=>by
  obtain ⟨rfl,rfl⟩:=hone i bx hi
  exact .inl ⟨0,_,rfl,.inr ⟨rfl,hlen',rfl⟩⟩⟩
end Go.Proofs.YthikfaephakahaaGreatDoor.P
