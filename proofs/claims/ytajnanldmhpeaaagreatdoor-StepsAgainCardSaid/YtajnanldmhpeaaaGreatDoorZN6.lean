/- Sorting rows of two numbers: the library's sort, as a contract over own arrays. Conditions: a length that Go allows. -/
import Derived.Test.YtajnanldmhpeaaaGreatDoorZM9
import Derived.Shelf.SlSortCmp.WholeK
set_option linter.unusedVariables false
set_option linter.unusedSimpArgs false
namespace Go.Proofs.YtajnanldmhpeaaaGreatDoor.P
open Go Go.Eng Go.Sort Go.RowKit
def encP (x:Int × Int):List Value:=[.int .i64 x.1,.int .i64 x.2]
def dvP (x:Int × Int):DV := .agg [.int .i64 x.1,.int .i64 x.2]
def SortsP (P:Program) (f g:Nat) (key:Int × Int→Int):Prop:=∀ (blk cap:Nat) (d:Array (Int × Int)) (w:World),HoldsK encP 2 w blk 0 d→blk<w.heap.size→d.size<4611686018427387904 →
 Calls P f #[.slice (some ⟨blk,0,none⟩) d.size cap,.func (.func g) #[] #[]] w fun e w'=>e = .returned (.tuple #[])∧∃ d' n os,PermIn 0 d.size d d'∧SortedIn (ltOf fun x y:Int × Int=>Lib.compareInt (key x) (key y)) 0 d.size d'∧w'=sortWorldK encP 2 w blk 0 n d' os
theorem ltP (key:Int × Int→Int) (x y:Int × Int):ltOf (fun x y:Int × Int=>Lib.compareInt (key x) (key y)) x y=decide (key x<key y):=by
 unfold ltOf Lib.compareInt;by_cases h1:key x<key y
 ·simp [h1]
 ·by_cases h2:key y<key x <;> simp [h1,h2]
theorem swoP (key:Int × Int→Int):SWO (ltOf fun x y:Int × Int=>Lib.compareInt (key x) (key y)) where
 irrefl x:=by rw [ltP]; simp
 trans x y z h1 h2:=by rw [ltP] at *; simp at *; omega
 ntrans x y z h1 h2:=by rw [ltP] at *; simp at *; omega
theorem flatP (d:Array (Int × Int)) (i:Nat) (x:Int × Int) (h:d[i]? = some x):(flatK encP 2 d)[i*2]! = .int .i64 x.1∧(flatK encP 2 d)[i*2+1]! = .int .i64 x.2:=by
 have hi:i<d.size:=by
  rcases Nat.lt_or_ge i d.size with h' | h'
  ·exact h'
  ·rw [Array.getElem?_eq_none h'] at h; cases h
 have hx:d[i]! = x:=by simp [getElem!_pos d i hi]; rw [Array.getElem?_eq_getElem hi] at h; exact Option.some.inj h
 constructor
 ·rw [get_flatK _ _ _ _ (by omega),show i*2 / 2=i by omega,show i*2 % 2=0 by omega,hx]; rfl
 ·rw [get_flatK _ _ _ _ (by omega),show (i*2+1) / 2=i by omega,show (i*2+1) % 2=1 by omega,hx]; rfl
theorem sortWorld_facts {w:World} {blk n:Nat} {d:Array (Int × Int)} {os:Array Obj} {vs:Array Value} {ty:TypeId} (hb:w.heap[blk]? = some (.cells vs ty (0,0))) :
  let w':=sortWorldK encP 2 w blk 0 n d os
  w'.os=w.os∧w'.tape=w.tape∧w'.output=w.output∧w.heap.size≤w'.heap.size∧(∀ b,b<w.heap.size→b≠blk→w'.heap[b]? = w.heap[b]?)∧w'.heap[blk]? = some (.cells (putCells id 0 (flatK encP 2 d) vs) ty (0,0)):=by
 intro w';have hlt:blk<w.heap.size:=by
  rcases Nat.lt_or_ge blk w.heap.size with h | h
  ·exact h
  ·rw [Array.getElem?_eq_none h] at hb; cases hb
 have hsz:(putRowK encP 2 (Sort.ahead w n) blk 0 d).heap.size=w.heap.size:=by simp [putRowK,putRow,mapBlock]
 refine ⟨rfl,rfl,rfl,?_,fun b hb' hne=>?_,?_⟩
 ·show w.heap.size≤(grow _ os).heap.size;rw [size_grow,hsz]; omega
 ·show (grow _ os).heap[b]? = _;rw [heap_grow_old _ _ (by rw [hsz]; exact hb')];simp [putRowK,putRow,mapBlock,Array.getElem?_modify,Ne.symm hne]
 ·show (grow _ os).heap[blk]? = _;rw [heap_grow_old _ _ (by rw [hsz]; exact hlt)];simp [putRowK,putRow,mapBlock,Array.getElem?_modify,hb,onCells]
theorem vd_int {bad:Nat→Prop} {w:World} {k:IntKind} {n:Int} {v:Value} (h:VD bad w (.int k n) v):v = .int k n:=by cases h; rfl
theorem sort_a {E:Env} {f g:FuncId} {key:Int × Int→Int} {t:Nat} (hS:SortsP E.P f g key) (hbd:HasBody E.P f) (l:List (Int × Int)) (hl:l≠[]) (hlen:l.length<4611686018427387904) :
  ACalls E f [.arr 0 (t,2) (l.map dvP)] [.own 0 0,.fn (.func g) [] []] (fun a b=>a = .tup []∧∃ l':List (Int × Int),l'.Perm l∧l'.Pairwise (fun x y=>key x≤key y)∧b=[.arr 0 (t,2) (l'.map dvP)]):=by
 unfold ACalls;refine ⟨hbd,freshB_spec rfl,fun c vs h1 h2 h3=>?_⟩;obtain ⟨v1,v2,rfl⟩:∃ v1 v2,vs=[v1,v2]:=by
  have:=h3.1
  match vs,this with
  | [a,b],_=>exact ⟨a,b,rfl⟩
 have hv1:=h3.2 0 _ v1 rfl rfl;have hv2:=h3.2 1 _ v2 rfl rfl;have hbox:c.heap[0]? = some (.arr 0 (t,2) (l.map dvP)):=by rw [h1]; rfl
 obtain ⟨u1,u2,rfl,e2,e3⟩:=vr_fn hv2;obtain rfl:u1=[]:=List.eq_nil_of_length_eq_zero (by have:=e2.1; simpa using this.symm);obtain rfl:u2=[]:=List.eq_nil_of_length_eq_zero (by have:=e3.1; simpa using this.symm);rcases vr_own hbox hv1 with ⟨blk,cap,r1,rfl⟩ | ⟨hnil,-,-⟩
 case inr=>exact absurd (List.map_eq_nil_iff.1 hnil) hl
 obtain ⟨q0,q1,q2⟩:=h2.box 0 _ hbox;rcases q2 with ⟨q2,-⟩ | ⟨blk',cap',vs',q2,q3,q4,q5,q6,q7⟩
 ·rw [r1] at q2; cases q2
 rw [r1] at q2;cases q2;simp only at q3 q4 q7;have hcell:∀ (i:Nat) (x:Int × Int),l[i]? = some x→vs'[i*2]? = some (.int .i64 x.1)∧vs'[i*2+1]? = some (.int .i64 x.2):=fun i x hx=>by
  have he:(l.map dvP)[i]? = some (dvP x):=by simp [hx]
  obtain ⟨v,a1,a2,a3⟩:=q7 i 0 (dvP x) (.int .i64 x.1) he rfl;obtain ⟨v',b1,b2,b3⟩:=q7 i 1 (dvP x) (.int .i64 x.2) he rfl;rw [vd_int a3] at a1;rw [vd_int b3] at b1;exact ⟨a1,b1⟩
 have hsize:l.toArray.size=l.length:=by simp
 have hH:HoldsK encP 2 c.w blk 0 l.toArray:=by
  intro j hj;simp only [size_flatK,hsize] at hj;obtain ⟨x,hx⟩:∃ x,l[j / 2]? = some x:=⟨l[j / 2]'(by omega),by rw [List.getElem?_eq_getElem]⟩;have hx':l.toArray[j / 2]? = some x:=by simpa using hx
  obtain ⟨f1,f2⟩:=flatP l.toArray (j / 2) x hx';obtain ⟨c1,c2⟩:=hcell (j / 2) x hx;refine ⟨?_,by simp [World.frozen?,q3]⟩;rcases Nat.mod_two_eq_zero_or_one j with hm | hm
  ·have ej:j / 2*2=j:=by omega
   rw [ej] at f1 c1;show _=some ((flatK encP 2 l.toArray)[j]!);rw [f1];exact row_of_block q3 _ _ (by simpa using c1)
  ·have ej:j / 2*2+1=j:=by omega
   rw [ej] at f2 c2;show _=some ((flatK encP 2 l.toArray)[j]!);rw [f2];exact row_of_block q3 _ _ (by simpa using c2)
 have hblk:=(h2.ownlt 0 blk cap r1).1;have hcall:=hS blk cap l.toArray c.w hH hblk (by rw [hsize]; exact hlen);rw [hsize] at hcall;have hargs:([Value.slice (some ⟨blk,0,none⟩) (l.map dvP).length cap,.func (.func g) ([]:List Value).toArray ([]:List Value).toArray]:List Value).toArray = #[.slice (some ⟨blk,0,none⟩) l.length cap,.func (.func g) #[] #[]]:=by simp
 rw [hargs];refine hcall.mono fun e w' ⟨he,d',n,os,hp,hs,hw⟩=>?_;subst he;obtain ⟨p1,-,p3⟩:=hp;have hd':d'.size=l.length:=by rw [p1,hsize]
 have hperm:d'.toList.Perm l:=by
  have ex:∀ (a:Array (Int × Int)),a.size=l.length→(a.extract 0 l.length).toList=a.toList:=fun a ha=>by rw [← ha,Array.extract_size]
  rw [ex d' hd',ex l.toArray hsize] at p3
  simpa using p3
 have hsorted:d'.toList.Pairwise (fun x y=>key x≤key y):=by
  refine List.pairwise_iff_getElem.2 fun i j hi hj hij=>?_;have hi':i<d'.size:=by simpa using hi
  have hj':j<d'.size:=by simpa using hj
  have:=hs i j (Nat.zero_le _) hij (by omega);rw [ltP,decide_eq_false_iff_not,getElem!_pos d' j hj',getElem!_pos d' i hi'] at this;simp only [Array.getElem_toList];omega
 obtain ⟨a1,a2,a3,a4,a5,a6⟩:=sortWorld_facts (n:=n) (d:=d') (os:=os) q3;rw [← hw] at a1 a2 a3 a4 a5 a6
 let c':Cx:={ c with heap:=[.arr 0 (t,2) (d'.toList.map dvP)],w:=w' }
 have hone:∀ i bx,c.heap[i]? = some bx→i=0∧bx = .arr 0 (t,2) (l.map dvP):=fun i bx hi=>by
  rw [h1] at hi;cases i with
  |zero=>simp at hi; exact ⟨rfl,hi.symm⟩
  |succ i=>simp at hi
 have hlen':(d'.toList.map dvP).length=(l.map dvP).length:=by simp [hd']
 have hst:Step c c':=⟨rfl,h2.barlt,a1,a2,a3,a4,fun b hb hn=>a5 b hb (fun e=>by subst e; exact hn 0 cap r1),fun i b n hi _=>⟨n,hi⟩,fun i bx hi=>by
  obtain ⟨rfl,rfl⟩:=hone i bx hi
  exact .inl ⟨0,_,rfl,.inr ⟨rfl,hlen',rfl⟩⟩⟩
 have hok:HOk E.G c':=h2.next hst (fun i b n hi=>by
   have:=h2.ownlt i b n hi;refine ⟨Nat.lt_of_lt_of_le this.1 a4,?_⟩;have h0:c.heap.length=1:=by rw [h1]; rfl
   show i<1;omega) h2.inj (fun i bx hi=>by
  right;cases i with
  |succ i=>simp [c'] at hi
  |zero =>
   simp [c'] at hi;subst hi;refine ⟨q0,fun i e he=>?_,.inr ⟨blk,cap,_,r1,a6,?_,?_,q6,fun i j e x he hx=>?_⟩⟩
   ·simp only [List.getElem?_map] at he;cases hq:d'.toList[i]? with
    |none=>rw [hq] at he; cases he
    |some y=>rw [hq] at he; cases he; rfl
   ·simp [putCells,q4]
   ·rw [hlen']; exact q5
   ·simp only [List.getElem?_map] at he;cases hq:d'.toList[i]? with
    |none=>rw [hq] at he; cases he
    |some y =>
     rw [hq] at he;cases he;have hi:i<l.length:=by have:=lt_of_getElem? hq; simpa [hd'] using this
     have hq':d'[i]? = some y:=by simpa using hq
     obtain ⟨f1,f2⟩:=flatP d' i y hq';have hvs:vs'.size=cap*2:=q4;have hcl:(l.map dvP).length=l.length:=by simp
     have hb2:l.length≤cap:=by rw [← hcl]; exact q5
     have at_:∀ k,k<2→(putCells id 0 (flatK encP 2 d') vs')[i*2+k]? = some ((flatK encP 2 d')[i*2+k]!):=fun k hk=>by
      have h5:i*2+k<vs'.size:=by omega
      simp only [putCells,Array.getElem?_mapIdx,Array.getElem?_eq_getElem h5,Option.map_some];rw [if_pos ⟨Nat.zero_le _,by rw [size_flatK,hd']; omega⟩];rfl
     match j with
     | 0 =>
      simp [dvP,DV.cells] at hx;subst hx;exact ⟨_,(at_ 0 (by omega)).trans (congrArg some f1),rfl,.int _ _⟩
     | 1 =>
      simp [dvP,DV.cells] at hx;subst hx;exact ⟨_,(at_ 1 (by omega)).trans (congrArg some f2),rfl,.int _ _⟩
     |j+2=>simp [dvP,DV.cells] at hx)
 refine ⟨c',.tup [],.tuple #[],rfl,rfl,⟨rfl,d'.toList,hperm,hsorted,rfl⟩,.tup [] #[] rfl (fun j x v hx=>by simp at hx),hok,?_⟩
 exact ⟨rfl,a1,a2,a3,a4,fun b hb hn=>a5 b hb (fun e=>by subst e; exact hn 0 cap r1),fun i b n hi _=>⟨n,hi⟩,fun i bx hi=>by
  obtain ⟨rfl,rfl⟩:=hone i bx hi
  exact .inl ⟨0,_,rfl,.inr ⟨rfl,hlen',rfl⟩⟩⟩
end Go.Proofs.YtajnanldmhpeaaaGreatDoor.P
