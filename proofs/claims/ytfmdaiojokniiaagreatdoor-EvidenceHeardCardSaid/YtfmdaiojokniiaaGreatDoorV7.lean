/- Several texts of mine, one behind the other. Conditions: as each says. -/
import Derived.Test.YtfmdaiojokniiaaGreatDoorV6
import Derived.Shelf.SlSortCmp.WholeK
set_option linter.unusedVariables false
set_option linter.unusedSimpArgs false
namespace Go.Proofs.YtfmdaiojokniiaaGreatDoor.P
open Go Go.aw Go.Sort Go.RowKit
def kQ (x:Int × Int):List Value:=[.int .i64 x.1,.int .i64 x.2]
def jh (x:Int × Int):DV := .agg [.int .i64 x.1,.int .i64 x.2]
def J' (P:Program) (f g:Nat) (key:Int × Int→Int):Prop:=∀ (blk cap:Nat) (d:Array (Int × Int)) (w:World),HoldsK kQ 2 w blk 0 d→blk<w.heap.size→d.size<4611686018427387904 →
 Calls P f #[.slice (some ⟨blk,0,none⟩) d.size cap,.func (.func g) #[] #[]] w fun e w'=>e = .returned (.tuple #[])∧∃ d' n os,PermIn 0 d.size d d'∧SortedIn (ltOf fun x y:Int × Int=>Lib.compareInt (key x) (key y)) 0 d.size d'∧w'=sortWorldK kQ 2 w blk 0 n d' os
theorem AH (key:Int × Int→Int) (x y:Int × Int):ltOf (fun x y:Int × Int=>Lib.compareInt (key x) (key y)) x y=decide (key x<key y):=by
 unfold ltOf Lib.compareInt;by_cases h1:key x<key y
 ·simp [h1]
 ·by_cases h2:key y<key x <;> simp [h1,h2]
theorem Sg (key:Int × Int→Int):SWO (ltOf fun x y:Int × Int=>Lib.compareInt (key x) (key y)) where
 irrefl x:=by rw [AH]; simp
 trans x y z h1 h2:=by rw [AH] at *; simp at *; omega
 ntrans x y z h1 h2:=by rw [AH] at *; simp at *; omega
theorem Ka (d:Array (Int × Int)) (i:Nat) (x:Int × Int) (h:d[i]? = some x):(flatK kQ 2 d)[i*2]! = .int .i64 x.1∧(flatK kQ 2 d)[i*2+1]! = .int .i64 x.2:=by
 have hi:i<d.size:=by
  rcases Nat.lt_or_ge i d.size with h' | h'
  ·exact h'
  ·rw [Array.getElem?_eq_none h'] at h; cases h
 have hx:d[i]! = x:=by simp [getElem!_pos d i hi]; rw [Array.getElem?_eq_getElem hi] at h; exact Option.some.inj h
 constructor
 ·rw [get_flatK _ _ _ _ (by omega),show i*2 / 2=i by omega,show i*2 % 2=0 by omega,hx]; rfl
 ·rw [get_flatK _ _ _ _ (by omega),show (i*2+1) / 2=i by omega,show (i*2+1) % 2=1 by omega,hx]; rfl
theorem Sh {w:World} {blk n:Nat} {d:Array (Int × Int)} {os:Array Obj} {vs:Array Value} {ty:TypeId} (hb:w.heap[blk]? = some (.cells vs ty (0,0))) :
  let w':=sortWorldK kQ 2 w blk 0 n d os
  w'.os=w.os∧w'.tape=w.tape∧w'.output=w.output∧w.heap.size≤w'.heap.size∧(∀ b,b<w.heap.size→b≠blk→w'.heap[b]? = w.heap[b]?)∧w'.heap[blk]? = some (.cells (putCells id 0 (flatK kQ 2 d) vs) ty (0,0)):=by
 intro w';have aj:blk<w.heap.size:=by
  rcases Nat.lt_or_ge blk w.heap.size with h | h
  ·exact h
  ·rw [Array.getElem?_eq_none h] at hb; cases hb
 have bQ:(putRowK kQ 2 (Sort.ahead w n) blk 0 d).heap.size=w.heap.size:=by simp [putRowK,putRow,mapBlock]
 refine ⟨rfl,rfl,rfl,?_,fun b bZ aJ=>?_,?_⟩
 ·show w.heap.size≤(grow _ os).heap.size;rw [size_grow,bQ]; omega
 ·show (grow _ os).heap[b]? = _;rw [heap_grow_old _ _ (by rw [bQ]; exact bZ)];simp [putRowK,putRow,mapBlock,Array.getElem?_modify,Ne.symm aJ]
 ·show (grow _ os).heap[blk]? = _;rw [heap_grow_old _ _ (by rw [bQ]; exact aj)];simp [putRowK,putRow,mapBlock,Array.getElem?_modify,hb,onCells]
theorem Ev {bad:Nat→Prop} {w:World} {k:IntKind} {n:Int} {v:Value} (h:VD bad w (.int k n) v):v = .int k n:=by cases h; rfl
theorem Si {E:Env} {f g:FuncId} {key:Int × Int→Int} {t:Nat} (hS:J' E.P f g key) (gb:qc E.P f) (l:List (Int × Int)) (hl:l≠[]) (hlen:l.length<4611686018427387904) :
  au E f [.arr 0 (t,2) (l.map jh)] [.own 0 0,.fn (.func g) [] []] (fun a b=>a = .aD []∧∃ l':List (Int × Int),l'.Perm l∧l'.Pairwise (fun x y=>key x≤key y)∧b=[.arr 0 (t,2) (l'.map jh)]):=by
 unfold au;refine ⟨gb,lB rfl,fun c vs h1 h2 h3=>?_⟩;obtain ⟨v1,v2,rfl⟩:∃ v1 v2,vs=[v1,v2]:=by
  have:=h3.1
  match vs,this with
  | [a,b],_=>exact ⟨a,b,rfl⟩
 have qD:=h3.2 0 _ v1 rfl rfl;have uw:=h3.2 1 _ v2 rfl rfl;have cQ:c.heap[0]? = some (.arr 0 (t,2) (l.map jh)):=by rw [h1]; rfl
 obtain ⟨u1,u2,rfl,e2,e3⟩:=jO uw;obtain rfl:u1=[]:=List.eq_nil_of_length_eq_zero (by have:=e2.1; simpa using this.symm);obtain rfl:u2=[]:=List.eq_nil_of_length_eq_zero (by have:=e3.1; simpa using this.symm);rcases ln cQ qD with ⟨blk,cap,r1,rfl⟩ | ⟨nt,-,-⟩
 case inr=>exact absurd (List.map_eq_nil_iff.1 nt) hl
 obtain ⟨q0,q1,q2⟩:=h2.box 0 _ cQ;rcases q2 with ⟨q2,-⟩ | ⟨iK,il,vs',q2,q3,q4,q5,q6,q7⟩
 ·rw [r1] at q2; cases q2
 rw [r1] at q2;cases q2;simp only at q3 q4 q7;have cZ:∀ (i:Nat) (x:Int × Int),l[i]? = some x→vs'[i*2]? = some (.int .i64 x.1)∧vs'[i*2+1]? = some (.int .i64 x.2):=fun i x hx=>by
  have he:(l.map jh)[i]? = some (jh x):=by simp [hx]
  obtain ⟨v,a1,a2,a3⟩:=q7 i 0 (jh x) (.int .i64 x.1) he rfl;obtain ⟨v',b1,b2,b3⟩:=q7 i 1 (jh x) (.int .i64 x.2) he rfl;rw [Ev a3] at a1;rw [Ev b3] at b1;exact ⟨a1,b1⟩
 have fA:l.toArray.size=l.length:=by simp
 have hH:HoldsK kQ 2 c.w blk 0 l.toArray:=by
  intro j hj;simp only [size_flatK,fA] at hj;obtain ⟨x,hx⟩:∃ x,l[j / 2]? = some x:=⟨l[j / 2]'(by omega),by rw [List.getElem?_eq_getElem]⟩;have fa:l.toArray[j / 2]? = some x:=by simpa using hx
  obtain ⟨f1,f2⟩:=Ka l.toArray (j / 2) x fa;obtain ⟨c1,c2⟩:=cZ (j / 2) x hx;refine ⟨?_,by simp [World.frozen?,q3]⟩;rcases Nat.mod_two_eq_zero_or_one j with hm | hm
  ·have ej:j / 2*2=j:=by omega
   rw [ej] at f1 c1;show _=some ((flatK kQ 2 l.toArray)[j]!);rw [f1];exact ku q3 _ _ (by simpa using c1)
  ·have ej:j / 2*2+1=j:=by omega
   rw [ej] at f2 c2;show _=some ((flatK kQ 2 l.toArray)[j]!);rw [f2];exact ku q3 _ _ (by simpa using c2)
 have hblk:=(h2.br 0 blk cap r1).1;have fP:=hS blk cap l.toArray c.w hH hblk (by rw [fA]; exact hlen);rw [fA] at fP;have gT:([Value.slice (some ⟨blk,0,none⟩) (l.map jh).length cap,.func (.func g) ([]:List Value).toArray ([]:List Value).toArray]:List Value).toArray = #[.slice (some ⟨blk,0,none⟩) l.length cap,.func (.func g) #[] #[]]:=by simp
 rw [gT];refine fP.mono fun e w' ⟨he,d',n,os,hp,hs,hw⟩=>?_;subst he;obtain ⟨p1,-,p3⟩:=hp;have eo:d'.size=l.length:=by rw [p1,fA]
 have mM:d'.toList.Perm l:=by
  have ex:∀ (a:Array (Int × Int)),a.size=l.length→(a.extract 0 l.length).toList=a.toList:=fun a ha=>by rw [← ha,Array.extract_size]
  rw [ex d' eo,ex l.toArray fA] at p3
  simpa using p3
 have Ew:d'.toList.Pairwise (fun x y=>key x≤key y):=by
  refine List.pairwise_iff_getElem.2 fun i j hi hj dj=>?_;have bY:i<d'.size:=by simpa using hi
  have dI:j<d'.size:=by simpa using hj
  have:=hs i j (Nat.zero_le _) dj (by omega);rw [AH,decide_eq_false_iff_not,getElem!_pos d' j dI,getElem!_pos d' i bY] at this;simp only [Array.getElem_toList];omega
 obtain ⟨a1,a2,a3,a4,a5,a6⟩:=Sh (n:=n) (d:=d') (os:=os) q3;rw [← hw] at a1 a2 a3 a4 a5 a6
 let c':Cx:={ c with heap:=[.arr 0 (t,2) (d'.toList.map jh)],w:=w' }
 have bX:∀ i bx,c.heap[i]? = some bx→i=0∧bx = .arr 0 (t,2) (l.map jh):=fun i bx hi=>by
  rw [h1] at hi;cases i with
  |zero=>simp at hi; exact ⟨rfl,hi.symm⟩
  |succ i=>simp at hi
 have jQ:(d'.toList.map jh).length=(l.map jh).length:=by simp [eo]
 have bc:aw.Step c c':=⟨rfl,h2.bN,a1,a2,a3,a4,fun b hb hn=>a5 b hb (fun e=>by subst e; exact hn 0 cap r1),fun i b n hi _=>⟨n,hi⟩,fun i bx hi=>by
  obtain ⟨rfl,rfl⟩:=bX i bx hi
  exact .inl ⟨0,_,rfl,.inr ⟨rfl,jQ,rfl⟩⟩⟩
 have aO:aK E.G c':=h2.next bc (fun i b n hi=>by
   have:=h2.br i b n hi;refine ⟨Nat.lt_of_lt_of_le this.1 a4,?_⟩;have h0:c.heap.length=1:=by rw [h1]; rfl
   show i<1;omega) h2.inj (fun i bx hi=>by
  right;cases i with
  |succ i=>simp [c'] at hi
  |zero =>
   simp [c'] at hi;subst hi;refine ⟨q0,fun i e he=>?_,.inr ⟨blk,cap,_,r1,a6,?_,?_,q6,fun i j e x he hx=>?_⟩⟩
   ·simp only [List.getElem?_map] at he;cases hq:d'.toList[i]? with
    |none=>rw [hq] at he; cases he
    |some y=>rw [hq] at he; cases he; rfl
   ·simp [putCells,q4]
   ·rw [jQ]; exact q5
   ·simp only [List.getElem?_map] at he;cases hq:d'.toList[i]? with
    |none=>rw [hq] at he; cases he
    |some y =>
     rw [hq] at he;cases he;have hi:i<l.length:=by have:=aR hq; simpa [eo] using this
     have tS:d'[i]? = some y:=by simpa using hq
     obtain ⟨f1,f2⟩:=Ka d' i y tS;have eF:vs'.size=cap*2:=q4;have dm:(l.map jh).length=l.length:=by simp
     have lQ:l.length≤cap:=by rw [← dm]; exact q5
     have at_:∀ k,k<2→(putCells id 0 (flatK kQ 2 d') vs')[i*2+k]? = some ((flatK kQ 2 d')[i*2+k]!):=fun k hk=>by
      have h5:i*2+k<vs'.size:=by omega
      simp only [putCells,Array.getElem?_mapIdx,Array.getElem?_eq_getElem h5,Option.map_some];rw [if_pos ⟨Nat.zero_le _,by rw [size_flatK,eo]; omega⟩];rfl
     match j with
     | 0 =>
      simp [jh,DV.cells] at hx;subst hx;exact ⟨_,(at_ 0 (by omega)).trans (congrArg some f1),rfl,.int _ _⟩
     | 1 =>
      simp [jh,DV.cells] at hx;subst hx;exact ⟨_,(at_ 1 (by omega)).trans (congrArg some f2),rfl,.int _ _⟩
     |j+2=>simp [jh,DV.cells] at hx)
 refine ⟨c',.aD [],.tuple #[],rfl,rfl,⟨rfl,d'.toList,mM,Ew,rfl⟩,.aD [] #[] rfl (fun j x v hx=>by simp at hx),aO,?_⟩
 exact ⟨rfl,a1,a2,a3,a4,fun b hb hn=>a5 b hb (fun e=>by subst e; exact hn 0 cap r1),fun i b n hi _=>⟨n,hi⟩,fun i bx hi=>by
  obtain ⟨rfl,rfl⟩:=bX i bx hi
  exact .inl ⟨0,_,rfl,.inr ⟨rfl,jQ,rfl⟩⟩⟩
end Go.Proofs.YtfmdaiojokniiaaGreatDoor.P
