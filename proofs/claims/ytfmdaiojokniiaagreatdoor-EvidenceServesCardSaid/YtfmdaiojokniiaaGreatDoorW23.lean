/- Several texts of mine, one behind the other. Conditions: as each says. -/
import Derived.Test.YtfmdaiojokniiaaGreatDoorW14
import Derived.Test.YtfmdaiojokniiaaGreatDoorW21
import Derived.Test.YtfmdaiojokniiaaGreatDoorW22
set_option linter.unusedVariables false
set_option linter.unusedSimpArgs false
section
namespace Go.Proofs.YtfmdaiojokniiaaGreatDoor.P
open Go Go.aw
set_option maxRecDepth 100000
set_option maxHeartbeats 4000000
def ui (s:Signed):Bool := !(decide ((s.set.data.length:Int)>20)) && !(decide ((s.sigs.length:Int)>20)) && !(decide ((s.set.name.length:Int)>100))
def xf (l:List Signed):Bool:=(l.take 61).all ui&&decide (l.length≤60)
theorem RL (l:List Signed) (hl:l.length≤maxLen):au E 12 [.sl (l.map Signed.enc)] (· = .bool (xf l)):=by
 unfold maxLen at hl;unfold xf;refine eP Tryz.func12 ?_;refine I.loop (κ:=Nat) (rg 2 39) (fun k=>[(3,.d (.int .i64 k))]) (fun _=>[]) (fun k=>k≤l.length∧k≤61∧(l.take k).all ui=true) (fun k=>l.length - k) 0 ⟨Nat.zero_le _,by omega,rfl⟩ ?_ ?_
 ·exact sZ
 rintro k ⟨hk,wo,a7⟩ IH;refine I.head ag Tryz.func12 2000 ?_;(conv=>whnf);by_cases ah:k<l.length∧k≤60
 ·obtain ⟨x,hx⟩:=aU ah.1;have no:=fun h=>gG (l:=l.take 61) (k:=k) (p:=ui) (by rw [List.getElem?_take,if_pos (by omega)]; exact hx) h;have back:=fun h=>IH (k+1) ⟨by omega,by omega,iD a7 hx h⟩ (by omega);have yR:ui x=(!(decide ((x.set.data.length:Int)>20)) && !(decide ((x.sigs.length:Int)>20)) && !(decide ((x.set.name.length:Int)>100))):=rfl;refine bg (by simp; omega) ?_;refine gO Tryz.func12 ?_;refine bg (by simp; omega) ?_;refine gO Tryz.func12 ?_;repeat' (first | with_reducible refine aT (bu hx) rfl ?_ | with_reducible refine cY ?_ | with_reducible refine cN ?_ | with_reducible refine aj (fun _=>?_) (fun _=>?_) | refine gA Tryz.func12 ?_ | refine gB ?_ | with_reducible rfl)
  all_goals try (rw [no (by rw [yR]; simp_all)]; rfl)
  refine gO Tryz.func12 ?_;refine I.back (back (by rw [yR]; simp_all)) ?_;exact sZ
 ·have e:(l.take 61).all ui=true:=by
   by_cases h:k=61
   ·rw [← h]; exact a7
   ·rw [List.take_of_length_le (by omega)] at a7 ⊢; exact a7
  rw [e];by_cases h:k<l.length
  ·refine bg (by simpa using h) ?_;refine gO Tryz.func12 ?_;refine aW (by simp; omega) ?_;refine gO Tryz.func12 ?_;rw [Bool.true_and];refine congrArg DV.bool (decide_eq_decide.2 ?_);simp;omega
  ·refine aW (by simpa using h) ?_;refine gO Tryz.func12 ?_;refine aN ?_;refine gO Tryz.func12 ?_;rw [Bool.true_and];refine congrArg DV.bool (decide_eq_decide.2 ?_);simp;omega
def Entry.eF (e:Entry):Prop:=e.signed.eF∧e.ay.length≤maxLen
end Go.Proofs.YtfmdaiojokniiaaGreatDoor.P
end
section
namespace Go.aw
open Go Go.RowKit
section
variable {E:Env} {s:List AV} {h:List ab} {c:Cx} {G:List (Nat × DV)} {P:Program}
end
end Go.aw
end
section
namespace Go.aw
open Go Go.RowKit
section
variable {E:Env} {af:FuncId} {R:cu} {td:List aH} {s:List AV} {h:List ab}
end
end Go.aw
end
section
namespace Go.Proofs.YtfmdaiojokniiaaGreatDoor.P
open Go Go.aw Go.Sort Go.RowKit
def eY (l:List Int):List Int:=l.mergeSort fun x y=>decide (x≤y)
theorem rZ (l:List Int):(eY l).Perm l:=List.mergeSort_perm ..
theorem DN (l:List Int):(eY l).Pairwise (· ≤ ·):=by
 have:=List.pairwise_mergeSort (le:=fun x y=>decide (x≤y)) (by intro a b c; simp; omega) (by intro a b; simp; omega) l;exact this.imp fun {a b} h=>by simpa using h
def Jr (P:Program) (f:Nat):Prop:=∀ (blk cap:Nat) (zs:List Int) (w:World),Holds (Value.int .i64) w blk 0 zs.toArray→blk<w.heap.size→zs.length<4611686018427387904 →
 Calls P f #[.slice (some ⟨blk,0,none⟩) zs.length cap] w fun e w'=>e = .returned (.tuple #[])∧∃ n os,w'=grow (putRow (Value.int .i64) (Sort.ahead w n) blk 0 (eY zs).toArray) os
theorem Sa {w:World} {blk n:Nat} {d:Array Int} {os:Array Obj} {vs:Array Value} {ty:TypeId} (hb:w.heap[blk]? = some (.cells vs ty (0,0))) :
  let w':=grow (putRow (Value.int .i64) (Sort.ahead w n) blk 0 d) os
  w'.os=w.os∧w'.tape=w.tape∧w'.output=w.output∧w.heap.size≤w'.heap.size∧(∀ b,b<w.heap.size→b≠blk→w'.heap[b]? = w.heap[b]?)∧w'.heap[blk]? = some (.cells (putCells (Value.int .i64) 0 d vs) ty (0,0)):=by
 intro w';have ah:blk<w.heap.size:=by
  rcases Nat.lt_or_ge blk w.heap.size with h | h
  ·exact h
  ·rw [Array.getElem?_eq_none h] at hb; cases hb
 have bK:(putRow (Value.int .i64) (Sort.ahead w n) blk 0 d).heap.size=w.heap.size:=by simp [putRow,mapBlock]
 refine ⟨rfl,rfl,rfl,?_,fun b bT aE=>?_,?_⟩
 ·show w.heap.size≤(grow _ os).heap.size;rw [size_grow,bK]; omega
 ·show (grow _ os).heap[b]? = _;rw [heap_grow_old _ _ (by rw [bK]; exact bT)];simp [putRow,mapBlock,Array.getElem?_modify,Ne.symm aE]
 ·show (grow _ os).heap[blk]? = _;rw [heap_grow_old _ _ (by rw [bK]; exact ah)];simp [putRow,mapBlock,Array.getElem?_modify,hb,onCells]
theorem Sb {E:Env} {f:FuncId} {t:Nat} (hS:Jr E.P f) (fL:pf E.P f) (l:List Int) (hl:l≠[]) (hlen:l.length<4611686018427387904) :
  aq E f [.arr 0 (t,1) (l.map (DV.int .i64))] [.own 0 0] (fun a b=>a = .az []∧b=[.arr 0 (t,1) ((eY l).map (DV.int .i64))]):=by
 unfold aq;refine ⟨fL,kI rfl,fun c vs h1 h2 h3=>?_⟩;obtain ⟨v1,rfl⟩:∃ v1,vs=[v1]:=by
  have:=h3.1
  match vs,this with
  | [a],_=>exact ⟨a,rfl⟩
 have pI:=h3.2 0 _ v1 rfl rfl;have cM:c.heap[0]? = some (.arr 0 (t,1) (l.map (DV.int .i64))):=by rw [h1]; rfl
 rcases kz cM pI with ⟨blk,cap,r1,rfl⟩ | ⟨mi,-,-⟩
 case inr=>exact absurd (List.map_eq_nil_iff.1 mi) hl
 obtain ⟨q0,q1,q2⟩:=h2.box 0 _ cM;rcases q2 with ⟨q2,-⟩ | ⟨ib,gR,vs',q2,q3,q4,q5,q6,q7⟩
 ·rw [r1] at q2; cases q2
 rw [r1] at q2;cases q2;simp only at q3 q4 q7;have cT:∀ (i:Nat) (x:Int),l[i]? = some x→vs'[i]? = some (.int .i64 x):=fun i x hx=>by
  have he:(l.map (DV.int .i64))[i]? = some (DV.int .i64 x):=by simp [hx]
  obtain ⟨v,a1,a2,a3⟩:=q7 i 0 (DV.int .i64 x) (.int .i64 x) he rfl;rw [Du a3] at a1
  simpa using a1
 have hH:Holds (Value.int .i64) c.w blk 0 l.toArray:=by
  intro j hj;have dC:j<l.length:=by simpa using hj
  obtain ⟨x,hx⟩:∃ x,l[j]? = some x:=⟨l[j]'(by omega),by rw [List.getElem?_eq_getElem]⟩;have sD:l.toArray[j]! = x:=by
   rw [getElem!_pos l.toArray j (by simpa using dC)];have:=List.getElem?_eq_some_iff.1 hx
   simpa using this.2
  refine ⟨?_,by simp [World.frozen?,q3]⟩;rw [sD];exact jM q3 _ _ (by simpa using cT j x hx)
 have hblk:=(h2.bk 0 blk cap r1).1;have fB:=hS blk cap l c.w hH hblk hlen;have gq:([Value.slice (some ⟨blk,0,none⟩) (l.map (DV.int .i64)).length cap]:List Value).toArray = #[.slice (some ⟨blk,0,none⟩) l.length cap]:=by simp
 rw [gq];refine fB.mono fun e w' ⟨he,n,os,hw⟩=>?_;subst he;have ef:(eY l).length=l.length:=(rZ l).length_eq;obtain ⟨a1,a2,a3,a4,a5,a6⟩:=Sa (n:=n) (d:=(eY l).toArray) (os:=os) q3;rw [← hw] at a1 a2 a3 a4 a5 a6
 let c':Cx:={ c with heap:=[.arr 0 (t,1) ((eY l).map (DV.int .i64))],w:=w' }
 have cd:∀ i bx,c.heap[i]? = some bx→i=0∧bx = .arr 0 (t,1) (l.map (DV.int .i64)):=fun i bx hi=>by
  rw [h1] at hi;cases i with
  |zero=>simp at hi; exact ⟨rfl,hi.symm⟩
  |succ i=>simp at hi
 have jq:((eY l).map (DV.int .i64)).length=(l.map (DV.int .i64)).length:=by simp [ef]
 have aV:aw.Step c c':=⟨rfl,h2.bG,a1,a2,a3,a4,fun b hb hn=>a5 b hb (fun e=>by subst e; exact hn 0 cap r1),fun i b n hi _=>⟨n,hi⟩,fun i bx hi=>by
  obtain ⟨rfl,rfl⟩:=cd i bx hi
  exact .inl ⟨0,_,rfl,.inr ⟨rfl,jq,rfl⟩⟩⟩
 have aJ:aC E.G c':=h2.next aV (fun i b n hi=>by
   have:=h2.bk i b n hi;refine ⟨Nat.lt_of_lt_of_le this.1 a4,?_⟩;have h0:c.heap.length=1:=by rw [h1]; rfl
   show i<1;omega) h2.inj (fun i bx hi=>by
  right;cases i with
  |succ i=>simp [c'] at hi
  |zero =>
   simp [c'] at hi;subst hi;refine ⟨q0,fun i e he=>?_,.inr ⟨blk,cap,_,r1,a6,?_,?_,q6,fun i j e x he hx=>?_⟩⟩
   ·simp only [List.getElem?_map] at he;cases hq:(eY l)[i]? with
    |none=>rw [hq] at he; cases he
    |some y=>rw [hq] at he; cases he; rfl
   ·simp [putCells,q4]
   ·rw [jq]; exact q5
   ·simp only [List.getElem?_map] at he;cases hq:(eY l)[i]? with
    |none=>rw [hq] at he; cases he
    |some y =>
     rw [hq] at he;cases he;have hi:i<l.length:=by have:=aP hq; omega
     have eu:vs'.size=cap*1:=q4;have dS:(l.map (DV.int .i64)).length=l.length:=by simp
     have kQ:l.length≤cap:=by rw [← dS]; exact q5
     have hy:(eY l).toArray[i]! = y:=by
      rw [getElem!_pos (eY l).toArray i (by simp; omega)];have:=List.getElem?_eq_some_iff.1 hq
      simpa using this.2
     have at_:(putCells (Value.int .i64) 0 (eY l).toArray vs')[i]? = some (.int .i64 y):=by
      have h5:i<vs'.size:=by omega
      simp only [putCells,Array.getElem?_mapIdx,Array.getElem?_eq_getElem h5,Option.map_some];rw [if_pos ⟨Nat.zero_le _,by simp; omega⟩,Nat.sub_zero,hy]
     match j with
     | 0 =>
      simp [DV.cells] at hx;subst hx;exact ⟨_,by simpa using at_,rfl,.int _ _⟩
     |j+1=>simp [DV.cells] at hx)
 refine ⟨c',.az [],.tuple #[],rfl,rfl,⟨rfl,rfl⟩,.az [] #[] rfl (fun j x v hx=>by simp at hx),aJ,?_⟩
 exact ⟨rfl,a1,a2,a3,a4,fun b hb hn=>a5 b hb (fun e=>by subst e; exact hn 0 cap r1),fun i b n hi _=>⟨n,hi⟩,fun i bx hi=>by
  obtain ⟨rfl,rfl⟩:=cd i bx hi
  exact .inl ⟨0,_,rfl,.inr ⟨rfl,jq,rfl⟩⟩⟩
end Go.Proofs.YtfmdaiojokniiaaGreatDoor.P
end
