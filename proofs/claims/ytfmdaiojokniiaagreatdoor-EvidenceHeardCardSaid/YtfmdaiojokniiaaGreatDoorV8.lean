/- Several texts of mine, one behind the other. Conditions: as each says. -/
import Derived.Test.YtfmdaiojokniiaaGreatDoorV7
import Derived.Shelf.SortM.Plain
set_option linter.unusedVariables false
set_option linter.unusedSimpArgs false
section
namespace Go.aw
open Go Go.RowKit
def H3 (H:List ae) (r:AV):Bool:=C5 H.length [] H&&gh H.length [] r
theorem au.pg {E:Env} {f:FuncId} {H H1:List ae} {args:List AV} {r0:AV} (hc:au E f H args (fun a b=>a=r0∧b=H1)) (hr:jy H.length [] 0 H1=H) (hk:H3 H r0=true):au E f H args (fun a b=>a=r0∧b=H):=by
 simp only [H3,Bool.and_eq_true] at hk;obtain ⟨dm,hv⟩:=hk;unfold au at hc ⊢;refine ⟨hc.1,hc.2.1,fun c vs h1 h2 h3=>(hc.2.2 c vs h1 h2 h3).mono fun e w' ⟨c',r,v,k1,k2,⟨k3,xp⟩,k4,k5,k6⟩=>?_⟩;subst k3;have a1:=k5.fk (n:=H.length) (B:=[]) (by rw [xp,hr]; exact dm);have a2:=zK (n:=H.length) (B:=[]) hv k4;obtain ⟨b1,b2⟩:=a1.HM (ax:=c'.ax) (fun b hb => .inl hb);refine ⟨⟨(c'.fk H.length []).own,(c'.fk H.length []).heap,c'.ax,c'.w⟩,r,v,k1,k2,⟨rfl,by show jy _ _ 0 c'.heap=H; rw [xp,hr]⟩,b2 _ _ a2,b1,?_⟩;have hid:∀ i,i<H.length→dc H.length [] i=false:=fun i hi=>by
  have:Nat.ble H.length i=false:=by
   cases q:Nat.ble H.length i
   ·rfl
   ·have:=Nat.le_of_ble_eq_true q; omega
  simp only [dc,this]; rfl
 exact {
  ax:=k6.ax
  os:=k6.os
  tape:=k6.tape
  output:=k6.output
  size:=k6.size
  keep:=k6.keep
  dh:=fun i b n hi hb=>k6.dh i b n (su hi).2 hb
  boxes:=fun i bx hi=>by
   have aj:i<H.length:=by rw [← h1]; exact aR hi
   have e1:(jy H.length [] 0 c'.heap)[i]? = c'.heap[i]? := uD 0 i c'.heap (by rw [Nat.zero_add]; exact hid i aj)
   exact uF (c:=c') (fun x hx=>e1.trans hx) (fun x _=>xk (hid i aj)) (k6.boxes i bx hi) }
theorem kG {G:List (Nat × DV)} {s:List AV} {f:FuncId}:aY G s (.func f) (.fn (.func f) [] []):=fun c a _ _=>by
 have:a.eval (.func f) = .func (.func f) #[] #[]:=rfl;rw [this];exact .fn _ [] [] #[] #[] rfl rfl (fun j x v hx=>by simp at hx) (fun j x v hx=>by simp at hx)
theorem Pe {G:List (Nat × DV)} {s:List AV} {k:IntKind} {n:Int}:aY G s (.const (.int k n)) (.d (.int k n)):=fun c a _ _ => .d _ _ (.int _ _)
theorem Pf {G:List (Nat × DV)} {s:List AV}:im G s [] []:=fun c a _ _ => .nil
theorem H4 {G:List (Nat × DV)} {s:List AV} {x:Operand} {v:AV} {xs:List Operand} {vs:List AV} (h:aY G s x v) (k:im G s xs vs):im G s (x::xs) (v::vs):=fun c a h3 h4=>VL.cons (h c a h3 h4) (k c a h3 h4)
theorem lG {G:List (Nat × DV)} {s:List AV} {x:Operand} {v:AV} (h:aY G s x v):im G s [x] [v]:=H4 h Pf
theorem kH {G:List (Nat × DV)} {s:List AV} {x y:Operand} {v w:AV} (h:aY G s x v) (k:aY G s y w):im G s [x,y] [v,w]:=H4 h (lG k)
end Go.aw
end
section
namespace Go.aw
open Go Go.RowKit
set_option maxHeartbeats 1000000
theorem PN {bad:Nat→Prop} {w:World} {z:List DV} {v:Value} (hv:VD bad w (.sl z) v):∃ a cap,v = .slice a z.length cap∧z.length≤cap∧VD bad w (.sl z) (.slice a z.length z.length):=by
 cases hv with
 |slnil=>exact ⟨none,0,rfl,Nat.le_refl _,.slnil⟩
 |jJ a=>exact ⟨some a,0,rfl,Nat.le_refl _,.jJ a⟩
 |sl _ blk off cap sz f h1 h2 h3 h4 h5 h6 h7=>exact ⟨_,cap,rfl,h3,.sl _ blk off z.length sz f h1 h2 (Nat.le_refl _) h4 h5 h6 h7⟩
theorem I.slice3 {E:Env} {s:List AV} {h:List ae} (hE:E.OK) {ag:FuncId} {R:cw} {lits:List Nat} {ops:Array Oper} {o:Oper} {l:List Oper} {r:List aN} {t e:Nat} {ti ei:bp} {x y u m:Operand} {z:List DV} {j j1 j2:IntKind} {n:Nat} (hg:o.guard=none)
  (ca:o.op = .slice t x (some y) (some u) (some m)) (hi:E.T[t]? = some ti) (hk:ti.k = .slice e) (bR:E.T[e]? = some ei) (hv:aY E.G s x (.d (.sl z))) (hy:aY E.G s y (.d (.int j n))) (hu:aY E.G s u (.d (.int j1 z.length))) (hm:aY E.G s m (.d (.int j2 z.length))) (hn:n≤z.length) (bQ:∀ e∈z,e.cells.length=ei.size)
  (H:cb s o.dst (.d (.sl (z.drop n))) fun s'=>I E ag R lits (.bq ops l::r) s' h):I E ag R lits (.bq ops (o::l)::r) s h:=by
 have ho:bC E o.op s h (.d (.sl (z.drop n))) h:=by
  rw [ca];refine .quiet fun o c ac e1 h2 h3 h4=>?_;subst h2;obtain ⟨lr,d,g1,g2,g3,-⟩:=cj (hE.types t ti hi);obtain rfl:=kv (hk.symm.trans g3);have hv:=hv c ac h3 h4;generalize BV:ac.eval x=v at hv;cases hv with
  |d _ _ hv =>
   obtain ⟨a,cap,rfl,iH,hd⟩:=PN hv;obtain ⟨a',il,e2,-,hd⟩:=F' hd (lo:=n) (hi:=z.length) hn (Nat.le_refl _) bQ;cases e2;rw [List.take_length] at hd;refine ⟨_,?_,.d _ _ hd⟩;have e3:=dQ (hy c ac h3 h4);have e4:=dQ (hu c ac h3 h4);have e5:=dQ (hm c ac h3 h4);have b1:=run_sliceBound (P:=E.P) c.w j2 z.length cap .slice3Acap (by omega) (by omega);have b2:=run_sliceBound (P:=E.P) c.w j1 z.length z.length .slice3B (by omega) (by omega);have b3:=run_sliceBound (P:=E.P) c.w j n z.length .slice3C (by omega) (by omega);simp only [Int.toNat_natCast] at b1 b2 b3;simp only [execOp,e1,BV,e3,e4,e5,Instr.sliceAt,Instr.slice,Instr.sliceBounds,Sem.run_bind,Sem.run_pure,Result.andThen_ok,run_underlying g2,Option.map_some,Option.isSome_some,if_true,b1,b2,b3,run_sizeOf (hE.types e ei bR)]
 rw [dR] at H;exact .of (.op (fZ hg) ho H.to)
end Go.aw
end
section
namespace Go.Proofs.YtfmdaiojokniiaaGreatDoor.P
open Go Go.aw Go.Sort Go.RowKit
def fu (l:List Int):List Int:=l.mergeSort fun x y=>decide (x≤y)
theorem s7 (l:List Int):(fu l).Perm l:=List.mergeSort_perm ..
theorem ET (l:List Int):(fu l).Pairwise (· ≤ ·):=by
 have:=List.pairwise_mergeSort (le:=fun x y=>decide (x≤y)) (by intro a b c; simp; omega) (by intro a b; simp; omega) l;exact this.imp fun {a b} h=>by simpa using h
def KG (P:Program) (f:Nat):Prop:=∀ (blk cap:Nat) (zs:List Int) (w:World),Holds (Value.int .i64) w blk 0 zs.toArray→blk<w.heap.size→zs.length<4611686018427387904 →
 Calls P f #[.slice (some ⟨blk,0,none⟩) zs.length cap] w fun e w'=>e = .returned (.tuple #[])∧∃ n os,w'=grow (putRow (Value.int .i64) (Sort.ahead w n) blk 0 (fu zs).toArray) os
theorem TV {w:World} {blk n:Nat} {d:Array Int} {os:Array Obj} {vs:Array Value} {ty:TypeId} (hb:w.heap[blk]? = some (.cells vs ty (0,0))) :
  let w':=grow (putRow (Value.int .i64) (Sort.ahead w n) blk 0 d) os
  w'.os=w.os∧w'.tape=w.tape∧w'.output=w.output∧w.heap.size≤w'.heap.size∧(∀ b,b<w.heap.size→b≠blk→w'.heap[b]? = w.heap[b]?)∧w'.heap[blk]? = some (.cells (putCells (Value.int .i64) 0 d vs) ty (0,0)):=by
 intro w';have aj:blk<w.heap.size:=by
  rcases Nat.lt_or_ge blk w.heap.size with h | h
  ·exact h
  ·rw [Array.getElem?_eq_none h] at hb; cases hb
 have bQ:(putRow (Value.int .i64) (Sort.ahead w n) blk 0 d).heap.size=w.heap.size:=by simp [putRow,mapBlock]
 refine ⟨rfl,rfl,rfl,?_,fun b bZ aJ=>?_,?_⟩
 ·show w.heap.size≤(grow _ os).heap.size;rw [size_grow,bQ]; omega
 ·show (grow _ os).heap[b]? = _;rw [heap_grow_old _ _ (by rw [bQ]; exact bZ)];simp [putRow,mapBlock,Array.getElem?_modify,Ne.symm aJ]
 ·show (grow _ os).heap[blk]? = _;rw [heap_grow_old _ _ (by rw [bQ]; exact aj)];simp [putRow,mapBlock,Array.getElem?_modify,hb,onCells]
theorem TW {E:Env} {f:FuncId} {t:Nat} (hS:KG E.P f) (gb:qc E.P f) (l:List Int) (hl:l≠[]) (hlen:l.length<4611686018427387904) :
  au E f [.arr 0 (t,1) (l.map (DV.int .i64))] [.own 0 0] (fun a b=>a = .aD []∧b=[.arr 0 (t,1) ((fu l).map (DV.int .i64))]):=by
 unfold au;refine ⟨gb,lB rfl,fun c vs h1 h2 h3=>?_⟩;obtain ⟨v1,rfl⟩:∃ v1,vs=[v1]:=by
  have:=h3.1
  match vs,this with
  | [a],_=>exact ⟨a,rfl⟩
 have qD:=h3.2 0 _ v1 rfl rfl;have cQ:c.heap[0]? = some (.arr 0 (t,1) (l.map (DV.int .i64))):=by rw [h1]; rfl
 rcases ln cQ qD with ⟨blk,cap,r1,rfl⟩ | ⟨nt,-,-⟩
 case inr=>exact absurd (List.map_eq_nil_iff.1 nt) hl
 obtain ⟨q0,q1,q2⟩:=h2.box 0 _ cQ;rcases q2 with ⟨q2,-⟩ | ⟨iK,il,vs',q2,q3,q4,q5,q6,q7⟩
 ·rw [r1] at q2; cases q2
 rw [r1] at q2;cases q2;simp only at q3 q4 q7;have cZ:∀ (i:Nat) (x:Int),l[i]? = some x→vs'[i]? = some (.int .i64 x):=fun i x hx=>by
  have he:(l.map (DV.int .i64))[i]? = some (DV.int .i64 x):=by simp [hx]
  obtain ⟨v,a1,a2,a3⟩:=q7 i 0 (DV.int .i64 x) (.int .i64 x) he rfl;rw [Ev a3] at a1
  simpa using a1
 have hH:Holds (Value.int .i64) c.w blk 0 l.toArray:=by
  intro j hj;have dI:j<l.length:=by simpa using hj
  obtain ⟨x,hx⟩:∃ x,l[j]? = some x:=⟨l[j]'(by omega),by rw [List.getElem?_eq_getElem]⟩;have tC:l.toArray[j]! = x:=by
   rw [getElem!_pos l.toArray j (by simpa using dI)];have:=List.getElem?_eq_some_iff.1 hx
   simpa using this.2
  refine ⟨?_,by simp [World.frozen?,q3]⟩;rw [tC];exact ku q3 _ _ (by simpa using cZ j x hx)
 have hblk:=(h2.br 0 blk cap r1).1;have fP:=hS blk cap l c.w hH hblk hlen;have gT:([Value.slice (some ⟨blk,0,none⟩) (l.map (DV.int .i64)).length cap]:List Value).toArray = #[.slice (some ⟨blk,0,none⟩) l.length cap]:=by simp
 rw [gT];refine fP.mono fun e w' ⟨he,n,os,hw⟩=>?_;subst he;have eo:(fu l).length=l.length:=(s7 l).length_eq;obtain ⟨a1,a2,a3,a4,a5,a6⟩:=TV (n:=n) (d:=(fu l).toArray) (os:=os) q3;rw [← hw] at a1 a2 a3 a4 a5 a6
 let c':Cx:={ c with heap:=[.arr 0 (t,1) ((fu l).map (DV.int .i64))],w:=w' }
 have bX:∀ i bx,c.heap[i]? = some bx→i=0∧bx = .arr 0 (t,1) (l.map (DV.int .i64)):=fun i bx hi=>by
  rw [h1] at hi;cases i with
  |zero=>simp at hi; exact ⟨rfl,hi.symm⟩
  |succ i=>simp at hi
 have jQ:((fu l).map (DV.int .i64)).length=(l.map (DV.int .i64)).length:=by simp [eo]
 have bc:aw.Step c c':=⟨rfl,h2.bN,a1,a2,a3,a4,fun b hb hn=>a5 b hb (fun e=>by subst e; exact hn 0 cap r1),fun i b n hi _=>⟨n,hi⟩,fun i bx hi=>by
  obtain ⟨rfl,rfl⟩:=bX i bx hi
  exact .inl ⟨0,_,rfl,.inr ⟨rfl,jQ,rfl⟩⟩⟩
 have aO:aK E.G c':=h2.next bc (fun i b n hi=>by
   have:=h2.br i b n hi;refine ⟨Nat.lt_of_lt_of_le this.1 a4,?_⟩;have h0:c.heap.length=1:=by rw [h1]; rfl
   show i<1;omega) h2.inj (fun i bx hi=>by
  right;cases i with
  |succ i=>simp [c'] at hi
  |zero =>
   simp [c'] at hi;subst hi;refine ⟨q0,fun i e he=>?_,.inr ⟨blk,cap,_,r1,a6,?_,?_,q6,fun i j e x he hx=>?_⟩⟩
   ·simp only [List.getElem?_map] at he;cases hq:(fu l)[i]? with
    |none=>rw [hq] at he; cases he
    |some y=>rw [hq] at he; cases he; rfl
   ·simp [putCells,q4]
   ·rw [jQ]; exact q5
   ·simp only [List.getElem?_map] at he;cases hq:(fu l)[i]? with
    |none=>rw [hq] at he; cases he
    |some y =>
     rw [hq] at he;cases he;have hi:i<l.length:=by have:=aR hq; omega
     have eF:vs'.size=cap*1:=q4;have dm:(l.map (DV.int .i64)).length=l.length:=by simp
     have lQ:l.length≤cap:=by rw [← dm]; exact q5
     have hy:(fu l).toArray[i]! = y:=by
      rw [getElem!_pos (fu l).toArray i (by simp; omega)];have:=List.getElem?_eq_some_iff.1 hq
      simpa using this.2
     have at_:(putCells (Value.int .i64) 0 (fu l).toArray vs')[i]? = some (.int .i64 y):=by
      have h5:i<vs'.size:=by omega
      simp only [putCells,Array.getElem?_mapIdx,Array.getElem?_eq_getElem h5,Option.map_some];rw [if_pos ⟨Nat.zero_le _,by simp; omega⟩,Nat.sub_zero,hy]
     match j with
     | 0 =>
      simp [DV.cells] at hx;subst hx;exact ⟨_,by simpa using at_,rfl,.int _ _⟩
     |j+1=>simp [DV.cells] at hx)
 refine ⟨c',.aD [],.tuple #[],rfl,rfl,⟨rfl,rfl⟩,.aD [] #[] rfl (fun j x v hx=>by simp at hx),aO,?_⟩
 exact ⟨rfl,a1,a2,a3,a4,fun b hb hn=>a5 b hb (fun e=>by subst e; exact hn 0 cap r1),fun i b n hi _=>⟨n,hi⟩,fun i bx hi=>by
  obtain ⟨rfl,rfl⟩:=bX i bx hi
  exact .inl ⟨0,_,rfl,.inr ⟨rfl,jQ,rfl⟩⟩⟩
end Go.Proofs.YtfmdaiojokniiaaGreatDoor.P
end
