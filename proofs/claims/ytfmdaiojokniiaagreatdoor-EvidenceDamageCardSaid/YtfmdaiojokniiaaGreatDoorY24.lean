/- Several texts of mine, one behind the other. Conditions: as each says. -/
import Derived.Test.YtfmdaiojokniiaaGreatDoorY8
import Derived.Test.YtfmdaiojokniiaaGreatDoorY10
set_option linter.unusedVariables false
set_option linter.unusedSimpArgs false
section
namespace Go.ax
open Go Go.RowKit
section
variable {E:Env} {s:List AV} {h:List ae} {c:Cx} {G:List (Nat × DV)}
theorem Tr (hE:E.OK) {t e len:Nat} {i ei:bk} (hi:E.T[t]? = some i) (bP:E.T[e]? = some ei) (hk:i.k = .slice e) {parts:Array (Nat × Operand)} {ps:List (Nat × AV)} (fG:vp E.G s parts.toList ps)
  {z:DV} (hz:ei.zero=[z]) (bY:ei.size=1) (hlen:0<len) (yk:len≤16777216) {l:List AV} (hl:l.length=len)
  (h4:∀ (c:Cx) (vs us:List Value),VL c (List.replicate len (AV.d z)) vs→VL c (ps.map (·.2)) us→∃ vs':List Value,Instr.fill (fun i=>some (i*1,1)) vs.toArray ((ps.map (·.1)).zip us)=some vs'.toArray∧VL c l vs') :
  bC E (.buildSlice t len parts) s h (.own h.length 0) (h++[.cells l]):=fun o c ac e1 e2 e3 e4=>by
 subst e2;have cA:0<ei.size:=by omega
 obtain ⟨ti,zv,g1,g2,g3,g4⟩:=zeroOf (hE.types e ei bP) (by rw [hz,bY]; rfl) cA;obtain ⟨zs,vt,jg⟩:=g4 c;obtain ⟨p1,p2⟩:=fG c ac e3 e4;have ki:zs.length=1:=by rw [← jg.1,hz]; rfl
 have xQ:ti.size=1:=by omega
 have vu:VL c (List.replicate len (AV.d z)) ((Array.range (len*ti.size)).map (zv.cells[· % zv.cells.size]!)).toList:=by
  refine ⟨by simp [xQ],fun j x v hx hv=>?_⟩;rw [List.getElem?_replicate] at hx;split at hx
  ·rename_i hj;cases hx;have eF:v=zs[0]'(by omega):=by
    simp [xQ,hj,vt,ki] at hv;rw [← hv];simp [ki,Nat.mod_one]
   rw [eF];exact jg.2 0 _ _ (by rw [hz]; rfl) (by simp [ki])
  ·cases hx
 obtain ⟨vs',f1,f2⟩:=h4 c _ _ vu p2;obtain ⟨vv,d,q1,q2,q3,-⟩:=cm (hE.types t i hi);obtain rfl:=kg (hk.symm.trans q3);have eq:(parts.map fun (i,x)=>(i,ac.eval x)).toList=(ps.map (·.1)).zip (parts.toList.map fun p=>ac.eval p.2):=by
  rw [p1,Array.toList_map];generalize parts.toList=q
  induction q with
  |nil=>rfl
  |cons a q ih=>simp only [List.map_cons,List.zip_cons_cons,ih]
 have qP:Instr.fill (fun i=>some (i*ti.size,ti.size)) ((Array.range (len*ti.size)).map (zv.cells[· % zv.cells.size]!)) (parts.map fun (i,x)=>(i,ac.eval x)).toList=some vs'.toArray:=by
  rw [eq,← f1,Array.toArray_toList,xQ]
 have cq:=run_buildSlice (P:=E.P) c.w t e len (parts.map fun (i,x)=>(i,ac.eval x)) vs'.toArray ti zv q2 g1 g2 (by rw [xQ]; omega) (by rw [xQ]; omega) qP;obtain ⟨w1,w2,w3⟩:=e3.AZ f2 e;refine ⟨_,.slice (some ⟨c.w.heap.size,0,none⟩) len len,.inl (by simp only [execOp,e1,Sem.run_bind,cq,Result.andThen_ok,Sem.run_pure]; rfl),rfl,w1,?_,w2⟩;exact .kK _ _ l c.w.heap.size 0 len (by simp [Cx.add]) (by simp [Cx.add]) hl
theorem I.Ts (hE:E.OK) {ag:FuncId} {R:cx} {lits:List Nat} {ops:Array Oper} {o:Oper} {l:List Oper} {r:List aP} {t e len:Nat} {i ei:bk} {parts:Array (Nat × Operand)} (hg:o.guard=none) (b9:o.op = .buildSlice t len parts)
  (hi:E.T[t]? = some i) (hk:i.k = .slice e) (bP:E.T[e]? = some ei) {z:DV} (hz:ei.zero=[z]) (bY:ei.size=1) (hlen:Nat.blt 0 len=true) (yk:Nat.ble len 16777216=true)
  (H:qK E.G s parts.toList False fun ps=>sS (fun i=>some (i*1,1)) ps (List.replicate len (AV.d z)) False fun cs=>match Nat.beq cs.length len with
   |true=>cb s o.dst (.own h.length 0) fun s'=>I E ag R lits (.bo ops l::r) s' (h++[.cells cs])
   |false=>False):I E ag R lits (.bo ops (o::l)::r) s h:=by
 rcases vq H with h' | ⟨ps,fG,H⟩
 ·exact h'.elim
 rcases yi H with h' | ⟨cs,H,hf⟩
 ·exact h'.elim
 split at H
 ·rename_i q;have ho:=Tr (h:=h) hE hi bP hk fG hz bY (gq hlen) (Nat.le_of_ble_eq_true yk) (Nat.eq_of_beq_eq_true q) hf;rw [← b9] at ho;rw [dN] at H;exact .of (.op (fR hg) ho H.to)
 ·exact H.elim
theorem Ka {b g:Nat} {cs:List AV} (hb:c.heap[b]? = some (.cells cs)) {v:Value} (hv:VR c (.own b g) v):∃ blk cap,c.own b=some (blk,cap)∧v = .slice (some ⟨blk,0,none⟩) cs.length cs.length:=by
 cases hv with
 |own _ _ _ l' blk cap k1 k2=>rw [hb] at k1; cases k1
 |gj _ _ _ k1 k2=>rw [hb] at k1; cases k1
 |jd _ _ g' _ _ _ k1 k2 _=>rw [hb] at k1; cases k1
 |ix _ _ _ k1 _=>rw [hb] at k1; cases k1
 |kK _ _ _ blk cap n k1 k2 k3=>rw [hb] at k1; cases k1; subst k3; exact ⟨blk,cap,k2,rfl⟩
theorem I.Tt (hE:E.OK) {ag:FuncId} {R:cx} {lits:List Nat} {ops:Array Oper} {o:Oper} {l:List Oper} {r:List aP} {t e b g:Nat} {i:bk} {x:Operand} {args:Array Operand} {ts:Array TypeId} {cs:List AV} (hg:o.guard=none)
  (b9:o.op = .call { callee := .builtin .len,args:=args,argTypes:=ts }) (hx:args.toList[0]? = some x) (ht:ts.toList[0]? = some t) (hi:E.T[t]? = some i) (hk:i.k = .slice e) (hv:aZ E.G s x (.own b g)) (hb:h[b]? = some (.cells cs))
  (H:cb s o.dst (.d (.int .i64 cs.length)) fun s'=>I E ag R lits (.bo ops l::r) s' h):I E ag R lits (.bo ops (o::l)::r) s h:=by
 have ho:bC E o.op s h (.d (.int .i64 cs.length)) h:=by
  rw [b9];refine .quiet fun o c ac h1 h2 h3 h4=>?_;subst h2;obtain ⟨blk,cap,-,q⟩:=Ka hb (hv c ac h3 h4);exact ⟨_,vn h1 hx ht (hE.types t i hi) q (.inl ⟨e,_,_,hk,rfl⟩),.d _ _ (.int _ _)⟩
 rw [dN] at H;exact .of (.op (fR hg) ho H.to)
theorem I.n4 (hE:E.OK) {ag:FuncId} {R:cx} {lits:List Nat} {ops:Array Oper} {o:Oper} {l:List Oper} {r:List aP} {t e b g n:Nat} {ti ei:bk} {x y:Operand} {cs:List AV} {j:IntKind} (hg:o.guard=none)
  (b9:o.op = .indexAddr t x y) (hi:E.T[t]? = some ti) (hk:ti.k = .slice e) (bP:E.T[e]? = some ei) (bY:ei.size=1) (hv:aZ E.G s x (.own b g)) (hy:aZ E.G s y (.d (.int j n))) (hb:h[b]? = some (.cells cs)) (hn:n<cs.length)
  (H:cb s o.dst (.ptr b n) fun s'=>I E ag R lits (.bo ops l::r) s' h):I E ag R lits (.bo ops (o::l)::r) s h:=by
 have ho:bC E o.op s h (.ptr b n) h:=by
  rw [b9];refine .quiet fun o c ac h1 h2 h3 h4=>?_;subst h2;obtain ⟨blk,cap,q1,q2⟩:=Ka hb (hv c ac h3 h4);refine ⟨_,vH h1 (v := .pointer (some ⟨blk,0+(n:Int).toNat*ei.size,none⟩)) ?_,?_⟩
  ·rw [q2,dM (hy c ac h3 h4)];exact Bt (hE.types t ti hi) (hE.types e ei bP) hk (by omega) (by omega)
  ·rw [bY]
   simpa using VR.ptr (c:=c) b n cs blk cap hb q1
 rw [dN] at H;exact .of (.op (fR hg) ho H.to)
end
end Go.ax
end
section
namespace Go.Proofs.YtfmdaiojokniiaaGreatDoor.P
open Go Go.ax Go.Sort Go.RowKit
def fh (l:List Int):List Int:=l.mergeSort fun x y=>decide (x≤y)
theorem uQ (l:List Int):(fh l).Perm l:=List.mergeSort_perm ..
theorem Es (l:List Int):(fh l).Pairwise (· ≤ ·):=by
 have:=List.pairwise_mergeSort (le:=fun x y=>decide (x≤y)) (by intro a b c; simp; omega) (by intro a b; simp; omega) l;exact this.imp fun {a b} h=>by simpa using h
def Kk (P:Program) (f:Nat):Prop:=∀ (blk cap:Nat) (zs:List Int) (w:World),Holds (Value.int .i64) w blk 0 zs.toArray→blk<w.heap.size→zs.length<4611686018427387904 →
 Calls P f #[.slice (some ⟨blk,0,none⟩) zs.length cap] w fun e w'=>e = .returned (.tuple #[])∧∃ n os,w'=grow (putRow (Value.int .i64) (Sort.ahead w n) blk 0 (fh zs).toArray) os
theorem TC {w:World} {blk n:Nat} {d:Array Int} {os:Array Obj} {vs:Array Value} {ty:TypeId} (hb:w.heap[blk]? = some (.cells vs ty (0,0))) :
  let w':=grow (putRow (Value.int .i64) (Sort.ahead w n) blk 0 d) os
  w'.os=w.os∧w'.tape=w.tape∧w'.output=w.output∧w.heap.size≤w'.heap.size∧(∀ b,b<w.heap.size→b≠blk→w'.heap[b]? = w.heap[b]?)∧w'.heap[blk]? = some (.cells (putCells (Value.int .i64) 0 d vs) ty (0,0)):=by
 intro w';have ai:blk<w.heap.size:=by
  rcases Nat.lt_or_ge blk w.heap.size with h | h
  ·exact h
  ·rw [Array.getElem?_eq_none h] at hb; cases hb
 have bY:(putRow (Value.int .i64) (Sort.ahead w n) blk 0 d).heap.size=w.heap.size:=by simp [putRow,mapBlock]
 refine ⟨rfl,rfl,rfl,?_,fun b b8 aJ=>?_,?_⟩
 ·show w.heap.size≤(grow _ os).heap.size;rw [size_grow,bY]; omega
 ·show (grow _ os).heap[b]? = _;rw [heap_grow_old _ _ (by rw [bY]; exact b8)];simp [putRow,mapBlock,Array.getElem?_modify,Ne.symm aJ]
 ·show (grow _ os).heap[blk]? = _;rw [heap_grow_old _ _ (by rw [bY]; exact ai)];simp [putRow,mapBlock,Array.getElem?_modify,hb,onCells]
theorem TD {E:Env} {f:FuncId} {t:Nat} (hS:Kk E.P f) (gG:qV E.P f) (l:List Int) (hl:l≠[]) (hlen:l.length<4611686018427387904) :
  aw E f [.arr 0 (t,1) (l.map (DV.int .i64))] [.own 0 0] (fun a b=>a = .aF []∧b=[.arr 0 (t,1) ((fh l).map (DV.int .i64))]):=by
 unfold aw;refine ⟨gG,l3 rfl,fun c vs h1 h2 h3=>?_⟩;obtain ⟨v1,rfl⟩:∃ v1,vs=[v1]:=by
  have:=h3.1
  match vs,this with
  | [a],_=>exact ⟨a,rfl⟩
 have tV:=h3.2 0 _ v1 rfl rfl;have c8:c.heap[0]? = some (.arr 0 (t,1) (l.map (DV.int .i64))):=by rw [h1]; rfl
 rcases lU c8 tV with ⟨blk,cap,r1,rfl⟩ | ⟨oQ,-,-⟩
 case inr=>exact absurd (List.map_eq_nil_iff.1 oQ) hl
 obtain ⟨q0,q1,q2⟩:=h2.box 0 _ c8;rcases q2 with ⟨q2,-⟩ | ⟨je,iz,vs',q2,q3,q4,q5,q6,q7⟩
 ·rw [r1] at q2; cases q2
 rw [r1] at q2;cases q2;simp only at q3 q4 q7;have dq:∀ (i:Nat) (x:Int),l[i]? = some x→vs'[i]? = some (.int .i64 x):=fun i x hx=>by
  have he:(l.map (DV.int .i64))[i]? = some (DV.int .i64 x):=by simp [hx]
  obtain ⟨v,a1,a2,a3⟩:=q7 i 0 (DV.int .i64 x) (.int .i64 x) he rfl;rw [D7 a3] at a1
  simpa using a1
 have hH:Holds (Value.int .i64) c.w blk 0 l.toArray:=by
  intro j hj;have dW:j<l.length:=by simpa using hj
  obtain ⟨x,hx⟩:∃ x,l[j]? = some x:=⟨l[j]'(by omega),by rw [List.getElem?_eq_getElem]⟩;have sY:l.toArray[j]! = x:=by
   rw [getElem!_pos l.toArray j (by simpa using dW)];have:=List.getElem?_eq_some_iff.1 hx
   simpa using this.2
  refine ⟨?_,by simp [World.frozen?,q3]⟩;rw [sY];exact kL q3 _ _ (by simpa using dq j x hx)
 have hblk:=(h2.br 0 blk cap r1).1;have gK:=hS blk cap l c.w hH hblk hlen;have iE:([Value.slice (some ⟨blk,0,none⟩) (l.map (DV.int .i64)).length cap]:List Value).toArray = #[.slice (some ⟨blk,0,none⟩) l.length cap]:=by simp
 rw [iE];refine gK.mono fun e w' ⟨he,n,os,hw⟩=>?_;subst he;have eY:(fh l).length=l.length:=(uQ l).length_eq;obtain ⟨a1,a2,a3,a4,a5,a6⟩:=TC (n:=n) (d:=(fh l).toArray) (os:=os) q3;rw [← hw] at a1 a2 a3 a4 a5 a6
 let c':Cx:={ c with heap:=[.arr 0 (t,1) ((fh l).map (DV.int .i64))],w:=w' }
 have bZ:∀ i bx,c.heap[i]? = some bx→i=0∧bx = .arr 0 (t,1) (l.map (DV.int .i64)):=fun i bx hi=>by
  rw [h1] at hi;cases i with
  |zero=>simp at hi; exact ⟨rfl,hi.symm⟩
  |succ i=>simp at hi
 have mE:((fh l).map (DV.int .i64)).length=(l.map (DV.int .i64)).length:=by simp [eY]
 have aX:Step c c':=⟨rfl,h2.bN,a1,a2,a3,a4,fun b hb hn=>a5 b hb (fun e=>by subst e; exact hn 0 cap r1),fun i b n hi _=>⟨n,hi⟩,fun i bx hi=>by
  obtain ⟨rfl,rfl⟩:=bZ i bx hi
  exact .inl ⟨0,_,rfl,.inr ⟨rfl,mE,rfl⟩⟩⟩
 have aM:aK E.G c':=h2.next aX (fun i b n hi=>by
   have:=h2.br i b n hi;refine ⟨Nat.lt_of_lt_of_le this.1 a4,?_⟩;have h0:c.heap.length=1:=by rw [h1]; rfl
   show i<1;omega) h2.inj (fun i bx hi=>by
  right;cases i with
  |succ i=>simp [c'] at hi
  |zero =>
   simp [c'] at hi;subst hi;refine ⟨q0,fun i e he=>?_,.inr ⟨blk,cap,_,r1,a6,?_,?_,q6,fun i j e x he hx=>?_⟩⟩
   ·simp only [List.getElem?_map] at he;cases hq:(fh l)[i]? with
    |none=>rw [hq] at he; cases he
    |some y=>rw [hq] at he; cases he; rfl
   ·simp [putCells,q4]
   ·rw [mE]; exact q5
   ·simp only [List.getElem?_map] at he;cases hq:(fh l)[i]? with
    |none=>rw [hq] at he; cases he
    |some y =>
     rw [hq] at he;cases he;have hi:i<l.length:=by have:=aT hq; omega
     have eG:vs'.size=cap*1:=q4;have cH:(l.map (DV.int .i64)).length=l.length:=by simp
     have mn:l.length≤cap:=by rw [← cH]; exact q5
     have hy:(fh l).toArray[i]! = y:=by
      rw [getElem!_pos (fh l).toArray i (by simp; omega)];have:=List.getElem?_eq_some_iff.1 hq
      simpa using this.2
     have at_:(putCells (Value.int .i64) 0 (fh l).toArray vs')[i]? = some (.int .i64 y):=by
      have h5:i<vs'.size:=by omega
      simp only [putCells,Array.getElem?_mapIdx,Array.getElem?_eq_getElem h5,Option.map_some];rw [if_pos ⟨Nat.zero_le _,by simp; omega⟩,Nat.sub_zero,hy]
     match j with
     | 0 =>
      simp [DV.cells] at hx;subst hx;exact ⟨_,by simpa using at_,rfl,.int _ _⟩
     |j+1=>simp [DV.cells] at hx)
 refine ⟨c',.aF [],.tuple #[],rfl,rfl,⟨rfl,rfl⟩,.aF [] #[] rfl (fun j x v hx=>by simp at hx),aM,?_⟩
 exact ⟨rfl,a1,a2,a3,a4,fun b hb hn=>a5 b hb (fun e=>by subst e; exact hn 0 cap r1),fun i b n hi _=>⟨n,hi⟩,fun i bx hi=>by
  obtain ⟨rfl,rfl⟩:=bZ i bx hi
  exact .inl ⟨0,_,rfl,.inr ⟨rfl,mE,rfl⟩⟩⟩
end Go.Proofs.YtfmdaiojokniiaaGreatDoor.P
end
