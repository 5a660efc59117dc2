/- Several texts of mine, one behind the other. Conditions: as each says. -/
import Derived.Test.YtfmdaiojokniiaaGreatDoorW8
import Derived.Test.YtfmdaiojokniiaaGreatDoorW9
set_option linter.unusedVariables false
set_option linter.unusedSimpArgs false
section
namespace Go.aw
open Go Go.RowKit
theorem aq.jD {E:Env} {f:FuncId} {H H2:List ab} {args:List AV} {r0:AV} (hc:aq E f H args (fun a b=>a=r0∧iU H.length [] 0 b=H2)) (hk:(Cb H.length [] H2&&iV H.length [] r0)=true):aq E f H args (fun a b=>a=r0∧b=H2):=by
 simp only [Bool.and_eq_true] at hk;obtain ⟨dS,hv⟩:=hk;unfold aq at hc ⊢;refine ⟨hc.1,hc.2.1,fun c vs h1 h2 h3=>(hc.2.2 c vs h1 h2 h3).mono fun e w' ⟨c',r,v,k1,k2,⟨k3,wu⟩,k4,k5,k6⟩=>?_⟩;subst k3;have a1:=k5.eV (n:=H.length) (B:=[]) (by rw [wu]; exact dS);have a2:=yH (n:=H.length) (B:=[]) hv k4;obtain ⟨b1,b2⟩:=a1.GL (ax:=c'.ax) (fun b hb => .inl hb);refine ⟨⟨(c'.eV H.length []).own,(c'.eV H.length []).heap,c'.ax,c'.w⟩,r,v,k1,k2,⟨rfl,by show iU _ _ 0 c'.heap=H2; rw [wu]⟩,b2 _ _ a2,b1,?_⟩;have hid:∀ i,i<H.length→cZ H.length [] i=false:=fun i hi=>by
  have:Nat.ble H.length i=false:=by
   cases q:Nat.ble H.length i
   ·rfl
   ·have:=Nat.le_of_ble_eq_true q; omega
  simp only [cZ,this]; rfl
 exact {
  ax:=k6.ax
  os:=k6.os
  tape:=k6.tape
  output:=k6.output
  size:=k6.size
  keep:=k6.keep
  da:=fun i b n hi hb=>k6.da i b n (ry hi).2 hb
  boxes:=fun i bx hi=>by
   have ah:i<H.length:=by rw [← h1]; exact aP hi
   have e1:(iU H.length [] 0 c'.heap)[i]? = c'.heap[i]? := tG 0 i c'.heap (by rw [Nat.zero_add]; exact hid i ah)
   exact tI (c:=c') (fun x hx=>e1.trans hx) (fun x _=>wi (hid i ah)) (k6.boxes i bx hi) }
end Go.aw
end
section
namespace Go.aw
open Go Go.RowKit
section
variable {E:Env} {s:List AV} {h:List ab} {c:Cx} {G:List (Nat × DV)}
theorem R0 (hE:E.OK) {t e len:Nat} {i ei:bh} (hi:E.T[t]? = some i) (bL:E.T[e]? = some ei) (hk:i.k = .slice e) {parts:Array (Nat × Operand)} {ps:List (Nat × AV)} (fz:uJ E.G s parts.toList ps)
  {z:DV} (hz:ei.zero=[z]) (bK:ei.size=1) (hlen:0<len) (xO:len≤16777216) {l:List AV} (hl:l.length=len)
  (h4:∀ (c:Cx) (vs us:List Value),VL c (List.replicate len (AV.d z)) vs→VL c (ps.map (·.2)) us→∃ vs':List Value,Instr.fill (fun i=>some (i*1,1)) vs.toArray ((ps.map (·.1)).zip us)=some vs'.toArray∧VL c l vs') :
  bw E (.buildSlice t len parts) s h (.own h.length 0) (h++[.cells l]):=fun o c ac e1 e2 e3 e4=>by
 subst e2;have cB:0<ei.size:=by omega
 obtain ⟨ti,zv,g1,g2,g3,g4⟩:=zeroOf (hE.types e ei bL) (by rw [hz,bK]; rfl) cB;obtain ⟨zs,uL,gh⟩:=g4 c;obtain ⟨p1,p2⟩:=fz c ac e3 e4;have jQ:zs.length=1:=by rw [← gh.1,hz]; rfl
 have xk:ti.size=1:=by omega
 have uM:VL c (List.replicate len (AV.d z)) ((Array.range (len*ti.size)).map (zv.cells[· % zv.cells.size]!)).toList:=by
  refine ⟨by simp [xk],fun j x v hx hv=>?_⟩;rw [List.getElem?_replicate] at hx;split at hx
  ·rename_i hj;cases hx;have eA:v=zs[0]'(by omega):=by
    simp [xk,hj,uL,jQ] at hv;rw [← hv];simp [jQ,Nat.mod_one]
   rw [eA];exact gh.2 0 _ _ (by rw [hz]; rfl) (by simp [jQ])
  ·cases hx
 obtain ⟨vs',f1,f2⟩:=h4 c _ _ uM p2;obtain ⟨uN,d,q1,q2,q3,-⟩:=cg (hE.types t i hi);obtain rfl:=jO (hk.symm.trans q3);have eq:(parts.map fun (i,x)=>(i,ac.eval x)).toList=(ps.map (·.1)).zip (parts.toList.map fun p=>ac.eval p.2):=by
  rw [p1,Array.toList_map];generalize parts.toList=q
  induction q with
  |nil=>rfl
  |cons a q ih=>simp only [List.map_cons,List.zip_cons_cons,ih]
 have qA:Instr.fill (fun i=>some (i*ti.size,ti.size)) ((Array.range (len*ti.size)).map (zv.cells[· % zv.cells.size]!)) (parts.map fun (i,x)=>(i,ac.eval x)).toList=some vs'.toArray:=by
  rw [eq,← f1,Array.toArray_toList,xk]
 have cn:=run_buildSlice (P:=E.P) c.w t e len (parts.map fun (i,x)=>(i,ac.eval x)) vs'.toArray ti zv q2 g1 g2 (by rw [xk]; omega) (by rw [xk]; omega) qA;obtain ⟨w1,w2,w3⟩:=e3.Aq f2 e;refine ⟨_,.slice (some ⟨c.w.heap.size,0,none⟩) len len,.inl (by simp only [execOp,e1,Sem.run_bind,cn,Result.andThen_ok,Sem.run_pure]; rfl),rfl,w1,?_,w2⟩;exact .kn _ _ l c.w.heap.size 0 len (by simp [Cx.add]) (by simp [Cx.add]) hl
theorem I.R2 (hE:E.OK) {af:FuncId} {R:cu} {lits:List Nat} {ops:Array Oper} {o:Oper} {l:List Oper} {r:List aH} {t e len:Nat} {i ei:bh} {parts:Array (Nat × Operand)} (hg:o.guard=none) (bZ:o.op = .buildSlice t len parts)
  (hi:E.T[t]? = some i) (hk:i.k = .slice e) (bL:E.T[e]? = some ei) {z:DV} (hz:ei.zero=[z]) (bK:ei.size=1) (hlen:Nat.blt 0 len=true) (xO:Nat.ble len 16777216=true)
  (H:qv E.G s parts.toList False fun ps=>su (fun i=>some (i*1,1)) ps (List.replicate len (AV.d z)) False fun cs=>match Nat.beq cs.length len with
   |true=>bY s o.dst (.own h.length 0) fun s'=>I E af R lits (.a8 ops l::r) s' (h++[.cells cs])
   |false=>False):I E af R lits (.a8 ops (o::l)::r) s h:=by
 rcases uK H with h' | ⟨ps,fz,H⟩
 ·exact h'.elim
 rcases xM H with h' | ⟨cs,H,hf⟩
 ·exact h'.elim
 split at H
 ·rename_i q;have ho:=R0 (h:=h) hE hi bL hk fz hz bK (fX hlen) (Nat.le_of_ble_eq_true xO) (Nat.eq_of_beq_eq_true q) hf;rw [← bZ] at ho;rw [dF] at H;exact .of (.op (fA hg) ho H.to)
 ·exact H.elim
theorem Jj {b g:Nat} {cs:List AV} (hb:c.heap[b]? = some (.cells cs)) {v:Value} (hv:VR c (.own b g) v):∃ blk cap,c.own b=some (blk,cap)∧v = .slice (some ⟨blk,0,none⟩) cs.length cs.length:=by
 cases hv with
 |own _ _ _ l' blk cap k1 k2=>rw [hb] at k1; cases k1
 |fU _ _ _ k1 k2=>rw [hb] at k1; cases k1
 |iN _ _ g' _ _ _ k1 k2 _=>rw [hb] at k1; cases k1
 |hY _ _ _ k1 _=>rw [hb] at k1; cases k1
 |kn _ _ _ blk cap n k1 k2 k3=>rw [hb] at k1; cases k1; subst k3; exact ⟨blk,cap,k2,rfl⟩
theorem I.R3 (hE:E.OK) {af:FuncId} {R:cu} {lits:List Nat} {ops:Array Oper} {o:Oper} {l:List Oper} {r:List aH} {t e b g:Nat} {i:bh} {x:Operand} {args:Array Operand} {ts:Array TypeId} {cs:List AV} (hg:o.guard=none)
  (bZ:o.op = .call { callee := .builtin .len,args:=args,argTypes:=ts }) (hx:args.toList[0]? = some x) (ht:ts.toList[0]? = some t) (hi:E.T[t]? = some i) (hk:i.k = .slice e) (hv:aQ E.G s x (.own b g)) (hb:h[b]? = some (.cells cs))
  (H:bY s o.dst (.d (.int .i64 cs.length)) fun s'=>I E af R lits (.a8 ops l::r) s' h):I E af R lits (.a8 ops (o::l)::r) s h:=by
 have ho:bw E o.op s h (.d (.int .i64 cs.length)) h:=by
  rw [bZ];refine .quiet fun o c ac h1 h2 h3 h4=>?_;subst h2;obtain ⟨blk,cap,-,q⟩:=Jj hb (hv c ac h3 h4);exact ⟨_,uI h1 hx ht (hE.types t i hi) q (.inl ⟨e,_,_,hk,rfl⟩),.d _ _ (.int _ _)⟩
 rw [dF] at H;exact .of (.op (fA hg) ho H.to)
theorem I.nK (hE:E.OK) {af:FuncId} {R:cu} {lits:List Nat} {ops:Array Oper} {o:Oper} {l:List Oper} {r:List aH} {t e b g n:Nat} {ti ei:bh} {x y:Operand} {cs:List AV} {j:IntKind} (hg:o.guard=none)
  (bZ:o.op = .indexAddr t x y) (hi:E.T[t]? = some ti) (hk:ti.k = .slice e) (bL:E.T[e]? = some ei) (bK:ei.size=1) (hv:aQ E.G s x (.own b g)) (hy:aQ E.G s y (.d (.int j n))) (hb:h[b]? = some (.cells cs)) (hn:n<cs.length)
  (H:bY s o.dst (.ptr b n) fun s'=>I E af R lits (.a8 ops l::r) s' h):I E af R lits (.a8 ops (o::l)::r) s h:=by
 have ho:bw E o.op s h (.ptr b n) h:=by
  rw [bZ];refine .quiet fun o c ac h1 h2 h3 h4=>?_;subst h2;obtain ⟨blk,cap,q1,q2⟩:=Jj hb (hv c ac h3 h4);refine ⟨_,uZ h1 (v := .pointer (some ⟨blk,0+(n:Int).toNat*ei.size,none⟩)) ?_,?_⟩
  ·rw [q2,dM (hy c ac h3 h4)];exact AY (hE.types t ti hi) (hE.types e ei bL) hk (by omega) (by omega)
  ·rw [bK]
   simpa using VR.ptr (c:=c) b n cs blk cap hb q1
 rw [dF] at H;exact .of (.op (fA hg) ho H.to)
end
end Go.aw
end
section
namespace Go.Proofs.YtfmdaiojokniiaaGreatDoor.P
open Go Go.aw Go.Sort Go.RowKit
theorem fh {α:Type} [Inhabited α] {K:Nat} (enc:α→List Value) (d:Array α) (i k:Nat) (hk:k<K) (x:α) (h:d[i]? = some x):(flatK enc K d)[i*K+k]! = (enc x)[k]! := by
 have hi:i<d.size:=by
  rcases Nat.lt_or_ge i d.size with h' | h'
  ·exact h'
  ·rw [Array.getElem?_eq_none h'] at h; cases h
 have hx:d[i]! = x:=by simp [getElem!_pos d i hi]; rw [Array.getElem?_eq_getElem hi] at h; exact Option.some.inj h
 have ah:i*K+k<d.size*K:=by
  have:(i+1)*K≤d.size*K:=Nat.mul_le_mul_right K hi;rw [Nat.succ_mul] at this;omega
 rw [get_flatK _ _ _ _ ah,show (i*K+k) / K=i by rw [Nat.mul_comm,Nat.mul_add_div (by omega),Nat.div_eq_of_lt hk]; rfl,show (i*K+k) % K=k by rw [Nat.mul_comm,Nat.mul_add_mod,Nat.mod_eq_of_lt hk],hx]
theorem Kn {α:Type} [Inhabited α] {enc:α→List Value} {K:Nat} {w:World} {blk n:Nat} {d:Array α} {os:Array Obj} {vs:Array Value} {ty:TypeId} (hb:w.heap[blk]? = some (.cells vs ty (0,0))) :
  let w':=sortWorldK enc K w blk 0 n d os
  w'.os=w.os∧w'.tape=w.tape∧w'.output=w.output∧w.heap.size≤w'.heap.size∧(∀ b,b<w.heap.size→b≠blk→w'.heap[b]? = w.heap[b]?)∧w'.heap[blk]? = some (.cells (putCells id 0 (flatK enc K d) vs) ty (0,0)):=by
 intro w';have ah:blk<w.heap.size:=by
  rcases Nat.lt_or_ge blk w.heap.size with h | h
  ·exact h
  ·rw [Array.getElem?_eq_none h] at hb; cases hb
 have bK:(putRowK enc K (Sort.ahead w n) blk 0 d).heap.size=w.heap.size:=by simp [putRowK,putRow,mapBlock]
 refine ⟨rfl,rfl,rfl,?_,fun b bT aE=>?_,?_⟩
 ·show w.heap.size≤(grow _ os).heap.size;rw [size_grow,bK]; omega
 ·show (grow _ os).heap[b]? = _;rw [heap_grow_old _ _ (by rw [bK]; exact bT)];simp [putRowK,putRow,mapBlock,Array.getElem?_modify,Ne.symm aE]
 ·show (grow _ os).heap[blk]? = _;rw [heap_grow_old _ _ (by rw [bK]; exact ah)];simp [putRowK,putRow,mapBlock,Array.getElem?_modify,hb,onCells]
structure Ud (cmp:DV→DV→Int) (l:List DV):Prop where
 irrefl:∀ x∈l,¬ cmp x x<0
 trans:∀ x∈l,∀ y∈l,∀ z∈l,cmp x y<0→cmp y z<0→cmp x z<0
 ntrans:∀ x∈l,∀ y∈l,∀ z∈l,¬ cmp x y<0→¬ cmp y z<0→¬ cmp x z<0
end Go.Proofs.YtfmdaiojokniiaaGreatDoor.P
end
