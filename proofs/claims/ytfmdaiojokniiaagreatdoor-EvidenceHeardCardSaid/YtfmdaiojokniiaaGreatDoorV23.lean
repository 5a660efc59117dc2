/- Several texts of mine, one behind the other. Conditions: as each says. -/
import Derived.Test.YtfmdaiojokniiaaGreatDoorV11
set_option linter.unusedVariables false
set_option linter.unusedSimpArgs false
section
namespace Go.aw
open Go Go.RowKit
theorem au.kf {E:Env} {f:FuncId} {H H2:List ae} {args:List AV} {r0:AV} (hc:au E f H args (fun a b=>a=r0∧jy H.length [] 0 b=H2)) (hk:(C5 H.length [] H2&&gh H.length [] r0)=true):au E f H args (fun a b=>a=r0∧b=H2):=by
 simp only [Bool.and_eq_true] at hk;obtain ⟨dm,hv⟩:=hk;unfold au at hc ⊢;refine ⟨hc.1,hc.2.1,fun c vs h1 h2 h3=>(hc.2.2 c vs h1 h2 h3).mono fun e w' ⟨c',r,v,k1,k2,⟨k3,xp⟩,k4,k5,k6⟩=>?_⟩;subst k3;have a1:=k5.fk (n:=H.length) (B:=[]) (by rw [xp]; exact dm);have a2:=zK (n:=H.length) (B:=[]) hv k4;obtain ⟨b1,b2⟩:=a1.HM (ax:=c'.ax) (fun b hb => .inl hb);refine ⟨⟨(c'.fk H.length []).own,(c'.fk H.length []).heap,c'.ax,c'.w⟩,r,v,k1,k2,⟨rfl,by show jy _ _ 0 c'.heap=H2; rw [xp]⟩,b2 _ _ a2,b1,?_⟩;have hid:∀ i,i<H.length→dc H.length [] i=false:=fun i hi=>by
  have:Nat.ble H.length i=false:=by
   cases q:Nat.ble H.length i
   ·rfl
   ·have:=Nat.le_of_ble_eq_true q; omega
  simp only [dc,this]; rfl
 exact {
  ax:=k6.ax
  os:=k6.os
  tape:=k6.tape
  output:=k6.output
  size:=k6.size
  keep:=k6.keep
  dh:=fun i b n hi hb=>k6.dh i b n (su hi).2 hb
  boxes:=fun i bx hi=>by
   have aj:i<H.length:=by rw [← h1]; exact aR hi
   have e1:(jy H.length [] 0 c'.heap)[i]? = c'.heap[i]? := uD 0 i c'.heap (by rw [Nat.zero_add]; exact hid i aj)
   exact uF (c:=c') (fun x hx=>e1.trans hx) (fun x _=>xk (hid i aj)) (k6.boxes i bx hi) }
end Go.aw
end
section
namespace Go.aw
open Go Go.RowKit
section
variable {E:Env} {s:List AV} {h:List ae} {c:Cx} {G:List (Nat × DV)}
theorem TL (hE:E.OK) {t e len:Nat} {i ei:bp} (hi:E.T[t]? = some i) (bR:E.T[e]? = some ei) (hk:i.k = .slice e) {parts:Array (Nat × Operand)} {ps:List (Nat × AV)} (fM:vM E.G s parts.toList ps)
  {z:DV} (hz:ei.zero=[z]) (bQ:ei.size=1) (hlen:0<len) (yN:len≤16777216) {l:List AV} (hl:l.length=len)
  (h4:∀ (c:Cx) (vs us:List Value),VL c (List.replicate len (AV.d z)) vs→VL c (ps.map (·.2)) us→∃ vs':List Value,Instr.fill (fun i=>some (i*1,1)) vs.toArray ((ps.map (·.1)).zip us)=some vs'.toArray∧VL c l vs') :
  bC E (.buildSlice t len parts) s h (.own h.length 0) (h++[.cells l]):=fun o c ac e1 e2 e3 e4=>by
 subst e2;have cC:0<ei.size:=by omega
 obtain ⟨ti,zv,g1,g2,g3,g4⟩:=zeroOf (hE.types e ei bR) (by rw [hz,bQ]; rfl) cC;obtain ⟨zs,vO,gP⟩:=g4 c;obtain ⟨p1,p2⟩:=fM c ac e3 e4;have ky:zs.length=1:=by rw [← gP.1,hz]; rfl
 have yf:ti.size=1:=by omega
 have vP:VL c (List.replicate len (AV.d z)) ((Array.range (len*ti.size)).map (zv.cells[· % zv.cells.size]!)).toList:=by
  refine ⟨by simp [yf],fun j x v hx hv=>?_⟩;rw [List.getElem?_replicate] at hx;split at hx
  ·rename_i hj;cases hx;have eL:v=zs[0]'(by omega):=by
    simp [yf,hj,vO,ky] at hv;rw [← hv];simp [ky,Nat.mod_one]
   rw [eL];exact gP.2 0 _ _ (by rw [hz]; rfl) (by simp [ky])
  ·cases hx
 obtain ⟨vs',f1,f2⟩:=h4 c _ _ vP p2;obtain ⟨vQ,d,q1,q2,q3,-⟩:=cj (hE.types t i hi);obtain rfl:=kv (hk.symm.trans q3);have eq:(parts.map fun (i,x)=>(i,ac.eval x)).toList=(ps.map (·.1)).zip (parts.toList.map fun p=>ac.eval p.2):=by
  rw [p1,Array.toList_map];generalize parts.toList=q
  induction q with
  |nil=>rfl
  |cons a q ih=>simp only [List.map_cons,List.zip_cons_cons,ih]
 have rD:Instr.fill (fun i=>some (i*ti.size,ti.size)) ((Array.range (len*ti.size)).map (zv.cells[· % zv.cells.size]!)) (parts.map fun (i,x)=>(i,ac.eval x)).toList=some vs'.toArray:=by
  rw [eq,← f1,Array.toArray_toList,yf]
 have cn:=run_buildSlice (P:=E.P) c.w t e len (parts.map fun (i,x)=>(i,ac.eval x)) vs'.toArray ti zv q2 g1 g2 (by rw [yf]; omega) (by rw [yf]; omega) rD;obtain ⟨w1,w2,w3⟩:=e3.Bq f2 e;refine ⟨_,.slice (some ⟨c.w.heap.size,0,none⟩) len len,.inl (by simp only [execOp,e1,Sem.run_bind,cn,Result.andThen_ok,Sem.run_pure]; rfl),rfl,w1,?_,w2⟩;exact .la _ _ l c.w.heap.size 0 len (by simp [Cx.add]) (by simp [Cx.add]) hl
theorem I.TM (hE:E.OK) {ag:FuncId} {R:cw} {lits:List Nat} {ops:Array Oper} {o:Oper} {l:List Oper} {r:List aN} {t e len:Nat} {i ei:bp} {parts:Array (Nat × Operand)} (hg:o.guard=none) (ca:o.op = .buildSlice t len parts)
  (hi:E.T[t]? = some i) (hk:i.k = .slice e) (bR:E.T[e]? = some ei) {z:DV} (hz:ei.zero=[z]) (bQ:ei.size=1) (hlen:Nat.blt 0 len=true) (yN:Nat.ble len 16777216=true)
  (H:ry E.G s parts.toList False fun ps=>tv (fun i=>some (i*1,1)) ps (List.replicate len (AV.d z)) False fun cs=>match Nat.beq cs.length len with
   |true=>cb s o.dst (.own h.length 0) fun s'=>I E ag R lits (.bq ops l::r) s' (h++[.cells cs])
   |false=>False):I E ag R lits (.bq ops (o::l)::r) s h:=by
 rcases vN H with h' | ⟨ps,fM,H⟩
 ·exact h'.elim
 rcases yL H with h' | ⟨cs,H,hf⟩
 ·exact h'.elim
 split at H
 ·rename_i q;have ho:=TL (h:=h) hE hi bR hk fM hz bQ (gF hlen) (Nat.le_of_ble_eq_true yN) (Nat.eq_of_beq_eq_true q) hf;rw [← ca] at ho;rw [dR] at H;exact .of (.op (fZ hg) ho H.to)
 ·exact H.elim
theorem Kz {b g:Nat} {cs:List AV} (hb:c.heap[b]? = some (.cells cs)) {v:Value} (hv:VR c (.own b g) v):∃ blk cap,c.own b=some (blk,cap)∧v = .slice (some ⟨blk,0,none⟩) cs.length cs.length:=by
 cases hv with
 |own _ _ _ l' blk cap k1 k2=>rw [hb] at k1; cases k1
 |gy _ _ _ k1 k2=>rw [hb] at k1; cases k1
 |jn _ _ g' _ _ _ k1 k2 _=>rw [hb] at k1; cases k1
 |iI _ _ _ k1 _=>rw [hb] at k1; cases k1
 |la _ _ _ blk cap n k1 k2 k3=>rw [hb] at k1; cases k1; subst k3; exact ⟨blk,cap,k2,rfl⟩
theorem I.TN (hE:E.OK) {ag:FuncId} {R:cw} {lits:List Nat} {ops:Array Oper} {o:Oper} {l:List Oper} {r:List aN} {t e b g:Nat} {i:bp} {x:Operand} {args:Array Operand} {ts:Array TypeId} {cs:List AV} (hg:o.guard=none)
  (ca:o.op = .call { callee := .builtin .len,args:=args,argTypes:=ts }) (hx:args.toList[0]? = some x) (ht:ts.toList[0]? = some t) (hi:E.T[t]? = some i) (hk:i.k = .slice e) (hv:aY E.G s x (.own b g)) (hb:h[b]? = some (.cells cs))
  (H:cb s o.dst (.d (.int .i64 cs.length)) fun s'=>I E ag R lits (.bq ops l::r) s' h):I E ag R lits (.bq ops (o::l)::r) s h:=by
 have ho:bC E o.op s h (.d (.int .i64 cs.length)) h:=by
  rw [ca];refine .quiet fun o c ac h1 h2 h3 h4=>?_;subst h2;obtain ⟨blk,cap,-,q⟩:=Kz hb (hv c ac h3 h4);exact ⟨_,vL h1 hx ht (hE.types t i hi) q (.inl ⟨e,_,_,hk,rfl⟩),.d _ _ (.int _ _)⟩
 rw [dR] at H;exact .of (.op (fZ hg) ho H.to)
theorem I.oE (hE:E.OK) {ag:FuncId} {R:cw} {lits:List Nat} {ops:Array Oper} {o:Oper} {l:List Oper} {r:List aN} {t e b g n:Nat} {ti ei:bp} {x y:Operand} {cs:List AV} {j:IntKind} (hg:o.guard=none)
  (ca:o.op = .indexAddr t x y) (hi:E.T[t]? = some ti) (hk:ti.k = .slice e) (bR:E.T[e]? = some ei) (bQ:ei.size=1) (hv:aY E.G s x (.own b g)) (hy:aY E.G s y (.d (.int j n))) (hb:h[b]? = some (.cells cs)) (hn:n<cs.length)
  (H:cb s o.dst (.ptr b n) fun s'=>I E ag R lits (.bq ops l::r) s' h):I E ag R lits (.bq ops (o::l)::r) s h:=by
 have ho:bC E o.op s h (.ptr b n) h:=by
  rw [ca];refine .quiet fun o c ac h1 h2 h3 h4=>?_;subst h2;obtain ⟨blk,cap,q1,q2⟩:=Kz hb (hv c ac h3 h4);refine ⟨_,wa h1 (v := .pointer (some ⟨blk,0+(n:Int).toNat*ei.size,none⟩)) ?_,?_⟩
  ·rw [q2,dQ (hy c ac h3 h4)];exact BT (hE.types t ti hi) (hE.types e ei bR) hk (by omega) (by omega)
  ·rw [bQ]
   simpa using VR.ptr (c:=c) b n cs blk cap hb q1
 rw [dR] at H;exact .of (.op (fZ hg) ho H.to)
end
end Go.aw
end
section
namespace Go.aw
open Go Go.RowKit
section
variable {E:Env} {s:List AV} {h:List ae}
theorem Ur {t:Nat} {x:Operand} {n:Int} {kt et:TypeId} (hu:E.P.underlying t=some (.map kt et)) (hx:aY E.G s x (.d (.int .i64 n))):bC E (.makeMap t (some x)) s h (.map h.length) (h++[.map []]):=fun o c ac h1 h2 h3 h4=>by
 subst h2;have hv:=hx c ac h3 h4;obtain ⟨k1,k2⟩:=h3.add (.map []) 0 (.map #[] 0);have bA:(c.add (.map []) 0 (.map #[] 0)).own c.heap.length=some (c.w.heap.size,0):=by simp [Cx.add]
 have lq:(c.add (.map []) 0 (.map #[] 0)).heap[c.heap.length]? = some (.map []):=by simp [Cx.add]
 refine ⟨_,.map (some c.w.heap.size),.inl ?_,rfl,k2 ⟨c.w.heap.size,0,#[],0,bA,heap_alloc_new _ _,⟨rfl,by simp,by simp,by simp,rfl⟩,fun j k x m hj=>by simp at hj⟩,.map c.heap.length [] c.w.heap.size 0 lq bA,k1⟩;generalize zB:ac.eval x=u at hv;cases hv with
 |d _ _ hv =>
  cases hv;simp only [execOp,h1,Option.map_some,zB,Instr.makeMap,Sem.run_bind,Sem.run_pure,run_underlying hu,Result.andThen_ok];rfl
end
section
variable {E:Env} {ag:FuncId} {R:cw} {ops:Array Oper} {k:List aN} {F:List Nat} {n:Nat} {B:List Nat} {X:List ae} {lits:List Nat} {j:Nat} {o:Oper} {l:List Oper} {s:List AV} {h:List ae}
end
end Go.aw
end
