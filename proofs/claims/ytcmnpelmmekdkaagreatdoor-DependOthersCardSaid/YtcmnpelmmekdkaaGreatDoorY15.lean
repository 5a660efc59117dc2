/- Several texts of mine, one behind the other. Conditions: as each says. -/
import Derived.Test.YtcmnpelmmekdkaaGreatDoorY14
set_option linter.unusedVariables false
set_option linter.unusedSimpArgs false
section
namespace Go.ax
open Go Go.RowKit
section
variable {E:Env} {ops:Array Oper} {n:Nat} {B:List Nat} {X:List ag}
variable {ae:FuncId} {R:bY} {s:List AV} {h:List ag} {k:List aG} {lits:List Nat}
end
end Go.ax
end
section
namespace Go.ax
open Go Go.RowKit
section
variable {E:Env} {ops:Array Oper}
end
section
variable {E:Env} {ae:FuncId} {R:bY} {ops:Array Oper} {k:List aG} {lits:List Nat} {s:List AV} {h:List ag}
end
end Go.ax
end
section
namespace Go.ax
open Go Go.RowKit
theorem aC.kG {E:Env} {f:FuncId} {H H2:List ag} {args:List AV} {r0:AV} (hc:aC E f H args (fun a b=>a=r0∧cU H.length [] 0 b=H2)) (hk:(rv H.length [] H2&&eH H.length [] r0)=true):aC E f H args (fun a b=>a=r0∧b=H2):=by
 simp only [Bool.and_eq_true] at hk;obtain ⟨eh,hv⟩:=hk;unfold aC at hc ⊢;refine ⟨hc.1,hc.2.1,fun c vs h1 h2 h3=>(hc.2.2 c vs h1 h2 h3).mono fun e w' ⟨c',r,v,k1,k2,⟨k3,Av⟩,k4,k5,k6⟩=>?_⟩;subst k3;have a1:=k5.eC (n:=H.length) (B:=[]) (by rw [Av]; exact eh);have a2:=xq (n:=H.length) (B:=[]) hv k4;obtain ⟨b1,b2⟩:=a1.An (au:=c'.au) (fun b hb => .inl hb);refine ⟨⟨(c'.eC H.length []).own,(c'.eC H.length []).heap,c'.au,c'.w⟩,r,v,k1,k2,⟨rfl,by show cU _ _ 0 c'.heap=H2; rw [Av]⟩,b2 _ _ a2,b1,?_⟩;have hid:∀ i,i<H.length→du H.length [] i=false:=fun i hi=>by
  have:Nat.ble H.length i=false:=by
   cases q:Nat.ble H.length i
   ·rfl
   ·have:=Nat.le_of_ble_eq_true q; omega
  simp only [du,this]; rfl
 exact {
  au:=k6.au
  os:=k6.os
  tape:=k6.tape
  output:=k6.output
  size:=k6.size
  keep:=k6.keep
  dC:=fun i b n hi hb=>k6.dC i b n (oO hi).2 hb
  boxes:=fun i bx hi=>by
   have ai:i<H.length:=by rw [← h1]; exact aZ hi
   have e1:(cU H.length [] 0 c'.heap)[i]? = c'.heap[i]? := sS 0 i c'.heap (by rw [Nat.zero_add]; exact hid i ai)
   exact Ag (c:=c') (fun x hx=>e1.trans hx) (fun x _=>uV (hid i ai)) (k6.boxes i bx hi) }
end Go.ax
end
section
namespace Go.ax
open Go Go.RowKit
section
variable {E:Env} {s:List AV} {h:List ag} {c:Cx} {G:List (Nat × DV)}
theorem Yq (hE:E.OK) {t e len:Nat} {i ei:bB} (hi:E.T[t]? = some i) (cx:E.T[e]? = some ei) (hk:i.k = .slice e) {parts:Array (Nat × Operand)} {ps:List (Nat × AV)} (eF:yi E.G s parts.toList ps)
  {z:DV} (hz:ei.zero=[z]) (bP:ei.size=1) (hlen:0<len) (Bp:len≤16777216) {l:List AV} (hl:l.length=len)
  (h4:∀ (c:Cx) (vs us:List Value),VL c (List.replicate len (AV.d z)) vs→VL c (ps.map (·.2)) us→∃ cX:List Value,Instr.fill (fun i=>some (i*1,1)) vs.toArray ((ps.map (·.1)).zip us)=some cX.toArray∧VL c l cX) :
  aQ E (.buildSlice t len parts) s h (.own h.length 0) (h++[.cells l]):=fun o c ac e1 e2 e3 e4=>by
 subst e2;have cW:0<ei.size:=by omega
 obtain ⟨ti,zv,g1,g2,g3,g4⟩:=zeroOf (hE.types e ei cx) (by rw [hz,bP]; rfl) cW;obtain ⟨zs,yk,gG⟩:=g4 c;obtain ⟨p1,p2⟩:=eF c ac e3 e4;have lK:zs.length=1:=by rw [← gG.1,hz]; rfl
 have Ax:ti.size=1:=by omega
 have yl:VL c (List.replicate len (AV.d z)) ((Array.range (len*ti.size)).map (zv.cells[· % zv.cells.size]!)).toList:=by
  refine ⟨by simp [Ax],fun j x v hx hv=>?_⟩;rw [List.getElem?_replicate] at hx;split at hx
  ·rename_i hj;cases hx;have gR:v=zs[0]'(by omega):=by
    simp [Ax,hj,yk,lK] at hv;rw [← hv];simp [lK,Nat.mod_one]
   rw [gR];exact gG.2 0 _ _ (by rw [hz]; rfl) (by simp [lK])
  ·cases hx
 obtain ⟨cX,f1,f2⟩:=h4 c _ _ yl p2;obtain ⟨ym,d,q1,q2,q3,-⟩:=cM (hE.types t i hi);obtain rfl:=lJ (hk.symm.trans q3);have eq:(parts.map fun (i,x)=>(i,ac.eval x)).toList=(ps.map (·.1)).zip (parts.toList.map fun p=>ac.eval p.2):=by
  rw [p1,Array.toList_map];generalize parts.toList=q
  induction q with
  |nil=>rfl
  |cons a q ih=>simp only [List.map_cons,List.zip_cons_cons,ih]
 have yp:Instr.fill (fun i=>some (i*ti.size,ti.size)) ((Array.range (len*ti.size)).map (zv.cells[· % zv.cells.size]!)) (parts.map fun (i,x)=>(i,ac.eval x)).toList=some cX.toArray:=by
  rw [eq,← f1,Array.toArray_toList,Ax]
 have cR:=run_buildSlice (P:=E.P) c.w t e len (parts.map fun (i,x)=>(i,ac.eval x)) cX.toArray ti zv q2 g1 g2 (by rw [Ax]; omega) (by rw [Ax]; omega) yp;obtain ⟨w1,w2,w3⟩:=e3.Ei f2 e;refine ⟨_,.slice (some ⟨c.w.heap.size,0,none⟩) len len,.inl (by simp only [execOp,e1,Sem.run_bind,cR,Result.andThen_ok,Sem.run_pure]; rfl),rfl,w1,?_,w2⟩;exact .mu _ _ l c.w.heap.size 0 len (by simp [Cx.add]) (by simp [Cx.add]) hl
theorem aa.Yr (hE:E.OK) {ae:FuncId} {R:bY} {lits:List Nat} {ops:Array Oper} {o:Oper} {l:List Oper} {r:List aG} {t e len:Nat} {i ei:bB} {parts:Array (Nat × Operand)} (hg:o.guard=none) (cm:o.op = .buildSlice t len parts)
  (hi:E.T[t]? = some i) (hk:i.k = .slice e) (cx:E.T[e]? = some ei) {z:DV} (hz:ei.zero=[z]) (bP:ei.size=1) (hlen:Nat.blt 0 len=true) (Bp:Nat.ble len 16777216=true)
  (H:tv E.G s parts.toList False fun ps=>vO (fun i=>some (i*1,1)) ps (List.replicate len (AV.d z)) False fun cs=>match Nat.beq cs.length len with
   |true=>bJ s o.dst (.own h.length 0) fun s'=>aa E ae R lits (.bE ops l::r) s' (h++[.cells cs])
   |false=>False):aa E ae R lits (.bE ops (o::l)::r) s h:=by
 rcases yj H with h' | ⟨ps,eF,H⟩
 ·exact h'.elim
 rcases Bm H with h' | ⟨cs,H,hf⟩
 ·exact h'.elim
 split at H
 ·rename_i q;have ho:=Yq (h:=h) hE hi cx hk eF hz bP (iB hlen) (Nat.le_of_ble_eq_true Bp) (Nat.eq_of_beq_eq_true q) hf;rw [← cm] at ho;rw [di] at H;exact .of (.op (eO hg) ho H.to)
 ·exact H.elim
theorem O' {b g:Nat} {cs:List AV} (hb:c.heap[b]? = some (.cells cs)) {v:Value} (hv:VR c (.own b g) v):∃ blk cap,c.own b=some (blk,cap)∧v = .slice (some ⟨blk,0,none⟩) cs.length cs.length:=by
 cases hv with
 |own _ _ _ l' blk cap k1 k2=>rw [hb] at k1; cases k1
 |iL _ _ _ k1 k2=>rw [hb] at k1; cases k1
 |kg _ _ g' _ _ _ k1 k2 _=>rw [hb] at k1; cases k1
 |jD _ _ _ k1 _=>rw [hb] at k1; cases k1
 |mu _ _ _ blk cap n k1 k2 k3=>rw [hb] at k1; cases k1; subst k3; exact ⟨blk,cap,k2,rfl⟩
theorem aa.Ys (hE:E.OK) {ae:FuncId} {R:bY} {lits:List Nat} {ops:Array Oper} {o:Oper} {l:List Oper} {r:List aG} {t e b g:Nat} {i:bB} {x:Operand} {args:Array Operand} {ts:Array TypeId} {cs:List AV} (hg:o.guard=none)
  (cm:o.op = .call { callee := .builtin .len,args:=args,argTypes:=ts }) (hx:args.toList[0]? = some x) (ht:ts.toList[0]? = some t) (hi:E.T[t]? = some i) (hk:i.k = .slice e) (hv:bp E.G s x (.own b g)) (hb:h[b]? = some (.cells cs))
  (H:bJ s o.dst (.d (.int .i64 cs.length)) fun s'=>aa E ae R lits (.bE ops l::r) s' h):aa E ae R lits (.bE ops (o::l)::r) s h:=by
 have ho:aQ E o.op s h (.d (.int .i64 cs.length)) h:=by
  rw [cm];refine .quiet fun o c ac h1 h2 h3 h4=>?_;subst h2;obtain ⟨blk,cap,-,q⟩:=O' hb (hv c ac h3 h4);exact ⟨_,vS h1 hx ht (hE.types t i hi) q (.inl ⟨e,_,_,hk,rfl⟩),.d _ _ (.int _ _)⟩
 rw [di] at H;exact .of (.op (eO hg) ho H.to)
theorem aa.pV (hE:E.OK) {ae:FuncId} {R:bY} {lits:List Nat} {ops:Array Oper} {o:Oper} {l:List Oper} {r:List aG} {t e b g n:Nat} {ti ei:bB} {x y:Operand} {cs:List AV} {j:IntKind} (hg:o.guard=none)
  (cm:o.op = .indexAddr t x y) (hi:E.T[t]? = some ti) (hk:ti.k = .slice e) (cx:E.T[e]? = some ei) (bP:ei.size=1) (hv:bp E.G s x (.own b g)) (hy:bp E.G s y (.d (.int j n))) (hb:h[b]? = some (.cells cs)) (hn:n<cs.length)
  (H:bJ s o.dst (.ptr b n) fun s'=>aa E ae R lits (.bE ops l::r) s' h):aa E ae R lits (.bE ops (o::l)::r) s h:=by
 have ho:aQ E o.op s h (.ptr b n) h:=by
  rw [cm];refine .quiet fun o c ac h1 h2 h3 h4=>?_;subst h2;obtain ⟨blk,cap,q1,q2⟩:=O' hb (hv c ac h3 h4);refine ⟨_,wa h1 (v := .pointer (some ⟨blk,0+(n:Int).toNat*ei.size,none⟩)) ?_,?_⟩
  ·rw [q2,fP (hy c ac h3 h4)];exact BD (hE.types t ti hi) (hE.types e ei cx) hk (by omega) (by omega)
  ·rw [bP]
   simpa using VR.ptr (c:=c) b n cs blk cap hb q1
 rw [di] at H;exact .of (.op (eO hg) ho H.to)
end
end Go.ax
end
section
namespace Go.ax
open Go Go.RowKit
section
variable {E:Env} {s:List AV} {h:List ag} {c:Cx} {G:List (Nat × DV)} {P:Program}
theorem AI {b g k:Nat} {q:Option Nat} {ts:Nat × Nat} {l:List DV} (hb:c.heap[b]? = some (.arr g ts l)) {v:Value} (hv:VR c (.cut b g k q) v):∃ blk cap o,c.own b=some (blk,cap)∧v = .slice (some ⟨blk,o,none⟩) (l.length - k) (cap - k)∧k≤l.length∧(k<cap→o=k*ts.2)∧(∀ n,q=some n→n=cap):=by
 cases hv with
 |cut _ _ _ _ _ l' blk cap o k1 k2 k3 k4 k5=>rw [hb] at k1; cases k1; exact ⟨blk,cap,o,k2,rfl,k3,k4,k5⟩
 |mv _ _ g' _ _ _ _ _ k1 k2 _=>rw [hb] at k1; cases k1; omega
 |mw _ _ _ _ _ k1 _=>rw [hb] at k1; cases k1
theorem aE.It (ho:aE G c) {b g:Nat} {ts:Nat × Nat} {l:List DV} (hb:c.heap[b]? = some (.arr g ts l)) {blk cap:Nat} (bC:c.own b=some (blk,cap)) :
  0<ts.2∧gp ts.2 l∧∃ vs:Array Value,c.w.heap[blk]? = some (.cells vs ts.1 (0,0))∧vs.size=cap*ts.2∧l.length≤cap∧cap≤maxLen∧iE c l vs.toList:=by
 obtain ⟨q0,q1,q2⟩:=ho.box b _ hb;rcases q2 with ⟨q2,-⟩ | ⟨lI,ki,vs,q2,q3,q4,q5,q6,q7⟩
 ·rw [bC] at q2; cases q2
 ·rw [bC] at q2; cases q2;exact ⟨q0,q1,vs,q3,q4,q5,q6,iE.JQ q0 q1 q7⟩
def Pz (E:Env) (op:Op) (s:List AV) (h:List ag) (S:AV→List ag→Prop):Prop :=
 ∀ (o:Oper) (c:Cx) (a:Act),o.op=op→c.heap=h→aE E.G c→VS c s a.tmps →
  ∃ (c':Cx) (v:Value) (x:AV) (h':List ag),S x h'∧Ee E.P o a c.w v c'.w∧c'.heap=h'∧aE E.G c'∧VR c' x v∧Step c c'
theorem AW.YS {f0:FuncId} {ae:ie} {k:List aG} {cls:List cC} {R:bY} {ops:Array Oper} {o:Oper} {l:List Oper} {S:AV→List ag→Prop} (hw:ik ops o s true) (ho:Pz E o.op s h S) (H:∀ x h',S x h'→AW E f0 ⟨ae,.bE ops l::k,bG s o.dst x⟩ cls h' R):AW E f0 ⟨ae,.bE ops (o::l)::k,s⟩ cls h R:=by
 unfold AW;intro c0 c t ts h0 h1 h2 h3 hr bX h4 h5 cs;obtain ⟨i,hi,hc,aK⟩:=mB (h1 _ (List.mem_cons_self ..));obtain ⟨c',u,x,h',hS,k1,k2,k3,k4,k5⟩:=ho o c ⟨t,marks ae.aH⟩ rfl h2 h3 h4;have H':=H x h' hS;unfold AW at H';obtain ⟨c2,fr,r,v,e1,e2,e3,e4,e5,e6⟩:=H' c0 c' ((⟨t,marks ae.aH⟩:Act).put o.dst u).tmps ts h0 (gq aK (eb h1)) k2 k3 (hr.step k5) (bX.step h3 k5) (VS.bG (a:=⟨t,marks ae.aH⟩) (k5.vs h4) o.dst k4) (k5.cr h5) cs;refine ⟨c2,fr,r,v,e1,e2,e3,e4,.head ?_ e5,e6⟩;simp only [cC.bM,List.map_cons,hc];rw [tI hi (hw c t h4) k1,put_defers];rfl
theorem aa.PA (hE:E.OK) {ae:FuncId} {R:bY} {lits:List Nat} {ops:Array Oper} {o:Oper} {l:List Oper} {r:List aG} {t e b g k:Nat} {qq:Option Nat} {i:bB} {x:Operand} {args:Array Operand} {PB:Array TypeId} {ts:Nat × Nat} {m:List DV} (hg:o.guard=none)
  (cm:o.op = .call { callee := .builtin .len,args:=args,argTypes:=PB }) (hx:args.toList[0]? = some x) (ht:PB.toList[0]? = some t) (hi:E.T[t]? = some i) (hk:i.k = .slice e) (hv:bp E.G s x (.cut b g k qq)) (hb:h[b]? = some (.arr g ts m))
  (H:k≤m.length→bJ s o.dst (.d (.int .i64 ((m.length - k:Nat):Int))) fun s'=>aa E ae R lits (.bE ops l::r) s' h):aa E ae R lits (.bE ops (o::l)::r) s h:=by
 have ho:Pz E o.op s h fun v h'=>k≤m.length∧v = .d (.int .i64 ((m.length - k:Nat):Int))∧h'=h:=by
  rw [cm];intro o c ac h1 h2 h3 h4;subst h2;obtain ⟨blk,cap,off,-,q,nT,-,-⟩:=AI hb (hv c ac h3 h4);exact ⟨c,_,_,_,⟨nT,rfl,rfl⟩,.inl (vS h1 hx ht (hE.types t i hi) q (.inl ⟨e,_,_,hk,rfl⟩)),rfl,h3,.d _ _ (.int _ _),Step.refl c h3.bD⟩
 refine .of (.YS (eO hg) ho fun v h' ⟨q0,q1,q2⟩=>?_);subst q1;subst q2;have H:=H q0;rw [di] at H;exact H.to
theorem aa.YT (hE:E.OK) {ae:FuncId} {R:bY} {lits:List Nat} {ops:Array Oper} {o:Oper} {l:List Oper} {r:List aG} {t e b g k n:Nat} {qq:Option Nat} {ti ei:bB} {x y:Operand} {ts:Nat × Nat} {m:List DV} {j:IntKind} (hg:o.guard=none)
  (cm:o.op = .indexAddr t x y) (hi:E.T[t]? = some ti) (hk:ti.k = .slice e) (cx:E.T[e]? = some ei) (bP:ei.size=ts.2) (hv:bp E.G s x (.cut b g k qq)) (hy:bp E.G s y (.d (.int j n))) (hb:h[b]? = some (.arr g ts m)) (hn:k+n<m.length)
  (H:bJ s o.dst (.cK b g (k+n) 0) fun s'=>aa E ae R lits (.bE ops l::r) s' h):aa E ae R lits (.bE ops (o::l)::r) s h:=by
 have ho:aQ E o.op s h (.cK b g (k+n) 0) h:=by
  rw [cm];refine .quiet fun o c ac h1 h2 h3 h4=>?_;subst h2;obtain ⟨blk,cap,off,q1,q2,-,q3,-⟩:=AI hb (hv c ac h3 h4);obtain ⟨-,-,vs,-,-,q4,-⟩:=h3.It hb q1;refine ⟨_,wa h1 (v := .pointer (some ⟨blk,off+(n:Int).toNat*ei.size,none⟩)) ?_,?_⟩
  ·rw [q2,fP (hy c ac h3 h4)];exact BD (hE.types t ti hi) (hE.types e ei cx) hk (by omega) (by omega)
  ·have:=VR.cK (c:=c) b g (k+n) 0 ts m blk cap hb q1 hn;rw [q3 (by omega),bP,Int.toNat_natCast,← Nat.add_mul];exact this
 rw [di] at H;exact .of (.op (eO hg) ho H.to)
theorem aa.YU (hE:E.OK) {ae:FuncId} {R:bY} {lits:List Nat} {ops:Array Oper} {o:Oper} {l:List Oper} {r:List aG} {t e b g k n:Nat} {qq:Option Nat} {ti ei:bB} {x y:Operand} {ts:Nat × Nat} {m:List DV} {j:IntKind} (hg:o.guard=none)
  (cm:o.op = .slice t x (some y) none none) (hi:E.T[t]? = some ti) (hk:ti.k = .slice e) (cx:E.T[e]? = some ei) (bP:ei.size=ts.2) (hv:bp E.G s x (.cut b g k qq)) (hy:bp E.G s y (.d (.int j n))) (hb:h[b]? = some (.arr g ts m)) (hn:k+n≤m.length)
  (H:bJ s o.dst (.cut b g (k+n) qq) fun s'=>aa E ae R lits (.bE ops l::r) s' h):aa E ae R lits (.bE ops (o::l)::r) s h:=by
 have ho:aQ E o.op s h (.cut b g (k+n) qq) h:=by
  rw [cm];refine .quiet fun o c ac e1 h2 h3 h4=>?_;subst h2;obtain ⟨nu,d,g1,g2,g3,-⟩:=cM (hE.types t ti hi);obtain rfl:=lJ (hk.symm.trans g3);obtain ⟨blk,cap,off,q1,q2,q5,q3,q6⟩:=AI hb (hv c ac h3 h4);obtain ⟨-,-,vs,-,-,q4,-⟩:=h3.It hb q1;have nt:=fP (hy c ac h3 h4);have sW:=EK (P:=E.P) (w:=c.w) (isSlice:=true) (len:=m.length - k) (cap:=cap - k) (lo:=some (.int j n)) (hi:=none) (l:=some (n:Int)) (u:=none) ⟨j,rfl⟩ rfl (by simp) (by simp; omega) (by simp) (by omega);simp only [Option.getD_some,Option.getD_none,Int.toNat_natCast] at sW;refine ⟨_,?_,VR.cut b g (k+n) qq ts m blk cap (if cap - k=n then off else off+n*ts.2) hb q1 hn (fun h=>?_) q6⟩
  ·rw [show m.length - (k+n)=m.length - k - n by omega,show cap - (k+n)=cap - k - n by omega];simp only [execOp,e1,q2,nt,Instr.sliceAt,Instr.slice,Sem.run_bind,Sem.run_pure,Result.andThen_ok,run_underlying g2,Option.map_none,Option.map_some,sW,run_sizeOf (hE.types e ei cx),bP,kQ];split <;> rfl
  ·rw [if_neg (by omega),q3 (by omega),Nat.add_mul]
 rw [di] at H;exact .of (.op (eO hg) ho H.to)
theorem YV {t0 t1 e:TypeId} {i:TypeInfo} {d1:TypeDesc} (h0:P.underlying t0=some (.slice e)) (h1:P.underlying t1=some d1) (iP:∀ k,d1 ≠ .int k) (hi:P.info? e=some i) {w:World} {g off n m cap:Nat} {cur:Array Value} {x:Value} {news:List Value}
  (hg:w.heap[g]? = some (.cells cur e (0,0))) (hs:Src P i.size w x m news) (kl:n+m≤cap) (dD:off+n*i.size+news.length≤cur.size) (ty:TypeId) :
  (Builtin.append_ #[t0,t1] ty #[.slice (some ⟨g,off,none⟩) n cap,x]).run P w = .ok (.slice (some ⟨g,off,none⟩) (n+m) cap) (w.setCells g (off+n*i.size) news):=by
 have aR:=run_storeCells_cells (P:=P) g (off+n*i.size) news 0 w (fun j hj=>by
   simp only [World.cell?,hg]
   simp; omega) (fun j hj=>by simp [World.frozen?,hg]) hs.one
 simp only [Nat.add_zero] at aR;have hc:=hs.cells w.drawn;simp [Builtin.append_,run_underlying h0,run_underlying h1,Go.sizeOf,typeInfo,hi,hs.len,kl,hc,kQ,aR]
theorem YW {sz:Nat} {l:List DV} (dO:gp sz l) (k:Nat) (hk:k≤l.length):flat l=flat (l.take k)++flat (l.drop k)∧(flat (l.take k)).length=k*sz:=by
 refine ⟨by rw [← Bn,List.take_append_drop],?_⟩
 have:=kS (sz:=sz) (l:=l.take k) (fun i e he=>by
  rw [List.getElem?_take] at he;split at he
  ·exact dO i e he
  ·cases he)
 rw [this,List.length_take,Nat.min_eq_left hk]
theorem YX {sz:Nat} {l:List DV} (dO:gp sz l) (k:Nat):gp sz (l.drop k):=fun i e he=>by
 rw [List.getElem?_drop] at he;exact dO _ e he
def xK (l m:List DV) (k cp:Nat):List DV:=if l.length+m.length≤cp then l++m else l.drop k++m
def xL (b g:Nat) (l m:List DV) (k cp:Nat):AV:=if l.length+m.length≤cp then .cut b (g+1) k (some cp) else .cut b (g+1) 0 none
theorem YY (aK:aE G c) {t0 t1:TypeId} {i:TypeInfo} {z:Value} {d1:TypeDesc} {ts:Nat × Nat} (h0:P.underlying t0=some (.slice ts.1)) (h1:P.underlying t1=some d1) (iP:∀ k,d1 ≠ .int k) (hi:P.info? ts.1=some i) (hz:i.zero=some z) (gm:z.cells.size=i.size) (gr:i.size=ts.2) (mC:i.bytes≤65536)
  {b g k cp:Nat} {l m:List DV} (hb:c.heap[b]? = some (.arr g ts l)) {v x:Value} (hv:VR c (.cut b g k (some cp)) v) {news:List Value} (hs:Src P i.size c.w x m.length news) (hn:∀ (j:Nat) (y:DV) (v:Value),(flat m)[j]? = some y→news[j]? = some v→VD c.bad c.w y v) (hm:∀ e∈m,e.cells.length=ts.2) (yC:m≠[]) (qw:l.length+m.length≤2147483648) (ty:TypeId) :
  ∃ (c':Cx) (v':Value),(Builtin.append_ #[t0,t1] ty #[v,x]).run P c.w = .ok v' c'.w∧c'.heap=c.heap.set b (.arr (g+1) ts (xK l m k cp))∧aE G c'∧VR c' (xL b g l m k cp) v'∧Step c c':=by
 obtain ⟨blk,ki,off,r1,rfl,hk,th,YZ⟩:=AI hb hv;obtain rfl:cp=ki:=YZ _ rfl;obtain ⟨q0,q1,vs,q3,q4,q5,q6,iF⟩:=aK.It hb r1;have ez:=aZ hb;have hmp:0<m.length:=List.length_pos_iff.2 yC;have qx:(flat m).length=m.length*ts.2:=kS (fun i e he=>hm e (List.mem_of_getElem? he));have om:news.length=(flat m).length:=by rw [hs.size,qx,gr]
 have km:∀ L own w,(c.fR b (g+1) ts L own w).heap[b]? = some (.arr (g+1) ts L):=fun L own w=>by show (c.heap.set b _)[b]? = _; rw [List.getElem?_set_self ez]
 have v7:∀ L own w,(c.fR b (g+1) ts L own w).own b=own:=fun L own w=>by simp [Cx.fR]
 by_cases kl:l.length+m.length≤cp
 ·have eL:xK l m k cp=l++m:=if_pos kl;have eQ:xL b g l m k cp = .cut b (g+1) k (some cp):=if_pos kl;rw [eL,eQ];have ho:=th (by omega);subst ho;have e0:k*ts.2+(l.length - k)*i.size=l.length*i.size:=by rw [gr,← Nat.add_mul]; congr 1; omega
  have dD:l.length*i.size+news.length≤vs.size:=by
   rw [om,qx,gr,q4,← Nat.add_mul];exact Nat.mul_le_mul_right _ kl
  have hr:=YV (off:=k*ts.2) (n:=l.length - k) (m:=m.length) (cap:=cp - k) h0 h1 iP hi q3 hs (by omega) (by rw [e0]; exact dD) ty;rw [e0] at hr;obtain ⟨e1,e2,e3,e4⟩:=yc blk news (l.length*i.size) c.w;obtain ⟨k1,k2⟩:=aK.fR (l':=l++m) hb (w:=c.w.setCells blk (l.length*i.size) news) (some (blk,cp)) e1 e2 e3 (Nat.le_of_eq e4.symm) (fun k _ hk=>tA blk news _ c.w k (fun e=>hk cp (by rw [e]; exact r1))) (fun k n e=>by cases e; exact ⟨by rw [e4]; exact (aK.bI b blk cp r1).1,fun _=>⟨cp,r1⟩⟩);refine ⟨_,_,hr,rfl,k2 ⟨EE q1 hm,.inr ⟨blk,cp,(dG vs.toList (l.length*i.size) news).toArray,rfl,yd blk ts.1 (0,0) news _ c.w vs q3,by simp [vP,q4],by simpa using kl,q6,?_⟩⟩,?_,k1⟩
  ·have:=iE.append (c:=c) (l:=l) (m:=m) (vs:=vs.toList) (news:=news) (tail:=vs.toList.drop (l.length*ts.2+news.length)) q1 iF (by rw [gr] at dD; simp; omega) hs.one om hn;have:=this.step k1;show iE _ (l++m) (dG vs.toList (l.length*i.size) news);rw [JS (by simp; exact dD)];rw [← gr] at this;exact this
  ·have:=VR.cut (c:=c.fR b (g+1) ts (l++m) (some (blk,cp)) (c.w.setCells blk (l.length*i.size) news)) b (g+1) k (some cp) ts (l++m) blk cp (k*ts.2) (km _ _ _) (v7 _ _ _) (by simp; omega) (fun _=>rfl) (fun n e=>by cases e; rfl);rw [List.length_append,show l.length+m.length - k=l.length - k+m.length by omega] at this;exact this
 ·have eL:xK l m k cp=l.drop k++m:=if_neg kl;have eQ:xL b g l m k cp = .cut b (g+1) 0 none:=if_neg kl;rw [eL,eQ];obtain ⟨f1,f2⟩:=YW q1 k hk;have dO:=YX q1 k;have DB:(l.drop k).length=l.length - k:=List.length_drop;have bX:=ng q3;have gh:l.length*ts.2≤vs.size:=by rw [q4]; exact Nat.mul_le_mul_right _ q5
  have eks:k*ts.2+(l.length - k)*ts.2=l.length*ts.2:=by rw [← Nat.add_mul]; congr 1; omega
  let iD:List Value:=(vs.toList.drop (k*ts.2)).take ((l.length - k)*ts.2)
  have v8:iD.length=(l.length - k)*ts.2:=by simp [iD]; omega
  have hold:∀ (idx:Nat) (y:DV),(flat (l.drop k))[idx]? = some y→∃ v,iD[idx]? = some v∧v.oneCell'=true∧VD c.bad c.w y v:=fun idx y hy=>by
   have ai:=aZ hy;rw [kS dO,DB] at ai;obtain ⟨v,u1,u2⟩:=iF (k*ts.2+idx) y (by rw [f1,List.getElem?_append_right (by omega),f2,Nat.add_sub_cancel_left]; exact hy);exact ⟨v,by simp only [iD]; rw [List.getElem?_take,if_pos ai,List.getElem?_drop]; exact u1,u2⟩
  have EF:∀ d:Nat,(Builtin.firstCells i.size (l.length - k) (.slice (some ⟨blk,off,none⟩) (l.length - k) (cp - k))).run P { c.w with drawn:=d } = .ok iD.toArray { c.w with drawn:=d }:=fun d=>by
   have:=run_loadCells_list (P:=P) { c.w with drawn:=d } ⟨blk,off,none⟩ iD (fun j u hu=>by
    have hj:=aZ hu;rw [v8] at hj;have Y0:k<cp:=by
     rcases Nat.lt_or_ge k l.length with h | h
     ·omega
     ·rw [show l.length - k=0 by omega,Nat.zero_mul] at hj; omega
    simp only [iD] at hu;rw [List.getElem?_take,if_pos hj,List.getElem?_drop] at hu;rw [kQ,th Y0];have:=bX _ u hu;rw [Nat.zero_add] at this
    exact this)
   rw [v8,← gr] at this;exact this
  have hr:=JN h0 h1 iP hi hz EF hs (by omega) (by omega) mC ty;have aP:=grownCap_ge c.w (l.length - k+m.length) (cp - k) ts.1;have hle:=grownCap_le_maxLen c.w (l.length - k+m.length) (cp - k) ts.1 (o9 (by omega));generalize grownCap c.w (l.length - k+m.length) (cp - k) ts.1=nc at hr aP hle
  let cells:Array Value:=iD.toArray++news.toArray++Builtin.zeroCells z.cells (nc - (l.length - k+m.length))
  have hw:(c.w.drew.alloc (.cells cells ts.1)).heap[c.w.heap.size]? = some (.cells cells ts.1 (0,0)):=heap_alloc_new c.w.drew _;obtain ⟨k1,k2⟩:=aK.fR (l':=l.drop k++m) hb (w:=c.w.drew.alloc (.cells cells ts.1)) (some (c.w.heap.size,nc)) rfl rfl rfl (by simp) (fun k hk _=>Below.heap_alloc c.w.drew _ k hk) (fun k n e=>by cases e; exact ⟨by simp,fun h=>by omega⟩);refine ⟨_,_,hr,rfl,k2 ⟨EE dO hm,.inr ⟨c.w.heap.size,nc,cells,rfl,hw,?_,by simpa using aP,hle,?_⟩⟩,?_,k1⟩
  ·simp only [cells,Array.size_append,List.size_toArray,size_zeroCells,gm,v8,om,qx,gr,← Nat.add_mul]
   congr 1
   omega
  ·have:=iE.append (c:=c) (l:=l.drop k) (m:=m) (vs:=iD) (news:=news) (tail:=(Builtin.zeroCells z.cells (nc - (l.length - k+m.length))).toList) dO hold (by rw [DB]; omega) hs.one om hn;rw [List.take_of_length_le (by rw [DB]; omega)] at this;have:=this.step k1
   simpa [cells] using this
  ·have:=VR.cut (c:=c.fR b (g+1) ts (l.drop k++m) (some (c.w.heap.size,nc)) (c.w.drew.alloc (.cells cells ts.1))) b (g+1) 0 none ts (l.drop k++m) c.w.heap.size nc 0 (km _ _ _) (v7 _ _ _) (Nat.zero_le _) (fun _=>by simp) (fun n e=>by cases e);rw [List.length_append,DB,Nat.sub_zero,Nat.sub_zero] at this;exact this
theorem Y1 (hE:E.OK) {args:Array Operand} {tO:Array TypeId} {x y:Operand} {t0 t1 e e1 b g k cp:Nat} {i0 i1 ei:bB} {ts:Nat × Nat} {l m:List DV}
  (hx:args.toList=[x,y]) (Bz:tO.toList=[t0,t1]) (iC:E.T[t0]? = some i0) (tP:E.T[t1]? = some i1) (df:i0.k = .slice e) (gu:i1.k = .slice e1) (cx:E.T[e]? = some ei)
  (hz:ei.zero.length=ei.size) (cW:Nat.blt 0 ei.size=true) (mC:Nat.ble ei.bytes 65536=true) (Y2:ts.1=e) (yD:ts.2=ei.size) (ha:bp E.G s x (.cut b g k (some cp))) (hy:bp E.G s y (.d (.sl m))) (hb:h[b]? = some (.arr g ts l)) (hm:∀ e∈m,e.cells.length=ei.size) (yC:m≠[]) (qw:l.length+m.length≤2147483648) :
  aQ E (.call { callee := .builtin .append,args:=args,argTypes:=tO }) s h (xL b g l m k cp) (h.set b (.arr (g+1) ts (xK l m k cp))):=fun o c ac h1 h2 h3 h4=>by
 subst h2;have cW:=iB cW;have mC:=Nat.le_of_ble_eq_true mC;obtain ⟨yf,d0,g1,g2,g3,-⟩:=cM (hE.types _ _ iC);obtain rfl:=lJ (df.symm.trans g3);obtain ⟨RW,d1,k1,k2,k3,-⟩:=cM (hE.types _ _ tP);obtain ⟨ti,z,q1,q2,q3,q4⟩:=zeroOf (hE.types _ _ cx) hz cW;obtain ⟨ym,d',p1,p2,p3,p4,p5,-⟩:=cM (hE.types _ _ cx);rw [q1] at p1; cases p1;have iP:∀ k,d1 ≠ .int k:=fun k e=>by rw [k3,e] at gu; cases gu
 have gm:z.cells.size=ti.size:=by
  obtain ⟨vs,e1,e2⟩:=q4 c;rw [e1];have:=e2.1;simp at this;simp [← this,hz,q3]
 have nt:=hy c ac h3 h4;generalize Y3:ac.eval y=yv at nt;cases nt with
 |d _ _ zQ =>
  obtain ⟨news,hs,hn⟩:=JO (P:=E.P) cW hm zQ;rw [q3] at hs;subst Y2;obtain ⟨c',v',r1,r3,r4,r5,r6⟩:=YY h3 g2 k2 iP q1 q2 gm (by rw [← q3]; exact yD.symm) (by rw [← p5]; exact mC) hb (ha c ac h3 h4) hs hn (fun e he=>by rw [yD]; exact hm e he) yC qw o.type;exact ⟨c',v',.inl (EG h1 hx Bz rfl Y3 r1),r3,r4,r5,r6⟩
theorem aa.Y4 {ae:FuncId} {R:bY} {lits:List Nat} {td:List aG} {b off j g k:Nat} {q:Option Nat} {ts:Nat × Nat} {l:List DV} (hj:h[j]? = some (.arr g ts l)) {cs:List AV} (hb:h[b]? = some (.cells cs)) (hd:cs[off]? = some (.cut j g k q))
  (H:∀ cp,k≤l.length→aa E ae R lits td s (h.set b (.cells (cs.set off (.cut j g k (some cp)))))):aa E ae R lits td s h:=by
 refine .of ?_;unfold AW;intro c0 c t ea h0 h1 h2 h3 hr bX h4 h5 cs';subst h2;have ez:=aZ hb;have aJ:j≠b:=fun e=>by subst e; rw [hb] at hj; cases hj
 obtain ⟨blk,cap,vs,ty,g1,g2,g3,g4⟩:=h3.box b _ hb;have PC:off<vs.size:=by rw [g3]; exact aZ hd
 have Y5:=g4 off _ vs[off] hd (by simp [PC]);obtain ⟨bk,cp,o2,u1,u2,u3,u4,u5⟩:=AI hj Y5;have H:=(H cp u3).to;unfold AW at H
 let c':Cx:={ c with heap:=c.heap.set b (.cells (cs.set off (.cut j g k (some cp)))) }
 have oQ:c'.heap[b]? = some (.cells (cs.set off (.cut j g k (some cp)))):=by
  show (c.heap.set b _)[b]? = _;rw [List.getElem?_set_self ez]
 have mV:∀ i,i≠b→c'.heap[i]? = c.heap[i]? := fun i hi=>by
  show (c.heap.set b _)[i]? = _;rw [List.getElem?_set_ne (Ne.symm hi)]
 have aR:Step c c':=⟨rfl,h3.bD,rfl,rfl,rfl,Nat.le_refl _,fun _ _ _=>rfl,fun i x n hi _=>⟨n,hi⟩,fun i bx hi=>by
  by_cases bL:i=b
  ·subst bL;rw [hb] at hi;cases hi;exact .inl ⟨_,oQ,rfl,by simp⟩
  ·exact ni hi (mV i bL) rfl⟩
 have aK:aE E.G c':=h3.next aR (fun i x n hi=>by
   have:=h3.bI i x n hi;refine ⟨this.1,?_⟩;show i<(c.heap.set b _).length;simp; omega) h3.inj (fun i bx hi=>by
  by_cases bL:i=b
  ·subst bL;rw [oQ] at hi;cases hi;right;refine ⟨blk,cap,vs,ty,g1,g2,by simpa using g3,fun q x v hx hv=>?_⟩;by_cases hq:q=off
   ·subst hq;rw [List.getElem?_set_self (aZ hd)] at hx;cases hx;have e:v=vs[q]:=by simpa [PC] using hv.symm
    rw [e,u2];exact VR.cut (c:=c') j g k (some cp) ts l bk cp o2 ((mV j aJ).trans hj) u1 u3 u4 (fun n e=>by cases e; rfl)
   ·rw [List.getElem?_set_ne (Ne.symm hq)] at hx;exact aR.vr (g4 q x v hx hv)
  ·rw [mV i bL] at hi
   exact .inl ⟨hi,rfl,fun _ _ _=>rfl⟩)
 obtain ⟨c2,fr,rr,u,e1,e2,e3,e4,e5,e6⟩:=H c0 c' t ea h0 h1 rfl aK (hr.step aR) (bX.step h3 aR) (aR.vs h4) (aR.cr h5) cs';exact ⟨c2,fr,rr,u,e1,e2,e3,e4,e5,e6⟩
theorem aa.Y6 {ae:FuncId} {R:bY} {lits:List Nat} {td:List aG} {b off j g:Nat} {ts:Nat × Nat} {l:List DV} (hj:h[j]? = some (.arr g ts l)) (hl:l≠[]) {cs:List AV} (hb:h[b]? = some (.cells cs)) (hd:cs[off]? = some (.own j g))
  (H:aa E ae R lits td s (h.set b (.cells (cs.set off (.cut j g 0 none))))):aa E ae R lits td s h:=by
 replace H:=H.to;refine .of (.jJ (fun c t ea h1 h2 h3 h4 h5=>?_) H);subst h2;have ez:=aZ hb;have aJ:j≠b:=fun e=>by subst e; rw [hb] at hj; cases hj
 let c':Cx:={ c with heap:=c.heap.set b (.cells (cs.set off (.cut j g 0 none))) }
 have oQ:c'.heap[b]? = some (.cells (cs.set off (.cut j g 0 none))):=by
  show (c.heap.set b _)[b]? = _;rw [List.getElem?_set_self ez]
 have mV:∀ i,i≠b→c'.heap[i]? = c.heap[i]? := fun i hi=>by
  show (c.heap.set b _)[i]? = _;rw [List.getElem?_set_ne (Ne.symm hi)]
 have aR:Step c c':=⟨rfl,h3.bD,rfl,rfl,rfl,Nat.le_refl _,fun _ _ _=>rfl,fun i x n hi _=>⟨n,hi⟩,fun i bx hi=>by
  by_cases bL:i=b
  ·subst bL;rw [hb] at hi;cases hi;exact .inl ⟨_,oQ,rfl,by simp⟩
  ·exact ni hi (mV i bL) rfl⟩
 have aK:aE E.G c':=h3.next aR (fun i x n hi=>by
   have:=h3.bI i x n hi;refine ⟨this.1,?_⟩;show i<(c.heap.set b _).length;simp; omega) h3.inj (fun i bx hi=>by
  by_cases bL:i=b
  ·subst bL;rw [oQ] at hi;cases hi;right;obtain ⟨blk,cap,vs,ty,g1,g2,g3,g4⟩:=h3.box i _ hb;refine ⟨blk,cap,vs,ty,g1,g2,by simpa using g3,fun q x v hx hv=>?_⟩;by_cases hq:q=off
   ·subst hq;rw [List.getElem?_set_self (aZ hd)] at hx;cases hx;have:=g4 q _ v hd hv;rcases oh hj this with ⟨bk,cp,u1,u2⟩ | ⟨u1,-,-⟩
    ·rw [u2];have:=VR.cut (c:=c') j g 0 none ts l bk cp 0 ((mV j aJ).trans hj) u1 (Nat.zero_le _) (fun _=>by simp) (fun n e=>by cases e)
     simpa using this
    ·exact absurd u1 hl
   ·rw [List.getElem?_set_ne (Ne.symm hq)] at hx;exact aR.vr (g4 q x v hx hv)
  ·rw [mV i bL] at hi
   exact .inl ⟨hi,rfl,fun _ _ _=>rfl⟩)
 exact ⟨c',t,ea,h1,rfl,aK,aR.vs h4,aR.cr h5,aR,fun _ => .refl _ _⟩
end
end Go.ax
end
