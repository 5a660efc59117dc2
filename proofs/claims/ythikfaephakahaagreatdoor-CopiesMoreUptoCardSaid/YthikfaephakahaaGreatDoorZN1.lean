/- Several texts of mine, one behind the other. Conditions: as each says. -/
import Derived.Test.YthikfaephakahaaGreatDoorZM9
import Derived.Lib.BufferMore
import Derived.Lib.LazyBuf
import Derived.Laws.CopyRow
set_option linter.unusedVariables false
set_option linter.unusedSimpArgs false
section
namespace Go.Eng
open Go Go.RowKit
section
variable {E:Env} {fid:FuncId} {R:Post} {s:List AV} {h:List Box} {lits:List Nat} {ops:Array Oper} {o:Oper} {l:List Oper} {k:List AItem}
theorem eqGuard_slice (op:BinOp) (t:TypeId) (x y:Operand) (p q:Option Addr) (a b c d:Nat):eqGuard op t x y (.slice p a b) (.slice q c d)=pure ():=by
 unfold eqGuard; cases op <;> rfl
theorem AWL.nilTest (hE:E.OK) {t e:Nat} {x:Operand} {yt:Nat} {m:List DV} {ti:TInfo} (hg:o.guard=none) (hop:o.op = .binOp .eql t x (.const (.slice none 0 0)) yt) (hti:E.T[t]? = some ti) (hk:ti.k = .slice e) (hx:EvOK E.G s x (.d (.sl m)))
  (H:∀ b,(b=true→m=[])→AWL E fid R lits (.reg ops l::k) (putS s o.dst (.d (.bool b))) h):AWL E fid R lits (.reg ops (o::l)::k) s h:=by
 refine .of ?_;unfold AW;intro c0 c t' ts' h0 h1 h2 h3 hr hrow h4 h5 cs;subst h2;obtain ⟨i,hi,hcn,hok⟩:=reg_at (h1 _ (List.mem_cons_self ..));obtain ⟨tyi,d,g1,g2,g3,-⟩:=tinfo_inv (hE.types t ti hti);obtain rfl:=tk_slice (hk.symm.trans g3);have hv:=hx c ⟨t',marks R.fx.dfs⟩ h3 h4;have fin:∀ (p:Option Addr) (n cp:Nat) (b:Bool),(⟨t',marks R.fx.dfs⟩:Act).eval x = .slice p n cp→(binOp .eql t (.slice p n cp) (.slice none 0 0)).run E.P c.w = .ok (.bool b) c.w→(execOp (⟨t',marks R.fx.dfs⟩:Act).eval o).run E.P c.w = .ok (.value (.bool b)) c.w:=fun p n cp b e1 e2=>by
  have hnil:(⟨t',marks R.fx.dfs⟩:Act).eval (.const (.slice none 0 0)) = .slice none 0 0:=rfl;simp only [execOp,hop,e1,hnil,eqGuard_slice,Sem.run_bind,Sem.run_pure,Result.andThen_ok,e2]
 have key:∃ b,(b=true→m=[])∧(execOp (⟨t',marks R.fx.dfs⟩:Act).eval o).run E.P c.w = .ok (.value (.bool b)) c.w:=by
  generalize hu:(⟨t',marks R.fx.dfs⟩:Act).eval x=u at hv;cases hv with
  |d _ _ hv=>cases hv with
   |slnil=>exact ⟨true,fun _=>rfl,fin _ _ _ _ hu (Lib.run_eql_slice_nil_nil c.w 0 0 g2)⟩
   |slz a=>exact ⟨false,fun _=>rfl,fin _ _ _ _ hu (Lib.run_eql_slice_some_nil c.w a 0 0 g2)⟩
   |sl _ blk off cap sz f=>exact ⟨false,fun q=>(by cases q),fin _ _ _ _ hu (Lib.run_eql_slice_some_nil c.w _ _ _ g2)⟩
 obtain ⟨b,hb,hrun⟩:=key;have H:=(H b hb).to;unfold AW at H;have hvs:VS c (putS s o.dst (.d (.bool b))) ((⟨t',marks R.fx.dfs⟩:Act).put o.dst (.bool b)).tmps:=VS.putS (a:=⟨t',marks R.fx.dfs⟩) h4 o.dst (.d _ _ (.bool b));obtain ⟨c2,fr,rr,u,e1,e2,e3,e4,e5,e6⟩:=H c0 c _ ts' h0 (ok_cons hok (ok_tail h1)) rfl h3 hr hrow hvs h5 cs;refine ⟨c2,fr,rr,u,e1,e2,e3,e4,.head ?_ e5,e6⟩;simp only [AFrame.conc,List.map_cons,hcn];rw [step_op hi (wanted_none hg c t' h4) (.inl hrun),put_defers];rfl
end
end Go.Eng
end
section
namespace Go.Eng
open Go Go.RowKit
section
variable {G:List (Nat × DV)} {c:Cx}
end
section
variable {E:Env} {fid:FuncId} {R:Post} {s:List AV} {h:List Box} {lits:List Nat} {ops:Array Oper} {o:Oper} {l:List Oper} {k:List AItem}
end
end Go.Eng
end
section
namespace Go.Eng
open Go Go.RowKit
theorem RowsOK.mid {lim:Nat} {c:Cx} {g1 g2:List Ghost} {g:Ghost} (h:RowsOK lim c (g1++g2)) (hg:GhostOK lim c g) (hn:g.blks.Nodup) (hd:∀ x∈g.blks,x ∉ (g1++g2).flatMap Ghost.blks):RowsOK lim c (g1++g::g2):=by
 refine ⟨fun r hr=>?_,?_⟩
 ·rcases List.mem_append.1 hr with hr | hr
  ·exact h.each r (List.mem_append_left _ hr)
  ·rcases List.mem_cons.1 hr with rfl | hr
   ·exact hg
   ·exact h.each r (List.mem_append_right _ hr)
 ·have hp:((g1++g::g2).flatMap Ghost.blks).Perm (g.blks++(g1++g2).flatMap Ghost.blks):=by
   have:=(List.perm_middle (a:=g) (l₁ := g1) (l₂ := g2)).flatMap_right Ghost.blks
   simpa using this
  rw [hp.nodup_iff,List.nodup_append];exact ⟨hn,h.nodup,fun x hx y hy e=>by subst e; exact hd x hx hy⟩
section
variable {lim:Nat} {c:Cx} {rows L:List Ghost}
theorem RowsX.push {g:Ghost} (h:RowsX lim c rows L) (hg:GhostOK lim c g) (hn:g.blks.Nodup) (hd:∀ x∈g.blks,x ∉ (rows++L).flatMap Ghost.blks):RowsX lim c rows (g::L):=⟨h.all.mid hg hn hd,h.flat⟩
theorem RowsX.old {G:List (Nat × DV)} (h:RowsX lim c rows L) (ho:HOk G c) {b:Nat} (hb:b∈(rows++L).flatMap Ghost.blks):b<c.w.heap.size:=by
 obtain ⟨g,hg,hx⟩:=List.mem_flatMap.1 hb;exact ho.barlt _ ((h.all.each g hg).bar _ hx)
theorem Touch.putObj {l:Nat} {o:Obj} (hb:c.bar l):Touch c l (c.w.putObj l o):=⟨hb,rfl,rfl,rfl,World.putObj_size,fun _ h=>World.putObj_heap_other h⟩
end
def setPs:List Nat→List AV→List AV→List AV
 |p::ps,a::l,s=>setPs ps l (s.set p a)
 |_,_,s=>s
theorem vs_setPs {c:Cx}:∀ {ps:List Nat} {l:List AV} {vs:List Value} {s:List AV} {t:Array Value},VS c s t→VL c l vs→VS c (setPs ps l s) ((ps.zip vs).foldl (fun t (p,v)=>t.setIfInBounds p v) t)
 | [],_,_,_,_,h,_=>by simpa [setPs] using h
 |_::_,[],[],_,_,h,_=>by simpa [setPs] using h
 |_::_,_::_,[],_,_,_,hl=>by have:=hl.1; simp at this
 |_::_,[],_::_,_,_,_,hl=>by have:=hl.1; simp at this
 |p::ps,a::l,v::vs,s,t,h,hl=>by
  simp only [setPs,List.zip_cons_cons,List.foldl_cons];exact vs_setPs (h.put p hl.head.1) hl.head.2
theorem run_enter_of {P : Program} {f : FuncId} {fn : Func} {b : Code} (hf : P.funcs[f]? = some fn) (hb : fn.body = some b) (hn : (fn.name == "runtime.NumGoroutine") = false) (args : Array Value) (w : World) : (callFunc f args).run P w = .ok (.enter f args) w := by
 simp only [callFunc,Sem.run_bind,Sem.run_pure,Result.andThen_ok,program,Sem.run,hf,hn,hb,Option.isNone_some,Bool.false_eq_true,if_false]
theorem enter_conc {P:Program} {f:FuncId} {fn:Func} {b:Code} (hf:P.funcs[f]? = some fn) (hb:fn.body=some b) (vs:List Value) (s:List AV):Frame.enter P f vs.toArray .normal=(⟨⟨f,none,[]⟩,[.code b],s⟩:AFrame).conc (vs.toArray++Array.replicate (fn.ntmps - vs.toArray.size) undef):=by
 simp [Frame.enter,AFrame.conc,Frame.atR,hf,hb,bf,AItem.conc,marks]
theorem step_round {P:Program} {b:Frame} {a:Act} {k:List Item} {cs:List Frame} {w:World} {ops:Array Oper} {i:Nat} {rest:List Nat} {o:Oper} {l:Nat} {f:FuncId} {tmps:Array Value} {assign body:Code} (ho:ops[i]? = some o) (hw:Region.wanted o (yielded ops a.tmps)=true)
  (hr:(execOp a.eval o).run P w = .ok (.round l f tmps assign body) w) :
  step P (lone (b.atR a (.inRegion ops (i::rest)::k)) cs w) = .next (lone (Frame.round l f tmps assign body .normal) (b.atR a (.inRegion ops (i::rest)::k)::cs) w):=by
 have hg:=stepGR_op (P:=P) (b:=b) (k:=k) (cs:=cs) (w:=w) (rest:=rest) ho hw;have hr':=semAt_run (ro:=b.roundOf) hr (by simp);exact step_lone_go (by rw [hg]; simp [stepG.apply,hr'])
section
variable {E:Env} {fid:FuncId} {R:Post} {s:List AV} {h:List Box} {lits:List Nat} {ops:Array Oper} {o:Oper} {l:List Oper} {k:List AItem}
theorem AWL.rangeFunc {g : Operand} {ps : Array Tmp} {assign body gbody : Code} {gf : FuncId} {a1 a2 : List AV} {fn : Func} (hg : EvOK E.G s g (.fn (.func gf) a1 a2)) (hf : E.P.funcs[gf]? = some fn) (hb : fn.body = some gbody) (hn : (fn.name == "runtime.NumGoroutine") = false) (hrn : R.fx.rnd = none)
  (H:∀ (ll d:Nat) (t:Array Value),AWL E gf ⟨R.n,R.Q,R.rows,⟨R.fx.f0,none,[],⟨⟨fid,none,d::R.fx.dfs⟩,.inRF ll::k,s⟩::R.fx.cls,.loop ⟨ll,d,.ready,none,fid,t,ps,assign,body,s⟩ :: .mark d::R.fx.loops,R.fx.inl⟩⟩ [] [.code gbody] (enterS (a1++[.fn (.yield ll) [] []]++a2) fn.ntmps) h) :
  AWL E fid R lits (.code (.rangeFunc g ps assign body)::k) s h:=by
 have e:(⟨fid,R.fx.rnd,R.fx.dfs⟩:FId)=⟨fid,none,R.fx.dfs⟩:=by rw [hrn]
 refine .of ?_;rw [e];unfold AW;intro c0 c t ts h0 h1 h2 h3 hr hrow h4 h5 cs;subst h2;obtain ⟨v1,v2,e1,e2,e3⟩:=vr_fn (hg c ⟨t,marks R.fx.dfs⟩ h3 h4);obtain ⟨i,hi⟩:∃ i:LoopG,i=⟨c.w.heap.size+1,c.w.heap.size,.ready,none,fid,t,ps,assign,body,s⟩:=⟨_,rfl⟩;have hsz:(c.veil (.deferred (some []))).w.heap.size=c.w.heap.size+1:=by simp [Cx.veil]
 have hk1:HOk E.G (c.veil (.deferred (some []))):=h3.veil;have hk2:HOk E.G ((c.veil (.deferred (some []))).veil (.loop i.rcd)):=hk1.veil;have hr2:RelX c0 ((c.veil (.deferred (some []))).veil (.loop i.rcd)):=hr.veil.veil;have hvr:∀ x v,VR c x v→VR ((c.veil (.deferred (some []))).veil (.loop i.rcd)) x v:=fun x v hv=>veil_vr (veil_vr hv);have hil:i.l=c.w.heap.size+1:=by rw [hi]
 have hrow2:RowsX c0.w.heap.size ((c.veil (.deferred (some []))).veil (.loop i.rcd)) R.rows (.loop i :: .mark c.w.heap.size::R.fx.loops):=by
  have b0:RowsX c0.w.heap.size ((c.veil (.deferred (some []))).veil (.loop i.rcd)) R.rows R.fx.loops:=⟨(hrow.all.veil h3).veil hk1,hrow.flat⟩;have b1:RowsX c0.w.heap.size ((c.veil (.deferred (some []))).veil (.loop i.rcd)) R.rows (.mark c.w.heap.size::R.fx.loops):=by
   refine b0.push (g := .mark c.w.heap.size) (show MarkOK _ _ _ from ⟨.inl (.inr rfl),hr.size,?_⟩) (by simp [Ghost.blks]) (fun x hx hm=>?_)
   ·show ((c.w.alloc (.deferred (some []))).alloc (.loop i.rcd)).heap[c.w.heap.size]? = _;rw [Below.heap_alloc _ _ _ (by simp)];exact heap_alloc_new _ _
   ·simp [Ghost.blks] at hx;subst hx;have:=hrow.old h3 hm;omega
  refine b1.push (g := .loop i) (show LoopOK _ _ _ from ⟨.inr (by rw [hil,hsz]),by rw [hil]; have:=hr.size; omega,?_,?_⟩) (by simp [Ghost.blks]) (fun x hx hm=>?_)
  ·show ((c.w.alloc (.deferred (some []))).alloc (.loop i.rcd)).heap[i.l]? = _;rw [hil,show c.w.heap.size+1=(c.w.alloc (.deferred (some []))).heap.size by simp];exact heap_alloc_new _ _
  ·have es:i.slots=s:=by rw [hi]
   have et:i.tm=t:=by rw [hi]
   rw [es,et];exact ⟨h4.1,fun j x v hx hv=>hvr x v (h4.2 j x v hx hv)⟩
  ·simp [Ghost.blks] at hx;subst hx;rw [List.flatMap_append,List.mem_append,List.flatMap_cons,List.mem_append] at hm;rcases hm with hm | hm | hm
   ·have:=hrow.old h3 (b:=i.l) (by rw [List.flatMap_append]; exact List.mem_append_left _ hm);omega
   ·simp [Ghost.blks] at hm;omega
   ·have:=hrow.old h3 (b:=i.l) (by rw [List.flatMap_append]; exact List.mem_append_right _ hm);omega
 have H:=(H (c.w.heap.size+1) c.w.heap.size t).to;rw [← hi] at H;unfold AW at H;have hargs:VL ((c.veil (.deferred (some []))).veil (.loop i.rcd)) (a1++[.fn (.yield (c.w.heap.size+1)) [] []]++a2) (v1++[.func (.yield (c.w.heap.size+1)) #[] #[]]++v2):=by
  have lift:∀ {x:List AV} {u:List Value},VL c x u→VL ((c.veil (.deferred (some []))).veil (.loop i.rcd)) x u:=fun hx=>⟨hx.1,fun j x v h1 h2=>hvr x v (hx.2 j x v h1 h2)⟩;exact ((lift e2).append (.cons (.fn _ _ _ _ _ rfl rfl (fun j x v hx=>by simp at hx) (fun j x v hx=>by simp at hx)) .nil)).append (lift e3)
 obtain ⟨c2,fr,r,v,q1,q2,q3,q4,q5,q6⟩:=H c0 ((c.veil (.deferred (some []))).veil (.loop i.rcd)) _ (t::ts) h0 (fun x hx=>by simp at hx; subst hx; trivial) rfl hk2 hr2 hrow2 (vs_enter fn.ntmps hargs) ⟨⟨h4.1,fun j x v hx hv=>hvr x v (h4.2 j x v hx hv)⟩,ok_cons trivial (ok_tail h1),cr_gen hvr h5⟩ cs;refine ⟨c2,fr,r,v,q1,q2,q3,q4,.head ?_ q5,q6⟩;have hent:=run_enterLoop_outer (P:=E.P) (w:=c.w) fid t ps assign body;have hrec:(Loop.mk .ready none fid t ps assign body c.w.heap.size)=i.rcd:=by rw [hi]; rfl
 rw [hrec] at hent;have hres:(resolve (⟨t,marks R.fx.dfs⟩:Act).eval (rangeCall g (c.w.heap.size+1)) 0).run E.P ((c.w.alloc (.deferred (some []))).alloc (.loop i.rcd)) = .ok { target := .fn (.func gf) v2.toArray,args:=v1.toArray ++ #[.func (.yield (c.w.heap.size+1)) #[] #[]] } ((c.w.alloc (.deferred (some []))).alloc (.loop i.rcd)):=by
  have hy:∀ l:Nat,#[Operand.const (Value.func (Fn.yield l) #[] #[])].map (⟨t,marks R.fx.dfs⟩:Act).eval = #[.func (.yield l) #[] #[]]:=fun _=>by simp [Act.eval]
  simp only [resolve,rangeCall,e1,Deferred.ofValue,Sem.run_pure,hy]
 have hinv:(invoke (Target.fn (.func gf) v2.toArray) (v1.toArray ++ #[.func (.yield (c.w.heap.size+1)) #[] #[]])).run E.P ((c.w.alloc (.deferred (some []))).alloc (.loop i.rcd)) = .ok (.enter gf (v1++[Value.func (.yield (c.w.heap.size+1)) #[] #[]]++v2).toArray) ((c.w.alloc (.deferred (some []))).alloc (.loop i.rcd)):=by
  simp only [invoke];rw [run_enter_of hf hb hn]
  congr 2
  apply Array.ext';simp
 have hs:=stepR_rangeFunc (P:=E.P) (b:=bf ⟨fid,none,R.fx.dfs⟩) (a:=⟨t,marks R.fx.dfs⟩) (k:=k.map AItem.conc) (cs:=concs R.fx.cls ts++cs) hent hres hinv;rw [enter_conc hf hb _ (enterS (a1++[.fn (.yield (c.w.heap.size+1)) [] []]++a2) fn.ntmps)] at hs;exact hs
theorem AWL.yield (n:Nat) {i:LoopG} {fx:Operand} {args:Array Operand} {ts:Array TypeId} {av:List AV} (hl:R.fx.loops[n]? = some (.loop i)) (hg:o.guard=none) (hop:o.op = .call { callee := .value fx,args:=args,argTypes:=ts }) (hf:EvOK E.G s fx (.fn (.yield i.l) [] [])) (ha:EvsOK E.G s args.toList av) (hlen:av.length=i.ps.size)
  (H:AWL E i.fn ⟨R.n,R.Q,R.rows,⟨R.fx.f0,some i.l,[],⟨⟨fid,R.fx.rnd,R.fx.dfs⟩,.reg ops (o::l)::k,s⟩::R.fx.cls,R.fx.loops,R.fx.inl⟩⟩ [] [.code i.assign,.begR,.code i.body] (setPs i.ps.toList av i.slots) h):AWL E fid R lits (.reg ops (o::l)::k) s h:=by
 refine .of ?_;unfold AW;intro c0 c t tt h0 h1 h2 h3 hr hrow h4 h5 cs;subst h2;obtain ⟨j,hj,hcn,hok⟩:=reg_at (h1 _ (List.mem_cons_self ..));have hi:LoopOK c0.w.heap.size c i:=hrow.all.each _ (List.mem_append_right _ (List.mem_of_getElem? hl));obtain ⟨v1,v2,e1,e2,e3⟩:=vr_fn (hf c ⟨t,marks R.fx.dfs⟩ h3 h4);obtain rfl:v1=[]:=List.eq_nil_of_length_eq_zero (by simpa using e2.1.symm);obtain rfl:v2=[]:=List.eq_nil_of_length_eq_zero (by simpa using e3.1.symm);have e4:=ha c ⟨t,marks R.fx.dfs⟩ h3 h4;have H:=H.to;unfold AW at H;have hsize:(#[]++args.map (⟨t,marks R.fx.dfs⟩:Act).eval).size=i.rcd.params.size:=by
  have:=e4.1;simp at this ⊢;rw [← this,hlen];rfl
 have hvs:=vs_setPs (ps:=i.ps.toList) hi.slots e4;obtain ⟨c2,fr,r,v,q1,q2,q3,q4,q5,q6⟩:=H c0 c _ (t::tt) h0 (fun x hx=>by simp at hx; rcases hx with rfl | rfl | rfl <;> trivial) rfl h3 hr hrow hvs ⟨h4,h1,h5⟩ cs;refine ⟨c2,fr,r,v,q1,q2,q3,q4,.head ?_ q5,q6⟩;have hrun:(execOp (⟨t,marks R.fx.dfs⟩:Act).eval o).run E.P c.w = .ok (.round i.l i.fn ((i.ps.toList.zip (args.toList.map (⟨t,marks R.fx.dfs⟩:Act).eval)).foldl (fun t (p,v)=>t.setIfInBounds p v) i.tm) i.assign i.body) c.w:=by
  have hy:=run_yield (P:=E.P) hi.mem hsize;simp only [execOp,hop,resolve,e1,Deferred.ofValue,invoke,Sem.run_bind,Sem.run_pure,Result.andThen_ok,hy]
  congr 2
  rw [← Array.foldl_toList,Array.toList_zip];simp [LoopG.rcd]
 have hs:=step_round (P:=E.P) (b:=bf ⟨fid,R.fx.rnd,R.fx.dfs⟩) (a:=⟨t,marks R.fx.dfs⟩) (k:=k.map AItem.conc) (cs:=concs R.fx.cls tt++cs) (rest:=(List.range ops.size).drop (ops.size - l.length)) hj (wanted_none hg c t h4) hrun;simp only [AFrame.conc,List.map_cons,concs,hcn,List.cons_append];exact hs
def endB:List AItem→Bool
 | []=>true
 | .code .ret::_=>true
 |_=>false
end
end Go.Eng
end
section
namespace Go.Eng
open Go Go.RowKit
section
variable {E:Env} {s:List AV} {h:List Box}
end
section
variable {E:Env} {fid:FuncId} {R:Post} {td:List AItem} {s:List AV} {h:List Box} {lits:List Nat} {ops:Array Oper} {o:Oper} {l:List Oper} {k:List AItem}
theorem AWL.adoptRaw (d:Nat) (ts:Nat × Nat) (hts:0<ts.2) (hd:s[d]? = some (.d (.raw (.slice none 0 0)))) (H:AWL E fid R lits td (s.set d (.own h.length 0)) (h++[.arr 0 ts []])):AWL E fid R lits td s h:=by
 replace H:=H.to;refine .of (.of_leads (fun c t ts' h1 h2 h3 h4 h5=>?_) H);subst h2
 let c':Cx:={ c with heap:=c.heap++[.arr 0 ts []] }
 have hno:c.own c.heap.length=none:=by
  cases ho:c.own c.heap.length with
  |none=>rfl
  |some p=>have:=(h3.ownlt _ p.1 p.2 ho).2; omega
 have hst:Step c c':=⟨rfl,h3.barlt,rfl,rfl,rfl,Nat.le_refl _,fun _ _ _=>rfl,fun i b n hi _=>⟨n,hi⟩,fun i bx hi=>boxStep_same hi (List.getElem?_append_left (lt_of_getElem? hi)) rfl⟩;have hnew:c'.heap[c.heap.length]? = some (.arr 0 ts []):=by show (c.heap++_)[_]? = _; simp
 have hok:HOk E.G c':=h3.next hst (fun i b n hi=>⟨(h3.ownlt i b n hi).1,by have:=(h3.ownlt i b n hi).2; show i<(c.heap++_).length; simp; omega⟩) h3.inj (fun i bx hi=>by
  by_cases hil:i=c.heap.length
  ·subst hil;rw [hnew] at hi;cases hi;exact .inr ⟨hts,fun i e he=>by simp at he,.inl ⟨hno,rfl⟩⟩
  ·have hlt : i < c.heap.length := by have := lt_of_getElem? hi; have h2 : c'.heap.length = c.heap.length + 1 := by show (c.heap ++ _).length = _; simp
                                      omega
   have hi':(c.heap++[.arr 0 ts []])[i]? = some bx:=hi;rw [List.getElem?_append_left hlt] at hi'
   exact .inl ⟨hi',rfl,fun _ _ _=>rfl⟩)
 refine ⟨c',t,ts',h1,rfl,hok,?_,hst.cr h5,hst,fun _ => .refl _ _⟩;have hdt:d<t.size:=by rw [← h4.1]; exact lt_of_getElem? hd
 have hv:t[d] = .slice none 0 0:=by
  have:=h4.2 d _ t[d] hd (by simp [hdt]);generalize t[d]=u at this;cases this with
  |d _ _ hv=>cases hv; rfl
 have:=VS.put (hst.vs h4) d (x := .own c.heap.length 0) (v:=t[d]) (by rw [hv]; exact .ownnil _ _ ts hnew hno)
 simpa [Array.setIfInBounds,hdt] using this
theorem AWL.loopR {b:Code} {κ:Type} (mods:List Nat) (vars:κ→List (Nat × AV)) (boxes:κ→List (Nat × Box)) (rows:κ→List Ghost) (Φ:κ→Prop) (μ:κ→Nat) (x0:κ) (h0:Φ x0) (hR:R.rows=rows x0)
  (hsub:stK mods (keysOf (boxes x0)) (vars x0) (boxes x0) s h fun s' h'=>selfXK h h' R.fx (subAllK R.n h s h' s'))
  (hround:∀ x,Φ x→(∀ y,Φ y→μ y<μ x→AWL E fid ⟨R.n,R.Q,rows y,R.fx⟩ [] (.inLoop b::k) (varS (vars y) (anyS mods (dropS (keysOf (boxes x0)) s))) (varH (boxes y) h))→AWL E fid ⟨R.n,R.Q,rows x,R.fx⟩ [] (.code b :: .inLoop b::k) (varS (vars x) (anyS mods (dropS (keysOf (boxes x0)) s))) (varH (boxes x) h)) :
  AWL E fid R lits (.code (.loop b)::k) s h:=by
 have e:R=⟨R.n,R.Q,rows x0,R.fx⟩:=by cases R; simp only at hR; subst hR; rfl
 have main:∀ n x,μ x<n→Φ x→AWL E fid ⟨R.n,R.Q,rows x,R.fx⟩ [] (.inLoop b::k) (varS (vars x) (anyS mods (dropS (keysOf (boxes x0)) s))) (varH (boxes x) h):=by
  intro n
  induction n with
  |zero=>intro x hx; omega
  |succ n ih=>intro x hx hP; exact .of (.inLoop (hround x hP fun y hy hm=>ih y (by omega) hy).to)
 rw [stK_eq] at hsub;rw [e];exact .of (.loop (.weaken hsub (hround x0 h0 fun y hy _=>main (μ y+1) y (by omega) hy).to))
end
end Go.Eng
end
section
namespace Go.Eng
open Go Go.RowKit
section
variable {E:Env} {fid:FuncId} {R:Post} {s:List AV} {h:List Box} {ops:Array Oper} {o:Oper} {l:List Oper} {k:List AItem}
theorem AWL.minK {lits:List Nat} {x y:Operand} {ts:Array TypeId} {a b:Int} (hg:o.guard=none) (hop:o.op = .call { callee := .builtin .min,args := #[x,y],argTypes:=ts }) (hx:EvOK E.G s x (.d (.int .i64 a))) (hy:EvOK E.G s y (.d (.int .i64 b)))
  (H:AWL E fid R lits (.reg ops l::k) (putS s o.dst (.d (.int .i64 (min a b)))) h):AWL E fid R lits (.reg ops (o::l)::k) s h:=by
 refine .of (.op (wanted_none hg) ?_ H.to);rw [hop];refine .quiet fun o c ac e1 e2 h3 h4=>⟨.int .i64 (min a b),?_,.d _ _ (.int _ _)⟩;have q1:=vr_int (hx c ac h3 h4);have q2:=vr_int (hy c ac h3 h4);have q3:(if b<a then b else a)=min a b:=by
  rcases Int.lt_or_le b a with q | q
  ·rw [if_pos q,Int.min_eq_right (Int.le_of_lt q)]
  ·rw [if_neg (Int.not_lt.2 q),Int.min_eq_left q]
 simp only [execOp,e1,resolve,invoke,builtin,Builtin.min_,Builtin.min2,List.map_toArray,List.map_cons,List.map_nil,q1,q2,List.foldlM_cons,List.foldlM_nil,Sem.run_bind,Sem.run_pure,Result.andThen_ok,pure_bind,bind_pure,q3]
end
end Go.Eng
end
section
namespace Go.Eng
open Go Go.RowKit
section
variable {E:Env} {fid:FuncId} {R:Post} {s:List AV} {h:List Box} {lits:List Nat} {ops:Array Oper} {o:Oper} {l:List Oper} {k:List AItem}
end
section
variable {E:Env} {fid:FuncId} {R:Post} {s:List AV} {h:List Box} {td:List AItem}
end
mutual
def nrm:DV→DV
 | .nilsl => .sl []
 | .sl l => .sl (nrms l)
 | .agg c => .agg (nrms c)
 | .tup c => .tup (nrms c)
 |x=>x
def nrms:List DV→List DV
 | []=>[]
 |x::l=>nrm x::nrms l
end
theorem nrms_map:∀ (l:List DV),nrms l=l.map nrm
 | []=>rfl
 |x::l=>by rw [nrms,nrms_map l]; rfl
theorem nrm_cells (x:DV):(nrm x).cells=x.cells.map nrm:=by
 cases x <;> simp [nrm,DV.cells,nrms_map]
theorem nrm_vd {bad:Nat→Prop} {w:World} {x:DV} {v:Value} (h:VD bad w x v):VD bad w (nrm x) v:=by
 induction h with
 |nilsl=>exact .slnil
 |agg c vs hlen hval ih =>
  rw [nrm,nrms_map];refine .agg _ _ (by simpa using hlen) fun j y v hy hv=>?_;rw [List.getElem?_map] at hy;cases hc:c[j]? with
  |none=>rw [hc] at hy; cases hy
  |some z=>rw [hc] at hy; cases hy; exact ih j z v hc hv
 |tup c vs hlen hval ih =>
  rw [nrm,nrms_map];refine .tup _ _ (by simpa using hlen) fun j y v hy hv=>?_;rw [List.getElem?_map] at hy;cases hc:c[j]? with
  |none=>rw [hc] at hy; cases hy
  |some z=>rw [hc] at hy; cases hy; exact ih j z v hc hv
 |undef=>exact .undef
 |bool b=>exact .bool b
 |int k n=>exact .int k n
 |str l=>exact .str l
 |slnil=>exact .slnil
 |slz a=>exact .slz a
 |sl l blk off cap sz f hb hsz hcap hlen hcell hval hone ih =>
  rw [nrm,nrms_map];have hl:(l.map nrm).length=l.length:=by simp
  have key:∀ (i j:Nat) (e x:DV),(l.map nrm)[i]? = some e→e.cells[j]? = some x→∃ e0 x0,l[i]? = some e0∧e0.cells[j]? = some x0∧x=nrm x0:=fun i j e x he hx=>by
   rw [List.getElem?_map] at he;cases hc:l[i]? with
   |none=>rw [hc] at he; cases he
   |some e0 =>
    rw [hc] at he;cases he;rw [nrm_cells,List.getElem?_map] at hx;cases hd:e0.cells[j]? with
    |none=>rw [hd] at hx; cases hx
    |some x0=>rw [hd] at hx; cases hx; exact ⟨e0,x0,rfl,hd,rfl⟩
  have:=VD.sl (bad:=bad) (w:=w) (l.map nrm) blk off cap sz f (fun hne=>hb (fun h0=>hne (by rw [h0]; rfl))) hsz (by rw [hl]; exact hcap)
   (fun i e he=>by
    rw [List.getElem?_map] at he;cases hc:l[i]? with
    |none=>rw [hc] at he; cases he
    |some e0=>rw [hc] at he; cases he; rw [nrm_cells,List.length_map]; exact hlen i e0 hc)
   (fun i j e x he hx=>by obtain ⟨e0,x0,h1,h2,_⟩:=key i j e x he hx; exact hcell i j e0 x0 h1 h2)
   (fun i j e x he hx=>by obtain ⟨e0,x0,h1,h2,h3⟩:=key i j e x he hx; rw [h3]; exact ih i j e0 x0 h1 h2)
   (fun i j e x he hx=>by obtain ⟨e0,x0,h1,h2,_⟩:=key i j e x he hx; exact hone i j e0 x0 h1 h2)
  rw [hl] at this;exact this
 |nilptr=>exact .nilptr
 |nilfn=>exact .nilfn
 |nilmap=>exact .nilmap
 |nilif=>exact .nilif
 |fn f=>exact .fn f
 |raw v h=>exact .raw v h
theorem PCalls.nrm {E:Env} {f:FuncId} {args:List DV} {y:DV} (H:PCalls E f args (fun r=>Eng.nrm r=y)):PCalls E f args (· = y):=by
 unfold PCalls at H ⊢;exact ⟨H.1,fun bar w vs h1 h2 h3=>(H.2 bar w vs h1 h2 h3).mono fun e w' ⟨v,r,k1,k2,k3,k4⟩=>⟨v,y,k1,rfl,k2 ▸ nrm_vd k3,k4⟩⟩
end Go.Eng
end
