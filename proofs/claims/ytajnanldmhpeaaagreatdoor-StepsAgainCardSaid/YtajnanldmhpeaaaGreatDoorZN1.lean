/- Several texts of mine, one behind the other. Conditions: as each says. -/
import Derived.Test.YtajnanldmhpeaaaGreatDoorZM9
import Derived.Lib.BufferMore
import Derived.Lib.LazyBuf
import Derived.Laws.CopyRow
set_option linter.unusedVariables false
set_option linter.unusedSimpArgs false
section
namespace Go.Eng
open Go Go.RowKit
section
variable {E:Env} {fid:FuncId} {R:Post} {s:List AV} {h:List Box} {lits:List Nat} {ops:Array Oper} {o:Oper} {l:List Oper} {k:List AItem}
theorem eqGuard_slice (op:BinOp) (t:TypeId) (x y:Operand) (p q:Option Addr) (a b c d:Nat):eqGuard op t x y (.slice p a b) (.slice q c d)=pure ():=by
 unfold eqGuard; cases op <;> rfl
theorem AWL.nilTest (hE:E.OK) {t e:Nat} {x:Operand} {yt:Nat} {m:List DV} {ti:TInfo} (hg:o.guard=none) (hop:o.op = .binOp .eql t x (.const (.slice none 0 0)) yt) (hti:E.T[t]? = some ti) (hk:ti.k = .slice e) (hx:EvOK E.G s x (.d (.sl m)))
  (H:∀ b,(b=true→m=[])→AWL E fid R lits (.reg ops l::k) (putS s o.dst (.d (.bool b))) h):AWL E fid R lits (.reg ops (o::l)::k) s h:=by
 refine .of ?_;unfold AW;intro c0 c t' ts' h0 h1 h2 h3 hr hrow h4 h5 cs;subst h2;obtain ⟨i,hi,hcn,hok⟩:=reg_at (h1 _ (List.mem_cons_self ..));obtain ⟨tyi,d,g1,g2,g3,-⟩:=tinfo_inv (hE.types t ti hti);obtain rfl:=tk_slice (hk.symm.trans g3);have hv:=hx c ⟨t',marks R.fx.dfs⟩ h3 h4;have fin:∀ (p:Option Addr) (n cp:Nat) (b:Bool),(⟨t',marks R.fx.dfs⟩:Act).eval x = .slice p n cp→(binOp .eql t (.slice p n cp) (.slice none 0 0)).run E.P c.w = .ok (.bool b) c.w→(execOp (⟨t',marks R.fx.dfs⟩:Act).eval o).run E.P c.w = .ok (.value (.bool b)) c.w:=fun p n cp b e1 e2=>by
  have hnil:(⟨t',marks R.fx.dfs⟩:Act).eval (.const (.slice none 0 0)) = .slice none 0 0:=rfl;simp only [execOp,hop,e1,hnil,eqGuard_slice,Sem.run_bind,Sem.run_pure,Result.andThen_ok,e2]
 have key:∃ b,(b=true→m=[])∧(execOp (⟨t',marks R.fx.dfs⟩:Act).eval o).run E.P c.w = .ok (.value (.bool b)) c.w:=by
  generalize hu:(⟨t',marks R.fx.dfs⟩:Act).eval x=u at hv;cases hv with
  |d _ _ hv=>cases hv with
   |slnil=>exact ⟨true,fun _=>rfl,fin _ _ _ _ hu (Lib.run_eql_slice_nil_nil c.w 0 0 g2)⟩
   |slz a=>exact ⟨false,fun _=>rfl,fin _ _ _ _ hu (Lib.run_eql_slice_some_nil c.w a 0 0 g2)⟩
   |sl _ blk off cap sz f=>exact ⟨false,fun q=>(by cases q),fin _ _ _ _ hu (Lib.run_eql_slice_some_nil c.w _ _ _ g2)⟩
 obtain ⟨b,hb,hrun⟩:=key;have H:=(H b hb).to;unfold AW at H;have hvs:VS c (putS s o.dst (.d (.bool b))) ((⟨t',marks R.fx.dfs⟩:Act).put o.dst (.bool b)).tmps:=VS.putS (a:=⟨t',marks R.fx.dfs⟩) h4 o.dst (.d _ _ (.bool b));obtain ⟨c2,fr,rr,u,e1,e2,e3,e4,e5,e6⟩:=H c0 c _ ts' h0 (ok_cons hok (ok_tail h1)) rfl h3 hr hrow hvs h5 cs;refine ⟨c2,fr,rr,u,e1,e2,e3,e4,.head ?_ e5,e6⟩;simp only [AFrame.conc,List.map_cons,hcn];rw [step_op hi (wanted_none hg c t' h4) (.inl hrun),put_defers];rfl
end
end Go.Eng
end
section
namespace Go.Eng
open Go Go.RowKit
section
variable {G:List (Nat × DV)} {c:Cx}
end
section
variable {E:Env} {fid:FuncId} {R:Post} {s:List AV} {h:List Box} {lits:List Nat} {ops:Array Oper} {o:Oper} {l:List Oper} {k:List AItem}
end
end Go.Eng
end
section
namespace Go.Eng
open Go Go.RowKit
theorem RowsOK.mid {lim:Nat} {c:Cx} {g1 g2:List Ghost} {g:Ghost} (h:RowsOK lim c (g1++g2)) (hg:GhostOK lim c g) (hn:g.blks.Nodup) (hd:∀ x∈g.blks,x ∉ (g1++g2).flatMap Ghost.blks):RowsOK lim c (g1++g::g2):=by
 refine ⟨fun r hr=>?_,?_⟩
 ·rcases List.mem_append.1 hr with hr | hr
  ·exact h.each r (List.mem_append_left _ hr)
  ·rcases List.mem_cons.1 hr with rfl | hr
   ·exact hg
   ·exact h.each r (List.mem_append_right _ hr)
 ·have hp:((g1++g::g2).flatMap Ghost.blks).Perm (g.blks++(g1++g2).flatMap Ghost.blks):=by
   have:=(List.perm_middle (a:=g) (l₁ := g1) (l₂ := g2)).flatMap_right Ghost.blks
   simpa using this
  rw [hp.nodup_iff,List.nodup_append];exact ⟨hn,h.nodup,fun x hx y hy e=>by subst e; exact hd x hx hy⟩
section
variable {lim:Nat} {c:Cx} {rows L:List Ghost}
theorem RowsX.push {g:Ghost} (h:RowsX lim c rows L) (hg:GhostOK lim c g) (hn:g.blks.Nodup) (hd:∀ x∈g.blks,x ∉ (rows++L).flatMap Ghost.blks):RowsX lim c rows (g::L):=⟨h.all.mid hg hn hd,h.flat⟩
theorem RowsX.pop {g:Ghost} (h:RowsX lim c rows (g::L)):RowsX lim c rows L∧GhostOK lim c g∧∀ x∈g.blks,x ∉ (rows++L).flatMap Ghost.blks:=by
 obtain ⟨h1,h2,h3⟩:=h.all.without;exact ⟨⟨h1,h.flat⟩,h2,h3⟩
theorem RowsX.old {G:List (Nat × DV)} (h:RowsX lim c rows L) (ho:HOk G c) {b:Nat} (hb:b∈(rows++L).flatMap Ghost.blks):b<c.w.heap.size:=by
 obtain ⟨g,hg,hx⟩:=List.mem_flatMap.1 hb;exact ho.barlt _ ((h.all.each g hg).bar _ hx)
theorem Touch.putObj {l:Nat} {o:Obj} (hb:c.bar l):Touch c l (c.w.putObj l o):=⟨hb,rfl,rfl,rfl,World.putObj_size,fun _ h=>World.putObj_heap_other h⟩
theorem RowsX.turn {n r:Nat} {g g':Ghost} {w':World} (h:RowsX lim c rows L) (hl:L[n]? = some g) (hb:g.blks=[r]) (hb':g'.blks=[r]) (ht:Touch c r w') (hg:GhostOK lim (c.inW w') g'):RowsX lim (c.inW w') rows (L.set n g'):=by
 have hlt:=lt_of_getElem? hl;have e1:L=L.take n++g::L.drop (n+1):=by
  have hg':L[n]=g:=(List.getElem?_eq_some_iff.1 hl).2;rw [← hg',List.getElem_cons_drop,List.take_append_drop]
 have e2:L.set n g'=L.take n++g'::L.drop (n+1):=by
  rw [List.set_eq_take_append_cons_drop,if_pos hlt]
 have h1:=h.all;rw [e1,← List.append_assoc] at h1;obtain ⟨k1,k2,k3⟩:=h1.without;rw [e2];refine ⟨?_,h.flat⟩;rw [← List.append_assoc];refine (ht.rows k1 (k3 r (by rw [hb]; simp))).mid hg (by rw [hb']; simp) (fun x hx=>?_);rw [hb'] at hx;exact k3 x (by rw [hb]; exact hx)
end
def setPs:List Nat→List AV→List AV→List AV
 |p::ps,a::l,s=>setPs ps l (s.set p a)
 |_,_,s=>s
theorem vs_setPs {c:Cx}:∀ {ps:List Nat} {l:List AV} {vs:List Value} {s:List AV} {t:Array Value},VS c s t→VL c l vs→VS c (setPs ps l s) ((ps.zip vs).foldl (fun t (p,v)=>t.setIfInBounds p v) t)
 | [],_,_,_,_,h,_=>by simpa [setPs] using h
 |_::_,[],[],_,_,h,_=>by simpa [setPs] using h
 |_::_,_::_,[],_,_,_,hl=>by have:=hl.1; simp at this
 |_::_,[],_::_,_,_,_,hl=>by have:=hl.1; simp at this
 |p::ps,a::l,v::vs,s,t,h,hl=>by
  simp only [setPs,List.zip_cons_cons,List.foldl_cons];exact vs_setPs (h.put p hl.head.1) hl.head.2
theorem run_enter_of {P : Program} {f : FuncId} {fn : Func} {b : Code} (hf : P.funcs[f]? = some fn) (hb : fn.body = some b) (hn : (fn.name == "runtime.NumGoroutine") = false) (args : Array Value) (w : World) : (callFunc f args).run P w = .ok (.enter f args) w := by
 simp only [callFunc,Sem.run_bind,Sem.run_pure,Result.andThen_ok,program,Sem.run,hf,hn,hb,Option.isNone_some,Bool.false_eq_true,if_false]
theorem enter_conc {P:Program} {f:FuncId} {fn:Func} {b:Code} (hf:P.funcs[f]? = some fn) (hb:fn.body=some b) (vs:List Value) (s:List AV):Frame.enter P f vs.toArray .normal=(⟨⟨f,none,[]⟩,[.code b],s⟩:AFrame).conc (vs.toArray++Array.replicate (fn.ntmps - vs.toArray.size) undef):=by
 simp [Frame.enter,AFrame.conc,Frame.atR,hf,hb,bf,AItem.conc,marks]
theorem step_round {P:Program} {b:Frame} {a:Act} {k:List Item} {cs:List Frame} {w:World} {ops:Array Oper} {i:Nat} {rest:List Nat} {o:Oper} {l:Nat} {f:FuncId} {tmps:Array Value} {assign body:Code} (ho:ops[i]? = some o) (hw:Region.wanted o (yielded ops a.tmps)=true)
  (hr:(execOp a.eval o).run P w = .ok (.round l f tmps assign body) w) :
  step P (lone (b.atR a (.inRegion ops (i::rest)::k)) cs w) = .next (lone (Frame.round l f tmps assign body .normal) (b.atR a (.inRegion ops (i::rest)::k)::cs) w):=by
 have hg:=stepGR_op (P:=P) (b:=b) (k:=k) (cs:=cs) (w:=w) (rest:=rest) ho hw;have hr':=semAt_run (ro:=b.roundOf) hr (by simp);exact step_lone_go (by rw [hg]; simp [stepG.apply,hr'])
theorem leave_marks {P:Program} {G:List (Nat × DV)} {c0:Cx} {rows L:List Ghost} {cs:List Frame}:∀ (D:List Nat) (c:Cx) (fr:Frame),HOk G c→RelX c0 c→RowsX c0.w.heap.size c rows (D.map .mark++L)→fr.mode = .returning→fr.defers=marks D →
  ∃ c':Cx,c'.heap=c.heap∧HOk G c'∧RelX c0 c'∧RowsX c0.w.heap.size c' rows L∧(∀ x v,VR c x v→VR c' x v)∧Steps P (lone fr cs c.w) (lone { fr with defers:=[] } cs c'.w)
 | [],c,fr,h1,h2,h3,_,h5=>by
  refine ⟨c,rfl,h1,h2,h3,fun _ _ h=>h,?_⟩;have:{ fr with defers:=[] }=fr:=by cases fr; simp only at h5; subst h5; rfl
  rw [this];exact .refl _ _
 |d::D,c,fr,h1,h2,h3,h4,h5=>by
  obtain ⟨k1,k2,k3⟩:=h3.pop;have k2:MarkOK c0.w.heap.size c d:=k2;have ht:Touch c d (c.w.putObj d (.deferred none)) := .putObj k2.bar;have hro:=ht.rows k1.all (k3 d (by simp [Ghost.blks]));obtain ⟨c',q1,q2,q3,q4,q5,q6⟩:=leave_marks D (c.inW (c.w.putObj d (.deferred none))) { fr with defers:=marks D } (ht.hok h1) (ht.rel h2 k2.new) ⟨hro,k1.flat⟩ h4 rfl;refine ⟨c',q1,q2,q3,q4,fun x v hv=>q5 x v (ht.vr hv),.head ?_ q6⟩;exact step_collected (calls:=[]) (by rw [h4]; simp) h5 rfl (run_takeDeferred k2.mem)
theorem retK_sound {E:Env} (hE:E.OK) {fn:Func} {s:List AV} {h:List Box} {K:AV→List Box→Prop} (H:retK E.T s h fn.results.toList False K) :
  ∃ r,K r h∧∀ (c:Cx) (t:Array Value),c.heap=h→HOk E.G c→VS c s t→∃ v,VR c r v∧(results fn t).run E.P c.w = .ok v c.w:=by
 unfold retK at H;rcases resK_sound hE H with h' | ⟨l,H,hl⟩
 ·cases h'
 split at H
 ·rename_i x;refine ⟨x,H,fun c t e1 e2 e3=>?_⟩;obtain ⟨vs,g1,g2⟩:=hl c t e1 e2 e3;cases vs with
  |nil=>have:=g1.1; simp at this
  |cons v vs=>cases vs with
   |cons u vs=>have:=g1.1; simp at this
   |nil=>exact ⟨v,g1.head.1,run_results g2⟩
 ·rename_i hne;refine ⟨_,H,fun c t e1 e2 e3=>?_⟩;obtain ⟨vs,g1,g2⟩:=hl c t e1 e2 e3;refine ⟨.tuple vs.toArray,.tup _ _ (by simpa using g1.1) fun j x v hx hu=>g1.2 j x v hx (by simpa using hu),?_⟩;have:=run_results g2;cases vs with
  |nil=>exact this
  |cons v vs=>cases vs with
   |nil =>
    have:=g1.1;cases l with
    |nil=>simp at this
    |cons x l=>cases l with
     |nil=>exact absurd rfl (hne x)
     |cons y l=>simp at this
   |cons u vs=>exact this
section
variable {E:Env} {fid:FuncId} {R:Post} {s:List AV} {h:List Box} {lits:List Nat} {ops:Array Oper} {o:Oper} {l:List Oper} {k:List AItem}
theorem AWL.rangeFunc {g : Operand} {ps : Array Tmp} {assign body gbody : Code} {gf : FuncId} {a1 a2 : List AV} {fn : Func} (hg : EvOK E.G s g (.fn (.func gf) a1 a2)) (hf : E.P.funcs[gf]? = some fn) (hb : fn.body = some gbody) (hn : (fn.name == "runtime.NumGoroutine") = false) (hrn : R.fx.rnd = none)
  (H:∀ (ll d:Nat) (t:Array Value),AWL E gf ⟨R.n,R.Q,R.rows,⟨R.fx.f0,none,[],⟨⟨fid,none,d::R.fx.dfs⟩,.inRF ll::k,s⟩::R.fx.cls,.loop ⟨ll,d,.ready,none,fid,t,ps,assign,body,s⟩ :: .mark d::R.fx.loops,R.fx.inl⟩⟩ [] [.code gbody] (enterS (a1++[.fn (.yield ll) [] []]++a2) fn.ntmps) h) :
  AWL E fid R lits (.code (.rangeFunc g ps assign body)::k) s h:=by
 have e:(⟨fid,R.fx.rnd,R.fx.dfs⟩:FId)=⟨fid,none,R.fx.dfs⟩:=by rw [hrn]
 refine .of ?_;rw [e];unfold AW;intro c0 c t ts h0 h1 h2 h3 hr hrow h4 h5 cs;subst h2;obtain ⟨v1,v2,e1,e2,e3⟩:=vr_fn (hg c ⟨t,marks R.fx.dfs⟩ h3 h4);obtain ⟨i,hi⟩:∃ i:LoopG,i=⟨c.w.heap.size+1,c.w.heap.size,.ready,none,fid,t,ps,assign,body,s⟩:=⟨_,rfl⟩;have hsz:(c.veil (.deferred (some []))).w.heap.size=c.w.heap.size+1:=by simp [Cx.veil]
 have hk1:HOk E.G (c.veil (.deferred (some []))):=h3.veil;have hk2:HOk E.G ((c.veil (.deferred (some []))).veil (.loop i.rcd)):=hk1.veil;have hr2:RelX c0 ((c.veil (.deferred (some []))).veil (.loop i.rcd)):=hr.veil.veil;have hvr:∀ x v,VR c x v→VR ((c.veil (.deferred (some []))).veil (.loop i.rcd)) x v:=fun x v hv=>veil_vr (veil_vr hv);have hil:i.l=c.w.heap.size+1:=by rw [hi]
 have hrow2:RowsX c0.w.heap.size ((c.veil (.deferred (some []))).veil (.loop i.rcd)) R.rows (.loop i :: .mark c.w.heap.size::R.fx.loops):=by
  have b0:RowsX c0.w.heap.size ((c.veil (.deferred (some []))).veil (.loop i.rcd)) R.rows R.fx.loops:=⟨(hrow.all.veil h3).veil hk1,hrow.flat⟩;have b1:RowsX c0.w.heap.size ((c.veil (.deferred (some []))).veil (.loop i.rcd)) R.rows (.mark c.w.heap.size::R.fx.loops):=by
   refine b0.push (g := .mark c.w.heap.size) (show MarkOK _ _ _ from ⟨.inl (.inr rfl),hr.size,?_⟩) (by simp [Ghost.blks]) (fun x hx hm=>?_)
   ·show ((c.w.alloc (.deferred (some []))).alloc (.loop i.rcd)).heap[c.w.heap.size]? = _;rw [Below.heap_alloc _ _ _ (by simp)];exact heap_alloc_new _ _
   ·simp [Ghost.blks] at hx;subst hx;have:=hrow.old h3 hm;omega
  refine b1.push (g := .loop i) (show LoopOK _ _ _ from ⟨.inr (by rw [hil,hsz]),by rw [hil]; have:=hr.size; omega,?_,?_⟩) (by simp [Ghost.blks]) (fun x hx hm=>?_)
  ·show ((c.w.alloc (.deferred (some []))).alloc (.loop i.rcd)).heap[i.l]? = _;rw [hil,show c.w.heap.size+1=(c.w.alloc (.deferred (some []))).heap.size by simp];exact heap_alloc_new _ _
  ·have es:i.slots=s:=by rw [hi]
   have et:i.tm=t:=by rw [hi]
   rw [es,et];exact ⟨h4.1,fun j x v hx hv=>hvr x v (h4.2 j x v hx hv)⟩
  ·simp [Ghost.blks] at hx;subst hx;rw [List.flatMap_append,List.mem_append,List.flatMap_cons,List.mem_append] at hm;rcases hm with hm | hm | hm
   ·have:=hrow.old h3 (b:=i.l) (by rw [List.flatMap_append]; exact List.mem_append_left _ hm);omega
   ·simp [Ghost.blks] at hm;omega
   ·have:=hrow.old h3 (b:=i.l) (by rw [List.flatMap_append]; exact List.mem_append_right _ hm);omega
 have H:=(H (c.w.heap.size+1) c.w.heap.size t).to;rw [← hi] at H;unfold AW at H;have hargs:VL ((c.veil (.deferred (some []))).veil (.loop i.rcd)) (a1++[.fn (.yield (c.w.heap.size+1)) [] []]++a2) (v1++[.func (.yield (c.w.heap.size+1)) #[] #[]]++v2):=by
  have lift:∀ {x:List AV} {u:List Value},VL c x u→VL ((c.veil (.deferred (some []))).veil (.loop i.rcd)) x u:=fun hx=>⟨hx.1,fun j x v h1 h2=>hvr x v (hx.2 j x v h1 h2)⟩;exact ((lift e2).append (.cons (.fn _ _ _ _ _ rfl rfl (fun j x v hx=>by simp at hx) (fun j x v hx=>by simp at hx)) .nil)).append (lift e3)
 obtain ⟨c2,fr,r,v,q1,q2,q3,q4,q5,q6⟩:=H c0 ((c.veil (.deferred (some []))).veil (.loop i.rcd)) _ (t::ts) h0 (fun x hx=>by simp at hx; subst hx; trivial) rfl hk2 hr2 hrow2 (vs_enter fn.ntmps hargs) ⟨⟨h4.1,fun j x v hx hv=>hvr x v (h4.2 j x v hx hv)⟩,ok_cons trivial (ok_tail h1),cr_gen hvr h5⟩ cs;refine ⟨c2,fr,r,v,q1,q2,q3,q4,.head ?_ q5,q6⟩;have hent:=run_enterLoop_outer (P:=E.P) (w:=c.w) fid t ps assign body;have hrec:(Loop.mk .ready none fid t ps assign body c.w.heap.size)=i.rcd:=by rw [hi]; rfl
 rw [hrec] at hent;have hres:(resolve (⟨t,marks R.fx.dfs⟩:Act).eval (rangeCall g (c.w.heap.size+1)) 0).run E.P ((c.w.alloc (.deferred (some []))).alloc (.loop i.rcd)) = .ok { target := .fn (.func gf) v2.toArray,args:=v1.toArray ++ #[.func (.yield (c.w.heap.size+1)) #[] #[]] } ((c.w.alloc (.deferred (some []))).alloc (.loop i.rcd)):=by
  have hy:∀ l:Nat,#[Operand.const (Value.func (Fn.yield l) #[] #[])].map (⟨t,marks R.fx.dfs⟩:Act).eval = #[.func (.yield l) #[] #[]]:=fun _=>by simp [Act.eval]
  simp only [resolve,rangeCall,e1,Deferred.ofValue,Sem.run_pure,hy]
 have hinv:(invoke (Target.fn (.func gf) v2.toArray) (v1.toArray ++ #[.func (.yield (c.w.heap.size+1)) #[] #[]])).run E.P ((c.w.alloc (.deferred (some []))).alloc (.loop i.rcd)) = .ok (.enter gf (v1++[Value.func (.yield (c.w.heap.size+1)) #[] #[]]++v2).toArray) ((c.w.alloc (.deferred (some []))).alloc (.loop i.rcd)):=by
  simp only [invoke];rw [run_enter_of hf hb hn]
  congr 2
  apply Array.ext';simp
 have hs:=stepR_rangeFunc (P:=E.P) (b:=bf ⟨fid,none,R.fx.dfs⟩) (a:=⟨t,marks R.fx.dfs⟩) (k:=k.map AItem.conc) (cs:=concs R.fx.cls ts++cs) hent hres hinv;rw [enter_conc hf hb _ (enterS (a1++[.fn (.yield (c.w.heap.size+1)) [] []]++a2) fn.ntmps)] at hs;exact hs
theorem AWL.yield (n:Nat) {i:LoopG} {fx:Operand} {args:Array Operand} {ts:Array TypeId} {av:List AV} (hl:R.fx.loops[n]? = some (.loop i)) (hg:o.guard=none) (hop:o.op = .call { callee := .value fx,args:=args,argTypes:=ts }) (hf:EvOK E.G s fx (.fn (.yield i.l) [] [])) (ha:EvsOK E.G s args.toList av) (hlen:av.length=i.ps.size)
  (H:AWL E i.fn ⟨R.n,R.Q,R.rows,⟨R.fx.f0,some i.l,[],⟨⟨fid,R.fx.rnd,R.fx.dfs⟩,.reg ops (o::l)::k,s⟩::R.fx.cls,R.fx.loops,R.fx.inl⟩⟩ [] [.code i.assign,.begR,.code i.body] (setPs i.ps.toList av i.slots) h):AWL E fid R lits (.reg ops (o::l)::k) s h:=by
 refine .of ?_;unfold AW;intro c0 c t tt h0 h1 h2 h3 hr hrow h4 h5 cs;subst h2;obtain ⟨j,hj,hcn,hok⟩:=reg_at (h1 _ (List.mem_cons_self ..));have hi:LoopOK c0.w.heap.size c i:=hrow.all.each _ (List.mem_append_right _ (List.mem_of_getElem? hl));obtain ⟨v1,v2,e1,e2,e3⟩:=vr_fn (hf c ⟨t,marks R.fx.dfs⟩ h3 h4);obtain rfl:v1=[]:=List.eq_nil_of_length_eq_zero (by simpa using e2.1.symm);obtain rfl:v2=[]:=List.eq_nil_of_length_eq_zero (by simpa using e3.1.symm);have e4:=ha c ⟨t,marks R.fx.dfs⟩ h3 h4;have H:=H.to;unfold AW at H;have hsize:(#[]++args.map (⟨t,marks R.fx.dfs⟩:Act).eval).size=i.rcd.params.size:=by
  have:=e4.1;simp at this ⊢;rw [← this,hlen];rfl
 have hvs:=vs_setPs (ps:=i.ps.toList) hi.slots e4;obtain ⟨c2,fr,r,v,q1,q2,q3,q4,q5,q6⟩:=H c0 c _ (t::tt) h0 (fun x hx=>by simp at hx; rcases hx with rfl | rfl | rfl <;> trivial) rfl h3 hr hrow hvs ⟨h4,h1,h5⟩ cs;refine ⟨c2,fr,r,v,q1,q2,q3,q4,.head ?_ q5,q6⟩;have hrun:(execOp (⟨t,marks R.fx.dfs⟩:Act).eval o).run E.P c.w = .ok (.round i.l i.fn ((i.ps.toList.zip (args.toList.map (⟨t,marks R.fx.dfs⟩:Act).eval)).foldl (fun t (p,v)=>t.setIfInBounds p v) i.tm) i.assign i.body) c.w:=by
  have hy:=run_yield (P:=E.P) hi.mem hsize;simp only [execOp,hop,resolve,e1,Deferred.ofValue,invoke,Sem.run_bind,Sem.run_pure,Result.andThen_ok,hy]
  congr 2
  rw [← Array.foldl_toList,Array.toList_zip];simp [LoopG.rcd]
 have hs:=step_round (P:=E.P) (b:=bf ⟨fid,R.fx.rnd,R.fx.dfs⟩) (a:=⟨t,marks R.fx.dfs⟩) (k:=k.map AItem.conc) (cs:=concs R.fx.cls tt++cs) (rest:=(List.range ops.size).drop (ops.size - l.length)) hj (wanted_none hg c t h4) hrun;simp only [AFrame.conc,List.map_cons,concs,hcn,List.cons_append];exact hs
theorem AWL.begin (n:Nat) {i:LoopG} (hl:R.fx.loops[n]? = some (.loop i)) (hrn:R.fx.rnd=some i.l) (hst:i.st = .ready)
  (H:AWL E fid ⟨R.n,R.Q,R.rows,⟨R.fx.f0,some i.l,R.fx.dfs,R.fx.cls,R.fx.loops.set n (.loop { i with st := .busy }),R.fx.inl⟩⟩ lits k s h):AWL E fid R lits (.begR::k) s h:=by
 have e:(⟨fid,R.fx.rnd,R.fx.dfs⟩:FId)=⟨fid,some i.l,R.fx.dfs⟩:=by rw [hrn]
 refine .of ?_;rw [e];unfold AW;intro c0 c t tt h0 h1 h2 h3 hr hrow h4 h5 cs;subst h2;have hi:LoopOK c0.w.heap.size c i:=hrow.all.each _ (List.mem_append_right _ (List.mem_of_getElem? hl));have ht:Touch c i.l (c.w.putObj i.l (.loop { i with st := .busy }.rcd)) := .putObj hi.bar;have hlt:=h3.barlt _ hi.bar;have hrow2:RowsX c0.w.heap.size (c.inW (c.w.putObj i.l (.loop { i with st := .busy }.rcd))) R.rows (R.fx.loops.set n (.loop { i with st := .busy })) :=
  hrow.turn hl rfl rfl ht (show LoopOK _ _ _ from ⟨hi.bar,hi.new,World.putObj_heap_same hlt,⟨hi.slots.1,fun j x v hx hv=>ht.vr (hi.slots.2 j x v hx hv)⟩⟩)
 have H:=H.to;unfold AW at H;obtain ⟨c2,fr,r,v,q1,q2,q3,q4,q5,q6⟩:=H c0 (c.inW (c.w.putObj i.l (.loop { i with st := .busy }.rcd))) t tt h0 (ok_tail h1) rfl (ht.hok h3) (ht.rel hr hi.new) hrow2 ⟨h4.1,fun j x v hx hv=>ht.vr (h4.2 j x v hx hv)⟩ (cr_gen (fun _ _=>ht.vr) h5) cs;refine ⟨c2,fr,r,v,q1,q2,q3,q4,.head ?_ q5,q6⟩;exact stepR_beginRound (b:=bf ⟨fid,some i.l,R.fx.dfs⟩) (a:=⟨t,marks R.fx.dfs⟩) (k:=k.map AItem.conc) rfl (run_beginRound hi.mem hst)
theorem AWL.roundEnds (n:Nat) {i:LoopG} (jump:Option Code) {td:List AItem} {fd:FId} {ops1:Array Oper} {o1:Oper} {l1:List Oper} {k1:List AItem} {s1:List AV} {cls1:List AFrame}
  (hj:∀ (b:Frame) (a:Act) (cf:Frame) (cs:List Frame) (w w':World) (v:Value),b.roundOf=some i.l→b.kind = .normal→(Instr.endRound i.l jump).run E.P w = .ok v w'→step E.P (lone (b.atR a (td.map AItem.conc)) (cf::cs) w) = .next (lone (cf.finish v) cs w'))
  (hl:R.fx.loops[n]? = some (.loop i)) (hrn:R.fx.rnd=some i.l) (hc:R.fx.cls=⟨fd,.reg ops1 (o1::l1)::k1,s1⟩::cls1)
  (H:AWL E fd.f ⟨R.n,R.Q,R.rows,⟨R.fx.f0,fd.rnd,fd.dfs,cls1,R.fx.loops.set n (.loop { i with st:=if jump.isNone then .ready else .done,pe:=jump }),R.fx.inl⟩⟩ [] (.reg ops1 l1::k1) (putS s1 o1.dst (.d (.bool jump.isNone))) h):AWL E fid R lits td s h:=by
 have e:(⟨fid,R.fx.rnd,R.fx.dfs⟩:FId)=⟨fid,some i.l,R.fx.dfs⟩:=by rw [hrn]
 refine .of ?_;rw [e,hc];unfold AW;intro c0 c t tt h0 h1 h2 h3 hr hrow h4 h5 cs;subst h2;obtain ⟨t1,tt1,rfl⟩:∃ t1 tt1,tt=t1::tt1:=by
  cases tt with
  |nil=>exact h5.elim
  |cons t1 tt1=>exact ⟨_,_,rfl⟩
 obtain ⟨c4,c5,c6⟩:=h5;obtain ⟨j,hjj,hcn,hok⟩:=reg_at (c5 _ (List.mem_cons_self ..));have hi:LoopOK c0.w.heap.size c i:=hrow.all.each _ (List.mem_append_right _ (List.mem_of_getElem? hl));obtain ⟨i2,hi2⟩:∃ i2:LoopG,i2={ i with st:=if jump.isNone then .ready else .done,pe:=jump }:=⟨_,rfl⟩;rw [← hi2] at H;have hi2l:i2.l=i.l:=by rw [hi2]
 have es:i2.slots=i.slots:=by rw [hi2]
 have et:i2.tm=i.tm:=by rw [hi2]
 have ht:Touch c i.l (c.w.putObj i.l (.loop i2.rcd)) := .putObj hi.bar;have hlt:=h3.barlt _ hi.bar;have hrow2:RowsX c0.w.heap.size (c.inW (c.w.putObj i.l (.loop i2.rcd))) R.rows (R.fx.loops.set n (.loop i2)) :=
  hrow.turn hl rfl (by simp [Ghost.blks,hi2l]) ht (show LoopOK _ _ _ from ⟨by rw [hi2l]; exact hi.bar,by rw [hi2l]; exact hi.new,by rw [hi2l]; exact World.putObj_heap_same hlt,by rw [es,et]; exact ⟨hi.slots.1,fun j x v hx hv=>ht.vr (hi.slots.2 j x v hx hv)⟩⟩)
 have H:=H.to;unfold AW at H;have hput:VS (c.inW (c.w.putObj i.l (.loop i2.rcd))) (putS s1 o1.dst (.d (.bool jump.isNone))) ((⟨t1,marks fd.dfs⟩:Act).put o1.dst (.bool jump.isNone)).tmps :=
  VS.putS (a:=⟨t1,marks fd.dfs⟩) ⟨c4.1,fun j x v hx hv=>ht.vr (c4.2 j x v hx hv)⟩ o1.dst (.d _ _ (.bool _))
 obtain ⟨c2,fr,r,v,q1,q2,q3,q4,q5,q6⟩:=H c0 (c.inW (c.w.putObj i.l (.loop i2.rcd))) _ tt1 h0 (ok_cons hok (ok_tail c5)) rfl (ht.hok h3) (ht.rel hr hi.new) hrow2 hput (cr_gen (fun _ _=>ht.vr) c6) cs;refine ⟨c2,fr,r,v,q1,q2,q3,q4,.head ?_ q5,q6⟩;have hrun:(Instr.endRound i.l jump).run E.P c.w = .ok (.bool jump.isNone) (c.w.putObj i.l (.loop i2.rcd)):=by
  have:=run_endRound (P:=E.P) jump hi.mem;rw [hi2];exact this
 have hs:=hj (bf ⟨fid,some i.l,R.fx.dfs⟩) ⟨t,marks R.fx.dfs⟩ ((⟨fd,.reg ops1 (o1::l1)::k1,s1⟩:AFrame).conc t1) (concs cls1 tt1++cs) c.w _ _ rfl rfl hrun;have hfin:((⟨fd,.reg ops1 (o1::l1)::k1,s1⟩:AFrame).conc t1).finish (.bool jump.isNone)=(⟨⟨fd.f,fd.rnd,fd.dfs⟩,.reg ops1 l1::k1,putS s1 o1.dst (.d (.bool jump.isNone))⟩:AFrame).conc ((⟨t1,marks fd.dfs⟩:Act).put o1.dst (.bool jump.isNone)).tmps:=by
  simp only [AFrame.conc,List.map_cons,hcn];rw [Frame.finish_atR,hjj];simp only [Option.bind_some];rw [put_defers];rfl
 rw [hfin] at hs;exact hs
theorem AWL.roundEnd (n:Nat) {i:LoopG} {fd:FId} {ops1:Array Oper} {o1:Oper} {l1:List Oper} {k1:List AItem} {s1:List AV} {cls1:List AFrame} (hl:R.fx.loops[n]? = some (.loop i)) (hrn:R.fx.rnd=some i.l) (hc:R.fx.cls=⟨fd,.reg ops1 (o1::l1)::k1,s1⟩::cls1)
  (H:AWL E fd.f ⟨R.n,R.Q,R.rows,⟨R.fx.f0,fd.rnd,fd.dfs,cls1,R.fx.loops.set n (.loop { i with st := .ready,pe:=none }),R.fx.inl⟩⟩ [] (.reg ops1 l1::k1) (putS s1 o1.dst (.d (.bool true))) h):AWL E fid R lits [] s h :=
 .roundEnds n none (fun b a cf cs w w' v h1 h2 h3=>stepR_round_end h1 h2 h3) hl hrn hc H
theorem AWL.callIn {fx : Operand} {args : Array Operand} {ts : Array TypeId} {f : FuncId} {fn : Func} {b : Code} {a1 a2 av : List AV} (hg : o.guard = none) (hop : o.op = .call { callee := .value fx, args := args, argTypes := ts }) (hfx : EvOK E.G s fx (.fn (.func f) a1 a2)) (ha : EvsOK E.G s args.toList av) (hf : E.P.funcs[f]? = some fn) (hb : fn.body = some b) (hn : (fn.name == "runtime.NumGoroutine") = false)
  (H:AWL E f ⟨R.n,R.Q,R.rows,⟨R.fx.f0,none,[],⟨⟨fid,R.fx.rnd,R.fx.dfs⟩,.reg ops (o::l)::k,s⟩::R.fx.cls,R.fx.loops,R.fx.inl⟩⟩ [] [.code b] (enterS (a1++av++a2) fn.ntmps) h):AWL E fid R lits (.reg ops (o::l)::k) s h:=by
 refine .of ?_;unfold AW;intro c0 c t tt h0 h1 h2 h3 hr hrow h4 h5 cs;subst h2;obtain ⟨j,hj,hcn,hok⟩:=reg_at (h1 _ (List.mem_cons_self ..));obtain ⟨v1,v2,e1,e2,e3⟩:=vr_fn (hfx c ⟨t,marks R.fx.dfs⟩ h3 h4);have e4:=ha c ⟨t,marks R.fx.dfs⟩ h3 h4;have e5:=(e2.append e4).append e3;have H:=H.to;unfold AW at H;obtain ⟨c2,fr,r,v,q1,q2,q3,q4,q5,q6⟩:=H c0 c _ (t::tt) h0 (fun x hx=>by simp at hx; subst hx; trivial) rfl h3 hr hrow (vs_enter fn.ntmps e5) ⟨h4,h1,h5⟩ cs;refine ⟨c2,fr,r,v,q1,q2,q3,q4,.head ?_ q5,q6⟩;have hrun:=run_call (P:=E.P) (w:=c.w) (a:=⟨t,marks R.fx.dfs⟩) hop e1 ⟨fn,hf,by rw [hb]; rfl,hn⟩;have hargs:(v1.toArray++args.map (⟨t,marks R.fx.dfs⟩:Act).eval++v2.toArray)=(v1++args.toList.map (⟨t,marks R.fx.dfs⟩:Act).eval++v2).toArray:=by
  apply Array.ext';simp
 rw [hargs] at hrun;have hs:=step_enter (P:=E.P) (b:=bf ⟨fid,R.fx.rnd,R.fx.dfs⟩) (a:=⟨t,marks R.fx.dfs⟩) (k:=k.map AItem.conc) (cs:=concs R.fx.cls tt++cs) (rest:=(List.range ops.size).drop (ops.size - l.length)) hj (wanted_none hg c t h4) hrun;rw [enter_conc hf hb _ (enterS (a1++av++a2) fn.ntmps)] at hs;simp only [AFrame.conc,List.map_cons,concs,hcn,List.cons_append] at hs ⊢;exact hs
def endB:List AItem→Bool
 | []=>true
 | .code .ret::_=>true
 |_=>false
theorem endB_step {P:Program} {fd:FId} (hr:fd.rnd=none) {td:List AItem} (h:endB td=true) (a:Act) (cs:List Frame) (w:World):step P (lone ((bf fd).atR a (td.map AItem.conc)) cs w) = .next (lone { (bf fd).atR a (td.map AItem.conc) with mode := .returning } cs w):=by
 unfold endB at h;split at h
 ·exact stepR_end hr
 ·exact stepR_ret hr
 ·cases h
theorem leaves_core {P:Program} {G:List (Nat × DV)} {c0 c:Cx} {fid:FuncId} {fn:Func} {dfs:List Nat} {rows L:List Ghost} {td:List AItem} {s:List AV} {t:Array Value} {r:AV} (hf:P.funcs[fid]? = some fn) (htd:endB td=true) (ho:HOk G c) (hr:RelX c0 c) (hrow:RowsX c0.w.heap.size c rows (dfs.map .mark++L)) (hs:VS c s t)
  (hres:∀ (c':Cx) (t:Array Value),c'.heap=c.heap→HOk G c'→VS c' s t→∃ v,VR c' r v∧(results fn t).run P c'.w = .ok v c'.w) (cs:List Frame) :
  ∃ (c':Cx) (fr:Frame) (v:Value),c'.heap=c.heap∧HOk G c'∧RelX c0 c'∧RowsX c0.w.heap.size c' rows L∧(∀ x u,VR c x u→VR c' x u)∧VR c' r v∧Steps P (lone ((⟨⟨fid,none,dfs⟩,td,s⟩:AFrame).conc t) cs c.w) (lone fr cs c'.w)∧fr.fn=fid∧fr.leaving P c'.w (.returned v):=by
 obtain ⟨c',q1,q2,q3,q4,q5,q6⟩:=leave_marks (P:=P) (cs:=cs) dfs c { (bf ⟨fid,none,dfs⟩).atR ⟨t,marks dfs⟩ (td.map AItem.conc) with mode := .returning } ho hr hrow rfl rfl;obtain ⟨v,p1,p2⟩:=hres c' t q1 q2 ⟨hs.1,fun j x v hx hv=>q5 x v (hs.2 j x v hx hv)⟩;exact ⟨c',_,v,q1,q2,q3,q4,q5,p1,.head (endB_step rfl htd _ _ _) q6,rfl,rfl,rfl,rfl,fn,hf,p2⟩
theorem AWL.retTop (hE:E.OK) {fn:Func} {L:List Ghost} {td:List AItem} (hf:E.P.funcs[fid]? = some fn) (htd:endB td=true) (hrn:R.fx.rnd=none) (hc:R.fx.cls=[]) (h0:R.fx.f0=fid) (hL:R.fx.loops=R.fx.dfs.map .mark++L) (H:retK E.T s h fn.results.toList False R.Q):AWL E fid R lits td s h:=by
 have e:(⟨fid,R.fx.rnd,R.fx.dfs⟩:FId)=⟨fid,none,R.fx.dfs⟩:=by rw [hrn]
 refine .of ?_;rw [e,hc,h0];unfold AW;intro c0 c t tt h0 h1 h2 h3 hr hrow h4 h5 cs;obtain ⟨r,k1,k2⟩:=retK_sound hE H;subst h2;rw [hL] at hrow;obtain ⟨c',fr,v,q1,q2,q3,q4,q5,q6,q7,q8,q9⟩:=leaves_core hf htd h3 hr hrow h4 k2 (concs [] tt++cs);have hts:concs [] tt=[]:=by cases tt <;> rfl
 rw [hts] at q7 ⊢;exact ⟨c',fr,r,v,by rw [q1]; exact k1,q6,q2,q3,q7,q8,q9⟩
theorem AWL.retIn (hE:E.OK) {fn:Func} {L:List Ghost} {td:List AItem} {fd:FId} {ops1:Array Oper} {o1:Oper} {l1:List Oper} {k1:List AItem} {s1:List AV} {cls1:List AFrame} (hf:E.P.funcs[fid]? = some fn) (htd:endB td=true) (hrn:R.fx.rnd=none) (hc:R.fx.cls=⟨fd,.reg ops1 (o1::l1)::k1,s1⟩::cls1) (hL:R.fx.loops=R.fx.dfs.map .mark++L)
  (H:retK E.T s h fn.results.toList False fun r h'=>putK s1 o1.dst r fun s'=>AWL E fd.f ⟨R.n,R.Q,R.rows,⟨R.fx.f0,fd.rnd,fd.dfs,cls1,L,R.fx.inl⟩⟩ [] (.reg ops1 l1::k1) s' h'):AWL E fid R lits td s h:=by
 have e:(⟨fid,R.fx.rnd,R.fx.dfs⟩:FId)=⟨fid,none,R.fx.dfs⟩:=by rw [hrn]
 refine .of ?_;rw [e,hc];unfold AW;intro c0 c t tt h0 h1 h2 h3 hr hrow h4 h5 cs;obtain ⟨r,H,k2⟩:=retK_sound hE H;subst h2;rw [hL] at hrow;obtain ⟨t1,tt1,rfl⟩:∃ t1 tt1,tt=t1::tt1:=by
  cases tt with
  |nil=>exact h5.elim
  |cons t1 tt1=>exact ⟨_,_,rfl⟩
 obtain ⟨c4,c5,c6⟩:=h5;obtain ⟨j,hjj,hcn,hok⟩:=reg_at (c5 _ (List.mem_cons_self ..));obtain ⟨c',fr,v,q1,q2,q3,q4,q5,q6,q7,q8,q9⟩:=leaves_core hf htd h3 hr hrow h4 k2 (concs (⟨fd,.reg ops1 (o1::l1)::k1,s1⟩::cls1) (t1::tt1)++cs);rw [putK_eq] at H;have H:=H.to;unfold AW at H;have hput:VS c' (putS s1 o1.dst r) ((⟨t1,marks fd.dfs⟩:Act).put o1.dst v).tmps:=VS.putS (a:=⟨t1,marks fd.dfs⟩) ⟨c4.1,fun j x v hx hv=>q5 x v (c4.2 j x v hx hv)⟩ o1.dst q6;obtain ⟨c2,fr2,r2,v2,p1,p2,p3,p4,p5,p6⟩:=H c0 c' _ tt1 h0 (ok_cons hok (ok_tail c5)) q1 q2 q3 q4 hput (cr_gen q5 c6) cs;refine ⟨c2,fr2,r2,v2,p1,p2,p3,p4,q7.trans (.head ?_ p5),p6⟩;have hs:=step_leave_returned (c:=(⟨fd,.reg ops1 (o1::l1)::k1,s1⟩:AFrame).conc t1) (cs:=concs cls1 tt1++cs) q9;have hfin:((⟨fd,.reg ops1 (o1::l1)::k1,s1⟩:AFrame).conc t1).finish v=(⟨⟨fd.f,fd.rnd,fd.dfs⟩,.reg ops1 l1::k1,putS s1 o1.dst r⟩:AFrame).conc ((⟨t1,marks fd.dfs⟩:Act).put o1.dst v).tmps:=by
  simp only [AFrame.conc,List.map_cons,hcn];rw [Frame.finish_atR,hjj];simp only [Option.bind_some];rw [put_defers];rfl
 rw [hfin] at hs;exact hs
def pendA:Option Code→List AItem→List AItem
 |some c,k => .code c::k
 |none,k=>k
theorem AWL.rangeEnd (hE:E.OK) {fn:Func} {L:List Ghost} {td:List AItem} {i:LoopG} {fd:FId} {k1:List AItem} {s1:List AV} {cls1:List AFrame} (hf:E.P.funcs[fid]? = some fn) (htd:endB td=true) (hrn:R.fx.rnd=none) (hc:R.fx.cls=⟨fd,.inRF i.l::k1,s1⟩::cls1) (hL:R.fx.loops=R.fx.dfs.map .mark ++ .loop i::L) (hst:i.st ≠ .busy)
  (H:retK E.T s h fn.results.toList False fun _ _=>AWL E fd.f ⟨R.n,R.Q,R.rows,⟨R.fx.f0,fd.rnd,fd.dfs,cls1,L,R.fx.inl⟩⟩ [] (pendA i.pe k1) s1 h):AWL E fid R lits td s h:=by
 have e:(⟨fid,R.fx.rnd,R.fx.dfs⟩:FId)=⟨fid,none,R.fx.dfs⟩:=by rw [hrn]
 refine .of ?_;rw [e,hc];unfold AW;intro c0 c t tt h0 h1 h2 h3 hr hrow h4 h5 cs;obtain ⟨r,H,k2⟩:=retK_sound hE H;subst h2;rw [hL] at hrow;obtain ⟨t1,tt1,rfl⟩:∃ t1 tt1,tt=t1::tt1:=by
  cases tt with
  |nil=>exact h5.elim
  |cons t1 tt1=>exact ⟨_,_,rfl⟩
 obtain ⟨c4,c5,c6⟩:=h5;obtain ⟨c',fr,v,q1,q2,q3,q4,q5,q6,q7,q8,q9⟩:=leaves_core hf htd h3 hr hrow h4 k2 (concs (⟨fd,.inRF i.l::k1,s1⟩::cls1) (t1::tt1)++cs);obtain ⟨g1,g2,g3⟩:=q4.pop;have g2:LoopOK c0.w.heap.size c' i:=g2;obtain ⟨o2,ho2⟩:∃ o2:Obj,o2 = .loop { i.rcd with state := .exhausted }:=⟨_,rfl⟩;have ht:Touch c' i.l (c'.w.putObj i.l o2) := .putObj g2.bar;have H:=H.to;unfold AW at H;have hpend:(∀ x∈pendA i.pe k1,x.ok):=by
  cases i.pe with
  |none=>exact ok_tail c5
  |some c=>exact ok_cons trivial (ok_tail c5)
 obtain ⟨c2,fr2,r2,v2,p1,p2,p3,p4,p5,p6⟩:=H c0 (c'.inW (c'.w.putObj i.l o2)) t1 tt1 h0 hpend q1 (ht.hok q2) (ht.rel q3 g2.new) ⟨ht.rows g1.all (g3 i.l (by simp [Ghost.blks])),g1.flat⟩ ⟨c4.1,fun j x v hx hv=>ht.vr (q5 x v (c4.2 j x v hx hv))⟩ (cr_gen (fun x v hv=>ht.vr (q5 x v hv)) c6) cs;refine ⟨c2,fr2,r2,v2,p1,p2,p3,p4,q7.trans (.head (step_leave_returned q9) (.head ?_ p5)),p6⟩;have hfin:((⟨fd,.inRF i.l::k1,s1⟩:AFrame).conc t1).finish v=(bf fd).atR ⟨t1,marks fd.dfs⟩ (.endRangeFunc i.l::k1.map AItem.conc):=by
  simp only [AFrame.conc,List.map_cons,AItem.conc];exact finish_atR_inRangeFunc _ _
 have hend:(Instr.endLoop i.l).run E.P c'.w = .ok i.pe (c'.w.putObj i.l o2):=by
  have:=run_endLoop (P:=E.P) g2.mem hst;rw [ho2];exact this
 have hs:=stepR_endRangeFunc (P:=E.P) (b:=bf fd) (a:=⟨t1,marks fd.dfs⟩) (k:=k1.map AItem.conc) (cs:=concs cls1 tt1++cs) hend;rw [← hfin] at hs;have hpe:(i.pe.map Item.code).toList++k1.map AItem.conc=(pendA i.pe k1).map AItem.conc:=by cases i.pe <;> rfl
 rw [hpe] at hs;exact hs
end
end Go.Eng
end
section
namespace Go.Eng
open Go Go.RowKit
section
variable {E:Env} {s:List AV} {h:List Box}
theorem ok_mapEntry (hE:E.OK) {t kt e:Nat} {m ko:Operand} {ti:TInfo} (hti:E.T[t]? = some ti) (hk:ti.k = .map kt e) {kd:TK} (hT:KeyT E kt kd) {b:Nat} {es:List (DV × DV)} (hb:h[b]? = some (.map es)) (hm:EvOK E.G s m (.map b)) {x:DV} (hx:EvOK E.G s ko (.d x))
  (h1:FitK E.T kd x) (h2:∀ p∈es,FitK E.T kd p.1) {z:DV} {zv:Value} (hz1:∀ w,(zeroValue e).run E.P w = .ok zv w) (hz2:∀ bad w,VD bad w z zv) :
  OpOK E (.mapEntry t m ko) s h (.d (.tup [(findD x es).getD z,.int .i64 ((findI x es).getD es.length)])) (h.set b (.map (putD x ((findD x es).getD z) es))):=fun o c ac e1 e2 h3 h4=>by
 subst e2;obtain ⟨tyi,d,g1,g2,g3,-⟩:=tinfo_inv (hE.types t ti hti);have hd:d = .map kt e:=by rw [hk] at g3; cases d <;> first | (cases g3; rfl) | cases g3
 subst hd;have hbl:=lt_of_getElem? hb;obtain ⟨blk,cap,en,ck,q1,q2,q3,qe,q4⟩:=map_box h3 hb (hm c ac h3 h4);have hxv:=hx c ac h3 h4;generalize hu:ac.eval ko=u at hxv;cases hxv with
 |d _ _ hxv =>
  have r1:=run_checkKey_fit hE hT h1 hxv false;have r2:=run_findKey_fit hE hT h1 hxv h2 q4;have hblk:blk<c.w.heap.size:=(h3.ownlt b blk cap q2).1;have hl:en.size=es.length:=by simpa using q4.1
  have main:∃ (en':Array MapEntry) (ck':Nat) (v:Value),(Instr.mapEntry t (.map (some blk)) u).run E.P c.w = .ok (.tuple #[v,goInt ((findI x es).getD es.length:Nat)]) { c.w with heap:=c.w.heap.setIfInBounds blk (.map en' ck') }∧EnOK en' ck' (putD x ((findD x es).getD z) es).length∧VD c.bad c.w ((findD x es).getD z) v ∧
    ∀ (j:Nat) (k v:DV) (mm:MapEntry),(putD x ((findD x es).getD z) es)[j]? = some (k,v)→en'[j]? = some mm→VD c.bad c.w k mm.key∧VD c.bad c.w v mm.val:=by
   cases hf:findI x es with
   |none =>
    rw [findI_none hf];refine ⟨en.push { key:=u,val:=zv,born:=ck },ck+1,zv,?_,?_,hz2 _ _,?_⟩
    ·simp only [Instr.mapEntry,Sem.run_bind,run_underlying g2,Result.andThen_ok,gotMap q3,r1,r2,foundV,hf,Option.bind_none,hz1,setMap _ q3,Sem.run_pure,Option.getD_none];rw [qe.tick]
    ·rw [Option.getD_none,putD_none hf,List.length_append];exact qe.push u zv
    ·intro j k v mm hj hmm;rw [Option.getD_none,putD_none hf] at hj;rcases Nat.lt_or_ge j es.length with hlt | hge
     ·rw [List.getElem?_append_left hlt] at hj;rw [Array.getElem?_push,if_neg (by omega)] at hmm;exact q4.2 j k v mm hj (by simpa using hmm)
     ·have hje:j=es.length:=by
       have:=lt_of_getElem? hj;simp at this;omega
      subst hje;rw [List.getElem?_append_right (Nat.le_refl _)] at hj;simp at hj;obtain ⟨rfl,rfl⟩:=hj;rw [Array.getElem?_push,if_pos hl.symm] at hmm;cases hmm;exact ⟨hxv,hz2 _ _⟩
   |some i =>
    obtain ⟨p,p1,p2,p3⟩:=findI_lt hf;rw [p3];have hi:i<en.size:=by rw [hl]; exact lt_of_getElem? p1
    have hmi:en[i]? = some en[i]:=by simp [hi]
    have hent:=q4.2 i p.1 p.2 en[i] p1 (by simp [hi]);have hpe:=keyEq_eq p2;have e3:=flat_val h1 hxv;have e4:=flat_val (h2 p (List.mem_of_getElem? p1)) hent.1;have hbits:Instr.sameBits 10000 en[i].key u=true:=by
     rw [e3,e4,← hpe];exact sameBits_key h1
    refine ⟨en.modify i fun e=>{ e with key:=u },ck,en[i].val,?_,?_,hent.2,?_⟩
    ·have hfv:foundV x es en.toList 0=some (i,en[i].val):=by
      simp [foundV,hf,hi]
     have hks:(Instr.keyThatStays en[i].key u).run E.P c.w = .ok u c.w:=by
      simp only [Instr.keyThatStays,hbits,if_true,Sem.run_pure]
     simp only [Instr.mapEntry,Sem.run_bind,run_underlying g2,Result.andThen_ok,gotMap q3,r1,r2,hfv,hmi,Option.map_some,Option.getD_some,hks,setMap _ q3,Sem.run_pure];rw [qe.idx i _ hmi]
    ·rw [Option.getD_some,putD_some hf,List.length_set];have hmod:(en.modify i fun e=>{ e with key:=u })=(en.modify i fun e=>{ e with key:=u,val:=en[i].val }):=by
      apply Array.ext_getElem?;intro j;rw [Array.getElem?_modify,Array.getElem?_modify];by_cases hj:i=j
      ·subst hj; simp [hi]
      ·simp [hj]
     rw [hmod];exact qe.modify i u _
    ·intro j k v mm hj hmm;rw [Option.getD_some,putD_some hf] at hj;by_cases hji:j=i
     ·subst hji;rw [List.getElem?_set_self (by omega)] at hj;cases hj;rw [Array.getElem?_modify,if_pos rfl,hmi] at hmm;cases hmm;exact ⟨hxv,hent.2⟩
     ·rw [List.getElem?_set_ne (Ne.symm hji)] at hj;rw [Array.getElem?_modify,if_neg (Ne.symm hji)] at hmm;exact q4.2 j k v mm hj (by simpa using hmm)
  obtain ⟨en',ck',v0,hrun,hlen,hv0,hent⟩:=main;generalize putD x ((findD x es).getD z) es=es' at hlen hent ⊢
  let c':Cx:={ c with heap:=c.heap.set b (.map es'),w:={ c.w with heap:=c.w.heap.setIfInBounds blk (.map en' ck') } }
  have hbw:c'.w.heap[blk]? = some (.map en' ck'):=by simp [c',hblk]
  have how:∀ b',b'≠blk→c'.w.heap[b']? = c.w.heap[b']? := fun b' hb'=>by simp [c',Array.getElem?_setIfInBounds,Ne.symm hb']
  have hbb:c'.heap[b]? = some (.map es'):=by show (c.heap.set b _)[b]? = _; rw [List.getElem?_set_self hbl]
  have hother:∀ i,i≠b→c'.heap[i]? = c.heap[i]? := fun i hi=>by show (c.heap.set b _)[i]? = _; rw [List.getElem?_set_ne (Ne.symm hi)]
  have hst:Step c c':=⟨rfl,h3.barlt,rfl,rfl,rfl,by simp [c'],fun b' _ hno=>how b' (fun hbe=>hno b cap (hbe ▸ q2)),fun i b' n hi _=>⟨n,hi⟩,fun i bx hi=>by
   by_cases hib:i=b
   ·subst hib;rw [hb] at hi;cases hi;exact .inl ⟨_,hbb,rfl⟩
   ·exact boxStep_same hi (hother i hib) rfl⟩
  have hok:HOk E.G c':=by
   refine h3.next hst (fun i b' n hi=>?_) h3.inj (fun i bx hi=>?_)
   ·have:=h3.ownlt i b' n hi;refine ⟨by simpa [c'] using this.1,?_⟩;show i<(c.heap.set b _).length;rw [List.length_set];exact this.2
   ·by_cases hib:i=b
    ·subst hib;rw [hbb] at hi;cases hi;right;exact ⟨blk,cap,en',ck',q2,hbw,hlen,fun j k v mm hj hmm=>⟨hst.vd (hent j k v mm hj hmm).1,hst.vd (hent j k v mm hj hmm).2⟩⟩
    ·rw [hother i hib] at hi;exact .inl ⟨hi,rfl,fun b' n hn=>how b' (fun hbe=>hib (h3.inj i b blk n cap (hbe ▸ hn) q2))⟩
  refine ⟨c',.tuple #[v0,goInt ((findI x es).getD es.length:Nat)],.inl ?_,rfl,hok,.d _ _ (.tup _ _ rfl fun j y v hy hv=>?_),hst⟩
  ·simp only [execOp,e1,q1,hu,Sem.run_bind,hrun,Result.andThen_ok,Sem.run_pure];rfl
  ·match j with
   | 0=>simp at hy hv; subst hy; subst hv; exact hst.vd hv0
   | 1=>simp at hy hv; subst hy; subst hv; exact .int _ _
   |j+2=>simp at hy
theorem ok_entryStore (hE:E.OK) {t:Nat} {m st vo:Operand} {b:Nat} {es:List (DV × DV)} (hb:h[b]? = some (.map es)) (hm:EvOK E.G s m (.map b)) {n:Nat} {k0 x0 y:DV} (hn:es[n]? = some (k0,x0)) (hst0:EvOK E.G s st (.d (.int .i64 n))) (hy:EvOK E.G s vo (.d y)) :
  OpOK E (.entryStore t m st vo) s h (.d .undef) (h.set b (.map (es.set n (k0,y)))):=fun o c ac e1 e2 h3 h4=>by
 subst e2;have hbl:=lt_of_getElem? hb;obtain ⟨blk,cap,en,ck,q1,q2,q3,qe,q4⟩:=map_box h3 hb (hm c ac h3 h4);have hsv:=hst0 c ac h3 h4;have hyv:=hy c ac h3 h4;generalize hu:ac.eval st=u at hsv;generalize hw:ac.eval vo=w at hyv;cases hsv with
 |d _ _ hsv=>cases hsv; cases hyv with
  |d _ _ hyv =>
   have hblk:blk<c.w.heap.size:=(h3.ownlt b blk cap q2).1;have hl:en.size=es.length:=by simpa using q4.1
   have hi:n<en.size:=by rw [hl]; exact lt_of_getElem? hn
   have hmi:en[n]? = some en[n]:=by simp [hi]
   have hent0:=q4.2 n k0 x0 en[n] hn (by simp [hi]);have hfind:en.findIdx? (fun e=>(e.born:Int)==(n:Int))=some n:=by
    rw [Array.findIdx?_eq_some_iff_getElem];refine ⟨hi,?_,fun j hj=>?_⟩
    ·have:=qe.idx n _ hmi; simp [this]
    ·have:=qe.idx j en[j] (by rw [Array.getElem?_eq_getElem]);simp [this]; omega
   have hrun:(Instr.entryStore t (.map (some blk)) (.int .i64 n) w).run E.P c.w = .ok () { c.w with heap:=c.w.heap.setIfInBounds blk (.map (en.modify n fun e=>{ e with val:=w }) ck) }:=by
    have ha:(asInt (.int .i64 (n:Int))).run E.P c.w = .ok (n:Int) c.w:=rfl;simp only [Instr.entryStore,Sem.run_bind,Sem.run_pure,Result.andThen_ok,gotMap q3,ha,hfind,setMap _ q3]
   have hlen:EnOK (en.modify n fun e=>{ e with val:=w }) ck (es.set n (k0,y)).length:=by
    have hmod:(en.modify n fun e=>{ e with val:=w })=(en.modify n fun e=>{ e with key:=en[n].key,val:=w }):=by
     apply Array.ext_getElem?;intro j;rw [Array.getElem?_modify,Array.getElem?_modify];by_cases hj:n=j
     ·subst hj; simp [hi]
     ·simp [hj]
    rw [hmod,List.length_set];exact qe.modify n _ w
   have hent:∀ (j:Nat) (k v:DV) (mm:MapEntry),(es.set n (k0,y))[j]? = some (k,v)→(en.modify n fun e=>{ e with val:=w })[j]? = some mm→VD c.bad c.w k mm.key∧VD c.bad c.w v mm.val:=by
    intro j k v mm hj hmm;by_cases hji:j=n
    ·subst hji;rw [List.getElem?_set_self (by omega)] at hj;cases hj;rw [Array.getElem?_modify,if_pos rfl,hmi] at hmm;cases hmm;exact ⟨hent0.1,hyv⟩
    ·rw [List.getElem?_set_ne (Ne.symm hji)] at hj;rw [Array.getElem?_modify,if_neg (Ne.symm hji)] at hmm;exact q4.2 j k v mm hj (by simpa using hmm)
   generalize en.modify n (fun e=>{ e with val:=w })=en' at hrun hlen hent;generalize es.set n (k0,y)=es' at hlen hent ⊢
   let c':Cx:={ c with heap:=c.heap.set b (.map es'),w:={ c.w with heap:=c.w.heap.setIfInBounds blk (.map en' ck) } }
   have hbw:c'.w.heap[blk]? = some (.map en' ck):=by simp [c',hblk]
   have how:∀ b',b'≠blk→c'.w.heap[b']? = c.w.heap[b']? := fun b' hb'=>by simp [c',Array.getElem?_setIfInBounds,Ne.symm hb']
   have hbb:c'.heap[b]? = some (.map es'):=by show (c.heap.set b _)[b]? = _; rw [List.getElem?_set_self hbl]
   have hother:∀ i,i≠b→c'.heap[i]? = c.heap[i]? := fun i hi=>by show (c.heap.set b _)[i]? = _; rw [List.getElem?_set_ne (Ne.symm hi)]
   have hst:Step c c':=⟨rfl,h3.barlt,rfl,rfl,rfl,by simp [c'],fun b' _ hno=>how b' (fun hbe=>hno b cap (hbe ▸ q2)),fun i b' n hi _=>⟨n,hi⟩,fun i bx hi=>by
    by_cases hib:i=b
    ·subst hib;rw [hb] at hi;cases hi;exact .inl ⟨_,hbb,rfl⟩
    ·exact boxStep_same hi (hother i hib) rfl⟩
   have hok:HOk E.G c':=by
    refine h3.next hst (fun i b' n hi=>?_) h3.inj (fun i bx hi=>?_)
    ·have:=h3.ownlt i b' n hi;refine ⟨by simpa [c'] using this.1,?_⟩;show i<(c.heap.set b _).length;rw [List.length_set];exact this.2
    ·by_cases hib:i=b
     ·subst hib;rw [hbb] at hi;cases hi;right;exact ⟨blk,cap,en',ck,q2,hbw,hlen,fun j k v mm hj hmm=>⟨hst.vd (hent j k v mm hj hmm).1,hst.vd (hent j k v mm hj hmm).2⟩⟩
     ·rw [hother i hib] at hi;exact .inl ⟨hi,rfl,fun b' n hn=>how b' (fun hbe=>hib (h3.inj i b blk n cap (hbe ▸ hn) q2))⟩
   refine ⟨c',undef,.inr ⟨?_,rfl⟩,rfl,hok,.d _ _ .undef,hst⟩;simp only [execOp,e1,q1,hu,hw,Sem.run_bind,hrun,Result.andThen_ok,Sem.run_pure];rfl
end
section
variable {E:Env} {fid:FuncId} {R:Post} {td:List AItem} {s:List AV} {h:List Box} {lits:List Nat} {ops:Array Oper} {o:Oper} {l:List Oper} {k:List AItem}
theorem AWL.mapEntry (hE:E.OK) (z:DV) (zv:Value) (v:DV) (i:Nat) (es':List (DV × DV)) {t:Nat} {m x:Operand} (hg:o.guard=none) (hop:o.op = .mapEntry t m x) (hz2:∀ bad w,VD bad w z zv)
  (H:getK E.T t False fun ti=>match ti.k with
   | .map kt e=>evalK E.G s m False fun
    | .map b=>getK h b False fun
     | .map es=>evalK E.G s x False fun
      | .d y=>keyKindK E kt False fun kd=>(FitK E.T kd y∧∀ p∈es,FitK E.T kd p.1)∧(∀ w,(zeroValue e).run E.P w = .ok zv w)∧((findD y es).getD z=v∧(findI y es).getD es.length=i∧putD y v es=es') ∧
       setK h b (.map es') fun h'=>putK s o.dst (.d (.tup [v,.int .i64 i])) fun s'=>AWL E fid R lits (.reg ops l::k) s' h'
      |_=>False
     |_=>False
    |_=>False
   |_=>False):AWL E fid R lits (.reg ops (o::l)::k) s h:=by
 rcases getK_or H with H | ⟨ti,hti,H⟩
 ·exact H.elim
 split at H
 ·rename_i kt e hk;rcases evalK_sound H with H | ⟨a,ha,H⟩
  ·exact H.elim
  split at H
  ·rename_i b;rcases getK_or H with H | ⟨bx,hb,H⟩
   ·exact H.elim
   split at H
   ·rename_i es;rcases evalK_sound H with H | ⟨y,hy,H⟩
    ·exact H.elim
    split at H
    ·rename_i y;rcases keyKindK_sound H with H | ⟨kd,hT,H⟩
     ·exact H.elim
     obtain ⟨⟨f1,f2⟩,f3,⟨g1,g2,g3⟩,H⟩:=H;have ho:=ok_mapEntry hE hti hk hT hb ha hy f1 f2 f3 hz2;rw [g1,g2,g3] at ho;rw [setK_eq,putK_eq] at H;rw [← hop] at ho;exact .of (.op (wanted_none hg) ho H.to)
    ·exact H.elim
   ·exact H.elim
  ·exact H.elim
 ·exact H.elim
theorem AWL.entryStore (hE:E.OK) {t:Nat} {m st vo:Operand} (n:Nat) {k0 x0:DV} (hg:o.guard=none) (hop:o.op = .entryStore t m st vo)
  (H:evalK E.G s m False fun
    | .map b=>getK h b False fun
     | .map es=>es[n]? = some (k0,x0)∧evalK E.G s st False fun u=>u = .d (.int .i64 n)∧evalK E.G s vo False fun
      | .d y=>setK h b (.map (es.set n (k0,y))) fun h'=>putK s o.dst (.d .undef) fun s'=>AWL E fid R lits (.reg ops l::k) s' h'
      |_=>False
     |_=>False
    |_=>False):AWL E fid R lits (.reg ops (o::l)::k) s h:=by
 rcases evalK_sound H with H | ⟨a,ha,H⟩
 ·exact H.elim
 split at H
 ·rename_i b;rcases getK_or H with H | ⟨bx,hb,H⟩
  ·exact H.elim
  split at H
  ·rename_i es;obtain ⟨hn,H⟩:=H;rcases evalK_sound H with H | ⟨u,hu,H⟩
   ·exact H.elim
   obtain ⟨rfl,H⟩:=H;rcases evalK_sound H with H | ⟨y,hy,H⟩
   ·exact H.elim
   split at H
   ·rename_i y;have ho:=ok_entryStore hE (t:=t) hb ha hn hu hy;rw [setK_eq,putK_eq] at H;rw [← hop] at ho;exact .of (.op (wanted_none hg) ho H.to)
   ·exact H.elim
  ·exact H.elim
 ·exact H.elim
theorem AWL.entry {x:Operand} {it:Iter} {g1 g2:List Ghost} {pre:List Nat} {j:Nat} {kk y:DV} (hg:o.guard=none) (hop:o.op = .entry x) (hrows:R.rows=g1 ++ .iter it::g2) (hseen:it.seen=pre++[j]) (hj:it.es[j]? = some (kk,y)) (hx:EvOK E.G s x (.d (.raw (.pointer (some ⟨it.r,0,none⟩)))))
  (H:AWL E fid R lits (.reg ops l::k) (putS s o.dst (.d (.tup [kk,y]))) h):AWL E fid R lits (.reg ops (o::l)::k) s h:=by
 refine .of ?_;unfold AW;intro c0 c t' ts' h0 h1 h2 h3 hr hrow h4 h5 cs;subst h2;obtain ⟨i,hi,hcn,hok⟩:=reg_at (h1 _ (List.mem_cons_self ..));have hxv:(⟨t',marks R.fx.dfs⟩:Act).eval x = .pointer (some ⟨it.r,0,none⟩):=by
  have:=hx c ⟨t',marks R.fx.dfs⟩ h3 h4;generalize (⟨t',marks R.fx.dfs⟩:Act).eval x=u at this;cases this with
  |d _ _ hq=>cases hq; rfl
 have r2:IterOK c0.w.heap.size c it:=hrow.all.each (.iter it) (by rw [hrows]; simp);obtain ⟨z0,z1,z3,z2⟩:=r2.iter;obtain rfl:=z3 (by rw [hseen]; simp);have hje:j<it.en.size:=r2.lt j (by rw [hseen]; simp);have hent:it.en[j]? = some it.en[j]:=by simp [hje]
 have hval:=r2.val j kk y it.en[j] hj hent;have hback:((it.seen.map fun j=>((it.en[j]?).map (·.born)).getD 0).toArray).back? = some j:=by
  rw [hseen];simp [hent,r2.ent.idx j _ hent]
 have hfind:it.en.find? (fun e=>e.born==j)=some it.en[j]:=by
  rw [Array.find?_eq_some_iff_getElem];refine ⟨by simp [r2.ent.idx j _ hent],j,hje,rfl,fun q hq=>?_⟩;have:=r2.ent.idx q it.en[q] (by rw [Array.getElem?_eq_getElem]);simp [this]; omega
 have hget:(getObj it.r).run E.P c.w = .ok (.mapIter (some it.bm) it.since ((it.seen.map fun j=>((it.en[j]?).map (·.born)).getD 0).toArray) it.ck) c.w:=by simp [getObj,Sem.run,z2]
 have hrun:(execOp (⟨t',marks R.fx.dfs⟩:Act).eval o).run E.P c.w = .ok (.value (.tuple #[it.en[j].key,it.en[j].val])) c.w:=by
  simp only [execOp,hop,hxv,Instr.entry,Sem.run_bind,Sem.run_pure,Result.andThen_ok,hget,hback,gotMap r2.map,bne_self_eq_false,Bool.false_eq_true,if_false,hfind]
 have hvs:VS c (putS s o.dst (.d (.tup [kk,y]))) ((⟨t',marks R.fx.dfs⟩:Act).put o.dst (.tuple #[it.en[j].key,it.en[j].val])).tmps :=
  VS.putS (a:=⟨t',marks R.fx.dfs⟩) h4 o.dst (.d _ _ (.tup _ _ rfl fun p z v hz hv=>by
   match p with
   | 0=>simp at hz hv; subst hz; subst hv; exact hval.1
   | 1=>simp at hz hv; subst hz; subst hv; exact hval.2
   |p+2=>simp at hz))
 have H:=H.to;unfold AW at H;obtain ⟨c2,fr,rr,u,e1,e2,e3,e4,e5,e6⟩:=H c0 c _ ts' h0 (ok_cons hok (ok_tail h1)) rfl h3 hr hrow hvs h5 cs;refine ⟨c2,fr,rr,u,e1,e2,e3,e4,.head ?_ e5,e6⟩;simp only [AFrame.conc,List.map_cons,hcn];rw [step_op hi (wanted_none hg c t' h4) (.inl hrun),put_defers];rfl
theorem AWL.adoptRaw (d:Nat) (ts:Nat × Nat) (hts:0<ts.2) (hd:s[d]? = some (.d (.raw (.slice none 0 0)))) (H:AWL E fid R lits td (s.set d (.own h.length 0)) (h++[.arr 0 ts []])):AWL E fid R lits td s h:=by
 replace H:=H.to;refine .of (.of_leads (fun c t ts' h1 h2 h3 h4 h5=>?_) H);subst h2
 let c':Cx:={ c with heap:=c.heap++[.arr 0 ts []] }
 have hno:c.own c.heap.length=none:=by
  cases ho:c.own c.heap.length with
  |none=>rfl
  |some p=>have:=(h3.ownlt _ p.1 p.2 ho).2; omega
 have hst:Step c c':=⟨rfl,h3.barlt,rfl,rfl,rfl,Nat.le_refl _,fun _ _ _=>rfl,fun i b n hi _=>⟨n,hi⟩,fun i bx hi=>boxStep_same hi (List.getElem?_append_left (lt_of_getElem? hi)) rfl⟩;have hnew:c'.heap[c.heap.length]? = some (.arr 0 ts []):=by show (c.heap++_)[_]? = _; simp
 have hok:HOk E.G c':=h3.next hst (fun i b n hi=>⟨(h3.ownlt i b n hi).1,by have:=(h3.ownlt i b n hi).2; show i<(c.heap++_).length; simp; omega⟩) h3.inj (fun i bx hi=>by
  by_cases hil:i=c.heap.length
  ·subst hil;rw [hnew] at hi;cases hi;exact .inr ⟨hts,fun i e he=>by simp at he,.inl ⟨hno,rfl⟩⟩
  ·have hlt : i < c.heap.length := by have := lt_of_getElem? hi; have h2 : c'.heap.length = c.heap.length + 1 := by show (c.heap ++ _).length = _; simp
                                      omega
   have hi':(c.heap++[.arr 0 ts []])[i]? = some bx:=hi;rw [List.getElem?_append_left hlt] at hi'
   exact .inl ⟨hi',rfl,fun _ _ _=>rfl⟩)
 refine ⟨c',t,ts',h1,rfl,hok,?_,hst.cr h5,hst,fun _ => .refl _ _⟩;have hdt:d<t.size:=by rw [← h4.1]; exact lt_of_getElem? hd
 have hv:t[d] = .slice none 0 0:=by
  have:=h4.2 d _ t[d] hd (by simp [hdt]);generalize t[d]=u at this;cases this with
  |d _ _ hv=>cases hv; rfl
 have:=VS.put (hst.vs h4) d (x := .own c.heap.length 0) (v:=t[d]) (by rw [hv]; exact .ownnil _ _ ts hnew hno)
 simpa [Array.setIfInBounds,hdt] using this
theorem AWL.loopR {b:Code} {κ:Type} (mods:List Nat) (vars:κ→List (Nat × AV)) (boxes:κ→List (Nat × Box)) (rows:κ→List Ghost) (Φ:κ→Prop) (μ:κ→Nat) (x0:κ) (h0:Φ x0) (hR:R.rows=rows x0)
  (hsub:stK mods (keysOf (boxes x0)) (vars x0) (boxes x0) s h fun s' h'=>selfXK h h' R.fx (subAllK R.n h s h' s'))
  (hround:∀ x,Φ x→(∀ y,Φ y→μ y<μ x→AWL E fid ⟨R.n,R.Q,rows y,R.fx⟩ [] (.inLoop b::k) (varS (vars y) (anyS mods (dropS (keysOf (boxes x0)) s))) (varH (boxes y) h))→AWL E fid ⟨R.n,R.Q,rows x,R.fx⟩ [] (.code b :: .inLoop b::k) (varS (vars x) (anyS mods (dropS (keysOf (boxes x0)) s))) (varH (boxes x) h)) :
  AWL E fid R lits (.code (.loop b)::k) s h:=by
 have e:R=⟨R.n,R.Q,rows x0,R.fx⟩:=by cases R; simp only at hR; subst hR; rfl
 have main:∀ n x,μ x<n→Φ x→AWL E fid ⟨R.n,R.Q,rows x,R.fx⟩ [] (.inLoop b::k) (varS (vars x) (anyS mods (dropS (keysOf (boxes x0)) s))) (varH (boxes x) h):=by
  intro n
  induction n with
  |zero=>intro x hx; omega
  |succ n ih=>intro x hx hP; exact .of (.inLoop (hround x hP fun y hy hm=>ih y (by omega) hy).to)
 rw [stK_eq] at hsub;rw [e];exact .of (.loop (.weaken hsub (hround x0 h0 fun y hy _=>main (μ y+1) y (by omega) hy).to))
end
end Go.Eng
end
section
namespace Go.Eng
open Go Go.RowKit
section
variable {E:Env} {fid:FuncId} {R:Post} {s:List AV} {h:List Box} {ops:Array Oper} {o:Oper} {l:List Oper} {k:List AItem}
theorem AWL.minK {lits:List Nat} {x y:Operand} {ts:Array TypeId} {a b:Int} (hg:o.guard=none) (hop:o.op = .call { callee := .builtin .min,args := #[x,y],argTypes:=ts }) (hx:EvOK E.G s x (.d (.int .i64 a))) (hy:EvOK E.G s y (.d (.int .i64 b)))
  (H:AWL E fid R lits (.reg ops l::k) (putS s o.dst (.d (.int .i64 (min a b)))) h):AWL E fid R lits (.reg ops (o::l)::k) s h:=by
 refine .of (.op (wanted_none hg) ?_ H.to);rw [hop];refine .quiet fun o c ac e1 e2 h3 h4=>⟨.int .i64 (min a b),?_,.d _ _ (.int _ _)⟩;have q1:=vr_int (hx c ac h3 h4);have q2:=vr_int (hy c ac h3 h4);have q3:(if b<a then b else a)=min a b:=by
  rcases Int.lt_or_le b a with q | q
  ·rw [if_pos q,Int.min_eq_right (Int.le_of_lt q)]
  ·rw [if_neg (Int.not_lt.2 q),Int.min_eq_left q]
 simp only [execOp,e1,resolve,invoke,builtin,Builtin.min_,Builtin.min2,List.map_toArray,List.map_cons,List.map_nil,q1,q2,List.foldlM_cons,List.foldlM_nil,Sem.run_bind,Sem.run_pure,Result.andThen_ok,pure_bind,bind_pure,q3]
end
end Go.Eng
end
section
namespace Go.Eng
open Go Go.RowKit
section
variable {E:Env} {fid:FuncId} {R:Post} {s:List AV} {h:List Box} {lits:List Nat} {ops:Array Oper} {o:Oper} {l:List Oper} {k:List AItem}
end
section
variable {E:Env} {fid:FuncId} {R:Post} {s:List AV} {h:List Box} {td:List AItem}
end
mutual
def nrm:DV→DV
 | .nilsl => .sl []
 | .sl l => .sl (nrms l)
 | .agg c => .agg (nrms c)
 | .tup c => .tup (nrms c)
 |x=>x
def nrms:List DV→List DV
 | []=>[]
 |x::l=>nrm x::nrms l
end
theorem nrms_map:∀ (l:List DV),nrms l=l.map nrm
 | []=>rfl
 |x::l=>by rw [nrms,nrms_map l]; rfl
theorem nrm_cells (x:DV):(nrm x).cells=x.cells.map nrm:=by
 cases x <;> simp [nrm,DV.cells,nrms_map]
theorem nrm_vd {bad:Nat→Prop} {w:World} {x:DV} {v:Value} (h:VD bad w x v):VD bad w (nrm x) v:=by
 induction h with
 |nilsl=>exact .slnil
 |agg c vs hlen hval ih =>
  rw [nrm,nrms_map];refine .agg _ _ (by simpa using hlen) fun j y v hy hv=>?_;rw [List.getElem?_map] at hy;cases hc:c[j]? with
  |none=>rw [hc] at hy; cases hy
  |some z=>rw [hc] at hy; cases hy; exact ih j z v hc hv
 |tup c vs hlen hval ih =>
  rw [nrm,nrms_map];refine .tup _ _ (by simpa using hlen) fun j y v hy hv=>?_;rw [List.getElem?_map] at hy;cases hc:c[j]? with
  |none=>rw [hc] at hy; cases hy
  |some z=>rw [hc] at hy; cases hy; exact ih j z v hc hv
 |undef=>exact .undef
 |bool b=>exact .bool b
 |int k n=>exact .int k n
 |str l=>exact .str l
 |slnil=>exact .slnil
 |slz a=>exact .slz a
 |sl l blk off cap sz f hb hsz hcap hlen hcell hval hone ih =>
  rw [nrm,nrms_map];have hl:(l.map nrm).length=l.length:=by simp
  have key:∀ (i j:Nat) (e x:DV),(l.map nrm)[i]? = some e→e.cells[j]? = some x→∃ e0 x0,l[i]? = some e0∧e0.cells[j]? = some x0∧x=nrm x0:=fun i j e x he hx=>by
   rw [List.getElem?_map] at he;cases hc:l[i]? with
   |none=>rw [hc] at he; cases he
   |some e0 =>
    rw [hc] at he;cases he;rw [nrm_cells,List.getElem?_map] at hx;cases hd:e0.cells[j]? with
    |none=>rw [hd] at hx; cases hx
    |some x0=>rw [hd] at hx; cases hx; exact ⟨e0,x0,rfl,hd,rfl⟩
  have:=VD.sl (bad:=bad) (w:=w) (l.map nrm) blk off cap sz f (fun hne=>hb (fun h0=>hne (by rw [h0]; rfl))) hsz (by rw [hl]; exact hcap)
   (fun i e he=>by
    rw [List.getElem?_map] at he;cases hc:l[i]? with
    |none=>rw [hc] at he; cases he
    |some e0=>rw [hc] at he; cases he; rw [nrm_cells,List.length_map]; exact hlen i e0 hc)
   (fun i j e x he hx=>by obtain ⟨e0,x0,h1,h2,_⟩:=key i j e x he hx; exact hcell i j e0 x0 h1 h2)
   (fun i j e x he hx=>by obtain ⟨e0,x0,h1,h2,h3⟩:=key i j e x he hx; rw [h3]; exact ih i j e0 x0 h1 h2)
   (fun i j e x he hx=>by obtain ⟨e0,x0,h1,h2,_⟩:=key i j e x he hx; exact hone i j e0 x0 h1 h2)
  rw [hl] at this;exact this
 |nilptr=>exact .nilptr
 |nilfn=>exact .nilfn
 |nilmap=>exact .nilmap
 |nilif=>exact .nilif
 |fn f=>exact .fn f
 |raw v h=>exact .raw v h
theorem PCalls.nrm {E:Env} {f:FuncId} {args:List DV} {y:DV} (H:PCalls E f args (fun r=>Eng.nrm r=y)):PCalls E f args (· = y):=by
 unfold PCalls at H ⊢;exact ⟨H.1,fun bar w vs h1 h2 h3=>(H.2 bar w vs h1 h2 h3).mono fun e w' ⟨v,r,k1,k2,k3,k4⟩=>⟨v,y,k1,rfl,k2 ▸ nrm_vd k3,k4⟩⟩
end Go.Eng
end
