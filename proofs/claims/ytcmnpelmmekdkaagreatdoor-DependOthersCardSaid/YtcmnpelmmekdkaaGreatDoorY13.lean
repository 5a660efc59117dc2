/- Several texts of mine, one behind the other. Conditions: as each says. -/
import Derived.Test.YtcmnpelmmekdkaaGreatDoorY12
import Derived.Lib.BufferMore
import Derived.Lib.LazyBuf
import Derived.Laws.CopyRow
set_option linter.unusedVariables false
set_option linter.unusedSimpArgs false
section
namespace Go.ax
open Go Go.RowKit
section
variable {E:Env} {ae:FuncId} {R:bY} {s:List AV} {h:List ag} {lits:List Nat} {ops:Array Oper} {o:Oper} {l:List Oper} {k:List aG}
theorem W6 (op:BinOp) (t:TypeId) (x y:Operand) (p q:Option Addr) (a b c d:Nat):eqGuard op t x y (.slice p a b) (.slice q c d)=pure ():=by
 unfold eqGuard; cases op <;> rfl
theorem aa.uX (hE:E.OK) {t e:Nat} {x:Operand} {yt:Nat} {m:List DV} {ti:bB} (hg:o.guard=none) (cm:o.op = .binOp .eql t x (.const (.slice none 0 0)) yt) (cj:E.T[t]? = some ti) (hk:ti.k = .slice e) (hx:bp E.G s x (.d (.sl m)))
  (H:∀ b,(b=true→m=[])→aa E ae R lits (.bE ops l::k) (bG s o.dst (.d (.bool b))) h):aa E ae R lits (.bE ops (o::l)::k) s h:=by
 refine .of ?_;unfold AW;intro c0 c t' ea h0 h1 h2 h3 hr bX h4 h5 cs;subst h2;obtain ⟨i,hi,eB,aK⟩:=mB (h1 _ (List.mem_cons_self ..));obtain ⟨nu,d,g1,g2,g3,-⟩:=cM (hE.types t ti cj);obtain rfl:=lJ (hk.symm.trans g3);have hv:=hx c ⟨t',marks R.fx.aH⟩ h3 h4;have fin:∀ (p:Option Addr) (n cp:Nat) (b:Bool),(⟨t',marks R.fx.aH⟩:Act).eval x = .slice p n cp→(binOp .eql t (.slice p n cp) (.slice none 0 0)).run E.P c.w = .ok (.bool b) c.w→(execOp (⟨t',marks R.fx.aH⟩:Act).eval o).run E.P c.w = .ok (.value (.bool b)) c.w:=fun p n cp b e1 e2=>by
  have sr:(⟨t',marks R.fx.aH⟩:Act).eval (.const (.slice none 0 0)) = .slice none 0 0:=rfl;simp only [execOp,cm,e1,sr,W6,Sem.run_bind,Sem.run_pure,Result.andThen_ok,e2]
 have key:∃ b,(b=true→m=[])∧(execOp (⟨t',marks R.fx.aH⟩:Act).eval o).run E.P c.w = .ok (.value (.bool b)) c.w:=by
  generalize hu:(⟨t',marks R.fx.aH⟩:Act).eval x=u at hv;cases hv with
  |d _ _ hv=>cases hv with
   |slnil=>exact ⟨true,fun _=>rfl,fin _ _ _ _ hu (Lib.run_eql_slice_nil_nil c.w 0 0 g2)⟩
   |kO a=>exact ⟨false,fun _=>rfl,fin _ _ _ _ hu (Lib.run_eql_slice_some_nil c.w a 0 0 g2)⟩
   |sl _ blk off cap sz f=>exact ⟨false,fun q=>(by cases q),fin _ _ _ _ hu (Lib.run_eql_slice_some_nil c.w _ _ _ g2)⟩
 obtain ⟨b,hb,cR⟩:=key;have H:=(H b hb).to;unfold AW at H;have gh:VS c (bG s o.dst (.d (.bool b))) ((⟨t',marks R.fx.aH⟩:Act).put o.dst (.bool b)).tmps:=VS.bG (a:=⟨t',marks R.fx.aH⟩) h4 o.dst (.d _ _ (.bool b));obtain ⟨c2,fr,rr,u,e1,e2,e3,e4,e5,e6⟩:=H c0 c _ ea h0 (gq aK (eb h1)) rfl h3 hr bX gh h5 cs;refine ⟨c2,fr,rr,u,e1,e2,e3,e4,.head ?_ e5,e6⟩;simp only [cC.bM,List.map_cons,eB];rw [tI hi (eO hg c t' h4) (.inl cR),put_defers];rfl
end
end Go.ax
end
section
namespace Go.ax
open Go Go.RowKit
section
variable {G:List (Nat × DV)} {c:Cx}
end
section
variable {E:Env} {ae:FuncId} {R:bY} {s:List AV} {h:List ag} {lits:List Nat} {ops:Array Oper} {o:Oper} {l:List Oper} {k:List aG}
end
end Go.ax
end
section
namespace Go.ax
open Go Go.RowKit
theorem ig.mid {lim:Nat} {c:Cx} {g1 g2:List bU} {g:bU} (h:ig lim c (g1++g2)) (hg:iO lim c g) (hn:g.dc.Nodup) (hd:∀ x∈g.dc,x ∉ (g1++g2).flatMap bU.dc):ig lim c (g1++g::g2):=by
 refine ⟨fun r hr=>?_,?_⟩
 ·rcases List.mem_append.1 hr with hr | hr
  ·exact h.each r (List.mem_append_left _ hr)
  ·rcases List.mem_cons.1 hr with rfl | hr
   ·exact hg
   ·exact h.each r (List.mem_append_right _ hr)
 ·have hp:((g1++g::g2).flatMap bU.dc).Perm (g.dc++(g1++g2).flatMap bU.dc):=by
   have:=(List.perm_middle (a:=g) (l₁ := g1) (l₂ := g2)).flatMap_right bU.dc
   simpa using this
  rw [hp.nodup_iff,List.nodup_append];exact ⟨hn,h.nodup,fun x hx y hy e=>by subst e; exact hd x hx hy⟩
section
variable {lim:Nat} {c:Cx} {rows L:List bU}
theorem ep.push {g:bU} (h:ep lim c rows L) (hg:iO lim c g) (hn:g.dc.Nodup) (hd:∀ x∈g.dc,x ∉ (rows++L).flatMap bU.dc):ep lim c rows (g::L):=⟨h.all.mid hg hn hd,h.flat⟩
theorem ep.pop {g:bU} (h:ep lim c rows (g::L)):ep lim c rows L∧iO lim c g∧∀ x∈g.dc,x ∉ (rows++L).flatMap bU.dc:=by
 obtain ⟨h1,h2,h3⟩:=h.all.Ai;exact ⟨⟨h1,h.flat⟩,h2,h3⟩
theorem ep.old {G:List (Nat × DV)} (h:ep lim c rows L) (ho:aE G c) {b:Nat} (hb:b∈(rows++L).flatMap bU.dc):b<c.w.heap.size:=by
 obtain ⟨g,hg,hx⟩:=List.mem_flatMap.1 hb;exact ho.bD _ ((h.all.each g hg).au _ hx)
theorem Touch.putObj {l:Nat} {o:Obj} (hb:c.au l):Touch c l (c.w.putObj l o):=⟨hb,rfl,rfl,rfl,World.putObj_size,fun _ h=>World.putObj_heap_other h⟩
theorem ep.N8 {n r:Nat} {g g':bU} {w':World} (h:ep lim c rows L) (hl:L[n]? = some g) (hb:g.dc=[r]) (cP:g'.dc=[r]) (ht:Touch c r w') (hg:iO lim (c.dN w') g'):ep lim (c.dN w') rows (L.set n g'):=by
 have ai:=aZ hl;have e1:L=L.take n++g::L.drop (n+1):=by
  have mH:L[n]=g:=(List.getElem?_eq_some_iff.1 hl).2;rw [← mH,List.getElem_cons_drop,List.take_append_drop]
 have e2:L.set n g'=L.take n++g'::L.drop (n+1):=by
  rw [List.set_eq_take_append_cons_drop,if_pos ai]
 have h1:=h.all;rw [e1,← List.append_assoc] at h1;obtain ⟨k1,k2,k3⟩:=h1.Ai;rw [e2];refine ⟨?_,h.flat⟩;rw [← List.append_assoc];refine (ht.rows k1 (k3 r (by rw [hb]; simp))).mid hg (by rw [cP]; simp) (fun x hx=>?_);rw [cP] at hx;exact k3 x (by rw [hb]; exact hx)
end
def xw:List Nat→List AV→List AV→List AV
 |p::ps,a::l,s=>xw ps l (s.set p a)
 |_,_,s=>s
theorem N9 {c:Cx}:∀ {ps:List Nat} {l:List AV} {vs:List Value} {s:List AV} {t:Array Value},VS c s t→VL c l vs→VS c (xw ps l s) ((ps.zip vs).foldl (fun t (p,v)=>t.setIfInBounds p v) t)
 | [],_,_,_,_,h,_=>by simpa [xw] using h
 |_::_,[],[],_,_,h,_=>by simpa [xw] using h
 |_::_,_::_,[],_,_,_,hl=>by have:=hl.1; simp at this
 |_::_,[],_::_,_,_,_,hl=>by have:=hl.1; simp at this
 |p::ps,a::l,v::vs,s,t,h,hl=>by
  simp only [xw,List.zip_cons_cons,List.foldl_cons];exact N9 (h.put p hl.head.1) hl.head.2
theorem W7 {P : Program} {f : FuncId} {fn : Func} {b : Code} (hf : P.funcs[f]? = some fn) (hb : fn.body = some b) (hn : (fn.name == "runtime.NumGoroutine") = false) (args : Array Value) (w : World) : (callFunc f args).run P w = .ok (.enter f args) w := by
 simp only [callFunc,Sem.run_bind,Sem.run_pure,Result.andThen_ok,program,Sem.run,hf,hn,hb,Option.isNone_some,Bool.false_eq_true,if_false]
theorem N' {P:Program} {f:FuncId} {fn:Func} {b:Code} (hf:P.funcs[f]? = some fn) (hb:fn.body=some b) (vs:List Value) (s:List AV):Frame.enter P f vs.toArray .normal=(⟨⟨f,none,[]⟩,[.code b],s⟩:cC).bM (vs.toArray++Array.replicate (fn.ntmps - vs.toArray.size) undef):=by
 simp [Frame.enter,cC.bM,Frame.atR,hf,hb,bf,aG.bM,marks]
theorem W8 {P:Program} {b:Frame} {a:Act} {k:List Item} {cs:List Frame} {w:World} {ops:Array Oper} {i:Nat} {rest:List Nat} {o:Oper} {l:Nat} {f:FuncId} {tmps:Array Value} {assign body:Code} (ho:ops[i]? = some o) (hw:Region.wanted o (yielded ops a.tmps)=true)
  (hr:(execOp a.eval o).run P w = .ok (.round l f tmps assign body) w) :
  step P (lone (b.atR a (.inRegion ops (i::rest)::k)) cs w) = .next (lone (Frame.round l f tmps assign body .normal) (b.atR a (.inRegion ops (i::rest)::k)::cs) w):=by
 have hg:=stepGR_op (P:=P) (b:=b) (k:=k) (cs:=cs) (w:=w) (rest:=rest) ho hw;have tJ:=Bs (ro:=b.roundOf) hr (by simp);exact step_lone_go (by rw [hg]; simp [stepG.apply,tJ])
theorem Oa {P:Program} {G:List (Nat × DV)} {c0:Cx} {rows L:List bU} {cs:List Frame}:∀ (D:List Nat) (c:Cx) (fr:Frame),aE G c→fw c0 c→ep c0.w.heap.size c rows (D.map .mark++L)→fr.mode = .returning→fr.defers=marks D →
  ∃ c':Cx,c'.heap=c.heap∧aE G c'∧fw c0 c'∧ep c0.w.heap.size c' rows L∧(∀ x v,VR c x v→VR c' x v)∧Steps P (lone fr cs c.w) (lone { fr with defers:=[] } cs c'.w)
 | [],c,fr,h1,h2,h3,_,h5=>by
  refine ⟨c,rfl,h1,h2,h3,fun _ _ h=>h,?_⟩;have:{ fr with defers:=[] }=fr:=by cases fr; simp only at h5; subst h5; rfl
  rw [this];exact .refl _ _
 |d::D,c,fr,h1,h2,h3,h4,h5=>by
  obtain ⟨k1,k2,k3⟩:=h3.pop;have k2:rV c0.w.heap.size c d:=k2;have ht:Touch c d (c.w.putObj d (.deferred none)) := .putObj k2.au;have Gk:=ht.rows k1.all (k3 d (by simp [bU.dc]));obtain ⟨c',q1,q2,q3,q4,q5,q6⟩:=Oa D (c.dN (c.w.putObj d (.deferred none))) { fr with defers:=marks D } (ht.aK h1) (ht.rel h2 k2.new) ⟨Gk,k1.flat⟩ h4 rfl;refine ⟨c',q1,q2,q3,q4,fun x v hv=>q5 x v (ht.vr hv),.head ?_ q6⟩;exact step_collected (calls:=[]) (by rw [h4]; simp) h5 rfl (run_takeDeferred k2.mem)
theorem Hm {E:Env} (hE:E.OK) {fn:Func} {s:List AV} {h:List ag} {K:AV→List ag→Prop} (H:nk E.T s h fn.results.toList False K) :
  ∃ r,K r h∧∀ (c:Cx) (t:Array Value),c.heap=h→aE E.G c→VS c s t→∃ v,VR c r v∧(results fn t).run E.P c.w = .ok v c.w:=by
 unfold nk at H;rcases Bw hE H with h' | ⟨l,H,hl⟩
 ·cases h'
 split at H
 ·rename_i x;refine ⟨x,H,fun c t e1 e2 e3=>?_⟩;obtain ⟨vs,g1,g2⟩:=hl c t e1 e2 e3;cases vs with
  |nil=>have:=g1.1; simp at this
  |cons v vs=>cases vs with
   |cons u vs=>have:=g1.1; simp at this
   |nil=>exact ⟨v,g1.head.1,ED g2⟩
 ·rename_i aJ;refine ⟨_,H,fun c t e1 e2 e3=>?_⟩;obtain ⟨vs,g1,g2⟩:=hl c t e1 e2 e3;refine ⟨.tuple vs.toArray,.aL _ _ (by simpa using g1.1) fun j x v hx hu=>g1.2 j x v hx (by simpa using hu),?_⟩;have:=ED g2;cases vs with
  |nil=>exact this
  |cons v vs=>cases vs with
   |nil =>
    have:=g1.1;cases l with
    |nil=>simp at this
    |cons x l=>cases l with
     |nil=>exact absurd rfl (aJ x)
     |cons y l=>simp at this
   |cons u vs=>exact this
section
variable {E:Env} {ae:FuncId} {R:bY} {s:List AV} {h:List ag} {lits:List Nat} {ops:Array Oper} {o:Oper} {l:List Oper} {k:List aG}
theorem aa.rangeFunc {g : Operand} {ps : Array Tmp} {assign body Ob : Code} {gf : FuncId} {a1 a2 : List AV} {fn : Func} (hg : bp E.G s g (.fn (.func gf) a1 a2)) (hf : E.P.funcs[gf]? = some fn) (hb : fn.body = some Ob) (hn : (fn.name == "runtime.NumGoroutine") = false) (lr : R.fx.cE = none)
  (H:∀ (ll d:Nat) (t:Array Value),aa E gf ⟨R.n,R.Q,R.rows,⟨R.fx.f0,none,[],⟨⟨ae,none,d::R.fx.aH⟩,.ql ll::k,s⟩::R.fx.cls,.loop ⟨ll,d,.ready,none,ae,t,ps,assign,body,s⟩ :: .mark d::R.fx.loops,R.fx.inl⟩⟩ [] [.code Ob] (nj (a1++[.fn (.yield ll) [] []]++a2) fn.ntmps) h) :
  aa E ae R lits (.code (.rangeFunc g ps assign body)::k) s h:=by
 have e:(⟨ae,R.fx.cE,R.fx.aH⟩:ie)=⟨ae,none,R.fx.aH⟩:=by rw [lr]
 refine .of ?_;rw [e];unfold AW;intro c0 c t ts h0 h1 h2 h3 hr bX h4 h5 cs;subst h2;obtain ⟨v1,v2,e1,e2,e3⟩:=lP (hg c ⟨t,marks R.fx.aH⟩ h3 h4);obtain ⟨i,hi⟩:∃ i:mA,i=⟨c.w.heap.size+1,c.w.heap.size,.ready,none,ae,t,ps,assign,body,s⟩:=⟨_,rfl⟩;have bP:(c.cG (.deferred (some []))).w.heap.size=c.w.heap.size+1:=by simp [Cx.cG]
 have gu:aE E.G (c.cG (.deferred (some []))):=h3.cG;have lj:aE E.G ((c.cG (.deferred (some []))).cG (.loop i.fj)):=gu.cG;have zZ:fw c0 ((c.cG (.deferred (some []))).cG (.loop i.fj)):=hr.cG.cG;have lM:∀ x v,VR c x v→VR ((c.cG (.deferred (some []))).cG (.loop i.fj)) x v:=fun x v hv=>sy (sy hv);have iM:i.l=c.w.heap.size+1:=by rw [hi]
 have Ak:ep c0.w.heap.size ((c.cG (.deferred (some []))).cG (.loop i.fj)) R.rows (.loop i :: .mark c.w.heap.size::R.fx.loops):=by
  have b0:ep c0.w.heap.size ((c.cG (.deferred (some []))).cG (.loop i.fj)) R.rows R.fx.loops:=⟨(bX.all.cG h3).cG gu,bX.flat⟩;have b1:ep c0.w.heap.size ((c.cG (.deferred (some []))).cG (.loop i.fj)) R.rows (.mark c.w.heap.size::R.fx.loops):=by
   refine b0.push (g := .mark c.w.heap.size) (show rV _ _ _ from ⟨.inl (.inr rfl),hr.size,?_⟩) (by simp [bU.dc]) (fun x hx hm=>?_)
   ·show ((c.w.alloc (.deferred (some []))).alloc (.loop i.fj)).heap[c.w.heap.size]? = _;rw [Below.heap_alloc _ _ _ (by simp)];exact heap_alloc_new _ _
   ·simp [bU.dc] at hx;subst hx;have:=bX.old h3 hm;omega
  refine b1.push (g := .loop i) (show oc _ _ _ from ⟨.inr (by rw [iM,bP]),by rw [iM]; have:=hr.size; omega,?_,?_⟩) (by simp [bU.dc]) (fun x hx hm=>?_)
  ·show ((c.w.alloc (.deferred (some []))).alloc (.loop i.fj)).heap[i.l]? = _;rw [iM,show c.w.heap.size+1=(c.w.alloc (.deferred (some []))).heap.size by simp];exact heap_alloc_new _ _
  ·have es:i.jh=s:=by rw [hi]
   have et:i.tm=t:=by rw [hi]
   rw [es,et];exact ⟨h4.1,fun j x v hx hv=>lM x v (h4.2 j x v hx hv)⟩
  ·simp [bU.dc] at hx;subst hx;rw [List.flatMap_append,List.mem_append,List.flatMap_cons,List.mem_append] at hm;rcases hm with hm | hm | hm
   ·have:=bX.old h3 (b:=i.l) (by rw [List.flatMap_append]; exact List.mem_append_left _ hm);omega
   ·simp [bU.dc] at hm;omega
   ·have:=bX.old h3 (b:=i.l) (by rw [List.flatMap_append]; exact List.mem_append_right _ hm);omega
 have H:=(H (c.w.heap.size+1) c.w.heap.size t).to;rw [← hi] at H;unfold AW at H;have jK:VL ((c.cG (.deferred (some []))).cG (.loop i.fj)) (a1++[.fn (.yield (c.w.heap.size+1)) [] []]++a2) (v1++[.func (.yield (c.w.heap.size+1)) #[] #[]]++v2):=by
  have lift:∀ {x:List AV} {u:List Value},VL c x u→VL ((c.cG (.deferred (some []))).cG (.loop i.fj)) x u:=fun hx=>⟨hx.1,fun j x v h1 h2=>lM x v (hx.2 j x v h1 h2)⟩;exact ((lift e2).append (.cons (.fn _ _ _ _ _ rfl rfl (fun j x v hx=>by simp at hx) (fun j x v hx=>by simp at hx)) .nil)).append (lift e3)
 obtain ⟨c2,fr,r,v,q1,q2,q3,q4,q5,q6⟩:=H c0 ((c.cG (.deferred (some []))).cG (.loop i.fj)) _ (t::ts) h0 (fun x hx=>by simp at hx; subst hx; trivial) rfl lj zZ Ak (Ex fn.ntmps jK) ⟨⟨h4.1,fun j x v hx hv=>lM x v (h4.2 j x v hx hv)⟩,gq trivial (eb h1),qm lM h5⟩ cs;refine ⟨c2,fr,r,v,q1,q2,q3,q4,.head ?_ q5,q6⟩;have ny:=run_enterLoop_outer (P:=E.P) (w:=c.w) ae t ps assign body;have W9:(Loop.mk .ready none ae t ps assign body c.w.heap.size)=i.fj:=by rw [hi]; rfl
 rw [W9] at ny;have Hn:(resolve (⟨t,marks R.fx.aH⟩:Act).eval (rangeCall g (c.w.heap.size+1)) 0).run E.P ((c.w.alloc (.deferred (some []))).alloc (.loop i.fj)) = .ok { target := .fn (.func gf) v2.toArray,args:=v1.toArray ++ #[.func (.yield (c.w.heap.size+1)) #[] #[]] } ((c.w.alloc (.deferred (some []))).alloc (.loop i.fj)):=by
  have hy:∀ l:Nat,#[Operand.const (Value.func (Fn.yield l) #[] #[])].map (⟨t,marks R.fx.aH⟩:Act).eval = #[.func (.yield l) #[] #[]]:=fun _=>by simp [Act.eval]
  simp only [resolve,rangeCall,e1,Deferred.ofValue,Sem.run_pure,hy]
 have hinv:(invoke (Target.fn (.func gf) v2.toArray) (v1.toArray ++ #[.func (.yield (c.w.heap.size+1)) #[] #[]])).run E.P ((c.w.alloc (.deferred (some []))).alloc (.loop i.fj)) = .ok (.enter gf (v1++[Value.func (.yield (c.w.heap.size+1)) #[] #[]]++v2).toArray) ((c.w.alloc (.deferred (some []))).alloc (.loop i.fj)):=by
  simp only [invoke];rw [W7 hf hb hn]
  congr 2
  apply Array.ext';simp
 have hs:=stepR_rangeFunc (P:=E.P) (b:=bf ⟨ae,none,R.fx.aH⟩) (a:=⟨t,marks R.fx.aH⟩) (k:=k.map aG.bM) (cs:=eY R.fx.cls ts++cs) ny Hn hinv;rw [N' hf hb _ (nj (a1++[.fn (.yield (c.w.heap.size+1)) [] []]++a2) fn.ntmps)] at hs;exact hs
theorem aa.yield (n:Nat) {i:mA} {fx:Operand} {args:Array Operand} {ts:Array TypeId} {av:List AV} (hl:R.fx.loops[n]? = some (.loop i)) (hg:o.guard=none) (cm:o.op = .call { callee := .value fx,args:=args,argTypes:=ts }) (hf:bp E.G s fx (.fn (.yield i.l) [] [])) (ha:gU E.G s args.toList av) (hlen:av.length=i.ps.size)
  (H:aa E i.fn ⟨R.n,R.Q,R.rows,⟨R.fx.f0,some i.l,[],⟨⟨ae,R.fx.cE,R.fx.aH⟩,.bE ops (o::l)::k,s⟩::R.fx.cls,R.fx.loops,R.fx.inl⟩⟩ [] [.code i.assign,.tF,.code i.body] (xw i.ps.toList av i.jh) h):aa E ae R lits (.bE ops (o::l)::k) s h:=by
 refine .of ?_;unfold AW;intro c0 c t tt h0 h1 h2 h3 hr bX h4 h5 cs;subst h2;obtain ⟨j,hj,eB,aK⟩:=mB (h1 _ (List.mem_cons_self ..));have hi:oc c0.w.heap.size c i:=bX.all.each _ (List.mem_append_right _ (List.mem_of_getElem? hl));obtain ⟨v1,v2,e1,e2,e3⟩:=lP (hf c ⟨t,marks R.fx.aH⟩ h3 h4);obtain rfl:v1=[]:=List.eq_nil_of_length_eq_zero (by simpa using e2.1.symm);obtain rfl:v2=[]:=List.eq_nil_of_length_eq_zero (by simpa using e3.1.symm);have e4:=ha c ⟨t,marks R.fx.aH⟩ h3 h4;have H:=H.to;unfold AW at H;have gr:(#[]++args.map (⟨t,marks R.fx.aH⟩:Act).eval).size=i.fj.params.size:=by
  have:=e4.1;simp at this ⊢;rw [← this,hlen];rfl
 have gh:=N9 (ps:=i.ps.toList) hi.jh e4;obtain ⟨c2,fr,r,v,q1,q2,q3,q4,q5,q6⟩:=H c0 c _ (t::tt) h0 (fun x hx=>by simp at hx; rcases hx with rfl | rfl | rfl <;> trivial) rfl h3 hr bX gh ⟨h4,h1,h5⟩ cs;refine ⟨c2,fr,r,v,q1,q2,q3,q4,.head ?_ q5,q6⟩;have cR:(execOp (⟨t,marks R.fx.aH⟩:Act).eval o).run E.P c.w = .ok (.round i.l i.fn ((i.ps.toList.zip (args.toList.map (⟨t,marks R.fx.aH⟩:Act).eval)).foldl (fun t (p,v)=>t.setIfInBounds p v) i.tm) i.assign i.body) c.w:=by
  have hy:=run_yield (P:=E.P) hi.mem gr;simp only [execOp,cm,resolve,e1,Deferred.ofValue,invoke,Sem.run_bind,Sem.run_pure,Result.andThen_ok,hy]
  congr 2
  rw [← Array.foldl_toList,Array.toList_zip];simp [mA.fj]
 have hs:=W8 (P:=E.P) (b:=bf ⟨ae,R.fx.cE,R.fx.aH⟩) (a:=⟨t,marks R.fx.aH⟩) (k:=k.map aG.bM) (cs:=eY R.fx.cls tt++cs) (rest:=(List.range ops.size).drop (ops.size - l.length)) hj (eO hg c t h4) cR;simp only [cC.bM,List.map_cons,eY,eB,List.cons_append];exact hs
theorem aa.begin (n:Nat) {i:mA} (hl:R.fx.loops[n]? = some (.loop i)) (lr:R.fx.cE=some i.l) (aR:i.st = .ready)
  (H:aa E ae ⟨R.n,R.Q,R.rows,⟨R.fx.f0,some i.l,R.fx.aH,R.fx.cls,R.fx.loops.set n (.loop { i with st := .busy }),R.fx.inl⟩⟩ lits k s h):aa E ae R lits (.tF::k) s h:=by
 have e:(⟨ae,R.fx.cE,R.fx.aH⟩:ie)=⟨ae,some i.l,R.fx.aH⟩:=by rw [lr]
 refine .of ?_;rw [e];unfold AW;intro c0 c t tt h0 h1 h2 h3 hr bX h4 h5 cs;subst h2;have hi:oc c0.w.heap.size c i:=bX.all.each _ (List.mem_append_right _ (List.mem_of_getElem? hl));have ht:Touch c i.l (c.w.putObj i.l (.loop { i with st := .busy }.fj)) := .putObj hi.au;have ai:=h3.bD _ hi.au;have Ak:ep c0.w.heap.size (c.dN (c.w.putObj i.l (.loop { i with st := .busy }.fj))) R.rows (R.fx.loops.set n (.loop { i with st := .busy })) :=
  bX.N8 hl rfl rfl ht (show oc _ _ _ from ⟨hi.au,hi.new,World.putObj_heap_same ai,⟨hi.jh.1,fun j x v hx hv=>ht.vr (hi.jh.2 j x v hx hv)⟩⟩)
 have H:=H.to;unfold AW at H;obtain ⟨c2,fr,r,v,q1,q2,q3,q4,q5,q6⟩:=H c0 (c.dN (c.w.putObj i.l (.loop { i with st := .busy }.fj))) t tt h0 (eb h1) rfl (ht.aK h3) (ht.rel hr hi.new) Ak ⟨h4.1,fun j x v hx hv=>ht.vr (h4.2 j x v hx hv)⟩ (qm (fun _ _=>ht.vr) h5) cs;refine ⟨c2,fr,r,v,q1,q2,q3,q4,.head ?_ q5,q6⟩;exact stepR_beginRound (b:=bf ⟨ae,some i.l,R.fx.aH⟩) (a:=⟨t,marks R.fx.aH⟩) (k:=k.map aG.bM) rfl (run_beginRound hi.mem aR)
theorem aa.Oc (n:Nat) {i:mA} (jump:Option Code) {td:List aG} {fd:ie} {jz:Array Oper} {o1:Oper} {l1:List Oper} {k1:List aG} {s1:List AV} {iX:List cC}
  (hj:∀ (b:Frame) (a:Act) (cf:Frame) (cs:List Frame) (w w':World) (v:Value),b.roundOf=some i.l→b.kind = .normal→(Instr.endRound i.l jump).run E.P w = .ok v w'→step E.P (lone (b.atR a (td.map aG.bM)) (cf::cs) w) = .next (lone (cf.finish v) cs w'))
  (hl:R.fx.loops[n]? = some (.loop i)) (lr:R.fx.cE=some i.l) (hc:R.fx.cls=⟨fd,.bE jz (o1::l1)::k1,s1⟩::iX)
  (H:aa E fd.f ⟨R.n,R.Q,R.rows,⟨R.fx.f0,fd.cE,fd.aH,iX,R.fx.loops.set n (.loop { i with st:=if jump.isNone then .ready else .done,pe:=jump }),R.fx.inl⟩⟩ [] (.bE jz l1::k1) (bG s1 o1.dst (.d (.bool jump.isNone))) h):aa E ae R lits td s h:=by
 have e:(⟨ae,R.fx.cE,R.fx.aH⟩:ie)=⟨ae,some i.l,R.fx.aH⟩:=by rw [lr]
 refine .of ?_;rw [e,hc];unfold AW;intro c0 c t tt h0 h1 h2 h3 hr bX h4 h5 cs;subst h2;obtain ⟨t1,iY,rfl⟩:∃ t1 iY,tt=t1::iY:=by
  cases tt with
  |nil=>exact h5.elim
  |cons t1 iY=>exact ⟨_,_,rfl⟩
 obtain ⟨c4,c5,c6⟩:=h5;obtain ⟨j,CS,eB,aK⟩:=mB (c5 _ (List.mem_cons_self ..));have hi:oc c0.w.heap.size c i:=bX.all.each _ (List.mem_append_right _ (List.mem_of_getElem? hl));obtain ⟨i2,pB⟩:∃ i2:mA,i2={ i with st:=if jump.isNone then .ready else .done,pe:=jump }:=⟨_,rfl⟩;rw [← pB] at H;have Db:i2.l=i.l:=by rw [pB]
 have es:i2.jh=i.jh:=by rw [pB]
 have et:i2.tm=i.tm:=by rw [pB]
 have ht:Touch c i.l (c.w.putObj i.l (.loop i2.fj)) := .putObj hi.au;have ai:=h3.bD _ hi.au;have Ak:ep c0.w.heap.size (c.dN (c.w.putObj i.l (.loop i2.fj))) R.rows (R.fx.loops.set n (.loop i2)) :=
  bX.N8 hl rfl (by simp [bU.dc,Db]) ht (show oc _ _ _ from ⟨by rw [Db]; exact hi.au,by rw [Db]; exact hi.new,by rw [Db]; exact World.putObj_heap_same ai,by rw [es,et]; exact ⟨hi.jh.1,fun j x v hx hv=>ht.vr (hi.jh.2 j x v hx hv)⟩⟩)
 have H:=H.to;unfold AW at H;have tK:VS (c.dN (c.w.putObj i.l (.loop i2.fj))) (bG s1 o1.dst (.d (.bool jump.isNone))) ((⟨t1,marks fd.aH⟩:Act).put o1.dst (.bool jump.isNone)).tmps :=
  VS.bG (a:=⟨t1,marks fd.aH⟩) ⟨c4.1,fun j x v hx hv=>ht.vr (c4.2 j x v hx hv)⟩ o1.dst (.d _ _ (.bool _))
 obtain ⟨c2,fr,r,v,q1,q2,q3,q4,q5,q6⟩:=H c0 (c.dN (c.w.putObj i.l (.loop i2.fj))) _ iY h0 (gq aK (eb c5)) rfl (ht.aK h3) (ht.rel hr hi.new) Ak tK (qm (fun _ _=>ht.vr) c6) cs;refine ⟨c2,fr,r,v,q1,q2,q3,q4,.head ?_ q5,q6⟩;have cR:(Instr.endRound i.l jump).run E.P c.w = .ok (.bool jump.isNone) (c.w.putObj i.l (.loop i2.fj)):=by
  have:=run_endRound (P:=E.P) jump hi.mem;rw [pB];exact this
 have hs:=hj (bf ⟨ae,some i.l,R.fx.aH⟩) ⟨t,marks R.fx.aH⟩ ((⟨fd,.bE jz (o1::l1)::k1,s1⟩:cC).bM t1) (eY iX iY++cs) c.w _ _ rfl rfl cR;have fy:((⟨fd,.bE jz (o1::l1)::k1,s1⟩:cC).bM t1).finish (.bool jump.isNone)=(⟨⟨fd.f,fd.cE,fd.aH⟩,.bE jz l1::k1,bG s1 o1.dst (.d (.bool jump.isNone))⟩:cC).bM ((⟨t1,marks fd.aH⟩:Act).put o1.dst (.bool jump.isNone)).tmps:=by
  simp only [cC.bM,List.map_cons,eB];rw [Frame.finish_atR,CS];simp only [Option.bind_some];rw [put_defers];rfl
 rw [fy] at hs;exact hs
theorem aa.Al (n:Nat) {i:mA} {fd:ie} {jz:Array Oper} {o1:Oper} {l1:List Oper} {k1:List aG} {s1:List AV} {iX:List cC} (hl:R.fx.loops[n]? = some (.loop i)) (lr:R.fx.cE=some i.l) (hc:R.fx.cls=⟨fd,.bE jz (o1::l1)::k1,s1⟩::iX)
  (H:aa E fd.f ⟨R.n,R.Q,R.rows,⟨R.fx.f0,fd.cE,fd.aH,iX,R.fx.loops.set n (.loop { i with st := .ready,pe:=none }),R.fx.inl⟩⟩ [] (.bE jz l1::k1) (bG s1 o1.dst (.d (.bool true))) h):aa E ae R lits [] s h :=
 .Oc n none (fun b a cf cs w w' v h1 h2 h3=>stepR_round_end h1 h2 h3) hl lr hc H
theorem aa.Xa (n:Nat) {i:mA} {fd:ie} {jz:Array Oper} {o1:Oper} {l1:List Oper} {k1:List aG} {s1:List AV} {iX:List cC} (hl:R.fx.loops[n]? = some (.loop i)) (lr:R.fx.cE=some i.l) (hc:R.fx.cls=⟨fd,.bE jz (o1::l1)::k1,s1⟩::iX)
  (H:aa E fd.f ⟨R.n,R.Q,R.rows,⟨R.fx.f0,fd.cE,fd.aH,iX,R.fx.loops.set n (.loop { i with st := .done,pe:=some .ret }),R.fx.inl⟩⟩ [] (.bE jz l1::k1) (bG s1 o1.dst (.d (.bool false))) h):aa E ae R lits (.code .ret::k) s h :=
 .Oc n (some .ret) (fun b a cf cs w w' v h1 h2 h3=>stepR_round_ret h1 h2 h3) hl lr hc H
theorem aa.nQ {fx : Operand} {args : Array Operand} {ts : Array TypeId} {f : FuncId} {fn : Func} {b : Code} {a1 a2 av : List AV} (hg : o.guard = none) (cm : o.op = .call { callee := .value fx, args := args, argTypes := ts }) (Xb : bp E.G s fx (.fn (.func f) a1 a2)) (ha : gU E.G s args.toList av) (hf : E.P.funcs[f]? = some fn) (hb : fn.body = some b) (hn : (fn.name == "runtime.NumGoroutine") = false)
  (H:aa E f ⟨R.n,R.Q,R.rows,⟨R.fx.f0,none,[],⟨⟨ae,R.fx.cE,R.fx.aH⟩,.bE ops (o::l)::k,s⟩::R.fx.cls,R.fx.loops,R.fx.inl⟩⟩ [] [.code b] (nj (a1++av++a2) fn.ntmps) h):aa E ae R lits (.bE ops (o::l)::k) s h:=by
 refine .of ?_;unfold AW;intro c0 c t tt h0 h1 h2 h3 hr bX h4 h5 cs;subst h2;obtain ⟨j,hj,eB,aK⟩:=mB (h1 _ (List.mem_cons_self ..));obtain ⟨v1,v2,e1,e2,e3⟩:=lP (Xb c ⟨t,marks R.fx.aH⟩ h3 h4);have e4:=ha c ⟨t,marks R.fx.aH⟩ h3 h4;have e5:=(e2.append e4).append e3;have H:=H.to;unfold AW at H;obtain ⟨c2,fr,r,v,q1,q2,q3,q4,q5,q6⟩:=H c0 c _ (t::tt) h0 (fun x hx=>by simp at hx; subst hx; trivial) rfl h3 hr bX (Ex fn.ntmps e5) ⟨h4,h1,h5⟩ cs;refine ⟨c2,fr,r,v,q1,q2,q3,q4,.head ?_ q5,q6⟩;have cR:=yy (P:=E.P) (w:=c.w) (a:=⟨t,marks R.fx.aH⟩) cm e1 ⟨fn,hf,by rw [hb]; rfl,hn⟩;have jK:(v1.toArray++args.map (⟨t,marks R.fx.aH⟩:Act).eval++v2.toArray)=(v1++args.toList.map (⟨t,marks R.fx.aH⟩:Act).eval++v2).toArray:=by
  apply Array.ext';simp
 rw [jK] at cR;have hs:=Ey (P:=E.P) (b:=bf ⟨ae,R.fx.cE,R.fx.aH⟩) (a:=⟨t,marks R.fx.aH⟩) (k:=k.map aG.bM) (cs:=eY R.fx.cls tt++cs) (rest:=(List.range ops.size).drop (ops.size - l.length)) hj (eO hg c t h4) cR;rw [N' hf hb _ (nj (a1++av++a2) fn.ntmps)] at hs;simp only [cC.bM,List.map_cons,eY,eB,List.cons_append] at hs ⊢;exact hs
def xx:List aG→Bool
 | []=>true
 | .code .ret::_=>true
 |_=>false
theorem Xc {P:Program} {fd:ie} (hr:fd.cE=none) {td:List aG} (h:xx td=true) (a:Act) (cs:List Frame) (w:World):step P (lone ((bf fd).atR a (td.map aG.bM)) cs w) = .next (lone { (bf fd).atR a (td.map aG.bM) with mode := .returning } cs w):=by
 unfold xx at h;split at h
 ·exact stepR_end hr
 ·exact stepR_ret hr
 ·cases h
theorem Ho {P:Program} {G:List (Nat × DV)} {c0 c:Cx} {ae:FuncId} {fn:Func} {aH:List Nat} {rows L:List bU} {td:List aG} {s:List AV} {t:Array Value} {r:AV} (hf:P.funcs[ae]? = some fn) (oe:xx td=true) (ho:aE G c) (hr:fw c0 c) (bX:ep c0.w.heap.size c rows (aH.map .mark++L)) (hs:VS c s t)
  (Hn:∀ (c':Cx) (t:Array Value),c'.heap=c.heap→aE G c'→VS c' s t→∃ v,VR c' r v∧(results fn t).run P c'.w = .ok v c'.w) (cs:List Frame) :
  ∃ (c':Cx) (fr:Frame) (v:Value),c'.heap=c.heap∧aE G c'∧fw c0 c'∧ep c0.w.heap.size c' rows L∧(∀ x u,VR c x u→VR c' x u)∧VR c' r v∧Steps P (lone ((⟨⟨ae,none,aH⟩,td,s⟩:cC).bM t) cs c.w) (lone fr cs c'.w)∧fr.fn=ae∧fr.leaving P c'.w (.returned v):=by
 obtain ⟨c',q1,q2,q3,q4,q5,q6⟩:=Oa (P:=P) (cs:=cs) aH c { (bf ⟨ae,none,aH⟩).atR ⟨t,marks aH⟩ (td.map aG.bM) with mode := .returning } ho hr bX rfl rfl;obtain ⟨v,p1,p2⟩:=Hn c' t q1 q2 ⟨hs.1,fun j x v hx hv=>q5 x v (hs.2 j x v hx hv)⟩;exact ⟨c',_,v,q1,q2,q3,q4,q5,p1,.head (Xc rfl oe _ _ _) q6,rfl,rfl,rfl,rfl,fn,hf,p2⟩
theorem aa.Hp (hE:E.OK) {fn:Func} {L:List bU} {td:List aG} (hf:E.P.funcs[ae]? = some fn) (oe:xx td=true) (lr:R.fx.cE=none) (hc:R.fx.cls=[]) (h0:R.fx.f0=ae) (hL:R.fx.loops=R.fx.aH.map .mark++L) (H:nk E.T s h fn.results.toList False R.Q):aa E ae R lits td s h:=by
 have e:(⟨ae,R.fx.cE,R.fx.aH⟩:ie)=⟨ae,none,R.fx.aH⟩:=by rw [lr]
 refine .of ?_;rw [e,hc,h0];unfold AW;intro c0 c t tt h0 h1 h2 h3 hr bX h4 h5 cs;obtain ⟨r,k1,k2⟩:=Hm hE H;subst h2;rw [hL] at bX;obtain ⟨c',fr,v,q1,q2,q3,q4,q5,q6,q7,q8,q9⟩:=Ho hf oe h3 hr bX h4 k2 (eY [] tt++cs);have mD:eY [] tt=[]:=by cases tt <;> rfl
 rw [mD] at q7 ⊢;exact ⟨c',fr,r,v,by rw [q1]; exact k1,q6,q2,q3,q7,q8,q9⟩
theorem aa.nR (hE:E.OK) {fn:Func} {L:List bU} {td:List aG} {fd:ie} {jz:Array Oper} {o1:Oper} {l1:List Oper} {k1:List aG} {s1:List AV} {iX:List cC} (hf:E.P.funcs[ae]? = some fn) (oe:xx td=true) (lr:R.fx.cE=none) (hc:R.fx.cls=⟨fd,.bE jz (o1::l1)::k1,s1⟩::iX) (hL:R.fx.loops=R.fx.aH.map .mark++L)
  (H:nk E.T s h fn.results.toList False fun r h'=>bJ s1 o1.dst r fun s'=>aa E fd.f ⟨R.n,R.Q,R.rows,⟨R.fx.f0,fd.cE,fd.aH,iX,L,R.fx.inl⟩⟩ [] (.bE jz l1::k1) s' h'):aa E ae R lits td s h:=by
 have e:(⟨ae,R.fx.cE,R.fx.aH⟩:ie)=⟨ae,none,R.fx.aH⟩:=by rw [lr]
 refine .of ?_;rw [e,hc];unfold AW;intro c0 c t tt h0 h1 h2 h3 hr bX h4 h5 cs;obtain ⟨r,H,k2⟩:=Hm hE H;subst h2;rw [hL] at bX;obtain ⟨t1,iY,rfl⟩:∃ t1 iY,tt=t1::iY:=by
  cases tt with
  |nil=>exact h5.elim
  |cons t1 iY=>exact ⟨_,_,rfl⟩
 obtain ⟨c4,c5,c6⟩:=h5;obtain ⟨j,CS,eB,aK⟩:=mB (c5 _ (List.mem_cons_self ..));obtain ⟨c',fr,v,q1,q2,q3,q4,q5,q6,q7,q8,q9⟩:=Ho hf oe h3 hr bX h4 k2 (eY (⟨fd,.bE jz (o1::l1)::k1,s1⟩::iX) (t1::iY)++cs);rw [di] at H;have H:=H.to;unfold AW at H;have tK:VS c' (bG s1 o1.dst r) ((⟨t1,marks fd.aH⟩:Act).put o1.dst v).tmps:=VS.bG (a:=⟨t1,marks fd.aH⟩) ⟨c4.1,fun j x v hx hv=>q5 x v (c4.2 j x v hx hv)⟩ o1.dst q6;obtain ⟨c2,tL,r2,v2,p1,p2,p3,p4,p5,p6⟩:=H c0 c' _ iY h0 (gq aK (eb c5)) q1 q2 q3 q4 tK (qm q5 c6) cs;refine ⟨c2,tL,r2,v2,p1,p2,p3,p4,q7.trans (.head ?_ p5),p6⟩;have hs:=step_leave_returned (c:=(⟨fd,.bE jz (o1::l1)::k1,s1⟩:cC).bM t1) (cs:=eY iX iY++cs) q9;have fy:((⟨fd,.bE jz (o1::l1)::k1,s1⟩:cC).bM t1).finish v=(⟨⟨fd.f,fd.cE,fd.aH⟩,.bE jz l1::k1,bG s1 o1.dst r⟩:cC).bM ((⟨t1,marks fd.aH⟩:Act).put o1.dst v).tmps:=by
  simp only [cC.bM,List.map_cons,eB];rw [Frame.finish_atR,CS];simp only [Option.bind_some];rw [put_defers];rfl
 rw [fy] at hs;exact hs
def Hq:Option Code→List aG→List aG
 |some c,k => .code c::k
 |none,k=>k
theorem aa.xy (hE:E.OK) {fn:Func} {L:List bU} {td:List aG} {i:mA} {fd:ie} {k1:List aG} {s1:List AV} {iX:List cC} (hf:E.P.funcs[ae]? = some fn) (oe:xx td=true) (lr:R.fx.cE=none) (hc:R.fx.cls=⟨fd,.ql i.l::k1,s1⟩::iX) (hL:R.fx.loops=R.fx.aH.map .mark ++ .loop i::L) (aR:i.st ≠ .busy)
  (H:nk E.T s h fn.results.toList False fun _ _=>aa E fd.f ⟨R.n,R.Q,R.rows,⟨R.fx.f0,fd.cE,fd.aH,iX,L,R.fx.inl⟩⟩ [] (Hq i.pe k1) s1 h):aa E ae R lits td s h:=by
 have e:(⟨ae,R.fx.cE,R.fx.aH⟩:ie)=⟨ae,none,R.fx.aH⟩:=by rw [lr]
 refine .of ?_;rw [e,hc];unfold AW;intro c0 c t tt h0 h1 h2 h3 hr bX h4 h5 cs;obtain ⟨r,H,k2⟩:=Hm hE H;subst h2;rw [hL] at bX;obtain ⟨t1,iY,rfl⟩:∃ t1 iY,tt=t1::iY:=by
  cases tt with
  |nil=>exact h5.elim
  |cons t1 iY=>exact ⟨_,_,rfl⟩
 obtain ⟨c4,c5,c6⟩:=h5;obtain ⟨c',fr,v,q1,q2,q3,q4,q5,q6,q7,q8,q9⟩:=Ho hf oe h3 hr bX h4 k2 (eY (⟨fd,.ql i.l::k1,s1⟩::iX) (t1::iY)++cs);obtain ⟨g1,g2,g3⟩:=q4.pop;have g2:oc c0.w.heap.size c' i:=g2;obtain ⟨o2,wP⟩:∃ o2:Obj,o2 = .loop { i.fj with state := .exhausted }:=⟨_,rfl⟩;have ht:Touch c' i.l (c'.w.putObj i.l o2) := .putObj g2.au;have H:=H.to;unfold AW at H;have Xd:(∀ x∈Hq i.pe k1,x.ok):=by
  cases i.pe with
  |none=>exact eb c5
  |some c=>exact gq trivial (eb c5)
 obtain ⟨c2,tL,r2,v2,p1,p2,p3,p4,p5,p6⟩:=H c0 (c'.dN (c'.w.putObj i.l o2)) t1 iY h0 Xd q1 (ht.aK q2) (ht.rel q3 g2.new) ⟨ht.rows g1.all (g3 i.l (by simp [bU.dc])),g1.flat⟩ ⟨c4.1,fun j x v hx hv=>ht.vr (q5 x v (c4.2 j x v hx hv))⟩ (qm (fun x v hv=>ht.vr (q5 x v hv)) c6) cs;refine ⟨c2,tL,r2,v2,p1,p2,p3,p4,q7.trans (.head (step_leave_returned q9) (.head ?_ p5)),p6⟩;have fy:((⟨fd,.ql i.l::k1,s1⟩:cC).bM t1).finish v=(bf fd).atR ⟨t1,marks fd.aH⟩ (.endRangeFunc i.l::k1.map aG.bM):=by
  simp only [cC.bM,List.map_cons,aG.bM];exact finish_atR_inRangeFunc _ _
 have Xe:(Instr.endLoop i.l).run E.P c'.w = .ok i.pe (c'.w.putObj i.l o2):=by
  have:=run_endLoop (P:=E.P) g2.mem aR;rw [wP];exact this
 have hs:=stepR_endRangeFunc (P:=E.P) (b:=bf fd) (a:=⟨t1,marks fd.aH⟩) (k:=k1.map aG.bM) (cs:=eY iX iY++cs) Xe;rw [← fy] at hs;have E3:(i.pe.map Item.code).toList++k1.map aG.bM=(Hq i.pe k1).map aG.bM:=by cases i.pe <;> rfl
 rw [E3] at hs;exact hs
end
end Go.ax
end
section
namespace Go.ax
open Go Go.RowKit
section
variable {E:Env} {s:List AV} {h:List ag}
end
section
variable {E:Env} {ae:FuncId} {R:bY} {td:List aG} {s:List AV} {h:List ag} {lits:List Nat} {ops:Array Oper} {o:Oper} {l:List Oper} {k:List aG}
theorem aa.entry {x:Operand} {it:Iter} {g1 g2:List bU} {pre:List Nat} {j:Nat} {kk y:DV} (hg:o.guard=none) (cm:o.op = .entry x) (Aj:R.rows=g1 ++ .iter it::g2) (Hr:it.seen=pre++[j]) (hj:it.es[j]? = some (kk,y)) (hx:bp E.G s x (.d (.raw (.pointer (some ⟨it.r,0,none⟩)))))
  (H:aa E ae R lits (.bE ops l::k) (bG s o.dst (.d (.aL [kk,y]))) h):aa E ae R lits (.bE ops (o::l)::k) s h:=by
 refine .of ?_;unfold AW;intro c0 c t' ea h0 h1 h2 h3 hr bX h4 h5 cs;subst h2;obtain ⟨i,hi,eB,aK⟩:=mB (h1 _ (List.mem_cons_self ..));have dg:(⟨t',marks R.fx.aH⟩:Act).eval x = .pointer (some ⟨it.r,0,none⟩):=by
  have:=hx c ⟨t',marks R.fx.aH⟩ h3 h4;generalize (⟨t',marks R.fx.aH⟩:Act).eval x=u at this;cases this with
  |d _ _ hq=>cases hq; rfl
 have r2:lN c0.w.heap.size c it:=bX.all.each (.iter it) (by rw [Aj]; simp);obtain ⟨z0,z1,z3,z2⟩:=r2.iter;obtain rfl:=z3 (by rw [Hr]; simp);have kT:j<it.en.size:=r2.lt j (by rw [Hr]; simp);have ny:it.en[j]? = some it.en[j]:=by simp [kT]
 have bT:=r2.val j kk y it.en[j] hj ny;have xf:((it.seen.map fun j=>((it.en[j]?).map (·.born)).getD 0).toArray).back? = some j:=by
  rw [Hr];simp [ny,r2.qs.idx j _ ny]
 have dr:it.en.find? (fun e=>e.born==j)=some it.en[j]:=by
  rw [Array.find?_eq_some_iff_getElem];refine ⟨by simp [r2.qs.idx j _ ny],j,kT,rfl,fun q hq=>?_⟩;have:=r2.qs.idx q it.en[q] (by rw [Array.getElem?_eq_getElem]);simp [this]; omega
 have eR:(getObj it.r).run E.P c.w = .ok (.mapIter (some it.bm) it.since ((it.seen.map fun j=>((it.en[j]?).map (·.born)).getD 0).toArray) it.ck) c.w:=by simp [getObj,Sem.run,z2]
 have cR:(execOp (⟨t',marks R.fx.aH⟩:Act).eval o).run E.P c.w = .ok (.value (.tuple #[it.en[j].key,it.en[j].val])) c.w:=by
  simp only [execOp,cm,dg,Instr.entry,Sem.run_bind,Sem.run_pure,Result.andThen_ok,eR,xf,wg r2.map,bne_self_eq_false,Bool.false_eq_true,if_false,dr]
 have gh:VS c (bG s o.dst (.d (.aL [kk,y]))) ((⟨t',marks R.fx.aH⟩:Act).put o.dst (.tuple #[it.en[j].key,it.en[j].val])).tmps :=
  VS.bG (a:=⟨t',marks R.fx.aH⟩) h4 o.dst (.d _ _ (.aL _ _ rfl fun p z v hz hv=>by
   match p with
   | 0=>simp at hz hv; subst hz; subst hv; exact bT.1
   | 1=>simp at hz hv; subst hz; subst hv; exact bT.2
   |p+2=>simp at hz))
 have H:=H.to;unfold AW at H;obtain ⟨c2,fr,rr,u,e1,e2,e3,e4,e5,e6⟩:=H c0 c _ ea h0 (gq aK (eb h1)) rfl h3 hr bX gh h5 cs;refine ⟨c2,fr,rr,u,e1,e2,e3,e4,.head ?_ e5,e6⟩;simp only [cC.bM,List.map_cons,eB];rw [tI hi (eO hg c t' h4) (.inl cR),put_defers];rfl
theorem aa.Od {b:Code} {κ:Type} (fk:List Nat) (vars:κ→List (Nat × AV)) (boxes:κ→List (Nat × ag)) (rows:κ→List bU) (Φ:κ→Prop) (μ:κ→Nat) (x0:κ) (h0:Φ x0) (hR:R.rows=rows x0)
  (lS:qN fk (mI (boxes x0)) (vars x0) (boxes x0) s h fun s' h'=>wI h h' R.fx (uj R.n h s h' s'))
  (sn:∀ x,Φ x→(∀ y,Φ y→μ y<μ x→aa E ae ⟨R.n,R.Q,rows y,R.fx⟩ [] (.inLoop b::k) (k8 (vars y) (anyS fk (la (mI (boxes x0)) s))) (k9 (boxes y) h))→aa E ae ⟨R.n,R.Q,rows x,R.fx⟩ [] (.code b :: .inLoop b::k) (k8 (vars x) (anyS fk (la (mI (boxes x0)) s))) (k9 (boxes x) h)) :
  aa E ae R lits (.code (.loop b)::k) s h:=by
 have e:R=⟨R.n,R.Q,rows x0,R.fx⟩:=by cases R; simp only at hR; subst hR; rfl
 have main:∀ n x,μ x<n→Φ x→aa E ae ⟨R.n,R.Q,rows x,R.fx⟩ [] (.inLoop b::k) (k8 (vars x) (anyS fk (la (mI (boxes x0)) s))) (k9 (boxes x) h):=by
  intro n
  induction n with
  |zero=>intro x hx; omega
  |succ n ih=>intro x hx hP; exact .of (.inLoop (sn x hP fun y hy hm=>ih y (by omega) hy).to)
 rw [wK] at lS;rw [e];exact .of (.loop (.weaken lS (sn x0 h0 fun y hy _=>main (μ y+1) y (by omega) hy).to))
end
end Go.ax
end
section
namespace Go.ax
open Go Go.RowKit
section
variable {E:Env} {ae:FuncId} {R:bY} {s:List AV} {h:List ag} {ops:Array Oper} {o:Oper} {l:List Oper} {k:List aG}
end
end Go.ax
end
section
namespace Go.ax
open Go Go.RowKit
section
variable {E:Env} {ae:FuncId} {R:bY} {s:List AV} {h:List ag} {lits:List Nat} {ops:Array Oper} {o:Oper} {l:List Oper} {k:List aG}
end
section
variable {E:Env} {ae:FuncId} {R:bY} {s:List AV} {h:List ag} {td:List aG}
end
mutual
def kF:DV→DV
 | .a8 => .sl []
 | .sl l => .sl (xz l)
 | .agg c => .agg (xz c)
 | .aL c => .aL (xz c)
 |x=>x
def xz:List DV→List DV
 | []=>[]
 |x::l=>kF x::xz l
end
theorem Am:∀ (l:List DV),xz l=l.map kF
 | []=>rfl
 |x::l=>by rw [xz,Am l]; rfl
theorem Oe (x:DV):(kF x).cells=x.cells.map kF:=by
 cases x <;> simp [kF,DV.cells,Am]
theorem Xf {bad:Nat→Prop} {w:World} {x:DV} {v:Value} (h:VD bad w x v):VD bad w (kF x) v:=by
 induction h with
 |a8=>exact .slnil
 |agg c vs hlen bT ih =>
  rw [kF,Am];refine .agg _ _ (by simpa using hlen) fun j y v hy hv=>?_;rw [List.getElem?_map] at hy;cases hc:c[j]? with
  |none=>rw [hc] at hy; cases hy
  |some z=>rw [hc] at hy; cases hy; exact ih j z v hc hv
 |aL c vs hlen bT ih =>
  rw [kF,Am];refine .aL _ _ (by simpa using hlen) fun j y v hy hv=>?_;rw [List.getElem?_map] at hy;cases hc:c[j]? with
  |none=>rw [hc] at hy; cases hy
  |some z=>rw [hc] at hy; cases hy; exact ih j z v hc hv
 |undef=>exact .undef
 |bool b=>exact .bool b
 |int k n=>exact .int k n
 |str l=>exact .str l
 |slnil=>exact .slnil
 |kO a=>exact .kO a
 |sl l blk off cap sz f hb bP je hlen dP bT cg ih =>
  rw [kF,Am];have hl:(l.map kF).length=l.length:=by simp
  have key:∀ (i j:Nat) (e x:DV),(l.map kF)[i]? = some e→e.cells[j]? = some x→∃ e0 x0,l[i]? = some e0∧e0.cells[j]? = some x0∧x=kF x0:=fun i j e x he hx=>by
   rw [List.getElem?_map] at he;cases hc:l[i]? with
   |none=>rw [hc] at he; cases he
   |some e0 =>
    rw [hc] at he;cases he;rw [Oe,List.getElem?_map] at hx;cases hd:e0.cells[j]? with
    |none=>rw [hd] at hx; cases hx
    |some x0=>rw [hd] at hx; cases hx; exact ⟨e0,x0,rfl,hd,rfl⟩
  have:=VD.sl (bad:=bad) (w:=w) (l.map kF) blk off cap sz f (fun aJ=>hb (fun h0=>aJ (by rw [h0]; rfl))) bP (by rw [hl]; exact je)
   (fun i e he=>by
    rw [List.getElem?_map] at he;cases hc:l[i]? with
    |none=>rw [hc] at he; cases he
    |some e0=>rw [hc] at he; cases he; rw [Oe,List.length_map]; exact hlen i e0 hc)
   (fun i j e x he hx=>by obtain ⟨e0,x0,h1,h2,_⟩:=key i j e x he hx; exact dP i j e0 x0 h1 h2)
   (fun i j e x he hx=>by obtain ⟨e0,x0,h1,h2,h3⟩:=key i j e x he hx; rw [h3]; exact ih i j e0 x0 h1 h2)
   (fun i j e x he hx=>by obtain ⟨e0,x0,h1,h2,_⟩:=key i j e x he hx; exact cg i j e0 x0 h1 h2)
  rw [hl] at this;exact this
 |eD=>exact .eD
 |aD=>exact .aD
 |gN=>exact .gN
 |mr=>exact .mr
 |fn f=>exact .fn f
 |raw v h=>exact .raw v h
theorem aA.kF {E:Env} {f:FuncId} {args:List DV} {y:DV} (H:aA E f args (fun r=>ax.kF r=y)):aA E f args (· = y):=by
 unfold aA at H ⊢;exact ⟨H.1,fun au w vs h1 h2 h3=>(H.2 au w vs h1 h2 h3).mono fun e w' ⟨v,r,k1,k2,k3,k4⟩=>⟨v,y,k1,rfl,k2 ▸ Xf k3,k4⟩⟩
end Go.ax
end
