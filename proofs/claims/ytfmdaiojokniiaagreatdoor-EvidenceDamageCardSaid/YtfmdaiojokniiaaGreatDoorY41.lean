/- Several texts of mine, one behind the other. Conditions: as each says. -/
import Derived.Test.YtfmdaiojokniiaaGreatDoorY40
set_option linter.unusedVariables false
set_option linter.unusedSimpArgs false
namespace Go.ax
open Go Go.RowKit
section
variable {E:Env} {ag:FuncId} {R:cx} {s:List AV} {h:List ae} {ops:Array Oper} {o:Oper} {l:List Oper} {k:List aP}
theorem Tu {x y:Operand} {ts:Array TypeId} {a b:Int} (hx:aZ E.G s x (.d (.int .i64 a))) (hy:aZ E.G s y (.d (.int .i64 b))):bC E (.call { callee := .builtin .max,args := #[x,y],argTypes:=ts }) s h (.d (.int .i64 (max a b))) h:=by
 refine .quiet fun o c ac e1 e2 h3 h4=>⟨.int .i64 (max a b),?_,.d _ _ (.int _ _)⟩;have q1:=dM (hx c ac h3 h4);have q2:=dM (hy c ac h3 h4);have q3:(if a<b then b else a)=max a b:=by
  rcases Int.lt_or_le a b with q | q
  ·rw [if_pos q,Int.max_eq_right (Int.le_of_lt q)]
  ·rw [if_neg (Int.not_lt.2 q),Int.max_eq_left q]
 simp only [execOp,e1,resolve,invoke,builtin,Builtin.max_,Builtin.max2,List.map_toArray,List.map_cons,List.map_nil,q1,q2,List.foldlM_cons,List.foldlM_nil,Sem.run_bind,Sem.run_pure,Result.andThen_ok,pure_bind,bind_pure,q3]
theorem Tv {x y:Operand} {ts:Array TypeId} {a b:Int} (hx:aZ E.G s x (.d (.int .i64 a))) (hy:aZ E.G s y (.d (.int .i64 b))):bC E (.call { callee := .builtin .min,args := #[x,y],argTypes:=ts }) s h (.d (.int .i64 (min a b))) h:=by
 refine .quiet fun o c ac e1 e2 h3 h4=>⟨.int .i64 (min a b),?_,.d _ _ (.int _ _)⟩;have q1:=dM (hx c ac h3 h4);have q2:=dM (hy c ac h3 h4);have q3:(if b<a then b else a)=min a b:=by
  rcases Int.lt_or_le b a with q | q
  ·rw [if_pos q,Int.min_eq_right (Int.le_of_lt q)]
  ·rw [if_neg (Int.not_lt.2 q),Int.min_eq_left q]
 simp only [execOp,e1,resolve,invoke,builtin,Builtin.min_,Builtin.min2,List.map_toArray,List.map_cons,List.map_nil,q1,q2,List.foldlM_cons,List.foldlM_nil,Sem.run_bind,Sem.run_pure,Result.andThen_ok,pure_bind,bind_pure,q3]
end
section
variable {E:Env} {ops:Array Oper} {ag:FuncId} {R:cx} {s:List AV} {h:List ae} {lits:List Nat} {k:List aP} {o:Oper} {l:List Oper}
theorem jP.own (hE:E.OK) {j:Nat} {acc:List (Nat × fI)} {aS:List (Nat × Nat)} {J:List Nat} {sC:List AV} {hC:List ae} (H:zc E o.op sC hC False fun x h1=>eH J h x fun v=>il J h h1 fun h'=>iP J h h' fun ws=>dH j ws ws acc aS fun cg=>cb s o.dst v fun s'=>bG E ag R ops k lits (j+1) l (dk j ws ws acc) cg s' h'):jP E ag R ops k lits j o l acc aS s h J sC hC:=by
 rcases G8 hE H with h | ⟨v,h1,H,ho⟩
 ·exact h.elim
 ·exact jP.op ho H
theorem jP.HA (hE:E.OK) {j:Nat} {acc:List (Nat × fI)} {aS:List (Nat × Nat)} {J:List Nat} {sC:List AV} {hC:List ae} {dT sT e b g:Nat} {i ei:bk} {us:Nat × Nat} {x y:Operand} {p m:List DV} (q:List DV) (b9:o.op = .call { callee := .builtin .copy,args := #[x,y],argTypes := #[dT,sT] }) (hx:aZ E.G sC x (.own b g)) (hy:aZ E.G sC y (.d (.sl m))) (hi:E.T[dT]? = some i) (hk:i.k = .slice e) (bP:E.T[e]? = some ei) (hb:hC[b]? = some (.arr g us p)) (gE:us.2=ei.size) (aJ:p≠[]) (hm:∀ z∈m,z.cells.length=us.2) (hq:m.take p.length++p.drop m.length=q)
  (H:eH J h (.d (.int .i64 (min m.length p.length:Nat))) fun v=>il J h (hC.set b (.arr g us q)) fun h'=>iP J h h' fun ws=>dH j ws ws acc aS fun cg=>cb s o.dst v fun s'=>bG E ag R ops k lits (j+1) l (dk j ws ws acc) cg s' h'):jP E ag R ops k lits j o l acc aS s h J sC hC :=
 jP.op (b9 ▸ hq ▸ Hw hE hi hk bP gE hb aJ hx hy hm) H
theorem I.Kb (n:Nat) {i:jh} {fx:Operand} {args:Array Operand} {ts:Array TypeId} {av:List AV} (hl:R.fx.loops[n]? = some (.loop i)) (hg:iB ops o s true) (b9:o.op = .call { callee := .value fx,args:=args,argTypes:=ts }) (hf:aZ E.G s fx (.fn (.yield i.l) [] [])) (ha:hY E.G s args.toList av) (hlen:av.length=i.ps.size)
  (H:I E i.fn ⟨R.n,R.Q,R.rows,⟨R.fx.f0,some i.l,[],⟨⟨ag,R.fx.cB,R.fx.aG⟩,.bo ops (o::l)::k,s⟩::R.fx.cls,R.fx.loops,R.fx.inl⟩⟩ [] [.code i.assign,.oo,.code i.body] (rX i.ps.toList av i.gr) h):I E ag R lits (.bo ops (o::l)::k) s h:=by
 refine .of ?_;unfold AW;intro c0 c t tt h0 h1 h2 h3 hr bE h4 h5 cs;subst h2;obtain ⟨j,hj,dy,aM⟩:=kO (h1 _ (List.mem_cons_self ..));have hi:lP c0.w.heap.size c i:=bE.all.each _ (List.mem_append_right _ (List.mem_of_getElem? hl));obtain ⟨v1,v2,e1,e2,e3⟩:=km (hf c ⟨t,marks R.fx.aG⟩ h3 h4);obtain rfl:v1=[]:=List.eq_nil_of_length_eq_zero (by simpa using e2.1.symm);obtain rfl:v2=[]:=List.eq_nil_of_length_eq_zero (by simpa using e3.1.symm);have e4:=ha c ⟨t,marks R.fx.aG⟩ h3 h4;have H:=H.to;unfold AW at H;have ie:(#[]++args.map (⟨t,marks R.fx.aG⟩:Act).eval).size=i.ef.params.size:=by
  have:=e4.1;simp at this ⊢;rw [← this,hlen];rfl
 have eG:=C1 (ps:=i.ps.toList) hi.gr e4;obtain ⟨c2,fr,r,v,q1,q2,q3,q4,q5,q6⟩:=H c0 c _ (t::tt) h0 (fun x hx=>by simp at hx; rcases hx with rfl | rfl | rfl <;> trivial) rfl h3 hr bE eG ⟨h4,h1,h5⟩ cs;refine ⟨c2,fr,r,v,q1,q2,q3,q4,.head ?_ q5,q6⟩;have cq:(execOp (⟨t,marks R.fx.aG⟩:Act).eval o).run E.P c.w = .ok (.round i.l i.fn ((i.ps.toList.zip (args.toList.map (⟨t,marks R.fx.aG⟩:Act).eval)).foldl (fun t (p,v)=>t.setIfInBounds p v) i.tm) i.assign i.body) c.w:=by
  have hy:=run_yield (P:=E.P) hi.mem ie;simp only [execOp,b9,resolve,e1,Deferred.ofValue,invoke,Sem.run_bind,Sem.run_pure,Result.andThen_ok,hy]
  congr 2
  rw [← Array.foldl_toList,Array.toList_zip];simp [jh.ef]
 have hs:=HD (P:=E.P) (b:=bf ⟨ag,R.fx.cB,R.fx.aG⟩) (a:=⟨t,marks R.fx.aG⟩) (k:=k.map aP.bB) (cs:=ez R.fx.cls tt++cs) (rest:=(List.range ops.size).drop (ops.size - l.length)) hj (hg c t h4) cq;simp only [bQ.bB,List.map_cons,ez,dy,List.cons_append];exact hs
theorem Kc {o oj:Oper} {j d:Nat} {s:List AV} (h:o.guard=some (j,true)) (hj:ops.toList[j]? = some oj) (hd:oj.dst=some d) (hs:s[d]? = some (.d (.bool true))):iB ops o s true:=Be (b:=true) h hj hd hs
end
theorem I.Kd {E:Env} {ag:FuncId} {R:cx} {td:List aP} {s:List AV} {h:List ae} {lits:List Nat} {g:bj} {rows:List bj} (hp:R.rows=g::rows) (H:I E ag ⟨R.n,R.Q,rows,R.fx⟩ lits td s h):I E ag R lits td s h:=by
 replace H:=H.to;refine .of ?_;unfold AW at H ⊢;intro c0 c t ts h0 h1 h2 h3 hr bE h4 h5 cs;rw [hp] at bE;refine H c0 c t ts h0 h1 h2 h3 hr ⟨⟨fun g hg=>bE.all.each g (List.mem_cons_of_mem _ hg),?_⟩,fun g hg=>bE.flat g (List.mem_cons_of_mem _ hg)⟩ h4 h5 cs;have h:=bE.all.nodup;rw [List.cons_append,List.flatMap_cons] at h;exact (List.nodup_append.1 h).2.1
def Av (L:List bj):List Nat→List bj
 | []=>L
 |d::ds => .mark d::Av L ds
theorem Ke {L:List bj}:∀ {ds:List Nat},Av L ds=ds.map .mark++L
 | []=>rfl
 |d::ds=>congrArg (bj.mark d :: ·) (Ke (ds:=ds))
abbrev cx.marked (R:cx) (L:List bj) (ds:List Nat):cx:=⟨R.n,R.Q,R.rows,⟨R.fx.f0,R.fx.cB,ds,R.fx.cls,Av L ds,R.fx.inl⟩⟩
theorem jb {h h':List ae} {L:List bj} {K:Prop}:∀ {ds:List Nat},rI h h' (Av L ds) K=rI h h' L K
 | []=>rfl
 |_::ds=>jb (ds:=ds)
theorem I.Tx {E:Env} {ag:FuncId} {R:cx} {s:List AV} {h:List ae} {lits:List Nat} {b:Code} {k:List aP} {κ:Type} (eX:List Nat) (vars:κ→List (Nat × AV)) (boxes:κ→List (Nat × ae)) (Φ:κ→Prop) (μ:κ→Nat) (x0:κ) (L:List bj) (Er:List Nat) (h0:Φ x0)
  (mM:rK eX (kY (boxes x0)) (vars x0) (boxes x0) s h fun s' h'=>tP h h' (R.marked L Er).fx (tN R.n h s h' s'))
  (pV:∀ x ds,Φ x→(∀ y xR,Φ y→μ y<μ x→I E ag (R.marked L xR) [] (.inLoop b::k) (jM (vars y) (anyS eX (jO (kY (boxes x0)) s))) (jN (boxes y) h))→I E ag (R.marked L ds) [] (.code b :: .inLoop b::k) (jM (vars x) (anyS eX (jO (kY (boxes x0)) s))) (jN (boxes x) h)) :
  I E ag (R.marked L Er) lits (.code (.loop b)::k) s h:=by
 have main:∀ n x ds,μ x<n→Φ x→I E ag (R.marked L ds) [] (.inLoop b::k) (jM (vars x) (anyS eX (jO (kY (boxes x0)) s))) (jN (boxes x) h):=by
  intro n
  induction n with
  |zero=>intro x ds hx; omega
  |succ n ih=>intro x ds hx hP; exact .of (.inLoop (pV x ds hP fun y xR hy hm=>ih y xR (by omega) hy).to)
 rw [wG] at mM;exact .of (.loop (.weaken mM (pV x0 Er h0 fun y xR hy _=>main (μ y+1) y xR (by omega) hy).to))
end Go.ax
