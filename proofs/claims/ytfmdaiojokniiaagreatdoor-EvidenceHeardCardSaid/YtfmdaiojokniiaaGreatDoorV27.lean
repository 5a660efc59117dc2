/- Several texts of mine, one behind the other. Conditions: as each says. -/
import Derived.Test.YtfmdaiojokniiaaGreatDoorV26
set_option linter.unusedVariables false
set_option linter.unusedSimpArgs false
section
namespace Go.Proofs.YtfmdaiojokniiaaGreatDoor.P
open Go Go.aw
set_option maxRecDepth 100000
set_option maxHeartbeats 4000000
theorem SJ (c:aS):aq E 59 [c.enc] (· = .str c.az.ah):=by
 refine eP Tryz.func59 ?_
 with_reducible rfl
def x7 (l:List aS):Bool:=decide (4000<l.length)||decide (500<pK l)
theorem SK (l:List aS) (hl:l.length≤1000000):au E 60 [] [.d (.sl (l.map aS.enc)),.d (.int .i64 4000),.d (.int .i64 500),.fn (.func 59) [] []] (fun a b=>∃ es,a = .d (.bool (x7 l))∧b=[.map es]):=by
 generalize hT:l.map (·.az.ah)=T;have AB:T.length=l.length:=by rw [← hT]; simp
 have hlen:=Es vf T T.length (Nat.le_refl _);rw [List.take_length] at hlen;have SL:x7 l=(decide (4000<l.length)||decide (500<(dv [] T).length)):=by rw [x7,pK,hT]
 rw [SL];refine au.run af (fn:=Tryz.f60) Tryz.func60 (body:=Tryz.f60.body.getD .skip) rfl (by decide) 2000 rfl ?_;(conv=>whnf);refine gO Tryz.func60 ?_;refine gO Tryz.func60 ?_;refine I.loop (κ:=Nat) ([11]++rg 15 9) (fun k=>[(15,.d (.int .i64 k)),(9,.map 0)]) (fun k=>[(0,.map (dO DV.str (T.take k)))]) (fun k=>k≤l.length) (fun k=>l.length - k) 0 (Nat.zero_le _) ?_ ?_
 ·(conv=>whnf);repeat (first | exact trivial | (refine sI ?_; conv=>whnf))
  refine And.intro rfl ?_;exact sZ
 intro k hk IH;refine I.head af Tryz.func60 2000 ?_;(conv=>whnf);refine ai (fun h5=>?_) (fun h5=>?_)
 ·have aj:k<l.length:=by simpa using h5
  obtain ⟨c,hc⟩:=aL aj;have Eo:T[k]? = some c.az.ah:=by rw [← hT]; simp [hc]
  have fq:=(ny vf (T.take k)).1;refine gO Tryz.func60 ?_;refine aE (e:=c.enc) (aX hc) rfl ?_;refine gO Tryz.func60 ?_
  with_reducible refine ao (SJ c) ?_
  refine gO Tryz.func60 ?_;refine a8 ⟨⟨_,rfl⟩,fq⟩ ?_;refine gO Tryz.func60 ?_;refine I.back (IH (k+1) (by omega) (by omega)) ?_;rw [En Eo];exact sZ
 ·have aC:l.length≤k:=by simpa using h5
  rw [List.take_of_length_le (by omega)];refine gO Tryz.func60 ?_;refine ai (fun h6=>?_) (fun h6=>?_)
  ·refine gO Tryz.func60 ?_;refine ⟨_,?_,rfl⟩;have:4000<l.length:=by simp at h6; omega
   simp [this]
  ·refine gO Tryz.func60 ?_;refine gO Tryz.func60 ?_;refine ⟨_,?_,rfl⟩;rw [hlen];have h7:decide (4000<l.length)=false:=by simp at h6 ⊢; omega
   rw [h7,Bool.false_or];refine congrArg (fun b=>AV.d (DV.bool b)) ?_;rw [Bool.eq_iff_iff];simp;try omega
end Go.Proofs.YtfmdaiojokniiaaGreatDoor.P
end
section
namespace Go.aw
open Go Go.RowKit
section
variable {E:Env} {ag:FuncId} {R:cw} {s:List AV} {h:List ae} {ops:Array Oper} {o:Oper} {l:List Oper} {k:List aN}
theorem TO {x y:Operand} {ts:Array TypeId} {a b:Int} (hx:aY E.G s x (.d (.int .i64 a))) (hy:aY E.G s y (.d (.int .i64 b))):bC E (.call { callee := .builtin .max,args := #[x,y],argTypes:=ts }) s h (.d (.int .i64 (max a b))) h:=by
 refine .quiet fun o c ac e1 e2 h3 h4=>⟨.int .i64 (max a b),?_,.d _ _ (.int _ _)⟩;have q1:=dQ (hx c ac h3 h4);have q2:=dQ (hy c ac h3 h4);have q3:(if a<b then b else a)=max a b:=by
  rcases Int.lt_or_le a b with q | q
  ·rw [if_pos q,Int.max_eq_right (Int.le_of_lt q)]
  ·rw [if_neg (Int.not_lt.2 q),Int.max_eq_left q]
 simp only [execOp,e1,resolve,invoke,builtin,Builtin.max_,Builtin.max2,List.map_toArray,List.map_cons,List.map_nil,q1,q2,List.foldlM_cons,List.foldlM_nil,Sem.run_bind,Sem.run_pure,Result.andThen_ok,pure_bind,bind_pure,q3]
theorem TP {x y:Operand} {ts:Array TypeId} {a b:Int} (hx:aY E.G s x (.d (.int .i64 a))) (hy:aY E.G s y (.d (.int .i64 b))):bC E (.call { callee := .builtin .min,args := #[x,y],argTypes:=ts }) s h (.d (.int .i64 (min a b))) h:=by
 refine .quiet fun o c ac e1 e2 h3 h4=>⟨.int .i64 (min a b),?_,.d _ _ (.int _ _)⟩;have q1:=dQ (hx c ac h3 h4);have q2:=dQ (hy c ac h3 h4);have q3:(if b<a then b else a)=min a b:=by
  rcases Int.lt_or_le b a with q | q
  ·rw [if_pos q,Int.min_eq_right (Int.le_of_lt q)]
  ·rw [if_neg (Int.not_lt.2 q),Int.min_eq_left q]
 simp only [execOp,e1,resolve,invoke,builtin,Builtin.min_,Builtin.min2,List.map_toArray,List.map_cons,List.map_nil,q1,q2,List.foldlM_cons,List.foldlM_nil,Sem.run_bind,Sem.run_pure,Result.andThen_ok,pure_bind,bind_pure,q3]
end
section
variable {E:Env} {ops:Array Oper} {ag:FuncId} {R:cw} {s:List AV} {h:List ae} {lits:List Nat} {k:List aN} {o:Oper} {l:List Oper}
theorem jX.own (hE:E.OK) {j:Nat} {acc:List (Nat × fQ)} {aT:List (Nat × Nat)} {J:List Nat} {sC:List AV} {hC:List ae} (H:zI E o.op sC hC False fun x h1=>eN J h x fun v=>iy J h h1 fun h'=>iY J h h' fun ws=>dN j ws ws acc aT fun cg=>cb s o.dst v fun s'=>bG E ag R ops k lits (j+1) l (dp j ws ws acc) cg s' h'):jX E ag R ops k lits j o l acc aT s h J sC hC:=by
 rcases HG hE H with h | ⟨v,h1,H,ho⟩
 ·exact h.elim
 ·exact jX.op ho H
theorem jX.Ia (hE:E.OK) {j:Nat} {acc:List (Nat × fQ)} {aT:List (Nat × Nat)} {J:List Nat} {sC:List AV} {hC:List ae} {dT sT e b g:Nat} {i ei:bp} {us:Nat × Nat} {x y:Operand} {p m:List DV} (q:List DV) (ca:o.op = .call { callee := .builtin .copy,args := #[x,y],argTypes := #[dT,sT] }) (hx:aY E.G sC x (.own b g)) (hy:aY E.G sC y (.d (.sl m))) (hi:E.T[dT]? = some i) (hk:i.k = .slice e) (bR:E.T[e]? = some ei) (hb:hC[b]? = some (.arr g us p)) (gU:us.2=ei.size) (aJ:p≠[]) (hm:∀ z∈m,z.cells.length=us.2) (hq:m.take p.length++p.drop m.length=q)
  (H:eN J h (.d (.int .i64 (min m.length p.length:Nat))) fun v=>iy J h (hC.set b (.arr g us q)) fun h'=>iY J h h' fun ws=>dN j ws ws acc aT fun cg=>cb s o.dst v fun s'=>bG E ag R ops k lits (j+1) l (dp j ws ws acc) cg s' h'):jX E ag R ops k lits j o l acc aT s h J sC hC :=
 jX.op (ca ▸ hq ▸ H7 hE hi hk bR gU hb aJ hx hy hm) H
theorem I.yg (n:Nat) {i:jr} {fx:Operand} {args:Array Operand} {ts:Array TypeId} {av:List AV} (hl:R.fx.loops[n]? = some (.loop i)) (hg:iN ops o s true) (ca:o.op = .call { callee := .value fx,args:=args,argTypes:=ts }) (hf:aY E.G s fx (.fn (.yield i.l) [] [])) (ha:im E.G s args.toList av) (hlen:av.length=i.ps.size)
  (H:I E i.fn ⟨R.n,R.Q,R.rows,⟨R.fx.f0,some i.l,[],⟨⟨ag,R.fx.cz,R.fx.aI⟩,.bq ops (o::l)::k,s⟩::R.fx.cls,R.fx.loops,R.fx.inl⟩⟩ [] [.code i.assign,.oQ,.code i.body] (sF i.ps.toList av i.gG) h):I E ag R lits (.bq ops (o::l)::k) s h:=by
 refine .of ?_;unfold AW;intro c0 c t tt h0 h1 h2 h3 hr bF h4 h5 cs;subst h2;obtain ⟨j,hj,dA,aO⟩:=lh (h1 _ (List.mem_cons_self ..));have hi:mh c0.w.heap.size c i:=bF.all.each _ (List.mem_append_right _ (List.mem_of_getElem? hl));obtain ⟨v1,v2,e1,e2,e3⟩:=jO (hf c ⟨t,marks R.fx.aI⟩ h3 h4);obtain rfl:v1=[]:=List.eq_nil_of_length_eq_zero (by simpa using e2.1.symm);obtain rfl:v2=[]:=List.eq_nil_of_length_eq_zero (by simpa using e3.1.symm);have e4:=ha c ⟨t,marks R.fx.aI⟩ h3 h4;have H:=H.to;unfold AW at H;have fA:(#[]++args.map (⟨t,marks R.fx.aI⟩:Act).eval).size=i.ee.params.size:=by
  have:=e4.1;simp at this ⊢;rw [← this,hlen];rfl
 have eF:=Ds (ps:=i.ps.toList) hi.gG e4;obtain ⟨c2,fr,r,v,q1,q2,q3,q4,q5,q6⟩:=H c0 c _ (t::tt) h0 (fun x hx=>by simp at hx; rcases hx with rfl | rfl | rfl <;> trivial) rfl h3 hr bF eF ⟨h4,h1,h5⟩ cs;refine ⟨c2,fr,r,v,q1,q2,q3,q4,.head ?_ q5,q6⟩;have cn:(execOp (⟨t,marks R.fx.aI⟩:Act).eval o).run E.P c.w = .ok (.round i.l i.fn ((i.ps.toList.zip (args.toList.map (⟨t,marks R.fx.aI⟩:Act).eval)).foldl (fun t (p,v)=>t.setIfInBounds p v) i.tm) i.assign i.body) c.w:=by
  have hy:=run_yield (P:=E.P) hi.mem fA;simp only [execOp,ca,resolve,e1,Deferred.ofValue,invoke,Sem.run_bind,Sem.run_pure,Result.andThen_ok,hy]
  congr 2
  rw [← Array.foldl_toList,Array.toList_zip];simp [jr.ee]
 have hs:=Ie (P:=E.P) (b:=bf ⟨ag,R.fx.cz,R.fx.aI⟩) (a:=⟨t,marks R.fx.aI⟩) (k:=k.map aN.bB) (cs:=eG R.fx.cls tt++cs) (rest:=(List.range ops.size).drop (ops.size - l.length)) hj (hg c t h4) cn;simp only [bU.bB,List.map_cons,eG,dA,List.cons_append];exact hs
theorem yh {o oj:Oper} {j d:Nat} {s:List AV} (h:o.guard=some (j,true)) (hj:ops.toList[j]? = some oj) (hd:oj.dst=some d) (hs:s[d]? = some (.d (.bool true))):iN ops o s true:=BF (b:=true) h hj hd hs
end
theorem I.KA {E:Env} {ag:FuncId} {R:cw} {td:List aN} {s:List AV} {h:List ae} {lits:List Nat} {g:bk} {rows:List bk} (hp:R.rows=g::rows) (H:I E ag ⟨R.n,R.Q,rows,R.fx⟩ lits td s h):I E ag R lits td s h:=by
 replace H:=H.to;refine .of ?_;unfold AW at H ⊢;intro c0 c t ts h0 h1 h2 h3 hr bF h4 h5 cs;rw [hp] at bF;refine H c0 c t ts h0 h1 h2 h3 hr ⟨⟨fun g hg=>bF.all.each g (List.mem_cons_of_mem _ hg),?_⟩,fun g hg=>bF.flat g (List.mem_cons_of_mem _ hg)⟩ h4 h5 cs;have h:=bF.all.nodup;rw [List.cons_append,List.flatMap_cons] at h;exact (List.nodup_append.1 h).2.1
def AL (L:List bk):List Nat→List bk
 | []=>L
 |d::ds => .mark d::AL L ds
theorem KB {L:List bk}:∀ {ds:List Nat},AL L ds=ds.map .mark++L
 | []=>rfl
 |d::ds=>congrArg (bk.mark d :: ·) (KB (ds:=ds))
abbrev cw.marked (R:cw) (L:List bk) (ds:List Nat):cw:=⟨R.n,R.Q,R.rows,⟨R.fx.f0,R.fx.cz,ds,R.fx.cls,AL L ds,R.fx.inl⟩⟩
theorem fW {h h':List ae} {L:List bk} {K:Prop}:∀ {ds:List Nat},si h h' (AL L ds) K=si h h' L K
 | []=>rfl
 |_::ds=>fW (ds:=ds)
theorem I.TQ {E:Env} {ag:FuncId} {R:cw} {s:List AV} {h:List ae} {lits:List Nat} {b:Code} {k:List aN} {κ:Type} (fh:List Nat) (vars:κ→List (Nat × AV)) (boxes:κ→List (Nat × ae)) (Φ:κ→Prop) (μ:κ→Nat) (x0:κ) (L:List bk) (ES:List Nat) (h0:Φ x0)
  (nk:sk fh (lC (boxes x0)) (vars x0) (boxes x0) s h fun s' h'=>um h h' (R.marked L ES).fx (uj R.n h s h' s'))
  (qC:∀ x ds,Φ x→(∀ y yi,Φ y→μ y<μ x→I E ag (R.marked L yi) [] (.inLoop b::k) (jU (vars y) (anyS fh (jW (lC (boxes x0)) s))) (jV (boxes y) h))→I E ag (R.marked L ds) [] (.code b :: .inLoop b::k) (jU (vars x) (anyS fh (jW (lC (boxes x0)) s))) (jV (boxes x) h)) :
  I E ag (R.marked L ES) lits (.code (.loop b)::k) s h:=by
 have main:∀ n x ds,μ x<n→Φ x→I E ag (R.marked L ds) [] (.inLoop b::k) (jU (vars x) (anyS fh (jW (lC (boxes x0)) s))) (jV (boxes x) h):=by
  intro n
  induction n with
  |zero=>intro x ds hx; omega
  |succ n ih=>intro x ds hx hP; exact .of (.inLoop (qC x ds hP fun y yi hy hm=>ih y yi (by omega) hy).to)
 rw [w0] at nk;exact .of (.loop (.weaken nk (qC x0 ES h0 fun y yi hy _=>main (μ y+1) y yi (by omega) hy).to))
end Go.aw
end
section
namespace Go.aw
open Go Go.RowKit
section
variable {E:Env} {ag:FuncId} {R:cw} {k:List aN} {s:List AV} {h:List ae}
end
end Go.aw
end
section
namespace Go.aw
open Go Go.RowKit
section
variable {E:Env} {s:List AV} {h:List ae}
end
end Go.aw
end
