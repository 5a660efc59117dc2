/- Several texts of mine, one behind the other. Conditions: as each says. -/
import Derived.Test.YtfmdaiojokniiaaGreatDoorW26
import Derived.Test.YtfmdaiojokniiaaGreatDoorW28
set_option linter.unusedVariables false
set_option linter.unusedSimpArgs false
section
namespace Go.Proofs.YtfmdaiojokniiaaGreatDoor.P
open Go Go.aw
set_option maxRecDepth 100000
set_option maxHeartbeats 4000000
theorem Q0 (c:aX):au E 59 [c.enc] (· = .str c.ay.ai):=by
 refine eP Tryz.func59 ?_
 with_reducible rfl
def w8 (l:List aX):Bool:=decide (4000<l.length)||decide (500<uf l)
theorem Q1 (l:List aX) (hl:l.length≤1000000):aq E 60 [] [.d (.sl (l.map aX.enc)),.d (.int .i64 4000),.d (.int .i64 500),.fn (.func 59) [] []] (fun a b=>∃ es,a = .d (.bool (w8 l))∧b=[.map es]):=by
 generalize hT:l.map (·.ay.ai)=T;have Dq:T.length=l.length:=by rw [← hT]; simp
 have hlen:=Dt uc T T.length (Nat.le_refl _);rw [List.take_length] at hlen;have Q2:w8 l=(decide (4000<l.length)||decide (500<(dP [] T).length)):=by rw [w8,uf,hT]
 rw [Q2];refine aq.run ag (fn:=Tryz.f60) Tryz.func60 (body:=Tryz.f60.body.getD .skip) rfl (by decide) 2000 rfl ?_;(conv=>whnf);refine gO Tryz.func60 ?_;refine gO Tryz.func60 ?_;refine I.loop (κ:=Nat) ([11]++rg 15 9) (fun k=>[(15,.d (.int .i64 k)),(9,.map 0)]) (fun k=>[(0,.map (dK DV.str (T.take k)))]) (fun k=>k≤l.length) (fun k=>l.length - k) 0 (Nat.zero_le _) ?_ ?_
 ·(conv=>whnf);repeat (first | exact trivial | (refine sI ?_; conv=>whnf))
  refine And.intro rfl ?_;exact sZ
 intro k hk IH;refine I.head ag Tryz.func60 2000 ?_;(conv=>whnf);refine aj (fun h5=>?_) (fun h5=>?_)
 ·have ah:k<l.length:=by simpa using h5
  obtain ⟨c,hc⟩:=aU ah;have Dr:T[k]? = some c.ay.ai:=by rw [← hT]; simp [hc]
  have eX:=(mr uc (T.take k)).1;refine gO Tryz.func60 ?_;refine aT (e:=c.enc) (bu hc) rfl ?_;refine gO Tryz.func60 ?_
  with_reducible refine ar (Q0 c) ?_
  refine gO Tryz.func60 ?_;refine bp ⟨⟨_,rfl⟩,eX⟩ ?_;refine gO Tryz.func60 ?_;refine I.back (IH (k+1) (by omega) (by omega)) ?_;rw [Dm Dr];exact sZ
 ·have aK:l.length≤k:=by simpa using h5
  rw [List.take_of_length_le (by omega)];refine gO Tryz.func60 ?_;refine aj (fun h6=>?_) (fun h6=>?_)
  ·refine gO Tryz.func60 ?_;refine ⟨_,?_,rfl⟩;have:4000<l.length:=by simp at h6; omega
   simp [this]
  ·refine gO Tryz.func60 ?_;refine gO Tryz.func60 ?_;refine ⟨_,?_,rfl⟩;rw [hlen];have h7:decide (4000<l.length)=false:=by simp at h6 ⊢; omega
   rw [h7,Bool.false_or];refine congrArg (fun b=>AV.d (DV.bool b)) ?_;rw [Bool.eq_iff_iff];simp;try omega
end Go.Proofs.YtfmdaiojokniiaaGreatDoor.P
end
section
namespace Go.aw
open Go Go.RowKit
section
variable {E:Env} {af:FuncId} {R:cu} {s:List AV} {h:List ab} {ops:Array Oper} {o:Oper} {l:List Oper} {k:List aH}
theorem R4 {x y:Operand} {ts:Array TypeId} {a b:Int} (hx:aQ E.G s x (.d (.int .i64 a))) (hy:aQ E.G s y (.d (.int .i64 b))):bw E (.call { callee := .builtin .max,args := #[x,y],argTypes:=ts }) s h (.d (.int .i64 (max a b))) h:=by
 refine .quiet fun o c ac e1 e2 h3 h4=>⟨.int .i64 (max a b),?_,.d _ _ (.int _ _)⟩;have q1:=dM (hx c ac h3 h4);have q2:=dM (hy c ac h3 h4);have q3:(if a<b then b else a)=max a b:=by
  rcases Int.lt_or_le a b with q | q
  ·rw [if_pos q,Int.max_eq_right (Int.le_of_lt q)]
  ·rw [if_neg (Int.not_lt.2 q),Int.max_eq_left q]
 simp only [execOp,e1,resolve,invoke,builtin,Builtin.max_,Builtin.max2,List.map_toArray,List.map_cons,List.map_nil,q1,q2,List.foldlM_cons,List.foldlM_nil,Sem.run_bind,Sem.run_pure,Result.andThen_ok,pure_bind,bind_pure,q3]
theorem Jk {x y:Operand} {ts:Array TypeId} {a b:Int} (hx:aQ E.G s x (.d (.int .i64 a))) (hy:aQ E.G s y (.d (.int .i64 b))):bw E (.call { callee := .builtin .min,args := #[x,y],argTypes:=ts }) s h (.d (.int .i64 (min a b))) h:=by
 refine .quiet fun o c ac e1 e2 h3 h4=>⟨.int .i64 (min a b),?_,.d _ _ (.int _ _)⟩;have q1:=dM (hx c ac h3 h4);have q2:=dM (hy c ac h3 h4);have q3:(if b<a then b else a)=min a b:=by
  rcases Int.lt_or_le b a with q | q
  ·rw [if_pos q,Int.min_eq_right (Int.le_of_lt q)]
  ·rw [if_neg (Int.not_lt.2 q),Int.min_eq_left q]
 simp only [execOp,e1,resolve,invoke,builtin,Builtin.min_,Builtin.min2,List.map_toArray,List.map_cons,List.map_nil,q1,q2,List.foldlM_cons,List.foldlM_nil,Sem.run_bind,Sem.run_pure,Result.andThen_ok,pure_bind,bind_pure,q3]
end
section
variable {E:Env} {ops:Array Oper} {af:FuncId} {R:cu} {s:List AV} {h:List ab} {lits:List Nat} {k:List aH} {o:Oper} {l:List Oper}
theorem jx.own (hE:E.OK) {j:Nat} {acc:List (Nat × fC)} {aL:List (Nat × Nat)} {J:List Nat} {sC:List AV} {hC:List ab} (H:yF E o.op sC hC False fun x h1=>eC J h x fun v=>hI J h h1 fun h'=>iz J h h' fun ws=>dI j ws ws acc aL fun cb=>bY s o.dst v fun s'=>bF E af R ops k lits (j+1) l (dh j ws ws acc) cb s' h'):jx E af R ops k lits j o l acc aL s h J sC hC:=by
 rcases GF hE H with h | ⟨v,h1,H,ho⟩
 ·exact h.elim
 ·exact jx.op ho H
theorem jx.Ha (hE:E.OK) {j:Nat} {acc:List (Nat × fC)} {aL:List (Nat × Nat)} {J:List Nat} {sC:List AV} {hC:List ab} {dT sT e b g:Nat} {i ei:bh} {us:Nat × Nat} {x y:Operand} {p m:List DV} (q:List DV) (bZ:o.op = .call { callee := .builtin .copy,args := #[x,y],argTypes := #[dT,sT] }) (hx:aQ E.G sC x (.own b g)) (hy:aQ E.G sC y (.d (.sl m))) (hi:E.T[dT]? = some i) (hk:i.k = .slice e) (bL:E.T[e]? = some ei) (hb:hC[b]? = some (.arr g us p)) (gr:us.2=ei.size) (aE:p≠[]) (hm:∀ z∈m,z.cells.length=us.2) (hq:m.take p.length++p.drop m.length=q)
  (H:eC J h (.d (.int .i64 (min m.length p.length:Nat))) fun v=>hI J h (hC.set b (.arr g us q)) fun h'=>iz J h h' fun ws=>dI j ws ws acc aL fun cb=>bY s o.dst v fun s'=>bF E af R ops k lits (j+1) l (dh j ws ws acc) cb s' h'):jx E af R ops k lits j o l acc aL s h J sC hC :=
 jx.op (bZ ▸ hq ▸ G8 hE hi hk bL gr hb aE hx hy hm) H
theorem I.zI (n:Nat) {i:iP} {fx:Operand} {args:Array Operand} {ts:Array TypeId} {av:List AV} (hl:R.fx.loops[n]? = some (.loop i)) (hg:ig ops o s true) (bZ:o.op = .call { callee := .value fx,args:=args,argTypes:=ts }) (hf:aQ E.G s fx (.fn (.yield i.l) [] [])) (ha:gS E.G s args.toList av) (hlen:av.length=i.ps.size)
  (H:I E i.fn ⟨R.n,R.Q,R.rows,⟨R.fx.f0,some i.l,[],⟨⟨af,R.fx.cy,R.fx.aA⟩,.a8 ops (o::l)::k,s⟩::R.fx.cls,R.fx.loops,R.fx.inl⟩⟩ [] [.code i.assign,.nX,.code i.body] (rE i.ps.toList av i.fY) h):I E af R lits (.a8 ops (o::l)::k) s h:=by
 refine .of ?_;unfold AW;intro c0 c t tt h0 h1 h2 h3 hr bE h4 h5 cs;subst h2;obtain ⟨j,hj,eB,aJ⟩:=ku (h1 _ (List.mem_cons_self ..));have hi:lr c0.w.heap.size c i:=bE.all.each _ (List.mem_append_right _ (List.mem_of_getElem? hl));obtain ⟨v1,v2,e1,e2,e3⟩:=jn (hf c ⟨t,marks R.fx.aA⟩ h3 h4);obtain rfl:v1=[]:=List.eq_nil_of_length_eq_zero (by simpa using e2.1.symm);obtain rfl:v2=[]:=List.eq_nil_of_length_eq_zero (by simpa using e3.1.symm);have e4:=ha c ⟨t,marks R.fx.aA⟩ h3 h4;have H:=H.to;unfold AW at H;have fg:(#[]++args.map (⟨t,marks R.fx.aA⟩:Act).eval).size=i.dZ.params.size:=by
  have:=e4.1;simp at this ⊢;rw [← this,hlen];rfl
 have eu:=CA (ps:=i.ps.toList) hi.fY e4;obtain ⟨c2,fr,r,v,q1,q2,q3,q4,q5,q6⟩:=H c0 c _ (t::tt) h0 (fun x hx=>by simp at hx; rcases hx with rfl | rfl | rfl <;> trivial) rfl h3 hr bE eu ⟨h4,h1,h5⟩ cs;refine ⟨c2,fr,r,v,q1,q2,q3,q4,.head ?_ q5,q6⟩;have cn:(execOp (⟨t,marks R.fx.aA⟩:Act).eval o).run E.P c.w = .ok (.round i.l i.fn ((i.ps.toList.zip (args.toList.map (⟨t,marks R.fx.aA⟩:Act).eval)).foldl (fun t (p,v)=>t.setIfInBounds p v) i.tm) i.assign i.body) c.w:=by
  have hy:=run_yield (P:=E.P) hi.mem fg;simp only [execOp,bZ,resolve,e1,Deferred.ofValue,invoke,Sem.run_bind,Sem.run_pure,Result.andThen_ok,hy]
  congr 2
  rw [← Array.foldl_toList,Array.toList_zip];simp [iP.dZ]
 have hs:=Hd (P:=E.P) (b:=bf ⟨af,R.fx.cy,R.fx.aA⟩) (a:=⟨t,marks R.fx.aA⟩) (k:=k.map aH.bA) (cs:=ev R.fx.cls tt++cs) (rest:=(List.range ops.size).drop (ops.size - l.length)) hj (hg c t h4) cn;simp only [bP.bA,List.map_cons,ev,eB,List.cons_append];exact hs
theorem zJ {o oj:Oper} {j d:Nat} {s:List AV} (h:o.guard=some (j,true)) (hj:ops.toList[j]? = some oj) (hd:oj.dst=some d) (hs:s[d]? = some (.d (.bool true))):ig ops o s true:=AH (b:=true) h hj hd hs
end
theorem I.Jl {E:Env} {af:FuncId} {R:cu} {td:List aH} {s:List AV} {h:List ab} {lits:List Nat} {g:bc} {rows:List bc} (hp:R.rows=g::rows) (H:I E af ⟨R.n,R.Q,rows,R.fx⟩ lits td s h):I E af R lits td s h:=by
 replace H:=H.to;refine .of ?_;unfold AW at H ⊢;intro c0 c t ts h0 h1 h2 h3 hr bE h4 h5 cs;rw [hp] at bE;refine H c0 c t ts h0 h1 h2 h3 hr ⟨⟨fun g hg=>bE.all.each g (List.mem_cons_of_mem _ hg),?_⟩,fun g hg=>bE.flat g (List.mem_cons_of_mem _ hg)⟩ h4 h5 cs;have h:=bE.all.nodup;rw [List.cons_append,List.flatMap_cons] at h;exact (List.nodup_append.1 h).2.1
def zK (L:List bc):List Nat→List bc
 | []=>L
 |d::ds => .mark d::zK L ds
theorem Jm {L:List bc}:∀ {ds:List Nat},zK L ds=ds.map .mark++L
 | []=>rfl
 |d::ds=>congrArg (bc.mark d :: ·) (Jm (ds:=ds))
abbrev cu.marked (R:cu) (L:List bc) (ds:List Nat):cu:=⟨R.n,R.Q,R.rows,⟨R.fx.f0,R.fx.cy,ds,R.fx.cls,zK L ds,R.fx.inl⟩⟩
theorem fI {h h':List ab} {L:List bc} {K:Prop}:∀ {ds:List Nat},rk h h' (zK L ds) K=rk h h' L K
 | []=>rfl
 |_::ds=>fI (ds:=ds)
theorem I.R5 {E:Env} {af:FuncId} {R:cu} {s:List AV} {h:List ab} {lits:List Nat} {b:Code} {k:List aH} {κ:Type} (eT:List Nat) (vars:κ→List (Nat × AV)) (boxes:κ→List (Nat × ab)) (Φ:κ→Prop) (μ:κ→Nat) (x0:κ) (L:List bc) (DM:List Nat) (h0:Φ x0)
  (me:rm eT (kJ (boxes x0)) (vars x0) (boxes x0) s h fun s' h'=>tp h h' (R.marked L DM).fx (tj R.n h s h' s'))
  (pH:∀ x ds,Φ x→(∀ y xl,Φ y→μ y<μ x→I E af (R.marked L xl) [] (.inLoop b::k) (ju (vars y) (anyS eT (jw (kJ (boxes x0)) s))) (jv (boxes y) h))→I E af (R.marked L ds) [] (.code b :: .inLoop b::k) (ju (vars x) (anyS eT (jw (kJ (boxes x0)) s))) (jv (boxes x) h)) :
  I E af (R.marked L DM) lits (.code (.loop b)::k) s h:=by
 have main:∀ n x ds,μ x<n→Φ x→I E af (R.marked L ds) [] (.inLoop b::k) (ju (vars x) (anyS eT (jw (kJ (boxes x0)) s))) (jv (boxes x) h):=by
  intro n
  induction n with
  |zero=>intro x ds hx; omega
  |succ n ih=>intro x ds hx hP; exact .of (.inLoop (pH x ds hP fun y xl hy hm=>ih y xl (by omega) hy).to)
 rw [vV] at me;exact .of (.loop (.weaken me (pH x0 DM h0 fun y xl hy _=>main (μ y+1) y xl (by omega) hy).to))
end Go.aw
end
section
namespace Go.aw
open Go Go.RowKit
section
variable {E:Env} {af:FuncId} {R:cu} {k:List aH} {s:List AV} {h:List ab}
end
end Go.aw
end
section
namespace Go.aw
open Go Go.RowKit
section
variable {E:Env} {s:List AV} {h:List ab}
end
end Go.aw
end
