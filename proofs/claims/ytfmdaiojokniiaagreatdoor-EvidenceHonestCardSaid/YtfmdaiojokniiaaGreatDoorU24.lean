/- Lemmas of mine. Conditions: as stated. -/
import Derived.Test.YtfmdaiojokniiaaGreatDoorU17
import Derived.Test.YtfmdaiojokniiaaGreatDoorU19
import Derived.Test.YtfmdaiojokniiaaGreatDoorU23
set_option linter.unusedVariables false
set_option linter.unusedSimpArgs false
section
namespace Go.Proofs.YtfmdaiojokniiaaGreatDoor.P
open Go Go.ay
set_option maxRecDepth 100000
set_option maxHeartbeats 4000000
theorem YL(x y:Signed)(h1:x.set.data.length<=2147483648)(h2:x.sigs.length<=2147483648):aq E 112 [x.enc,y.enc] (· = .bool (decide (x=y))):=by
 obtain⟨⟨a1,a2,a3,a4⟩,a5⟩:=x;obtain⟨⟨b1,b2,b3,b4⟩,b5⟩:=y;simp only at h1 h2;have c1:=YJ a4 b4 h1;have c2:=YK a5 b5 h2;show aq E _ [DV.agg [.str a1,.int .i64 a2,.int .i64 a3,.sl (a4.map Datum.enc),.sl (a5.map da.enc)],DV.agg [.str b1,.int .i64 b2,.int .i64 b3,.sl (b4.map Datum.enc),.sl (b5.map da.enc)]] _;refine eP Tryz.func112 ?_;repeat' (first|with_reducible(first|refine ao (c1) ?_|refine au (c1) ?_|refine ao (c2) ?_|refine au (c2) ?_|refine cY ?_|refine cN ?_|refine ai (fun _=>?_) (fun _=>?_))|refine gA Tryz.func112 ?_|refine gB ?_|with_reducible rfl)
 all_goals
  refine congrArg DV.bool ?_;rw[Bool.eq_iff_iff];simp_all
theorem YM(a b:List Signed)(hl:a.length<=2147483648)(he:∀ s∈a,s.set.data.length<=2147483648/\s.sigs.length<=2147483648):ar E 111 [] [.d (.sl (a.map Signed.enc)),.d (.sl (b.map Signed.enc)),.fn (.func 112) [] []] (fun x y=>x=.d (.bool (decide (a=b)))/\y=[]):=by
 apply ar.kl
 case hk=>rfl
 refine ar.run ab (fn:=Tryz.f111) Tryz.func111 (body:=Tryz.f111.body.getD .skip) rfl (by decide) 2000 rfl ?_;(conv=>whnf);refine ai (fun h3=>?_) (fun h3=>?_)
 ·have aI:a≠b:=by rintro rfl;simp at h3
  rw[decide_eq_false aI];refine gO F111 ?_;exact⟨rfl,rfl⟩
 have oE:a.length=b.length:=by simp at h3;omega
 refine gO F111 ?_;refine I.loop (κ:=Nat) (rg 6 4++rg 17 15) (fun k=>[(17,.d (.int .i64 k))]) (fun _=>[]) (fun k=>k<=a.length/\a.take k=b.take k) (fun k=>a.length-k) 0 ⟨Nat.zero_le _,rfl⟩ ?_ ?_
 ·exact sZ
 intro k hk IH;refine I.head ab F111 2000 ?_;(conv=>whnf);refine ai (fun h7=>?_) (fun h7=>?_)
 ·have ah:k<a.length:=by simpa using h7
  obtain⟨u,hu⟩:=aG ah;obtain⟨w,hw⟩:=aG (l:=b) (k:=k) (by omega);have AK:=he u (List.mem_of_getElem? hu);have c1:=YL u w AK.1 AK.2;refine gO F111 ?_;refine aB (e:=u.enc) (aN hu) rfl ?_;refine gO F111 ?_;refine aB (e:=w.enc) (aN hw) rfl ?_;refine gO F111 ?_;refine ao (c1) ?_;refine gO F111 ?_;by_cases h8:u=w
  ·rw[decide_eq_true h8];refine aR ?_;refine gO F111 ?_;refine I.back (IH (k+1) ⟨by omega,qX hk.2 hu hw h8⟩ (by omega)) ?_;exact sZ
  ·rw[decide_eq_false h8];refine bj ?_;refine gO F111 ?_;rw[decide_eq_false (od hu hw h8)];exact⟨rfl,rfl⟩
 ·have aA:k=a.length:=by simp at h7;omega
  have vy:a=b:=qY hk.2 (by omega) (by omega);refine gO F111 ?_;exact⟨by simp[vy],rfl⟩
theorem YN(a b:dR)(hl:a.ae.length<=2147483648)(he:∀ s∈a.ae,s.set.data.length<=2147483648/\s.sigs.length<=2147483648):aq E 44 [a.enc,b.enc] (· = .bool (decide (a=b))):=by
 have c1:=YM a.ae b.ae hl he;obtain⟨a1,a2,a3⟩:=a;obtain⟨b1,b2,b3⟩:=b;simp only at c1;show aq E _ [DV.agg [.int .i64 a1,.sl (a2.map Signed.enc),.str a3],DV.agg [.int .i64 b1,.sl (b2.map Signed.enc),.str b3]] _;refine eP Tryz.func44 ?_;repeat' (first|with_reducible(first|refine cY ?_|refine cN ?_|refine ai (fun _=>?_) (fun _=>?_))|refine gA Tryz.func44 ?_|refine gB ?_|with_reducible rfl)
 all_goals try (refine congrArg DV.bool ?_;simp_all;done)
 refine jv c1 ?_;rintro r b ⟨rfl,rfl⟩;refine gO Tryz.func44 ?_;refine congrArg DV.bool ?_;rw[Bool.eq_iff_iff];simp_all
theorem Oe(a:dR):aq E 42 [a.enc] (· = .bool (nw a)):=by
 obtain⟨a1,a2,a3⟩:=a;show aq E _ [DV.agg [.int .i64 a1,.sl (a2.map Signed.enc),.str a3]] _;unfold nw;refine eP Tryz.func42 ?_;repeat' (first|with_reducible(first|refine cY ?_|refine cN ?_|refine ai (fun _=>?_) (fun _=>?_))|refine gA Tryz.func42 ?_|refine gB ?_|with_reducible rfl)
 all_goals (refine congrArg DV.bool ?_;simp_all)
def p0(x:cW):Bool:=fF x.q&&(nt x.answer||nw x.answer)&&decide (0<=x.time)&&decide (x.time<=10000000)&&decide (1<=x.addr)&&decide (x.addr<=1000000)
theorem YO(x:cW)(hf:x.cT):aq E 41 [x.enc] (· = .bool (p0 x)):=by
 have c1:=gG x.q.name hf.1;have c2:=Oe x.answer;have c3:=LF x.q x.answer hf.1 hf.2;obtain⟨t,ad,⟨qn,qt⟩,⟨ak,al,ac⟩⟩:=x;unfold Gq fF at c3;unfold p0 fF;simp only at c1 c2 c3 ⊢;show aq E _ [DV.agg [.int .i64 t,.int .i64 ad,.str qn,.int .i64 qt,.int .i64 ak,.sl (al.map Signed.enc),.str ac]] _;refine eP Tryz.func41 ?_;repeat' (first|with_reducible(first|refine ao (c1) ?_|refine au (c1) ?_|refine ao (c2) ?_|refine au (c2) ?_|refine ao (c3) ?_|refine au (c3) ?_|refine cY ?_|refine cN ?_|refine ai (fun _=>?_) (fun _=>?_))|refine gA Tryz.func41 ?_|refine gB ?_|with_reducible rfl)
 all_goals (refine congrArg DV.bool ?_;simp_all;try omega)
theorem YP(l:List Int)(n:Int)(hl:l.length<=maxLen):aq E 23 [.sl (l.map (.int .i64)),.int .i64 n] (· = .bool (decide (n∈l))):=by
 unfold maxLen at hl;refine eP F23 ?_;refine I.loop (κ:=Nat) (rg 4 14) (fun k=>[(5,.d (.int .i64 k))]) (fun _=>[]) (fun k=>k<=l.length/\n ∉ l.take k) (fun k=>l.length-k) 0 ⟨Nat.zero_le _,by simp⟩ ?_ ?_
 ·exact sZ
 rintro k ⟨hk,bK⟩ IH;refine I.head ab F23 2000 ?_;(conv=>whnf);refine ai (fun h5=>?_) (fun h5=>?_)
 ·have ah:k<l.length:=by simpa using h5
  obtain⟨x,hx⟩:=aG ah;refine gO F23 ?_;refine aB (e := .int .i64 x) (aN hx) rfl ?_;refine gO F23 ?_;refine ai (fun h8=>?_) (fun h8=>?_)
  ·have:n∈l:=by
    have e:x=n:=by simpa using h8
    exact e ▸ List.mem_of_getElem? hx
   refine gO F23 ?_;simp[this]
  ·refine gO F23 ?_;refine I.back (IH (k+1) ⟨by omega,by rw[cK hx];exact fun hm=>(List.mem_append.1 hm).elim bK fun h=>by simp at h;simp[h]at h8⟩ (by omega)) ?_;exact sZ
 ·have aA:l.length<=k:=by simpa using h5
  rw[List.take_of_length_le aA]at bK;refine gO F23 ?_;simp[bK]
end Go.Proofs.YtfmdaiojokniiaaGreatDoor.P
end
section
namespace Go.ay
open Go Go.RowKit
section
variable {E:Env} {ag:FuncId} {R:cF} {s:List AV} {h:List af} {ops:Array Oper} {o:Oper} {l:List Oper} {k:List aP}
theorem YT{x y:Operand}{ts:Array TypeId}{a b:Int}(hx:aZ E.G s x (.d (.int .i64 a)))(hy:aZ E.G s y (.d (.int .i64 b))):bw E (.call { callee := .builtin .max,args := #[x,y],argTypes:=ts }) s h (.d (.int .i64 (max a b))) h:=by
 refine .quiet fun o c ac e1 e2 h3 h4=>⟨.int .i64 (max a b),?_,.d _ _ (.int _ _)⟩;have q1:=dW (hx c ac h3 h4);have q2:=dW (hy c ac h3 h4);have q3:(if a<b then b else a)=max a b:=by
  rcases Int.lt_or_le a b with q|q
  ·rw[if_pos q,Int.max_eq_right (Int.le_of_lt q)]
  ·rw[if_neg (Int.not_lt.2 q),Int.max_eq_left q]
 simp only[execOp,e1,resolve,invoke,builtin,Builtin.max_,Builtin.max2,List.map_toArray,List.map_cons,List.map_nil,q1,q2,List.foldlM_cons,List.foldlM_nil,Sem.run_bind,Sem.run_pure,Result.andThen_ok,pure_bind,bind_pure,q3]
theorem YU{x y:Operand}{ts:Array TypeId}{a b:Int}(hx:aZ E.G s x (.d (.int .i64 a)))(hy:aZ E.G s y (.d (.int .i64 b))):bw E (.call { callee := .builtin .min,args := #[x,y],argTypes:=ts }) s h (.d (.int .i64 (min a b))) h:=by
 refine .quiet fun o c ac e1 e2 h3 h4=>⟨.int .i64 (min a b),?_,.d _ _ (.int _ _)⟩;have q1:=dW (hx c ac h3 h4);have q2:=dW (hy c ac h3 h4);have q3:(if b<a then b else a)=min a b:=by
  rcases Int.lt_or_le b a with q|q
  ·rw[if_pos q,Int.min_eq_right (Int.le_of_lt q)]
  ·rw[if_neg (Int.not_lt.2 q),Int.min_eq_left q]
 simp only[execOp,e1,resolve,invoke,builtin,Builtin.min_,Builtin.min2,List.map_toArray,List.map_cons,List.map_nil,q1,q2,List.foldlM_cons,List.foldlM_nil,Sem.run_bind,Sem.run_pure,Result.andThen_ok,pure_bind,bind_pure,q3]
end
section
variable {E:Env} {ops:Array Oper} {ag:FuncId} {R:cF} {s:List AV} {h:List af} {lits:List Nat} {k:List aP} {o:Oper} {l:List Oper}
theorem kJ.own(hE:E.OK){j:Nat}{acc:List (Nat × gN)}{a8:List (Nat × Nat)}{J:List Nat}{sC:List AV}{hC:List af}(H:B2 E o.op sC hC False fun x h1=>fB J h x fun v=>ju J h h1 fun h'=>jT J h h' fun ws=>eA j ws ws acc a8 fun cE=>cd s o.dst v fun s'=>bM E ag R ops k lits (j+1) l (dN j ws ws acc) cE s' h'):kJ E ag R ops k lits j o l acc a8 s h J sC hC:=by
 rcases Kt hE H with h|⟨v,h1,H,ho⟩
 ·exact h.elim
 ·exact kJ.op ho H
theorem kJ.KS(hE:E.OK){j:Nat}{acc:List (Nat × gN)}{a8:List (Nat × Nat)}{J:List Nat}{sC:List AV}{hC:List af}{dT sT e b g:Nat}{i ei:br}{us:Nat × Nat}{x y:Operand}{p m:List DV}(q:List DV)(cm:o.op=.call { callee := .builtin .copy,args := #[x,y],argTypes := #[dT,sT] })(hx:aZ E.G sC x (.own b g))(hy:aZ E.G sC y (.d (.sl m)))(hi:E.T[dT]?=some i)(hk:i.k=.slice e)(bT:E.T[e]?=some ei)(hb:hC[b]?=some (.arr g us p))(iR:us.2=ei.size)(aI:p≠[])(hm:∀ z∈m,z.cells.length=us.2)(hq:m.take p.length++p.drop m.length=q)
  (H:fB J h (.d (.int .i64 (min m.length p.length:Nat))) fun v=>ju J h (hC.set b (.arr g us q)) fun h'=>jT J h h' fun ws=>eA j ws ws acc a8 fun cE=>cd s o.dst v fun s'=>bM E ag R ops k lits (j+1) l (dN j ws ws acc) cE s' h'):kJ E ag R ops k lits j o l acc a8 s h J sC hC :=
 kJ.op (cm ▸ hq ▸ KQ hE hi hk bT iR hb aI hx hy hm) H
theorem I.Og(n:Nat){i:kz}{fx:Operand}{args:Array Operand}{ts:Array TypeId}{av:List AV}(hl:R.fx.loops[n]?=some (.loop i))(hg:gW ops o s true)(cm:o.op=.call { callee := .value fx,args:=args,argTypes:=ts })(hf:aZ E.G s fx (.fn (.yield i.l) [] []))(ha:jn E.G s args.toList av)(hlen:av.length=i.ps.size)
  (H:I E i.fn ⟨R.n,R.Q,R.rows,⟨R.fx.f0,some i.l,[],⟨⟨ag,R.fx.cB,R.fx.aL⟩,.bu ops (o::l)::k,s⟩::R.fx.cls,R.fx.loops,R.fx.inl⟩⟩ [] [.code i.assign,.ql,.code i.body] (uP i.ps.toList av i.iB) h):I E ag R lits (.bu ops (o::l)::k) s h:=by
 refine .of ?_;unfold AW;intro c0 c t tt h0 h1 h2 h3 hr bq h4 h5 cs;subst h2;obtain⟨j,hj,ea,aM⟩:=mQ (h1 _ (List.mem_cons_self ..));have hi:nR c0.w.heap.size c i:=bq.all.each _ (List.mem_append_right _ (List.mem_of_getElem? hl));obtain⟨v1,v2,e1,e2,e3⟩:=ma (hf c ⟨t,marks R.fx.aL⟩ h3 h4);obtain rfl:v1=[]:=List.eq_nil_of_length_eq_zero (by simpa using e2.1.symm);obtain rfl:v2=[]:=List.eq_nil_of_length_eq_zero (by simpa using e3.1.symm);have e4:=ha c ⟨t,marks R.fx.aL⟩ h3 h4;have H:=H.to;unfold AW at H;have jr:(#[]++args.map (⟨t,marks R.fx.aL⟩:Act).eval).size=i.eV.params.size:=by
  have:=e4.1;simp at this ⊢;rw[<- this,hlen];rfl
 have dm:=FZ (ps:=i.ps.toList) hi.iB e4;obtain⟨c2,fr,r,v,q1,q2,q3,q4,q5,q6⟩:=H c0 c _ (t::tt) h0 (fun x hx=>by simp at hx;rcases hx with rfl|rfl|rfl<;>trivial) rfl h3 hr bq dm ⟨h4,h1,h5⟩ cs;refine⟨c2,fr,r,v,q1,q2,q3,q4,.head ?_ q5,q6⟩;have cI:(execOp (⟨t,marks R.fx.aL⟩:Act).eval o).run E.P c.w=.ok (.round i.l i.fn ((i.ps.toList.zip (args.toList.map (⟨t,marks R.fx.aL⟩:Act).eval)).foldl (fun t (p,v)=>t.setIfInBounds p v) i.tm) i.assign i.body) c.w:=by
  have hy:=run_yield (P:=E.P) hi.mem jr;simp only[execOp,cm,resolve,e1,Deferred.ofValue,invoke,Sem.run_bind,Sem.run_pure,Result.andThen_ok,hy]
  congr 2
  rw[<- Array.foldl_toList,Array.toList_zip];simp[kz.eV]
 have hs:=KV (P:=E.P) (b:=bf ⟨ag,R.fx.cB,R.fx.aL⟩) (a:=⟨t,marks R.fx.aL⟩) (k:=k.map aP.bI) (cs:=eL R.fx.cls tt++cs) (rest:=(List.range ops.size).drop (ops.size-l.length)) hj (hg c t h4) cI;simp only[b8.bI,List.map_cons,eL,ea,List.cons_append];exact hs
theorem Oh{o oj:Oper}{j d:Nat}{s:List AV}(h:o.guard=some (j,true))(hj:ops.toList[j]?=some oj)(hd:oj.dst=some d)(hs:s[d]?=some (.d (.bool true))):gW ops o s true:=wu (b:=true) h hj hd hs
end
theorem I.Oi{E:Env}{ag:FuncId}{R:cF}{td:List aP}{s:List AV}{h:List af}{lits:List Nat}{g:bk}{rows:List bk}(hp:R.rows=g::rows)(H:I E ag ⟨R.n,R.Q,rows,R.fx⟩ lits td s h):I E ag R lits td s h:=by
 replace H:=H.to;refine .of ?_;unfold AW at H ⊢;intro c0 c t ts h0 h1 h2 h3 hr bq h4 h5 cs;rw[hp]at bq;refine H c0 c t ts h0 h1 h2 h3 hr ⟨⟨fun g hg=>bq.all.each g (List.mem_cons_of_mem _ hg),?_⟩,fun g hg=>bq.flat g (List.mem_cons_of_mem _ hg)⟩ h4 h5 cs;have h:=bq.all.nodup;rw[List.cons_append,List.flatMap_cons]at h;exact(List.nodup_append.1 h).2.1
def Dp(L:List bk):List Nat->List bk
 |[]=>L
 |d::ds => .mark d::Dp L ds
theorem Oj{L:List bk}:∀ {ds:List Nat},Dp L ds=ds.map .mark++L
 |[]=>rfl
 |d::ds=>congrArg (bk.mark d :: ·) (Oj (ds:=ds))
abbrev cF.marked(R:cF)(L:List bk)(ds:List Nat):cF:=⟨R.n,R.Q,R.rows,⟨R.fx.f0,R.fx.cB,ds,R.fx.cls,Dp L ds,R.fx.inl⟩⟩
theorem fy{h h':List af}{L:List bk}{K:Prop}:∀ {ds:List Nat},uw h h' (Dp L ds) K=uw h h' L K
 |[]=>rfl
 |_::ds=>fy (ds:=ds)
theorem I.YV{E:Env}{ag:FuncId}{R:cF}{s:List AV}{h:List af}{lits:List Nat}{b:Code}{k:List aP}{κ:Type}(fY:List Nat)(vars:κ->List (Nat × AV))(boxes:κ->List (Nat × af))(Φ:κ->Prop)(μ:κ->Nat)(x0:κ)(L:List bk)(dD:List Nat)(h0:Φ x0)
  (oQ:uy fY (nb (boxes x0)) (vars x0) (boxes x0) s h fun s' h'=>w0 h h' (R.marked L dD).fx (wY R.n h s h' s'))
  (sG:∀ x ds,Φ x->(∀ y AM,Φ y->μ y<μ x->I E ag (R.marked L AM) [] (.inLoop b::k) (lB (vars y) (anyS fY (lD (nb (boxes x0)) s))) (lC (boxes y) h))->I E ag (R.marked L ds) [] (.code b :: .inLoop b::k) (lB (vars x) (anyS fY (lD (nb (boxes x0)) s))) (lC (boxes x) h)) :
  I E ag (R.marked L dD) lits (.code (.loop b)::k) s h:=by
 have main:∀ n x ds,μ x<n->Φ x->I E ag (R.marked L ds) [] (.inLoop b::k) (lB (vars x) (anyS fY (lD (nb (boxes x0)) s))) (lC (boxes x) h):=by
  intro n
  induction n with
  |zero=>intro x ds hx;omega
  |succ n ih=>intro x ds hx hP;exact .of (.inLoop (sG x ds hP fun y AM hy hm=>ih y AM (by omega) hy).to)
 rw[zk]at oQ;exact .of (.loop (.weaken oQ (sG x0 dD h0 fun y AM hy _=>main (μ y+1) y AM (by omega) hy).to))
end Go.ay
end
