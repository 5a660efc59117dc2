/- Lemmas of mine. Conditions: as stated. -/
import Derived.Test.YtlhehdgciafakaaGreatDoorQ5
import Derived.Lib.BufferMore
import Derived.Lib.LazyBuf
import Derived.Laws.CopyRow
set_option linter.unusedVariables false
set_option linter.unusedSimpArgs false
open Array renaming getElem?_modify->ahZ,toArray_toList->akp,ext'->aiY,getElem?_push->aij,ext_getElem?->aks,getElem?_setIfInBounds->ajI,getElem?_eq_getElem->ah2
open Bool renaming false_eq_true->ah0
open List renaming map_cons->ahx,mem_of_getElem?->aiQ,mem_cons_self->aio,getElem?_set_self->ahQ,getElem?_set_ne->ahR,getElem?_append_left->ahT,length_set->aiv,range->ais,mem_append_right->ajM,getElem?_append_right->aiH,getElem?_drop->ai5,mem_append->aif,flatMap_append->akg,nil_append->ako,getElem?_eq_getElem->aiX,getElem?_of_mem->aiN,map_toArray->akq,map_nil->akr,getElem?_toArray->ajx,mem_append_left->ajL,append_assoc->aiK,eq_nil_of_length_eq_zero->ahM,cons_append->aie
open Nat renaming mul_comm->aia,mul_le_mul_right->aiP,le_refl->ahL,lt_or_ge->ahs
open Option renaming getD_none->aiZ,getD_some->ah8,map_some->air,bind_some->aiy
open Go.Result renaming andThen_ok->ahr
open Go.Sem renaming run_pure->ahp,run_bind->ahq
section
namespace Go.az
open Go Go.RowKit
section
variable {E:Env} {aj:FuncId} {R:cT} {s:List AV} {h:List ae} {lits:List Nat} {ops:Array Oper} {o:Oper} {l:List Oper} {k:List aY}
theorem Ww(op:BinOp)(t:TypeId)(x y:Operand)(p q:Option Addr)(a b c d:Nat):eqGuard op t x y (.slice p a b) (.slice q c d)=pure ():=by
 unfold eqGuard;cases op<;>rfl
theorem I.mY(hE:E.OK){t e:Nat}{x:Operand}{yt:Nat}{m:List DV}{ti:bA}(hg:o.guard=none)(cH:o.op=.binOp .eql t x (.const (.slice none 0 0)) yt)(ca:E.T[t]?=some ti)(hk:ti.k=.slice e)(hx:bk E.G s x (.d (.sl m)))
  (H:∀ b,(b=true->m=[])->I E aj R lits (.bF ops l::k) (cg s o.dst (.d (.bool b))) h):I E aj R lits (.bF ops (o::l)::k) s h:=by
 refine .of ?_;unfold AW;intro c0 c t' fj h0 h1 h2 h3 hr bz h4 h5 cs;subst h2;obtain⟨i,hi,dG,aV⟩:=oB (h1 _ (aio ..));obtain⟨nJ,d,g1,g2,g3,-⟩:=cK (hE.types t ti ca);obtain rfl:=mM (hk.symm.trans g3);have hv:=hx c ⟨t',marks R.fx.aS⟩ h3 h4;have fin:∀ (p:Option Addr) (n cp:Nat) (b:Bool),(⟨t',marks R.fx.aS⟩:Act).eval x=.slice p n cp->(binOp .eql t (.slice p n cp) (.slice none 0 0)).run E.P c.w=.ok (.bool b) c.w->(execOp (⟨t',marks R.fx.aS⟩:Act).eval o).run E.P c.w=.ok (.value (.bool b)) c.w:=fun p n cp b e1 e2=>by
  have lK:(⟨t',marks R.fx.aS⟩:Act).eval (.const (.slice none 0 0))=.slice none 0 0:=rfl;simp only[execOp,cH,e1,lK,Ww,ahq,ahp,ahr,e2]
 have key:∃ b,(b=true->m=[])/\(execOp (⟨t',marks R.fx.aS⟩:Act).eval o).run E.P c.w=.ok (.value (.bool b)) c.w:=by
  generalize hu:(⟨t',marks R.fx.aS⟩:Act).eval x=u at hv;cases hv with
  |d _ _ hv=>cases hv with
   |slnil=>exact⟨true,fun _=>rfl,fin _ _ _ _ hu (Lib.run_eql_slice_nil_nil c.w 0 0 g2)⟩
   |l6 a=>exact⟨false,fun _=>rfl,fin _ _ _ _ hu (Lib.run_eql_slice_some_nil c.w a 0 0 g2)⟩
   |sl _ blk off cap sz f=>exact⟨false,fun q=>(by cases q),fin _ _ _ _ hu (Lib.run_eql_slice_some_nil c.w _ _ _ g2)⟩
 obtain⟨b,hb,cL⟩:=key;have H:=(H b hb).to;unfold AW at H;have fw:VS c (cg s o.dst (.d (.bool b))) ((⟨t',marks R.fx.aS⟩:Act).put o.dst (.bool b)).tmps:=VS.cg (a:=⟨t',marks R.fx.aS⟩) h4 o.dst (.d _ _ (.bool b));obtain⟨c2,fr,rr,u,e1,e2,e3,e4,e5,e6⟩:=H c0 c _ fj h0 (iM aV (eV h1)) rfl h3 hr bz fw h5 cs;refine⟨c2,fr,rr,u,e1,e2,e3,e4,.head ?_ e5,e6⟩;simp only[cn.bO,ahx,dG];rw[yx hi (iF hg c t' h4) (.inl cL),put_defers];rfl
end
end Go.az
end
section
namespace Go.az
open Go Go.RowKit
section
variable {G:List (Nat × DV)} {c:Cx}
theorem aO.rewrite(ho:aO G c){b g blk cap:Nat}{ts:Nat × Nat}{l l':List DV}{vs vs':Array Value}{w':World}(hb:c.heap[b]?=some (.arr g ts l))(bN:c.own b=some (blk,cap))(hblk:c.w.heap[blk]?=some (.cells vs ts.1 (0,0)))
  (hl:l'.length=l.length) (eU:∀ (i:Nat) (e:DV),l'[i]?=some e->e.cells.length=ts.2) (bP:vs'.size=vs.size) (GP:w'.os=c.w.os) (ht:w'.tape=c.w.tape) (Wx:w'.output=c.w.output) (hs:w'.heap.size=c.w.heap.size)
  (tp:∀ x,x≠blk->w'.heap[x]?=c.w.heap[x]?) (eK:w'.heap[blk]?=some (.cells vs' ts.1 (0,0)))
  (hv:∀ (i j:Nat) (e x:DV),l'[i]?=some e->e.cells[j]?=some x->∃ v,vs'[i*ts.2+j]?=some v/\v.oneCell'=true/\VD c.bad c.w x v) :
  aO G { c with heap:=c.heap.set b (.arr g ts l'),w:=w' }/\Step c { c with heap:=c.heap.set b (.arr g ts l'),w:=w' }:=by
 have fE:=aW hb
 have bc:Step c { c with heap:=c.heap.set b (.arr g ts l'),w:=w' }:=⟨rfl,ho.bV,GP,ht,Wx,by show _<=w'.heap.size;rw[hs];exact ahL _,fun x _ hn=>tp x (fun e=>by subst e;exact hn b cap bN),fun i x n hi _=>⟨n,hi⟩,fun i bx hi=>by
  by_cases bL:i=b
  ·subst bL;rw[hb]at hi;cases hi;exact .inl ⟨g,l',ahQ fE,.inr ⟨rfl,hl,rfl⟩⟩
  ·exact nB hi (ahR (Ne.symm bL)) rfl⟩
 refine⟨ho.next bc (fun i x n hi=>?_) ho.inj (fun i bx hi=>?_),bc⟩
 ·have:=ho.bD i x n hi;refine⟨by show x<w'.heap.size;rw[hs];exact this.1,?_⟩;show i<(c.heap.set b _).length;rw[aiv];exact this.2
 ·by_cases bL:i=b
  ·subst bL;have cu:(c.heap.set i (.arr g ts l'))[i]?=some bx:=hi;rw[ahQ fE]at cu;cases cu;right;obtain⟨q0,q1,q2⟩:=ho.box i _ hb;rcases q2 with⟨q2,-⟩|⟨jL,iV,vs0,q2,q3,q4,q5,q6,q7⟩
   ·rw[bN]at q2;cases q2
   rw[bN]at q2;cases q2;rw[hblk]at q3;cases q3;refine⟨q0,eU,.inr ⟨blk,cap,vs',bN,eK,by rw[bP];exact q4,by rw[hl];exact q5,q6,fun i j e x he hx=>?_⟩⟩;obtain⟨v,k1,k2,k3⟩:=hv i j e x he hx;exact⟨v,k1,k2,bc.vd k3⟩
  ·have cu:(c.heap.set b (.arr g ts l'))[i]?=some bx:=hi;rw[ahR (Ne.symm bL)]at cu;exact .inl ⟨cu,rfl,fun x n hn=>tp x (fun e=>by subst e;exact bL (ho.inj i b _ n cap hn bN))⟩
theorem N7{P:Program}(w:World)(dT sT ty elem:TypeId)(g xc BI:Nat)(a:Addr)(IA Wy sz:Nat)(cur:Array Value)(t:TypeId)(cs:List Value)
  (hu:P.underlying dT=some (.slice elem)) (hs:(P.info? elem).map (·.size)=some sz)
  (hg:w.heap[g]?=some (.cells cur t (0,0))) (hn:cs.length=Nat.min IA xc*sz)
  (sO:∀ j v,cs[j]?=some v->w.cell? (a.add j)=some v) (jM:cs.length<=cur.size) (h1:∀ v∈cs,v.oneCell'=true) :
  (Builtin.copy_ #[dT,sT] ty #[.slice (some ⟨g,0,none⟩) xc BI,.slice (some a) IA Wy]).run P w =
   .ok (goInt (Nat.min IA xc)) (w.setRow g (cs++cur.toList.drop cs.length).toArray):=by
 have hl:=run_loadCells_list (P:=P) w a cs sO;have bc:=run_storeCells_at P g 0 t cs 0 cur w hg (zD jM) h1;simp only[Nat.add_zero,List.take_zero,ako,Nat.zero_add]at bc;cases hq:P.info? elem with
 |none=>simp[hq]at hs
 |some i =>
  have hi:i.size=sz:=by simpa [hq]using hs
  simp[Builtin.copy_,run_underlying hu,Builtin.lenOf,Builtin.firstCells,sizeOf,typeInfo,hq,hi,<- hn,hl,bc]
end
section
variable {E:Env} {aj:FuncId} {R:cT} {s:List AV} {h:List ae} {lits:List Nat} {ops:Array Oper} {o:Oper} {l:List Oper} {k:List aY}
theorem Wz(hE:E.OK){dT sT e b g:Nat}{x y:Operand}{i ei:bA}{ts:Nat × Nat}{l m:List DV}(hi:E.T[dT]?=some i)(hk:i.k=.slice e)(b9:E.T[e]?=some ei)(kh:ts.2=ei.size)(hb:h[b]?=some (.arr g ts l))(aL:l≠[])
  (hx:bk E.G s x (.own b g)) (hy:bk E.G s y (.d (.sl m))) (hm:∀ z∈m,z.cells.length=ts.2) :
  bE E (.call { callee := .builtin .copy,args := #[x,y],argTypes := #[dT,sT] }) s h (.d (.int .i64 (min m.length l.length:Nat))) (h.set b (.arr g ts (m.take l.length++l.drop m.length))):=by
 intro o c a e1 e2 e3 e4;subst e2;obtain⟨yu,d,q1,q2,q3,-⟩:=cK (hE.types dT i hi);obtain rfl:=mM (hk.symm.trans q3);obtain⟨tie,de,p1,p2,p3,p4,-⟩:=cK (hE.types e ei b9);obtain⟨b0,b1,b2⟩:=e3.box b _ hb;rcases lu hb (hx c a e3 e4)with⟨blk,cap,r1,r2⟩|⟨r,-,-⟩
 case inr=>exact absurd r aL
 rcases b2 with⟨b2,-⟩|⟨jL,iV,vs,b2,b3,b4,b5,b6,b7⟩
 ·rw[r1]at b2;cases b2
 rw[r1]at b2;cases b2;have ia:=hy c a e3 e4;have key:∃ (cs:List Value) (sv:Value),a.eval y=sv/\cs.length=min m.length l.length*ts.2/\(∀ v∈cs,v.oneCell'=true) /\
   (∀ (i j:Nat) (e z:DV),i<l.length->m[i]?=some e->e.cells[j]?=some z->∃ v,cs[i*ts.2+j]?=some v/\v.oneCell'=true/\VD c.bad c.w z v) /\
   (Builtin.copy_ #[dT,sT] o.type #[.slice (some ⟨blk,0,none⟩) l.length cap,sv]).run E.P c.w=.ok (goInt ((min m.length l.length:Nat):Int)) (c.w.setRow blk (cs++vs.toList.drop cs.length).toArray):=by
  have WA:c.w.setRow blk (([]:List Value)++vs.toList.drop ([]:List Value).length).toArray=c.w:=by
   simp only[ako,List.length_nil,List.drop_zero,akp];exact setRow_self c.w blk vs ts.1 (0,0) b3
  have bP:(E.P.info? e).map (·.size)=some ts.2:=by rw[p1,air,kh,<- p4]
  generalize hu:a.eval y=u at ia;cases ia with
  |d _ _ hv=>cases hv with
   |slnil =>
    refine⟨[],_,rfl,by simp,fun v hv=>by simp at hv,fun i j e z _ he=>by simp at he,?_⟩;rw[WA];have BJ:min ([]:List DV).length l.length=0:=by simp
    rw[BJ];have:=run_copy_nil (P:=E.P) c.w dT sT o.type e ⟨blk,0,none⟩ l.length cap q2 (by rw[p1];rfl)
    simpa using this
   |l6 a' =>
    refine⟨[],_,rfl,by simp,fun v hv=>by simp at hv,fun i j e z _ he=>by simp at he,?_⟩;have BJ:min ([]:List DV).length l.length=0:=by simp
    rw[BJ];have:=N7 (P:=E.P) c.w dT sT o.type e blk l.length cap a' 0 0 ts.2 vs ts.1 [] q2 bP b3 sP (fun j v hj=>by simp at hj) sP (fun v hv=>by simp at hv)
    simpa using this
   |sl _ IB off eN sz f h1 h2 h3 h4 h5 h6 h7 =>
    have facts:∀ q,q<min m.length l.length*ts.2->∃ e z,m[q / ts.2]?=some e/\e.cells[q % ts.2]?=some z/\sz=ts.2:=fun q hq=>by
     have hi:q / ts.2<min m.length l.length:=Nat.div_lt_of_lt_mul (by rw[aia];exact hq);have hj:q % ts.2<ts.2:=Nat.mod_lt _ b0;obtain⟨z,hz⟩:∃ z,m[q / ts.2]?=some z:=⟨m[q / ts.2]' oM,by rw[aiX]⟩;have qd:=hm z (aiQ hz);have po:=h4 _ z hz;exact⟨z,z.cells[q % ts.2]' oM,hz,by rw[aiX],by omega⟩
    have hlen:((ais (min m.length l.length*ts.2)).map fun q=>f (q / ts.2) (q % ts.2)).length=min m.length l.length*ts.2:=by simp
    have ew:∀ q v,((ais (min m.length l.length*ts.2)).map fun q=>f (q / ts.2) (q % ts.2))[q]?=some v->q<min m.length l.length*ts.2/\v=f (q / ts.2) (q % ts.2):=fun q v hq=>by
     have ai:=aW hq;rw[hlen]at ai;refine⟨ai,?_⟩;simp[ai]at hq;exact hq.symm
    refine⟨_,_,rfl,hlen,fun v hv=>?_,fun i j e z hi he hz=>?_,?_⟩
    ·obtain⟨q,hq⟩:=aiN hv;obtain⟨lL,rfl⟩:=ew q v hq;obtain⟨e,z,g1,g2,g3⟩:=facts q lL;exact h7 _ _ e z g1 g2
    ·have hj:j<ts.2:=by rw[<- hm e (aiQ he)];exact aW hz
     have zj:=aW he;have hq:i*ts.2+j<min m.length l.length*ts.2:=by
      have h1:(i+1)*ts.2<=min m.length l.length*ts.2:=aiP _ oM;rw[Nat.add_mul]at h1;omega
     have ed:(i*ts.2+j) / ts.2=i:=by rw[aia,Nat.mul_add_div b0,Nat.div_eq_of_lt hj];omega
     have em:(i*ts.2+j) % ts.2=j:=by rw[aia,Nat.mul_add_mod,Nat.mod_eq_of_lt hj]
     exact⟨f i j,by simp[hq,ed,em],h7 i j e z he hz,h6 i j e z he hz⟩
    ·have jM:((ais (min m.length l.length*ts.2)).map fun q=>f (q / ts.2) (q % ts.2)).length<=vs.size:=by
      rw[hlen,b4];exact aiP _ oM
     exact N7 (P:=E.P) c.w dT sT o.type e blk l.length cap ⟨IB,off,none⟩ m.length eN ts.2 vs ts.1 _ q2 bP b3 hlen (fun q v hq=>by
      obtain⟨lL,rfl⟩:=ew q v hq;obtain⟨e,z,g1,g2,g3⟩:=facts q lL;have:=h5 _ _ e z g1 g2;subst g3;rw[aia,Nat.div_add_mod]at this;have Dy:(⟨IB,off,none⟩:Addr).add q=⟨IB,off+q,none⟩:=by unfold Addr.add;split<;>simp_all
      rw[Dy];exact this) jM (fun v hv=>by
      obtain⟨q,hq⟩:=aiN hv;obtain⟨lL,rfl⟩:=ew q v hq;obtain⟨e,z,g1,g2,g3⟩:=facts q lL
      exact h7 _ _ e z g1 g2)
 obtain⟨cs,sv,k1,k2,k3,k4,k5⟩:=key;have agC:cs.length<=vs.size:=by rw[k2,b4];exact aiP _ oM
 have WB:blk<c.w.heap.size:=(e3.bD b blk cap r1).1;have IC:=e3.rewrite (l':=m.take l.length++l.drop m.length) (vs':=(cs++vs.toList.drop cs.length).toArray) (w':=c.w.setRow blk (cs++vs.toList.drop cs.length).toArray) hb r1 b3 (by simp;omega) (fun i e he=>?_) (by simp;omega) rfl rfl rfl (by simp[World.setRow]) (fun x hx=>by simp[World.setRow,ahZ,Ne.symm hx]) (by simp[World.setRow,ahZ,b3]) (fun i j e z he hz=>?_)
 ·obtain⟨aV,bc⟩:=IC;refine⟨_,.int .i64 (min m.length l.length:Nat),.inl ?_,rfl,aV,.d _ _ (.int _ _),bc⟩;simp only[execOp,e1,resolve,invoke,builtin,akq,ahx,akr,r2,k1,ahq,ahp,ahr,k5];rfl
 ·rcases ahs i (m.take l.length).length with h|h
  ·rw[ahT h]at he;exact hm e (List.mem_of_mem_take (aiQ he))
  ·rw[aiH h]at he;exact b1 _ e (by rw[ai5]at he;exact he)
 ·have hj:∀ z:DV,z.cells.length=ts.2->∀ w,z.cells[j]?=some w->j<ts.2:=fun z hz w hw=>by rw[<- hz];exact aW hw
  rcases ahs i (m.take l.length).length with h|h
  ·rw[ahT h,List.getElem?_take]at he;have hY:i<l.length:=by simp at h;omega
   rw[if_pos hY]at he;obtain⟨v,v1,v2,v3⟩:=k4 i j e z hY he hz;refine⟨v,?_,v2,v3⟩;rw[ajx,ahT (aW v1)];exact v1
  ·rw[aiH h]at he;rw[ai5]at he;have hlen:(m.take l.length).length=min m.length l.length:=by simp;omega
   rw[hlen]at he h;have ID:m.length<l.length:=by
    have:=aW he;omega
   have N8:min m.length l.length=m.length:=by omega
   rw[N8]at he h;rw[show m.length+(i-m.length)=i by omega]at he;obtain⟨v,v1,v2,v3⟩:=b7 i j e z he hz;refine⟨v,?_,v2,v3⟩;have rp:cs.length<=i*ts.2+j:=by
    rw[k2,N8];have:=aiP ts.2 h;omega
   rw[ajx,aiH rp,ai5,show cs.length+(i*ts.2+j-cs.length)=i*ts.2+j by omega]
   simpa using v1
end
end Go.az
end
section
namespace Go.az
open Go Go.RowKit
theorem iD.mid{lim:Nat}{c:Cx}{g1 g2:List br}{g:br}(h:iD lim c (g1++g2))(hg:kf lim c g)(hn:g.cy.Nodup)(hd:∀ x∈g.cy,x ∉ (g1++g2).flatMap br.cy):iD lim c (g1++g::g2):=by
 refine⟨fun r hr=>?_,?_⟩
 ·rcases aif.1 hr with hr|hr
  ·exact h.each r (ajL _ hr)
  ·rcases List.mem_cons.1 hr with rfl|hr
   ·exact hg
   ·exact h.each r (ajM _ hr)
 ·have hp:((g1++g::g2).flatMap br.cy).Perm (g.cy++(g1++g2).flatMap br.cy):=by
   have:=(List.perm_middle (a:=g) (l₁ := g1) (l₂ := g2)).flatMap_right br.cy
   simpa using this
  rw[hp.nodup_iff,List.nodup_append];exact⟨hn,h.nodup,fun x hx y hy e=>by subst e;exact hd x hx hy⟩
section
variable {lim:Nat} {c:Cx} {rows L:List br}
theorem dp.push{g:br}(h:dp lim c rows L)(hg:kf lim c g)(hn:g.cy.Nodup)(hd:∀ x∈g.cy,x ∉ (rows++L).flatMap br.cy):dp lim c rows (g::L):=⟨h.all.mid hg hn hd,h.flat⟩
theorem dp.pop{g:br}(h:dp lim c rows (g::L)):dp lim c rows L/\kf lim c g/\∀ x∈g.cy,x ∉ (rows++L).flatMap br.cy:=by
 obtain⟨h1,h2,h3⟩:=h.all.w7;exact⟨⟨h1,h.flat⟩,h2,h3⟩
theorem dp.old{G:List (Nat × DV)}(h:dp lim c rows L)(ho:aO G c){b:Nat}(hb:b∈(rows++L).flatMap br.cy):b<c.w.heap.size:=by
 obtain⟨g,hg,hx⟩:=List.mem_flatMap.1 hb;exact ho.bV _ ((h.all.each g hg).aD _ hx)
theorem Touch.putObj{l:Nat}{o:Obj}(hb:c.aD l):Touch c l (c.w.putObj l o):=⟨hb,rfl,rfl,rfl,World.putObj_size,fun _ h=>World.putObj_heap_other h⟩
theorem dp.N9{n r:Nat}{g g':br}{w':World}(h:dp lim c rows L)(hl:L[n]?=some g)(hb:g.cy=[r])(cB:g'.cy=[r])(ht:Touch c r w')(hg:kf lim (c.fe w') g'):dp lim (c.fe w') rows (L.set n g'):=by
 have ai:=aW hl;have e1:L=L.take n++g::L.drop (n+1):=by
  have uU:L[n]=g:=(List.getElem?_eq_some_iff.1 hl).2;rw[<- uU,List.getElem_cons_drop,List.take_append_drop]
 have e2:L.set n g'=L.take n++g'::L.drop (n+1):=by
  rw[List.set_eq_take_append_cons_drop,if_pos ai]
 have h1:=h.all;rw[e1,<- aiK]at h1;obtain⟨k1,k2,k3⟩:=h1.w7;rw[e2];refine⟨?_,h.flat⟩;rw[<- aiK];refine(ht.rows k1 (k3 r (by rw[hb];simp))).mid hg (by rw[cB];simp) (fun x hx=>?_);rw[cB]at hx;exact k3 x (by rw[hb];exact hx)
end
def xd:List Nat->List AV->List AV->List AV
 |p::ps,a::l,s=>xd ps l (s.set p a)
 |_,_,s=>s
theorem IE{c:Cx}:∀ {ps:List Nat} {l:List AV} {vs:List Value} {s:List AV} {t:Array Value},VS c s t->VL c l vs->VS c (xd ps l s) ((ps.zip vs).foldl (fun t (p,v)=>t.setIfInBounds p v) t)
 |[],_,_,_,_,h,_=>by simpa [xd]using h
 |_::_,[],[],_,_,h,_=>by simpa [xd]using h
 |_::_,_::_,[],_,_,_,hl=>by have:=hl.1;simp at this
 |_::_,[],_::_,_,_,_,hl=>by have:=hl.1;simp at this
 |p::ps,a::l,v::vs,s,t,h,hl=>by
  simp only[xd,List.zip_cons_cons,List.foldl_cons];exact IE (h.put p hl.head.1) hl.head.2
theorem WC {P : Program} {f : FuncId} {fn : Func} {b : Code} (hf : P.funcs[f]? = some fn) (hb : fn.body = some b) (hn : (fn.name == "runtime.NumGoroutine") = false) (args : Array Value) (w : World) : (callFunc f args).run P w = .ok (.enter f args) w := by
 simp only[callFunc,ahq,ahp,ahr,program,Sem.run,hf,hn,hb,Option.isNone_some,ah0,if_false]
theorem N'{P:Program}{f:FuncId}{fn:Func}{b:Code}(hf:P.funcs[f]?=some fn)(hb:fn.body=some b)(vs:List Value)(s:List AV):Frame.enter P f vs.toArray .normal=(⟨⟨f,none,[]⟩,[.code b],s⟩:cn).bO (vs.toArray++Array.replicate (fn.ntmps-vs.toArray.size) undef):=by
 simp[Frame.enter,cn.bO,Frame.atR,hf,hb,bf,aY.bO,marks]
theorem Oa{P:Program}{b:Frame}{a:Act}{k:List Item}{cs:List Frame}{w:World}{ops:Array Oper}{i:Nat}{rest:List Nat}{o:Oper}{l:Nat}{f:FuncId}{tmps:Array Value}{assign body:Code}(ho:ops[i]?=some o)(hw:Region.wanted o (yielded ops a.tmps)=true)
  (hr:(execOp a.eval o).run P w=.ok (.round l f tmps assign body) w) :
  step P (lone (b.atR a (.inRegion ops (i::rest)::k)) cs w)=.next (lone (Frame.round l f tmps assign body .normal) (b.atR a (.inRegion ops (i::rest)::k)::cs) w):=by
 have hg:=stepGR_op (P:=P) (b:=b) (k:=k) (cs:=cs) (w:=w) (rest:=rest) ho hw;have wm:=uy (ro:=b.roundOf) hr sP;exact step_lone_go (by rw[hg];simp[stepG.apply,wm])
theorem Ob{P:Program}{G:List (Nat × DV)}{c0:Cx}{rows L:List br}{cs:List Frame}:∀ (D:List Nat) (c:Cx) (fr:Frame),aO G c->dy c0 c->dp c0.w.heap.size c rows (D.map .mark++L)->fr.mode=.returning->fr.defers=marks D ->
  ∃ c':Cx,c'.heap=c.heap/\aO G c'/\dy c0 c'/\dp c0.w.heap.size c' rows L/\(∀ x v,VR c x v->VR c' x v)/\Steps P (lone fr cs c.w) (lone { fr with defers:=[] } cs c'.w)
 |[],c,fr,h1,h2,h3,_,h5=>by
  refine⟨c,rfl,h1,h2,h3,fun _ _ h=>h,?_⟩;have:{ fr with defers:=[] }=fr:=by cases fr;simp only at h5;subst h5;rfl
  rw[this];exact .refl _ _
 |d::D,c,fr,h1,h2,h3,h4,h5=>by
  obtain⟨k1,k2,k3⟩:=h3.pop;have k2:ux c0.w.heap.size c d:=k2;have ht:Touch c d (c.w.putObj d (.deferred none)) := .putObj k2.aD;have WD:=ht.rows k1.all (k3 d (by simp[br.cy]));obtain⟨c',q1,q2,q3,q4,q5,q6⟩:=Ob D (c.fe (c.w.putObj d (.deferred none))) { fr with defers:=marks D } (ht.aV h1) (ht.rel h2 k2.new) ⟨WD,k1.flat⟩ h4 rfl;refine⟨c',q1,q2,q3,q4,fun x v hv=>q5 x v (ht.vr hv),.head ?_ q6⟩;exact step_collected (calls:=[]) (by rw[h4];simp) h5 rfl (run_takeDeferred k2.mem)
theorem IF{E:Env}(hE:E.OK){fn:Func}{s:List AV}{h:List ae}{K:AV->List ae->Prop}(H:pz E.T s h fn.results.toList False K) :
  ∃ r,K r h/\∀ (c:Cx) (t:Array Value),c.heap=h->aO E.G c->VS c s t->∃ v,VR c r v/\(results fn t).run E.P c.w=.ok v c.w:=by
 unfold pz at H;rcases Db hE H with h'|⟨l,H,hl⟩
 ·cases h'
 split at H
 ·rename_i x;refine⟨x,H,fun c t e1 e2 e3=>?_⟩;obtain⟨vs,g1,g2⟩:=hl c t e1 e2 e3;cases vs with
  |nil=>have:=g1.1;simp at this
  |cons v vs=>cases vs with
   |cons u vs=>have:=g1.1;simp at this
   |nil=>exact⟨v,g1.head.1,GO g2⟩
 ·rename_i aL;refine⟨_,H,fun c t e1 e2 e3=>?_⟩;obtain⟨vs,g1,g2⟩:=hl c t e1 e2 e3;refine⟨.tuple vs.toArray,.aG _ _ (zD g1.1) fun j x v hx hu=>g1.2 j x v hx (zD hu),?_⟩;have:=GO g2;cases vs with
  |nil=>exact this
  |cons v vs=>cases vs with
   |nil =>
    have:=g1.1;cases l with
    |nil=>simp at this
    |cons x l=>cases l with
     |nil=>exact absurd rfl (aL x)
     |cons y l=>simp at this
   |cons u vs=>exact this
section
variable {E:Env} {aj:FuncId} {R:cT} {s:List AV} {h:List ae} {lits:List Nat} {ops:Array Oper} {o:Oper} {l:List Oper} {k:List aY}
theorem I.rangeFunc {g : Operand} {ps : Array Tmp} {assign body Oc : Code} {gf : FuncId} {a1 a2 : List AV} {fn : Func} (hg : bk E.G s g (.fn (.func gf) a1 a2)) (hf : E.P.funcs[gf]? = some fn) (hb : fn.body = some Oc) (hn : (fn.name == "runtime.NumGoroutine") = false) (lM : R.fx.cI = none)
  (H:∀ (ll d:Nat) (t:Array Value),I E gf ⟨R.n,R.Q,R.rows,⟨R.fx.f0,none,[],⟨⟨aj,none,d::R.fx.aS⟩,.rj ll::k,s⟩::R.fx.cls,.loop ⟨ll,d,.ready,none,aj,t,ps,assign,body,s⟩ :: .mark d::R.fx.loops,R.fx.inl⟩⟩ [] [.code Oc] (oC (a1++[.fn (.yield ll) [] []]++a2) fn.ntmps) h) :
  I E aj R lits (.code (.rangeFunc g ps assign body)::k) s h:=by
 have e:(⟨aj,R.fx.cI,R.fx.aS⟩:ke)=⟨aj,none,R.fx.aS⟩:=by rw[lM]
 refine .of ?_;rw[e];unfold AW;intro c0 c t ts h0 h1 h2 h3 hr bz h4 h5 cs;subst h2;obtain⟨v1,v2,e1,e2,e3⟩:=mP (hg c ⟨t,marks R.fx.aS⟩ h3 h4);obtain⟨i,hi⟩:∃ i:ma,i=⟨c.w.heap.size+1,c.w.heap.size,.ready,none,aj,t,ps,assign,body,s⟩:=⟨_,rfl⟩;have bP:(c.dq (.deferred (some []))).w.heap.size=c.w.heap.size+1:=by simp[Cx.dq]
 have dB:aO E.G (c.dq (.deferred (some []))):=h3.dq;have fq:aO E.G ((c.dq (.deferred (some []))).dq (.loop i.fS)):=dB.dq;have Is:dy c0 ((c.dq (.deferred (some []))).dq (.loop i.fS)):=hr.dq.dq;have iX:∀ x v,VR c x v->VR ((c.dq (.deferred (some []))).dq (.loop i.fS)) x v:=fun x v hv=>w9 (w9 hv);have hY:i.l=c.w.heap.size+1:=by rw[hi]
 have BK:dp c0.w.heap.size ((c.dq (.deferred (some []))).dq (.loop i.fS)) R.rows (.loop i :: .mark c.w.heap.size::R.fx.loops):=by
  have b0:dp c0.w.heap.size ((c.dq (.deferred (some []))).dq (.loop i.fS)) R.rows R.fx.loops:=⟨(bz.all.dq h3).dq dB,bz.flat⟩;have b1:dp c0.w.heap.size ((c.dq (.deferred (some []))).dq (.loop i.fS)) R.rows (.mark c.w.heap.size::R.fx.loops):=by
   refine b0.push (g := .mark c.w.heap.size) (show ux _ _ _ from ⟨.inl (.inr rfl),hr.size,?_⟩) (by simp[br.cy]) (fun x hx hm=>?_)
   ·show((c.w.alloc (.deferred (some []))).alloc (.loop i.fS)).heap[c.w.heap.size]?=_;rw[Below.heap_alloc _ _ _ sP];exact heap_alloc_new _ _
   ·simp[br.cy]at hx;subst hx;have:=bz.old h3 hm;omega
  refine b1.push (g := .loop i) (show py _ _ _ from ⟨.inr (by rw[hY,bP]),by rw[hY];have:=hr.size;omega,?_,?_⟩) (by simp[br.cy]) (fun x hx hm=>?_)
  ·show((c.w.alloc (.deferred (some []))).alloc (.loop i.fS)).heap[i.l]?=_;rw[hY,show c.w.heap.size+1=(c.w.alloc (.deferred (some []))).heap.size by simp];exact heap_alloc_new _ _
  ·have es:i.jP=s:=by rw[hi]
   have et:i.tm=t:=by rw[hi]
   rw[es,et];exact⟨h4.1,fun j x v hx hv=>iX x v (h4.2 j x v hx hv)⟩
  ·simp[br.cy]at hx;subst hx;rw[akg,aif,List.flatMap_cons,aif]at hm;rcases hm with hm|hm|hm
   ·have:=bz.old h3 (b:=i.l) (by rw[akg];exact ajL _ hm);omega
   ·simp[br.cy]at hm;omega
   ·have:=bz.old h3 (b:=i.l) (by rw[akg];exact ajM _ hm);omega
 have H:=(H (c.w.heap.size+1) c.w.heap.size t).to;rw[<- hi]at H;unfold AW at H;have kg:VL ((c.dq (.deferred (some []))).dq (.loop i.fS)) (a1++[.fn (.yield (c.w.heap.size+1)) [] []]++a2) (v1++[.func (.yield (c.w.heap.size+1)) #[] #[]]++v2):=by
  have lift:∀ {x:List AV} {u:List Value},VL c x u->VL ((c.dq (.deferred (some []))).dq (.loop i.fS)) x u:=fun hx=>⟨hx.1,fun j x v h1 h2=>iX x v (hx.2 j x v h1 h2)⟩;exact((lift e2).append (.cons (.fn _ _ _ _ _ rfl rfl (fun j x v hx=>by simp at hx) (fun j x v hx=>by simp at hx)) .nil)).append (lift e3)
 obtain⟨c2,fr,r,v,q1,q2,q3,q4,q5,q6⟩:=H c0 ((c.dq (.deferred (some []))).dq (.loop i.fS)) _ (t::ts) h0 (fun x hx=>by simp at hx;subst hx;trivial) rfl fq Is BK (GH fn.ntmps kg) ⟨⟨h4.1,fun j x v hx hv=>iX x v (h4.2 j x v hx hv)⟩,iM trivial (eV h1),px iX h5⟩ cs;refine⟨c2,fr,r,v,q1,q2,q3,q4,.head ?_ q5,q6⟩;have ib:=run_enterLoop_outer (P:=E.P) (w:=c.w) aj t ps assign body;have WE:(Loop.mk .ready none aj t ps assign body c.w.heap.size)=i.fS:=by rw[hi];rfl
 rw[WE]at ib;have IG:(resolve (⟨t,marks R.fx.aS⟩:Act).eval (rangeCall g (c.w.heap.size+1)) 0).run E.P ((c.w.alloc (.deferred (some []))).alloc (.loop i.fS))=.ok { target := .fn (.func gf) v2.toArray,args:=v1.toArray ++ #[.func (.yield (c.w.heap.size+1)) #[] #[]] } ((c.w.alloc (.deferred (some []))).alloc (.loop i.fS)):=by
  have hy:∀ l:Nat,#[Operand.const (Value.func (Fn.yield l) #[] #[])].map (⟨t,marks R.fx.aS⟩:Act).eval = #[.func (.yield l) #[] #[]]:=fun _=>by simp[Act.eval]
  simp only[resolve,rangeCall,e1,Deferred.ofValue,ahp,hy]
 have hinv:(invoke (Target.fn (.func gf) v2.toArray) (v1.toArray ++ #[.func (.yield (c.w.heap.size+1)) #[] #[]])).run E.P ((c.w.alloc (.deferred (some []))).alloc (.loop i.fS))=.ok (.enter gf (v1++[Value.func (.yield (c.w.heap.size+1)) #[] #[]]++v2).toArray) ((c.w.alloc (.deferred (some []))).alloc (.loop i.fS)):=by
  simp only[invoke];rw[WC hf hb hn]
  congr 2
  apply aiY;simp
 have hs:=stepR_rangeFunc (P:=E.P) (b:=bf ⟨aj,none,R.fx.aS⟩) (a:=⟨t,marks R.fx.aS⟩) (k:=k.map aY.bO) (cs:=fG R.fx.cls ts++cs) ib IG hinv;rw[N' hf hb _ (oC (a1++[.fn (.yield (c.w.heap.size+1)) [] []]++a2) fn.ntmps)]at hs;exact hs
theorem I.yield(n:Nat){i:ma}{fx:Operand}{args:Array Operand}{ts:Array TypeId}{av:List AV}(hl:R.fx.loops[n]?=some (.loop i))(hg:o.guard=none)(cH:o.op=.call { callee := .value fx,args:=args,argTypes:=ts })(hf:bk E.G s fx (.fn (.yield i.l) [] []))(ha:kK E.G s args.toList av)(hlen:av.length=i.ps.size)
  (H:I E i.fn ⟨R.n,R.Q,R.rows,⟨R.fx.f0,some i.l,[],⟨⟨aj,R.fx.cI,R.fx.aS⟩,.bF ops (o::l)::k,s⟩::R.fx.cls,R.fx.loops,R.fx.inl⟩⟩ [] [.code i.assign,.sK,.code i.body] (xd i.ps.toList av i.jP) h):I E aj R lits (.bF ops (o::l)::k) s h:=by
 refine .of ?_;unfold AW;intro c0 c t tt h0 h1 h2 h3 hr bz h4 h5 cs;subst h2;obtain⟨j,hj,dG,aV⟩:=oB (h1 _ (aio ..));have hi:py c0.w.heap.size c i:=bz.all.each _ (ajM _ (aiQ hl));obtain⟨v1,v2,e1,e2,e3⟩:=mP (hf c ⟨t,marks R.fx.aS⟩ h3 h4);obtain rfl:v1=[]:=ahM (zD e2.1.symm);obtain rfl:v2=[]:=ahM (zD e3.1.symm);have e4:=ha c ⟨t,marks R.fx.aS⟩ h3 h4;have H:=H.to;unfold AW at H;have iG:(#[]++args.map (⟨t,marks R.fx.aS⟩:Act).eval).size=i.fS.params.size:=by
  have:=e4.1;simp at this ⊢;rw[<- this,hlen];rfl
 have fw:=IE (ps:=i.ps.toList) hi.jP e4;obtain⟨c2,fr,r,v,q1,q2,q3,q4,q5,q6⟩:=H c0 c _ (t::tt) h0 (fun x hx=>by simp at hx;rcases hx with rfl|rfl|rfl<;>trivial) rfl h3 hr bz fw ⟨h4,h1,h5⟩ cs;refine⟨c2,fr,r,v,q1,q2,q3,q4,.head ?_ q5,q6⟩;have cL:(execOp (⟨t,marks R.fx.aS⟩:Act).eval o).run E.P c.w=.ok (.round i.l i.fn ((i.ps.toList.zip (args.toList.map (⟨t,marks R.fx.aS⟩:Act).eval)).foldl (fun t (p,v)=>t.setIfInBounds p v) i.tm) i.assign i.body) c.w:=by
  have hy:=run_yield (P:=E.P) hi.mem iG;simp only[execOp,cH,resolve,e1,Deferred.ofValue,invoke,ahq,ahp,ahr,hy]
  congr 2
  rw[<- Array.foldl_toList,Array.toList_zip];simp[ma.fS]
 have hs:=Oa (P:=E.P) (b:=bf ⟨aj,R.fx.cI,R.fx.aS⟩) (a:=⟨t,marks R.fx.aS⟩) (k:=k.map aY.bO) (cs:=fG R.fx.cls tt++cs) (rest:=(ais ops.size).drop (ops.size-l.length)) hj (iF hg c t h4) cL;simp only[cn.bO,ahx,fG,dG,aie];exact hs
theorem I.begin(n:Nat){i:ma}(hl:R.fx.loops[n]?=some (.loop i))(lM:R.fx.cI=some i.l)(bc:i.st=.ready)
  (H:I E aj ⟨R.n,R.Q,R.rows,⟨R.fx.f0,some i.l,R.fx.aS,R.fx.cls,R.fx.loops.set n (.loop { i with st := .busy }),R.fx.inl⟩⟩ lits k s h):I E aj R lits (.sK::k) s h:=by
 have e:(⟨aj,R.fx.cI,R.fx.aS⟩:ke)=⟨aj,some i.l,R.fx.aS⟩:=by rw[lM]
 refine .of ?_;rw[e];unfold AW;intro c0 c t tt h0 h1 h2 h3 hr bz h4 h5 cs;subst h2;have hi:py c0.w.heap.size c i:=bz.all.each _ (ajM _ (aiQ hl));have ht:Touch c i.l (c.w.putObj i.l (.loop { i with st := .busy }.fS)) := .putObj hi.aD;have ai:=h3.bV _ hi.aD;have BK:dp c0.w.heap.size (c.fe (c.w.putObj i.l (.loop { i with st := .busy }.fS))) R.rows (R.fx.loops.set n (.loop { i with st := .busy })) :=
  bz.N9 hl rfl rfl ht (show py _ _ _ from ⟨hi.aD,hi.new,World.putObj_heap_same ai,⟨hi.jP.1,fun j x v hx hv=>ht.vr (hi.jP.2 j x v hx hv)⟩⟩)
 have H:=H.to;unfold AW at H;obtain⟨c2,fr,r,v,q1,q2,q3,q4,q5,q6⟩:=H c0 (c.fe (c.w.putObj i.l (.loop { i with st := .busy }.fS))) t tt h0 (eV h1) rfl (ht.aV h3) (ht.rel hr hi.new) BK ⟨h4.1,fun j x v hx hv=>ht.vr (h4.2 j x v hx hv)⟩ (px (fun _ _=>ht.vr) h5) cs;refine⟨c2,fr,r,v,q1,q2,q3,q4,.head ?_ q5,q6⟩;exact stepR_beginRound (b:=bf ⟨aj,some i.l,R.fx.aS⟩) (a:=⟨t,marks R.fx.aS⟩) (k:=k.map aY.bO) rfl (run_beginRound hi.mem bc)
theorem I.II(n:Nat){i:ma}(jump:Option Code){td:List aY}{fd:ke}{jv:Array Oper}{o1:Oper}{l1:List Oper}{k1:List aY}{s1:List AV}{jb:List cn}
  (hj:∀ (b:Frame) (a:Act) (cf:Frame) (cs:List Frame) (w w':World) (v:Value),b.roundOf=some i.l->b.kind=.normal->(Instr.endRound i.l jump).run E.P w=.ok v w'->step E.P (lone (b.atR a (td.map aY.bO)) (cf::cs) w)=.next (lone (cf.finish v) cs w'))
  (hl:R.fx.loops[n]?=some (.loop i)) (lM:R.fx.cI=some i.l) (hc:R.fx.cls=⟨fd,.bF jv (o1::l1)::k1,s1⟩::jb)
  (H:I E fd.f ⟨R.n,R.Q,R.rows,⟨R.fx.f0,fd.cI,fd.aS,jb,R.fx.loops.set n (.loop { i with st:=if jump.isNone then .ready else .done,pe:=jump }),R.fx.inl⟩⟩ [] (.bF jv l1::k1) (cg s1 o1.dst (.d (.bool jump.isNone))) h):I E aj R lits td s h:=by
 have e:(⟨aj,R.fx.cI,R.fx.aS⟩:ke)=⟨aj,some i.l,R.fx.aS⟩:=by rw[lM]
 refine .of ?_;rw[e,hc];unfold AW;intro c0 c t tt h0 h1 h2 h3 hr bz h4 h5 cs;subst h2;obtain⟨t1,kp,rfl⟩:∃ t1 kp,tt=t1::kp:=by
  cases tt with
  |nil=>exact h5.elim
  |cons t1 kp=>exact⟨_,_,rfl⟩
 obtain⟨c4,c5,c6⟩:=h5;obtain⟨j,Ea,dG,aV⟩:=oB (c5 _ (aio ..));have hi:py c0.w.heap.size c i:=bz.all.each _ (ajM _ (aiQ hl));obtain⟨i2,vh⟩:∃ i2:ma,i2={ i with st:=if jump.isNone then .ready else .done,pe:=jump }:=⟨_,rfl⟩;rw[<- vh]at H;have Eb:i2.l=i.l:=by rw[vh]
 have es:i2.jP=i.jP:=by rw[vh]
 have et:i2.tm=i.tm:=by rw[vh]
 have ht:Touch c i.l (c.w.putObj i.l (.loop i2.fS)) := .putObj hi.aD;have ai:=h3.bV _ hi.aD;have BK:dp c0.w.heap.size (c.fe (c.w.putObj i.l (.loop i2.fS))) R.rows (R.fx.loops.set n (.loop i2)) :=
  bz.N9 hl rfl (by simp[br.cy,Eb]) ht (show py _ _ _ from ⟨by rw[Eb];exact hi.aD,by rw[Eb];exact hi.new,by rw[Eb];exact World.putObj_heap_same ai,by rw[es,et];exact⟨hi.jP.1,fun j x v hx hv=>ht.vr (hi.jP.2 j x v hx hv)⟩⟩)
 have H:=H.to;unfold AW at H;have jo:VS (c.fe (c.w.putObj i.l (.loop i2.fS))) (cg s1 o1.dst (.d (.bool jump.isNone))) ((⟨t1,marks fd.aS⟩:Act).put o1.dst (.bool jump.isNone)).tmps :=
  VS.cg (a:=⟨t1,marks fd.aS⟩) ⟨c4.1,fun j x v hx hv=>ht.vr (c4.2 j x v hx hv)⟩ o1.dst (.d _ _ (.bool _))
 obtain⟨c2,fr,r,v,q1,q2,q3,q4,q5,q6⟩:=H c0 (c.fe (c.w.putObj i.l (.loop i2.fS))) _ kp h0 (iM aV (eV c5)) rfl (ht.aV h3) (ht.rel hr hi.new) BK jo (px (fun _ _=>ht.vr) c6) cs;refine⟨c2,fr,r,v,q1,q2,q3,q4,.head ?_ q5,q6⟩;have cL:(Instr.endRound i.l jump).run E.P c.w=.ok (.bool jump.isNone) (c.w.putObj i.l (.loop i2.fS)):=by
  have:=run_endRound (P:=E.P) jump hi.mem;rw[vh];exact this
 have hs:=hj (bf ⟨aj,some i.l,R.fx.aS⟩) ⟨t,marks R.fx.aS⟩ ((⟨fd,.bF jv (o1::l1)::k1,s1⟩:cn).bO t1) (fG jb kp++cs) c.w _ _ rfl rfl cL;have iE:((⟨fd,.bF jv (o1::l1)::k1,s1⟩:cn).bO t1).finish (.bool jump.isNone)=(⟨⟨fd.f,fd.cI,fd.aS⟩,.bF jv l1::k1,cg s1 o1.dst (.d (.bool jump.isNone))⟩:cn).bO ((⟨t1,marks fd.aS⟩:Act).put o1.dst (.bool jump.isNone)).tmps:=by
  simp only[cn.bO,ahx,dG];rw[Frame.finish_atR,Ea];simp only[aiy];rw[put_defers];rfl
 rw[iE]at hs;exact hs
theorem I.rO(n:Nat){i:ma}{fd:ke}{jv:Array Oper}{o1:Oper}{l1:List Oper}{k1:List aY}{s1:List AV}{jb:List cn}(hl:R.fx.loops[n]?=some (.loop i))(lM:R.fx.cI=some i.l)(hc:R.fx.cls=⟨fd,.bF jv (o1::l1)::k1,s1⟩::jb)
  (H:I E fd.f ⟨R.n,R.Q,R.rows,⟨R.fx.f0,fd.cI,fd.aS,jb,R.fx.loops.set n (.loop { i with st := .ready,pe:=none }),R.fx.inl⟩⟩ [] (.bF jv l1::k1) (cg s1 o1.dst (.d (.bool true))) h):I E aj R lits [] s h :=
 .II n none (fun b a cf cs w w' v h1 h2 h3=>stepR_round_end h1 h2 h3) hl lM hc H
theorem I.Ec(n:Nat){i:ma}{fd:ke}{jv:Array Oper}{o1:Oper}{l1:List Oper}{k1:List aY}{s1:List AV}{jb:List cn}(hl:R.fx.loops[n]?=some (.loop i))(lM:R.fx.cI=some i.l)(hc:R.fx.cls=⟨fd,.bF jv (o1::l1)::k1,s1⟩::jb)
  (H:I E fd.f ⟨R.n,R.Q,R.rows,⟨R.fx.f0,fd.cI,fd.aS,jb,R.fx.loops.set n (.loop { i with st := .done,pe:=some .ret }),R.fx.inl⟩⟩ [] (.bF jv l1::k1) (cg s1 o1.dst (.d (.bool false))) h):I E aj R lits (.code .ret::k) s h :=
 .II n (some .ret) (fun b a cf cs w w' v h1 h2 h3=>stepR_round_ret h1 h2 h3) hl lM hc H
theorem xe{id:Nat}:∀ {l:List aY},oA id l=none->exitTo id (l.map aY.bO)=none
 |[],_=>rfl
 | .inBlock i::l,hl=>by
  simp only[oA]at hl;simp only[ahx,aY.bO,exitTo];split at hl
  ·cases hl
  ·rename_i q
   rw[if_neg (by intro hh;have : i=id := zD hh
                 rw[this, Nat.beq_refl]at q;cases q)]
   exact xe hl
 | .code c::l,hl=>xe (l:=l) hl
 | .inLoop c::l,hl=>xe (l:=l) hl
 | .bF ops q::l,hl=>xe (l:=l) hl
 | .rj c::l,hl=>xe (l:=l) hl
 | .sK::l,hl=>xe (l:=l) hl
theorem I.WG(n:Nat){i:ma}{id:Nat}{fd:ke}{jv:Array Oper}{o1:Oper}{l1:List Oper}{k1:List aY}{s1:List AV}{jb:List cn}(hx:oA id k=none)(hl:R.fx.loops[n]?=some (.loop i))(lM:R.fx.cI=some i.l)(hc:R.fx.cls=⟨fd,.bF jv (o1::l1)::k1,s1⟩::jb)
  (H:I E fd.f ⟨R.n,R.Q,R.rows,⟨R.fx.f0,fd.cI,fd.aS,jb,R.fx.loops.set n (.loop { i with st := .done,pe:=some (.exit id) }),R.fx.inl⟩⟩ [] (.bF jv l1::k1) (cg s1 o1.dst (.d (.bool false))) h):I E aj R lits (.code (.exit id)::k) s h :=
 .II n (some (.exit id)) (fun b a cf cs w w' v h1 h2 h3=>stepR_round_exit h1 h2 (xe hx) h3) hl lM hc H
theorem I.rP {fx : Operand} {args : Array Operand} {ts : Array TypeId} {f : FuncId} {fn : Func} {b : Code} {a1 a2 av : List AV} (hg : o.guard = none) (cH : o.op = .call { callee := .value fx, args := args, argTypes := ts }) (oS : bk E.G s fx (.fn (.func f) a1 a2)) (ha : kK E.G s args.toList av) (hf : E.P.funcs[f]? = some fn) (hb : fn.body = some b) (hn : (fn.name == "runtime.NumGoroutine") = false)
  (H:I E f ⟨R.n,R.Q,R.rows,⟨R.fx.f0,none,[],⟨⟨aj,R.fx.cI,R.fx.aS⟩,.bF ops (o::l)::k,s⟩::R.fx.cls,R.fx.loops,R.fx.inl⟩⟩ [] [.code b] (oC (a1++av++a2) fn.ntmps) h):I E aj R lits (.bF ops (o::l)::k) s h:=by
 refine .of ?_;unfold AW;intro c0 c t tt h0 h1 h2 h3 hr bz h4 h5 cs;subst h2;obtain⟨j,hj,dG,aV⟩:=oB (h1 _ (aio ..));obtain⟨v1,v2,e1,e2,e3⟩:=mP (oS c ⟨t,marks R.fx.aS⟩ h3 h4);have e4:=ha c ⟨t,marks R.fx.aS⟩ h3 h4;have e5:=(e2.append e4).append e3;have H:=H.to;unfold AW at H;obtain⟨c2,fr,r,v,q1,q2,q3,q4,q5,q6⟩:=H c0 c _ (t::tt) h0 (fun x hx=>by simp at hx;subst hx;trivial) rfl h3 hr bz (GH fn.ntmps e5) ⟨h4,h1,h5⟩ cs;refine⟨c2,fr,r,v,q1,q2,q3,q4,.head ?_ q5,q6⟩;have cL:=AA (P:=E.P) (w:=c.w) (a:=⟨t,marks R.fx.aS⟩) cH e1 ⟨fn,hf,by rw[hb];rfl,hn⟩;have kg:(v1.toArray++args.map (⟨t,marks R.fx.aS⟩:Act).eval++v2.toArray)=(v1++args.toList.map (⟨t,marks R.fx.aS⟩:Act).eval++v2).toArray:=by
  apply aiY;simp
 rw[kg]at cL;have hs:=GI (P:=E.P) (b:=bf ⟨aj,R.fx.cI,R.fx.aS⟩) (a:=⟨t,marks R.fx.aS⟩) (k:=k.map aY.bO) (cs:=fG R.fx.cls tt++cs) (rest:=(ais ops.size).drop (ops.size-l.length)) hj (iF hg c t h4) cL;rw[N' hf hb _ (oC (a1++av++a2) fn.ntmps)]at hs;simp only[cn.bO,ahx,fG,dG,aie]at hs ⊢;exact hs
def zk:List aY->Bool
 |[]=>true
 | .code .ret::_=>true
 |_=>false
theorem WH{P:Program}{fd:ke}(hr:fd.cI=none){td:List aY}(h:zk td=true)(a:Act)(cs:List Frame)(w:World):step P (lone ((bf fd).atR a (td.map aY.bO)) cs w)=.next (lone { (bf fd).atR a (td.map aY.bO)with mode := .returning } cs w):=by
 unfold zk at h;split at h
 ·exact stepR_end hr
 ·exact stepR_ret hr
 ·cases h
theorem IJ{P:Program}{G:List (Nat × DV)}{c0 c:Cx}{aj:FuncId}{fn:Func}{aS:List Nat}{rows L:List br}{td:List aY}{s:List AV}{t:Array Value}{r:AV}(hf:P.funcs[aj]?=some fn)(pA:zk td=true)(ho:aO G c)(hr:dy c0 c)(bz:dp c0.w.heap.size c rows (aS.map .mark++L))(hs:VS c s t)
  (IG:∀ (c':Cx) (t:Array Value),c'.heap=c.heap->aO G c'->VS c' s t->∃ v,VR c' r v/\(results fn t).run P c'.w=.ok v c'.w) (cs:List Frame) :
  ∃ (c':Cx) (fr:Frame) (v:Value),c'.heap=c.heap/\aO G c'/\dy c0 c'/\dp c0.w.heap.size c' rows L/\(∀ x u,VR c x u->VR c' x u)/\VR c' r v/\Steps P (lone ((⟨⟨aj,none,aS⟩,td,s⟩:cn).bO t) cs c.w) (lone fr cs c'.w)/\fr.fn=aj/\fr.leaving P c'.w (.returned v):=by
 obtain⟨c',q1,q2,q3,q4,q5,q6⟩:=Ob (P:=P) (cs:=cs) aS c { (bf ⟨aj,none,aS⟩).atR ⟨t,marks aS⟩ (td.map aY.bO)with mode := .returning } ho hr bz rfl rfl;obtain⟨v,p1,p2⟩:=IG c' t q1 q2 ⟨hs.1,fun j x v hx hv=>q5 x v (hs.2 j x v hx hv)⟩;exact⟨c',_,v,q1,q2,q3,q4,q5,p1,.head (WH rfl pA _ _ _) q6,rfl,rfl,rfl,rfl,fn,hf,p2⟩
theorem I.kq(hE:E.OK){fn:Func}{L:List br}{td:List aY}(hf:E.P.funcs[aj]?=some fn)(pA:zk td=true)(lM:R.fx.cI=none)(hc:R.fx.cls=[])(h0:R.fx.f0=aj)(hL:R.fx.loops=R.fx.aS.map .mark++L)(H:pz E.T s h fn.results.toList False R.Q):I E aj R lits td s h:=by
 have e:(⟨aj,R.fx.cI,R.fx.aS⟩:ke)=⟨aj,none,R.fx.aS⟩:=by rw[lM]
 refine .of ?_;rw[e,hc,h0];unfold AW;intro c0 c t tt h0 h1 h2 h3 hr bz h4 h5 cs;obtain⟨r,k1,k2⟩:=IF hE H;subst h2;rw[hL]at bz;obtain⟨c',fr,v,q1,q2,q3,q4,q5,q6,q7,q8,q9⟩:=IJ hf pA h3 hr bz h4 k2 (fG [] tt++cs);have kh:fG [] tt=[]:=by cases tt<;>rfl
 rw[kh]at q7 ⊢;exact⟨c',fr,r,v,by rw[q1];exact k1,q6,q2,q3,q7,q8,q9⟩
theorem I.nQ(hE:E.OK){fn:Func}{L:List br}{td:List aY}{fd:ke}{jv:Array Oper}{o1:Oper}{l1:List Oper}{k1:List aY}{s1:List AV}{jb:List cn}(hf:E.P.funcs[aj]?=some fn)(pA:zk td=true)(lM:R.fx.cI=none)(hc:R.fx.cls=⟨fd,.bF jv (o1::l1)::k1,s1⟩::jb)(hL:R.fx.loops=R.fx.aS.map .mark++L)
  (H:pz E.T s h fn.results.toList False fun r h'=>cz s1 o1.dst r fun s'=>I E fd.f ⟨R.n,R.Q,R.rows,⟨R.fx.f0,fd.cI,fd.aS,jb,L,R.fx.inl⟩⟩ [] (.bF jv l1::k1) s' h'):I E aj R lits td s h:=by
 have e:(⟨aj,R.fx.cI,R.fx.aS⟩:ke)=⟨aj,none,R.fx.aS⟩:=by rw[lM]
 refine .of ?_;rw[e,hc];unfold AW;intro c0 c t tt h0 h1 h2 h3 hr bz h4 h5 cs;obtain⟨r,H,k2⟩:=IF hE H;subst h2;rw[hL]at bz;obtain⟨t1,kp,rfl⟩:∃ t1 kp,tt=t1::kp:=by
  cases tt with
  |nil=>exact h5.elim
  |cons t1 kp=>exact⟨_,_,rfl⟩
 obtain⟨c4,c5,c6⟩:=h5;obtain⟨j,Ea,dG,aV⟩:=oB (c5 _ (aio ..));obtain⟨c',fr,v,q1,q2,q3,q4,q5,q6,q7,q8,q9⟩:=IJ hf pA h3 hr bz h4 k2 (fG (⟨fd,.bF jv (o1::l1)::k1,s1⟩::jb) (t1::kp)++cs);rw[eW]at H;have H:=H.to;unfold AW at H;have jo:VS c' (cg s1 o1.dst r) ((⟨t1,marks fd.aS⟩:Act).put o1.dst v).tmps:=VS.cg (a:=⟨t1,marks fd.aS⟩) ⟨c4.1,fun j x v hx hv=>q5 x v (c4.2 j x v hx hv)⟩ o1.dst q6;obtain⟨c2,wq,r2,v2,p1,p2,p3,p4,p5,p6⟩:=H c0 c' _ kp h0 (iM aV (eV c5)) q1 q2 q3 q4 jo (px q5 c6) cs;refine⟨c2,wq,r2,v2,p1,p2,p3,p4,q7.trans (.head ?_ p5),p6⟩;have hs:=step_leave_returned (c:=(⟨fd,.bF jv (o1::l1)::k1,s1⟩:cn).bO t1) (cs:=fG jb kp++cs) q9;have iE:((⟨fd,.bF jv (o1::l1)::k1,s1⟩:cn).bO t1).finish v=(⟨⟨fd.f,fd.cI,fd.aS⟩,.bF jv l1::k1,cg s1 o1.dst r⟩:cn).bO ((⟨t1,marks fd.aS⟩:Act).put o1.dst v).tmps:=by
  simp only[cn.bO,ahx,dG];rw[Frame.finish_atR,Ea];simp only[aiy];rw[put_defers];rfl
 rw[iE]at hs;exact hs
def IK:Option Code->List aY->List aY
 |some c,k => .code c::k
 |none,k=>k
theorem I.mZ(hE:E.OK){fn:Func}{L:List br}{td:List aY}{i:ma}{fd:ke}{k1:List aY}{s1:List AV}{jb:List cn}(hf:E.P.funcs[aj]?=some fn)(pA:zk td=true)(lM:R.fx.cI=none)(hc:R.fx.cls=⟨fd,.rj i.l::k1,s1⟩::jb)(hL:R.fx.loops=R.fx.aS.map .mark ++ .loop i::L)(bc:i.st ≠ .busy)
  (H:pz E.T s h fn.results.toList False fun _ _=>I E fd.f ⟨R.n,R.Q,R.rows,⟨R.fx.f0,fd.cI,fd.aS,jb,L,R.fx.inl⟩⟩ [] (IK i.pe k1) s1 h):I E aj R lits td s h:=by
 have e:(⟨aj,R.fx.cI,R.fx.aS⟩:ke)=⟨aj,none,R.fx.aS⟩:=by rw[lM]
 refine .of ?_;rw[e,hc];unfold AW;intro c0 c t tt h0 h1 h2 h3 hr bz h4 h5 cs;obtain⟨r,H,k2⟩:=IF hE H;subst h2;rw[hL]at bz;obtain⟨t1,kp,rfl⟩:∃ t1 kp,tt=t1::kp:=by
  cases tt with
  |nil=>exact h5.elim
  |cons t1 kp=>exact⟨_,_,rfl⟩
 obtain⟨c4,c5,c6⟩:=h5;obtain⟨c',fr,v,q1,q2,q3,q4,q5,q6,q7,q8,q9⟩:=IJ hf pA h3 hr bz h4 k2 (fG (⟨fd,.rj i.l::k1,s1⟩::jb) (t1::kp)++cs);obtain⟨g1,g2,g3⟩:=q4.pop;have g2:py c0.w.heap.size c' i:=g2;obtain⟨o2,Ba⟩:∃ o2:Obj,o2=.loop { i.fS with state := .exhausted }:=⟨_,rfl⟩;have ht:Touch c' i.l (c'.w.putObj i.l o2) := .putObj g2.aD;have H:=H.to;unfold AW at H;have WI:(∀ x∈IK i.pe k1,x.ok):=by
  cases i.pe with
  |none=>exact eV c5
  |some c=>exact iM trivial (eV c5)
 obtain⟨c2,wq,r2,v2,p1,p2,p3,p4,p5,p6⟩:=H c0 (c'.fe (c'.w.putObj i.l o2)) t1 kp h0 WI q1 (ht.aV q2) (ht.rel q3 g2.new) ⟨ht.rows g1.all (g3 i.l (by simp[br.cy])),g1.flat⟩ ⟨c4.1,fun j x v hx hv=>ht.vr (q5 x v (c4.2 j x v hx hv))⟩ (px (fun x v hv=>ht.vr (q5 x v hv)) c6) cs;refine⟨c2,wq,r2,v2,p1,p2,p3,p4,q7.trans (.head (step_leave_returned q9) (.head ?_ p5)),p6⟩;have iE:((⟨fd,.rj i.l::k1,s1⟩:cn).bO t1).finish v=(bf fd).atR ⟨t1,marks fd.aS⟩ (.endRangeFunc i.l::k1.map aY.bO):=by
  simp only[cn.bO,ahx,aY.bO];exact finish_atR_inRangeFunc _ _
 have tv:(Instr.endLoop i.l).run E.P c'.w=.ok i.pe (c'.w.putObj i.l o2):=by
  have:=run_endLoop (P:=E.P) g2.mem bc;rw[Ba];exact this
 have hs:=stepR_endRangeFunc (P:=E.P) (b:=bf fd) (a:=⟨t1,marks fd.aS⟩) (k:=k1.map aY.bO) (cs:=fG jb kp++cs) tv;rw[<- iE]at hs;have AY:(i.pe.map Item.code).toList++k1.map aY.bO=(IK i.pe k1).map aY.bO:=by cases i.pe<;>rfl
 rw[AY]at hs;exact hs
end
end Go.az
end
section
namespace Go.az
open Go Go.RowKit
section
variable {E:Env} {s:List AV} {h:List ae}
theorem WJ(hE:E.OK){t kt e:Nat}{m ko:Operand}{ti:bA}(ca:E.T[t]?=some ti)(hk:ti.k=.map kt e){kd:TK}(hT:uE E kt kd){b:Nat}{es:List (DV × DV)}(hb:h[b]?=some (.map es))(hm:bk E.G s m (.map b)){x:DV}(hx:bk E.G s ko (.d x))
  (h1:eo E.T kd x) (h2:∀ p∈es,eo E.T kd p.1) {z:DV} {zv:Value} (iB:∀ w,(zeroValue e).run E.P w=.ok zv w) (iW:∀ bad w,VD bad w z zv) :
  bE E (.mapEntry t m ko) s h (.d (.aG [(findD x es).getD z,.int .i64 ((fU x es).getD es.length)])) (h.set b (.map (b8 x ((findD x es).getD z) es))):=fun o c ac e1 e2 h3 h4=>by
 subst e2;obtain⟨nJ,d,g1,g2,g3,-⟩:=cK (hE.types t ti ca);have hd:d=.map kt e:=by rw[hk]at g3;cases d<;>first|(cases g3;rfl)|cases g3
 subst hd;have fE:=aW hb;obtain⟨blk,cap,en,ck,q1,q2,q3,qe,q4⟩:=yH h3 hb (hm c ac h3 h4);have cV:=hx c ac h3 h4;generalize hu:ac.eval ko=u at cV;cases cV with
 |d _ _ cV =>
  have r1:=Hc hE hT h1 cV false;have r2:=Hb hE hT h1 cV h2 q4;have hblk:blk<c.w.heap.size:=(h3.bD b blk cap q2).1;have hl:en.size=es.length:=zD q4.1
  have main:∃ (kj:Array MapEntry) (oG:Nat) (v:Value),(Instr.mapEntry t (.map (some blk)) u).run E.P c.w=.ok (.tuple #[v,goInt ((fU x es).getD es.length:Nat)]) { c.w with heap:=c.w.heap.setIfInBounds blk (.map kj oG) }/\pr kj oG (b8 x ((findD x es).getD z) es).length/\VD c.bad c.w ((findD x es).getD z) v /\
    ∀ (j:Nat) (k v:DV) (mm:MapEntry),(b8 x ((findD x es).getD z) es)[j]?=some (k,v)->kj[j]?=some mm->VD c.bad c.w k mm.key/\VD c.bad c.w v mm.val:=by
   cases hf:fU x es with
   |none =>
    rw[G9 hf];refine⟨en.push { key:=u,val:=zv,born:=ck },ck+1,zv,?_,?_,iW _ _,?_⟩
    ·simp only[Instr.mapEntry,ahq,run_underlying g2,ahr,sW q3,r1,r2,mU,hf,Option.bind_none,iB,AU _ q3,ahp,aiZ];rw[qe.tick]
    ·rw[aiZ,AT hf,List.length_append];exact qe.push u zv
    ·intro j k v mm hj eF;rw[aiZ,AT hf]at hj;rcases ahs j es.length with ai|aA
     ·rw[ahT ai]at hj;rw[aij,if_neg oM]at eF;exact q4.2 j k v mm hj (zD eF)
     ·have lv:j=es.length:=by
       have:=aW hj;simp at this;omega
      subst lv;rw[aiH (ahL _)]at hj;simp at hj;obtain⟨rfl,rfl⟩:=hj;rw[aij,if_pos hl.symm]at eF;cases eF;exact⟨cV,iW _ _⟩
   |some i =>
    obtain⟨p,p1,p2,p3⟩:=Dk hf;rw[p3];have hi:i<en.size:=by rw[hl];exact aW p1
    have mf:en[i]?=some en[i]:=by simp[hi]
    have ib:=q4.2 i p.1 p.2 en[i] p1 (by simp[hi]);have AY:=Mu p2;have e3:=wB h1 cV;have e4:=wB (h2 p (aiQ p1)) ib.1;have Hd:Instr.sameBits 10000 en[i].key u=true:=by
     rw[e3,e4,<- AY];exact Mv h1
    refine⟨en.modify i fun e=>{ e with key:=u },ck,en[i].val,?_,?_,ib.2,?_⟩
    ·have He:mU x es en.toList 0=some (i,en[i].val):=by
      simp[mU,hf,hi]
     have Dl:(Instr.keyThatStays en[i].key u).run E.P c.w=.ok u c.w:=by
      simp only[Instr.keyThatStays,Hd,if_true,ahp]
     simp only[Instr.mapEntry,ahq,run_underlying g2,ahr,sW q3,r1,r2,He,mf,air,ah8,Dl,AU _ q3,ahp];rw[qe.idx i _ mf]
    ·rw[ah8,AS hf,aiv];have rq:(en.modify i fun e=>{ e with key:=u })=(en.modify i fun e=>{ e with key:=u,val:=en[i].val }):=by
      apply aks;intro j;rw[ahZ,ahZ];by_cases hj:i=j
      ·subst hj;simp[hi]
      ·simp[hj]
     rw[rq];exact qe.modify i u _
    ·intro j k v mm hj eF;rw[ah8,AS hf]at hj;by_cases lz:j=i
     ·subst lz;rw[ahQ oM]at hj;cases hj;rw[ahZ,if_pos rfl,mf]at eF;cases eF;exact⟨cV,ib.2⟩
     ·rw[ahR (Ne.symm lz)]at hj;rw[ahZ,if_neg (Ne.symm lz)]at eF;exact q4.2 j k v mm hj (zD eF)
  obtain⟨kj,oG,v0,cL,hlen,qB,ib⟩:=main;generalize b8 x ((findD x es).getD z) es=ev at hlen ib ⊢
  let c':Cx:={ c with heap:=c.heap.set b (.map ev),w:={ c.w with heap:=c.w.heap.setIfInBounds blk (.map kj oG) } }
  have AZ:c'.w.heap[blk]?=some (.map kj oG):=by simp[c',hblk]
  have uF:∀ b',b'≠blk->c'.w.heap[b']?=c.w.heap[b']? := fun b' cB=>by simp[c',ajI,Ne.symm cB]
  have sX:c'.heap[b]?=some (.map ev):=by show(c.heap.set b _)[b]?=_;rw[ahQ fE]
  have ly:∀ i,i≠b->c'.heap[i]?=c.heap[i]? := fun i hi=>by show(c.heap.set b _)[i]?=_;rw[ahR (Ne.symm hi)]
  have bc:Step c c':=⟨rfl,h3.bV,rfl,rfl,rfl,by simp[c'],fun b' _ bI=>uF b' (fun qo=>bI b cap (qo ▸ q2)),fun i b' n hi _=>⟨n,hi⟩,fun i bx hi=>by
   by_cases bL:i=b
   ·subst bL;rw[hb]at hi;cases hi;exact .inl ⟨_,sX,rfl⟩
   ·exact nB hi (ly i bL) rfl⟩
  have aV:aO E.G c':=by
   refine h3.next bc (fun i b' n hi=>?_) h3.inj (fun i bx hi=>?_)
   ·have:=h3.bD i b' n hi;refine⟨by simpa [c']using this.1,?_⟩;show i<(c.heap.set b _).length;rw[aiv];exact this.2
   ·by_cases bL:i=b
    ·subst bL;rw[sX]at hi;cases hi;right;exact⟨blk,cap,kj,oG,q2,AZ,hlen,fun j k v mm hj eF=>⟨bc.vd (ib j k v mm hj eF).1,bc.vd (ib j k v mm hj eF).2⟩⟩
    ·rw[ly i bL]at hi;exact .inl ⟨hi,rfl,fun b' n hn=>uF b' (fun qo=>bL (h3.inj i b blk n cap (qo ▸ hn) q2))⟩
  refine⟨c',.tuple #[v0,goInt ((fU x es).getD es.length:Nat)],.inl ?_,rfl,aV,.d _ _ (.aG _ _ rfl fun j y v hy hv=>?_),bc⟩
  ·simp only[execOp,e1,q1,hu,ahq,cL,ahr,ahp];rfl
  ·match j with
   |0=>simp at hy hv;subst hy;subst hv;exact bc.vd qB
   |1=>simp at hy hv;subst hy;subst hv;exact .int _ _
   |j+2=>simp at hy
theorem WK(hE:E.OK){t:Nat}{m st vo:Operand}{b:Nat}{es:List (DV × DV)}(hb:h[b]?=some (.map es))(hm:bk E.G s m (.map b)){n:Nat}{k0 x0 y:DV}(hn:es[n]?=some (k0,x0))(WL:bk E.G s st (.d (.int .i64 n)))(hy:bk E.G s vo (.d y)) :
  bE E (.entryStore t m st vo) s h (.d .undef) (h.set b (.map (es.set n (k0,y)))):=fun o c ac e1 e2 h3 h4=>by
 subst e2;have fE:=aW hb;obtain⟨blk,cap,en,ck,q1,q2,q3,qe,q4⟩:=yH h3 hb (hm c ac h3 h4);have Ed:=WL c ac h3 h4;have nI:=hy c ac h3 h4;generalize hu:ac.eval st=u at Ed;generalize hw:ac.eval vo=w at nI;cases Ed with
 |d _ _ Ed=>cases Ed;cases nI with
  |d _ _ nI =>
   have hblk:blk<c.w.heap.size:=(h3.bD b blk cap q2).1;have hl:en.size=es.length:=zD q4.1
   have hi:n<en.size:=by rw[hl];exact aW hn
   have mf:en[n]?=some en[n]:=by simp[hi]
   have WM:=q4.2 n k0 x0 en[n] hn (by simp[hi]);have qC:en.findIdx? (fun e=>(e.born:Int)==(n:Int))=some n:=by
    rw[Array.findIdx?_eq_some_iff_getElem];refine⟨hi,?_,fun j hj=>?_⟩
    ·have:=qe.idx n _ mf;simp[this]
    ·have:=qe.idx j en[j] (by rw[ah2]);simp[this];omega
   have cL:(Instr.entryStore t (.map (some blk)) (.int .i64 n) w).run E.P c.w=.ok () { c.w with heap:=c.w.heap.setIfInBounds blk (.map (en.modify n fun e=>{ e with val:=w }) ck) }:=by
    have ha:(asInt (.int .i64 (n:Int))).run E.P c.w=.ok (n:Int) c.w:=rfl;simp only[Instr.entryStore,ahq,ahp,ahr,sW q3,ha,qC,AU _ q3]
   have hlen:pr (en.modify n fun e=>{ e with val:=w }) ck (es.set n (k0,y)).length:=by
    have rq:(en.modify n fun e=>{ e with val:=w })=(en.modify n fun e=>{ e with key:=en[n].key,val:=w }):=by
     apply aks;intro j;rw[ahZ,ahZ];by_cases hj:n=j
     ·subst hj;simp[hi]
     ·simp[hj]
    rw[rq,aiv];exact qe.modify n _ w
   have ib:∀ (j:Nat) (k v:DV) (mm:MapEntry),(es.set n (k0,y))[j]?=some (k,v)->(en.modify n fun e=>{ e with val:=w })[j]?=some mm->VD c.bad c.w k mm.key/\VD c.bad c.w v mm.val:=by
    intro j k v mm hj eF;by_cases lz:j=n
    ·subst lz;rw[ahQ oM]at hj;cases hj;rw[ahZ,if_pos rfl,mf]at eF;cases eF;exact⟨WM.1,nI⟩
    ·rw[ahR (Ne.symm lz)]at hj;rw[ahZ,if_neg (Ne.symm lz)]at eF;exact q4.2 j k v mm hj (zD eF)
   generalize en.modify n (fun e=>{ e with val:=w })=kj at cL hlen ib;generalize es.set n (k0,y)=ev at hlen ib ⊢
   let c':Cx:={ c with heap:=c.heap.set b (.map ev),w:={ c.w with heap:=c.w.heap.setIfInBounds blk (.map kj ck) } }
   have AZ:c'.w.heap[blk]?=some (.map kj ck):=by simp[c',hblk]
   have uF:∀ b',b'≠blk->c'.w.heap[b']?=c.w.heap[b']? := fun b' cB=>by simp[c',ajI,Ne.symm cB]
   have sX:c'.heap[b]?=some (.map ev):=by show(c.heap.set b _)[b]?=_;rw[ahQ fE]
   have ly:∀ i,i≠b->c'.heap[i]?=c.heap[i]? := fun i hi=>by show(c.heap.set b _)[i]?=_;rw[ahR (Ne.symm hi)]
   have bc:Step c c':=⟨rfl,h3.bV,rfl,rfl,rfl,by simp[c'],fun b' _ bI=>uF b' (fun qo=>bI b cap (qo ▸ q2)),fun i b' n hi _=>⟨n,hi⟩,fun i bx hi=>by
    by_cases bL:i=b
    ·subst bL;rw[hb]at hi;cases hi;exact .inl ⟨_,sX,rfl⟩
    ·exact nB hi (ly i bL) rfl⟩
   have aV:aO E.G c':=by
    refine h3.next bc (fun i b' n hi=>?_) h3.inj (fun i bx hi=>?_)
    ·have:=h3.bD i b' n hi;refine⟨by simpa [c']using this.1,?_⟩;show i<(c.heap.set b _).length;rw[aiv];exact this.2
    ·by_cases bL:i=b
     ·subst bL;rw[sX]at hi;cases hi;right;exact⟨blk,cap,kj,ck,q2,AZ,hlen,fun j k v mm hj eF=>⟨bc.vd (ib j k v mm hj eF).1,bc.vd (ib j k v mm hj eF).2⟩⟩
     ·rw[ly i bL]at hi;exact .inl ⟨hi,rfl,fun b' n hn=>uF b' (fun qo=>bL (h3.inj i b blk n cap (qo ▸ hn) q2))⟩
   refine⟨c',undef,.inr ⟨?_,rfl⟩,rfl,aV,.d _ _ .undef,bc⟩;simp only[execOp,e1,q1,hu,hw,ahq,cL,ahr,ahp];rfl
end
section
variable {E:Env} {aj:FuncId} {R:cT} {td:List aY} {s:List AV} {h:List ae} {lits:List Nat} {ops:Array Oper} {o:Oper} {l:List Oper} {k:List aY}
theorem I.mapEntry(hE:E.OK)(z:DV)(zv:Value)(v:DV)(i:Nat)(ev:List (DV × DV)){t:Nat}{m x:Operand}(hg:o.guard=none)(cH:o.op=.mapEntry t m x)(iW:∀ bad w,VD bad w z zv)
  (H:bh E.T t False fun ti=>match ti.k with
   | .map kt e=>cG E.G s m False fun
    | .map b=>bh h b False fun
     | .map es=>cG E.G s x False fun
      | .d y=>A0 E kt False fun kd=>(eo E.T kd y/\∀ p∈es,eo E.T kd p.1)/\(∀ w,(zeroValue e).run E.P w=.ok zv w)/\((findD y es).getD z=v/\(fU y es).getD es.length=i/\b8 y v es=ev) /\
       iA h b (.map ev) fun h'=>cz s o.dst (.d (.aG [v,.int .i64 i])) fun s'=>I E aj R lits (.bF ops l::k) s' h'
      |_=>False
     |_=>False
    |_=>False
   |_=>False):I E aj R lits (.bF ops (o::l)::k) s h:=by
 rcases bu H with H|⟨ti,ca,H⟩
 ·exact H.elim
 split at H
 ·rename_i kt e hk;rcases cO H with H|⟨a,ha,H⟩
  ·exact H.elim
  split at H
  ·rename_i b;rcases bu H with H|⟨bx,hb,H⟩
   ·exact H.elim
   split at H
   ·rename_i es;rcases cO H with H|⟨y,hy,H⟩
    ·exact H.elim
    split at H
    ·rename_i y;rcases Hf H with H|⟨kd,hT,H⟩
     ·exact H.elim
     obtain⟨⟨f1,f2⟩,f3,⟨g1,g2,g3⟩,H⟩:=H;have ho:=WJ hE ca hk hT hb ha hy f1 f2 f3 iW;rw[g1,g2,g3]at ho;rw[jk,eW]at H;rw[<- cH]at ho;exact .of (.op (iF hg) ho H.to)
    ·exact H.elim
   ·exact H.elim
  ·exact H.elim
 ·exact H.elim
theorem I.entryStore(hE:E.OK){t:Nat}{m st vo:Operand}(n:Nat){k0 x0:DV}(hg:o.guard=none)(cH:o.op=.entryStore t m st vo)
  (H:cG E.G s m False fun
    | .map b=>bh h b False fun
     | .map es=>es[n]?=some (k0,x0)/\cG E.G s st False fun u=>u=.d (.int .i64 n)/\cG E.G s vo False fun
      | .d y=>iA h b (.map (es.set n (k0,y))) fun h'=>cz s o.dst (.d .undef) fun s'=>I E aj R lits (.bF ops l::k) s' h'
      |_=>False
     |_=>False
    |_=>False):I E aj R lits (.bF ops (o::l)::k) s h:=by
 rcases cO H with H|⟨a,ha,H⟩
 ·exact H.elim
 split at H
 ·rename_i b;rcases bu H with H|⟨bx,hb,H⟩
  ·exact H.elim
  split at H
  ·rename_i es;obtain⟨hn,H⟩:=H;rcases cO H with H|⟨u,hu,H⟩
   ·exact H.elim
   obtain⟨rfl,H⟩:=H;rcases cO H with H|⟨y,hy,H⟩
   ·exact H.elim
   split at H
   ·rename_i y;have ho:=WK hE (t:=t) hb ha hn hu hy;rw[jk,eW]at H;rw[<- cH]at ho;exact .of (.op (iF hg) ho H.to)
   ·exact H.elim
  ·exact H.elim
 ·exact H.elim
theorem I.entry{x:Operand}{it:Iter}{g1 g2:List br}{pre:List Nat}{j:Nat}{kk y:DV}(hg:o.guard=none)(cH:o.op=.entry x)(rL:R.rows=g1 ++ .iter it::g2)(IL:it.seen=pre++[j])(hj:it.es[j]?=some (kk,y))(hx:bk E.G s x (.d (.raw (.pointer (some ⟨it.r,0,none⟩)))))
  (H:I E aj R lits (.bF ops l::k) (cg s o.dst (.d (.aG [kk,y]))) h):I E aj R lits (.bF ops (o::l)::k) s h:=by
 refine .of ?_;unfold AW;intro c0 c t' fj h0 h1 h2 h3 hr bz h4 h5 cs;subst h2;obtain⟨i,hi,dG,aV⟩:=oB (h1 _ (aio ..));have cV:(⟨t',marks R.fx.aS⟩:Act).eval x=.pointer (some ⟨it.r,0,none⟩):=by
  have:=hx c ⟨t',marks R.fx.aS⟩ h3 h4;generalize (⟨t',marks R.fx.aS⟩:Act).eval x=u at this;cases this with
  |d _ _ hq=>cases hq;rfl
 have r2:nD c0.w.heap.size c it:=bz.all.each (.iter it) (by rw[rL];simp);obtain⟨z0,z1,z3,z2⟩:=r2.iter;obtain rfl:=z3 (by rw[IL];simp);have lv:j<it.en.size:=r2.lt j (by rw[IL];simp);have ib:it.en[j]?=some it.en[j]:=by simp[lv]
 have bJ:=r2.val j kk y it.en[j] hj ib;have BL:((it.seen.map fun j=>((it.en[j]?).map (·.born)).getD 0).toArray).back?=some j:=by
  rw[IL];simp[ib,r2.bM.idx j _ ib]
 have qC:it.en.find? (fun e=>e.born==j)=some it.en[j]:=by
  rw[Array.find?_eq_some_iff_getElem];refine⟨by simp[r2.bM.idx j _ ib],j,lv,rfl,fun q hq=>?_⟩;have:=r2.bM.idx q it.en[q] (by rw[ah2]);simp[this];omega
 have ew:(getObj it.r).run E.P c.w=.ok (.mapIter (some it.bm) it.since ((it.seen.map fun j=>((it.en[j]?).map (·.born)).getD 0).toArray) it.ck) c.w:=by simp[getObj,Sem.run,z2]
 have cL:(execOp (⟨t',marks R.fx.aS⟩:Act).eval o).run E.P c.w=.ok (.value (.tuple #[it.en[j].key,it.en[j].val])) c.w:=by
  simp only[execOp,cH,cV,Instr.entry,ahq,ahp,ahr,ew,BL,sW r2.map,bne_self_eq_false,ah0,if_false,qC]
 have fw:VS c (cg s o.dst (.d (.aG [kk,y]))) ((⟨t',marks R.fx.aS⟩:Act).put o.dst (.tuple #[it.en[j].key,it.en[j].val])).tmps :=
  VS.cg (a:=⟨t',marks R.fx.aS⟩) h4 o.dst (.d _ _ (.aG _ _ rfl fun p z v hz hv=>by
   match p with
   |0=>simp at hz hv;subst hz;subst hv;exact bJ.1
   |1=>simp at hz hv;subst hz;subst hv;exact bJ.2
   |p+2=>simp at hz))
 have H:=H.to;unfold AW at H;obtain⟨c2,fr,rr,u,e1,e2,e3,e4,e5,e6⟩:=H c0 c _ fj h0 (iM aV (eV h1)) rfl h3 hr bz fw h5 cs;refine⟨c2,fr,rr,u,e1,e2,e3,e4,.head ?_ e5,e6⟩;simp only[cn.bO,ahx,dG];rw[yx hi (iF hg c t' h4) (.inl cL),put_defers];rfl
theorem I.WN(d:Nat)(ts:Nat × Nat)(kh:0<ts.2)(hd:s[d]?=some (.d (.raw (.slice none 0 0))))(H:I E aj R lits td (s.set d (.own h.length 0)) (h++[.arr 0 ts []])):I E aj R lits td s h:=by
 replace H:=H.to;refine .of (.mb (fun c t fj h1 h2 h3 h4 h5=>?_) H);subst h2
 let c':Cx:={ c with heap:=c.heap++[.arr 0 ts []] }
 have bI:c.own c.heap.length=none:=by
  cases ho:c.own c.heap.length with
  |none=>rfl
  |some p=>have:=(h3.bD _ p.1 p.2 ho).2;omega
 have bc:Step c c':=⟨rfl,h3.bV,rfl,rfl,rfl,ahL _,fun _ _ _=>rfl,fun i b n hi _=>⟨n,hi⟩,fun i bx hi=>nB hi (ahT (aW hi)) rfl⟩;have eK:c'.heap[c.heap.length]?=some (.arr 0 ts []):=by show(c.heap++_)[_]?=_;simp
 have aV:aO E.G c':=h3.next bc (fun i b n hi=>⟨(h3.bD i b n hi).1,by have:=(h3.bD i b n hi).2;show i<(c.heap++_).length;simp;omega⟩) h3.inj (fun i bx hi=>by
  by_cases hY:i=c.heap.length
  ·subst hY;rw[eK]at hi;cases hi;exact .inr ⟨kh,fun i e he=>by simp at he,.inl ⟨bI,rfl⟩⟩
  ·have ai : i < c.heap.length := by have := aW hi;have h2 : c'.heap.length=c.heap.length+1 := by show(c.heap ++ _).length=_;simp
                                     omega
   have cu:(c.heap++[.arr 0 ts []])[i]?=some bx:=hi;rw[ahT ai]at cu
   exact .inl ⟨cu,rfl,fun _ _ _=>rfl⟩)
 refine⟨c',t,fj,h1,rfl,aV,?_,bc.cr h5,bc,fun _ => .refl _ _⟩;have jn:d<t.size:=by rw[<- h4.1];exact aW hd
 have hv:t[d]=.slice none 0 0:=by
  have:=h4.2 d _ t[d] hd (by simp[jn]);generalize t[d]=u at this;cases this with
  |d _ _ hv=>cases hv;rfl
 have:=VS.put (bc.vs h4) d (x := .own c.heap.length 0) (v:=t[d]) (by rw[hv];exact .jJ _ _ ts eK bI)
 simpa [Array.setIfInBounds,jn]using this
theorem I.BM{b:Code}{κ:Type}(fm:List Nat)(vars:κ->List (Nat × AV))(boxes:κ->List (Nat × ae))(rows:κ->List br)(Φ:κ->Prop)(μ:κ->Nat)(x0:κ)(h0:Φ x0)(hR:R.rows=rows x0)
  (oN:rC fm (mi (boxes x0)) (vars x0) (boxes x0) s h fun s' h'=>uT h h' R.fx (uS R.n h s h' s'))
  (uW:∀ x,Φ x->(∀ y,Φ y->μ y<μ x->I E aj ⟨R.n,R.Q,rows y,R.fx⟩ [] (.inLoop b::k) (lE (vars y) (anyS fm (lG (mi (boxes x0)) s))) (lF (boxes y) h))->I E aj ⟨R.n,R.Q,rows x,R.fx⟩ [] (.code b :: .inLoop b::k) (lE (vars x) (anyS fm (lG (mi (boxes x0)) s))) (lF (boxes x) h)) :
  I E aj R lits (.code (.loop b)::k) s h:=by
 have e:R=⟨R.n,R.Q,rows x0,R.fx⟩:=by cases R;simp only at hR;subst hR;rfl
 have main:∀ n x,μ x<n->Φ x->I E aj ⟨R.n,R.Q,rows x,R.fx⟩ [] (.inLoop b::k) (lE (vars x) (anyS fm (lG (mi (boxes x0)) s))) (lF (boxes x) h):=by
  intro n
  induction n with
  |zero=>intro x hx;omega
  |succ n ih=>intro x hx hP;exact .of (.inLoop (uW x hP fun y hy hm=>ih y oM hy).to)
 rw[yY]at oN;rw[e];exact .of (.loop (.weaken oN (uW x0 h0 fun y hy _=>main (μ y+1) y oM hy).to))
end
end Go.az
end
section
namespace Go.az
open Go Go.RowKit
section
variable {E:Env} {aj:FuncId} {R:cT} {s:List AV} {h:List ae} {ops:Array Oper} {o:Oper} {l:List Oper} {k:List aY}
theorem I.Od{lits:List Nat}{x y:Operand}{ts:Array TypeId}{a b:Int}(hg:o.guard=none)(cH:o.op=.call { callee := .builtin .min,args := #[x,y],argTypes:=ts })(hx:bk E.G s x (.d (.int .i64 a)))(hy:bk E.G s y (.d (.int .i64 b)))
  (H:I E aj R lits (.bF ops l::k) (cg s o.dst (.d (.int .i64 (min a b)))) h):I E aj R lits (.bF ops (o::l)::k) s h:=by
 refine .of (.op (iF hg) ?_ H.to);rw[cH];refine .quiet fun o c ac e1 e2 h3 h4=>⟨.int .i64 (min a b),?_,.d _ _ (.int _ _)⟩;have q1:=eT (hx c ac h3 h4);have q2:=eT (hy c ac h3 h4);have q3:(if b<a then b else a)=min a b:=by
  rcases Int.lt_or_le b a with q|q
  ·rw[if_pos q,Int.min_eq_right (Int.le_of_lt q)]
  ·rw[if_neg (Int.not_lt.2 q),Int.min_eq_left q]
 simp only[execOp,e1,resolve,invoke,builtin,Builtin.min_,Builtin.min2,akq,ahx,akr,q1,q2,List.foldlM_cons,List.foldlM_nil,ahq,ahp,ahr,pure_bind,bind_pure,q3]
end
end Go.az
end
section
namespace Go.az
open Go Go.RowKit
section
variable {E:Env} {aj:FuncId} {R:cT} {s:List AV} {h:List ae} {lits:List Nat} {ops:Array Oper} {o:Oper} {l:List Oper} {k:List aY}
theorem WO(hE:E.OK){t e len m:Nat}{x i:Operand}{ti ei:bA}{cs:List AV}{j:IntKind}{n:Int}{v:AV}(ht:E.T[t]?=some ti)(hk:ti.k=.array len e)(yD:E.T[e]?=some ei)(IM:ei.k.agg=false)(rB:ei.size=1)
  (hx:bk E.G s x (.agg cs)) (hi:bk E.G s i (.d (.int j n))) (hn:n=(m:Int)) (hm:m<len) (hv:cs[m]?=some v):bE E (.index t x i) s h v h := .quiet fun o c ac e1 _ h3 h4=>by
 subst hn;have cV:=hx c ac h3 h4;have WQ:=eT (hi c ac h3 h4);obtain⟨yu,d,g1,g2,g3,-⟩:=cK (hE.types t ti ht);obtain rfl:=yn (hk.symm.trans g3);generalize hp:ac.eval x=p at cV;cases cV with
 |agg _ vs hlen bJ =>
  have ID:=aW hv;have hu:vs.toList[m]?=some (vs[m]' oM):=by simp[show m<vs.size by omega]
  have y4:vs[m]?=some (vs[m]' oM):=by simp[show m<vs.size by omega]
  refine⟨_,?_,bJ m v _ hv y4⟩;have Oe:=Ap (hE.types e ei yD) c.w vs.toList m _ hu IM;have bP:=run_sizeOf (hE.types e ei yD) c.w;have h0:(0:Int)<=m/\(m:Int)<(len:Int):=⟨by omega,by omega⟩;simp only[akp]at Oe;simp[execOp,e1,hp,WQ,Instr.index,asIntOf,run_underlying g2,h0,bP,rB,Oe];intro rQ;omega
theorem I.vi(hE:E.OK)(m:Nat){t e len:Nat}{x i:Operand}{ti ei:bA}{cs:List AV}{j:IntKind}{n:Int}{v:AV}(hg:o.guard=none)(cH:o.op=.index t x i)(ht:E.T[t]?=some ti)(hk:ti.k=.array len e)(yD:E.T[e]?=some ei)(IM:ei.k.agg=false)(rB:ei.size=1)
  (hx:bk E.G s x (.agg cs)) (hi:bk E.G s i (.d (.int j n))) (hn:n=(m:Int)) (hm:m<len) (hv:cs[m]?=some v)
  (H:I E aj R lits (.bF ops l::k) (cg s o.dst v) h):I E aj R lits (.bF ops (o::l)::k) s h:=by
 refine .of (.op (iF hg) ?_ H.to);rw[cH];exact WO hE ht hk yD IM rB hx hi hn hm hv
end
section
variable {E:Env} {aj:FuncId} {R:cT} {s:List AV} {h:List ae} {td:List aY}
end
end Go.az
end
