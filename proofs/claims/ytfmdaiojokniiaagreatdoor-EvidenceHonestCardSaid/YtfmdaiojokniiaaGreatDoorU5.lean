/- Lemmas of mine. Conditions: as stated. -/
import Derived.Test.YtfmdaiojokniiaaGreatDoorU4
import Derived.Lib.BufferMore
import Derived.Lib.LazyBuf
import Derived.Laws.CopyRow
set_option linter.unusedVariables false
set_option linter.unusedSimpArgs false
section
namespace Go.ay
open Go Go.RowKit
section
variable {E:Env} {ag:FuncId} {R:cF} {s:List AV} {h:List af} {lits:List Nat} {ops:Array Oper} {o:Oper} {l:List Oper} {k:List aP}
theorem Ss(op:BinOp)(t:TypeId)(x y:Operand)(p q:Option Addr)(a b c d:Nat):eqGuard op t x y (.slice p a b) (.slice q c d)=pure ():=by
 unfold eqGuard;cases op<;>rfl
theorem I.lF(hE:E.OK){t e:Nat}{x:Operand}{yt:Nat}{m:List DV}{ti:br}(hg:o.guard=none)(cm:o.op=.binOp .eql t x (.const (.slice none 0 0)) yt)(bV:E.T[t]?=some ti)(hk:ti.k=.slice e)(hx:aZ E.G s x (.d (.sl m)))
  (H:∀ b,(b=true->m=[])->I E ag R lits (.bu ops l::k) (bX s o.dst (.d (.bool b))) h):I E ag R lits (.bu ops (o::l)::k) s h:=by
 refine .of ?_;unfold AW;intro c0 c t' ew h0 h1 h2 h3 hr bq h4 h5 cs;subst h2;obtain⟨i,hi,ea,aM⟩:=mQ (h1 _ (List.mem_cons_self ..));obtain⟨me,d,g1,g2,g3,-⟩:=cD (hE.types t ti bV);obtain rfl:=lj (hk.symm.trans g3);have hv:=hx c ⟨t',marks R.fx.aL⟩ h3 h4;have fin:∀ (p:Option Addr) (n cp:Nat) (b:Bool),(⟨t',marks R.fx.aL⟩:Act).eval x=.slice p n cp->(binOp .eql t (.slice p n cp) (.slice none 0 0)).run E.P c.w=.ok (.bool b) c.w->(execOp (⟨t',marks R.fx.aL⟩:Act).eval o).run E.P c.w=.ok (.value (.bool b)) c.w:=fun p n cp b e1 e2=>by
  have nj:(⟨t',marks R.fx.aL⟩:Act).eval (.const (.slice none 0 0))=.slice none 0 0:=rfl;simp only[execOp,cm,e1,nj,Ss,Sem.run_bind,Sem.run_pure,Result.andThen_ok,e2]
 have key:∃ b,(b=true->m=[])/\(execOp (⟨t',marks R.fx.aL⟩:Act).eval o).run E.P c.w=.ok (.value (.bool b)) c.w:=by
  generalize hu:(⟨t',marks R.fx.aL⟩:Act).eval x=u at hv;cases hv with
  |d _ _ hv=>cases hv with
   |slnil=>exact⟨true,fun _=>rfl,fin _ _ _ _ hu (Lib.run_eql_slice_nil_nil c.w 0 0 g2)⟩
   |ku a=>exact⟨false,fun _=>rfl,fin _ _ _ _ hu (Lib.run_eql_slice_some_nil c.w a 0 0 g2)⟩
   |sl _ blk off cap sz f=>exact⟨false,fun q=>(by cases q),fin _ _ _ _ hu (Lib.run_eql_slice_some_nil c.w _ _ _ g2)⟩
 obtain⟨b,hb,cI⟩:=key;have H:=(H b hb).to;unfold AW at H;have dm:VS c (bX s o.dst (.d (.bool b))) ((⟨t',marks R.fx.aL⟩:Act).put o.dst (.bool b)).tmps:=VS.bX (a:=⟨t',marks R.fx.aL⟩) h4 o.dst (.d _ _ (.bool b));obtain⟨c2,fr,rr,u,e1,e2,e3,e4,e5,e6⟩:=H c0 c _ ew h0 (gC aM (dZ h1)) rfl h3 hr bq dm h5 cs;refine⟨c2,fr,rr,u,e1,e2,e3,e4,.head ?_ e5,e6⟩;simp only[b8.bI,List.map_cons,ea];rw[wq hi (fS hg c t' h4) (.inl cI),put_defers];rfl
end
end Go.ay
end
section
namespace Go.ay
open Go Go.RowKit
section
variable {G:List (Nat × DV)} {c:Cx}
theorem aK.rewrite(ho:aK G c){b g blk cap:Nat}{ts:Nat × Nat}{l l':List DV}{vs vs':Array Value}{w':World}(hb:c.heap[b]?=some (.arr g ts l))(bF:c.own b=some (blk,cap))(hblk:c.w.heap[blk]?=some (.cells vs ts.1 (0,0)))
  (hl:l'.length=l.length) (dY:∀ (i:Nat) (e:DV),l'[i]?=some e->e.cells.length=ts.2) (bP:vs'.size=vs.size) (Ef:w'.os=c.w.os) (ht:w'.tape=c.w.tape) (St:w'.output=c.w.output) (hs:w'.heap.size=c.w.heap.size)
  (qN:∀ x,x≠blk->w'.heap[x]?=c.w.heap[x]?) (eb:w'.heap[blk]?=some (.cells vs' ts.1 (0,0)))
  (hv:∀ (i j:Nat) (e x:DV),l'[i]?=some e->e.cells[j]?=some x->∃ v,vs'[i*ts.2+j]?=some v/\v.oneCell'=true/\VD c.bad c.w x v) :
  aK G { c with heap:=c.heap.set b (.arr g ts l'),w:=w' }/\Step c { c with heap:=c.heap.set b (.arr g ts l'),w:=w' }:=by
 have eJ:=aQ hb
 have bg:Step c { c with heap:=c.heap.set b (.arr g ts l'),w:=w' }:=⟨rfl,ho.bQ,Ef,ht,St,by show _<=w'.heap.size;rw[hs];exact Nat.le_refl _,fun x _ hn=>qN x (fun e=>by subst e;exact hn b cap bF),fun i x n hi _=>⟨n,hi⟩,fun i bx hi=>by
  by_cases bE:i=b
  ·subst bE;rw[hb]at hi;cases hi;exact .inl ⟨g,l',List.getElem?_set_self eJ,.inr ⟨rfl,hl,rfl⟩⟩
  ·exact l6 hi (List.getElem?_set_ne (Ne.symm bE)) rfl⟩
 refine⟨ho.next bg (fun i x n hi=>?_) ho.inj (fun i bx hi=>?_),bg⟩
 ·have:=ho.bA i x n hi;refine⟨by show x<w'.heap.size;rw[hs];exact this.1,?_⟩;show i<(c.heap.set b _).length;rw[List.length_set];exact this.2
 ·by_cases bE:i=b
  ·subst bE;have cg:(c.heap.set i (.arr g ts l'))[i]?=some bx:=hi;rw[List.getElem?_set_self eJ]at cg;cases cg;right;obtain⟨q0,q1,q2⟩:=ho.box i _ hb;rcases q2 with⟨q2,-⟩|⟨iM,gV,vs0,q2,q3,q4,q5,q6,q7⟩
   ·rw[bF]at q2;cases q2
   rw[bF]at q2;cases q2;rw[hblk]at q3;cases q3;refine⟨q0,dY,.inr ⟨blk,cap,vs',bF,eb,by rw[bP];exact q4,by rw[hl];exact q5,q6,fun i j e x he hx=>?_⟩⟩;obtain⟨v,k1,k2,k3⟩:=hv i j e x he hx;exact⟨v,k1,k2,bg.vd k3⟩
  ·have cg:(c.heap.set b (.arr g ts l'))[i]?=some bx:=hi;rw[List.getElem?_set_ne (Ne.symm bE)]at cg;exact .inl ⟨cg,rfl,fun x n hn=>qN x (fun e=>by subst e;exact bE (ho.inj i b _ n cap hn bF))⟩
theorem KP{P:Program}(w:World)(dT sT ty elem:TypeId)(g uO zJ:Nat)(a:Addr)(FU Su sz:Nat)(cur:Array Value)(t:TypeId)(cs:List Value)
  (hu:P.underlying dT=some (.slice elem)) (hs:(P.info? elem).map (·.size)=some sz)
  (hg:w.heap[g]?=some (.cells cur t (0,0))) (hn:cs.length=Nat.min FU uO*sz)
  (qs:∀ j v,cs[j]?=some v->w.cell? (a.add j)=some v) (iw:cs.length<=cur.size) (h1:∀ v∈cs,v.oneCell'=true) :
  (Builtin.copy_ #[dT,sT] ty #[.slice (some ⟨g,0,none⟩) uO zJ,.slice (some a) FU Su]).run P w =
   .ok (goInt (Nat.min FU uO)) (w.setRow g (cs++cur.toList.drop cs.length).toArray):=by
 have hl:=run_loadCells_list (P:=P) w a cs qs;have bg:=run_storeCells_at P g 0 t cs 0 cur w hg (by simpa using iw) h1;simp only[Nat.add_zero,List.take_zero,List.nil_append,Nat.zero_add]at bg;cases hq:P.info? elem with
 |none=>simp[hq]at hs
 |some i =>
  have hi:i.size=sz:=by simpa [hq]using hs
  simp[Builtin.copy_,run_underlying hu,Builtin.lenOf,Builtin.firstCells,sizeOf,typeInfo,hq,hi,<- hn,hl,bg]
end
section
variable {E:Env} {ag:FuncId} {R:cF} {s:List AV} {h:List af} {lits:List Nat} {ops:Array Oper} {o:Oper} {l:List Oper} {k:List aP}
theorem KQ(hE:E.OK){dT sT e b g:Nat}{x y:Operand}{i ei:br}{ts:Nat × Nat}{l m:List DV}(hi:E.T[dT]?=some i)(hk:i.k=.slice e)(bT:E.T[e]?=some ei)(iR:ts.2=ei.size)(hb:h[b]?=some (.arr g ts l))(aI:l≠[])
  (hx:aZ E.G s x (.own b g)) (hy:aZ E.G s y (.d (.sl m))) (hm:∀ z∈m,z.cells.length=ts.2) :
  bw E (.call { callee := .builtin .copy,args := #[x,y],argTypes := #[dT,sT] }) s h (.d (.int .i64 (min m.length l.length:Nat))) (h.set b (.arr g ts (m.take l.length++l.drop m.length))):=by
 intro o c a e1 e2 e3 e4;subst e2;obtain⟨wk,d,q1,q2,q3,-⟩:=cD (hE.types dT i hi);obtain rfl:=lj (hk.symm.trans q3);obtain⟨tie,de,p1,p2,p3,p4,-⟩:=cD (hE.types e ei bT);obtain⟨b0,b1,b2⟩:=e3.box b _ hb;rcases kC hb (hx c a e3 e4)with⟨blk,cap,r1,r2⟩|⟨r,-,-⟩
 case inr=>exact absurd r aI
 rcases b2 with⟨b2,-⟩|⟨iM,gV,vs,b2,b3,b4,b5,b6,b7⟩
 ·rw[r1]at b2;cases b2
 rw[r1]at b2;cases b2;have fT:=hy c a e3 e4;have key:∃ (cs:List Value) (sv:Value),a.eval y=sv/\cs.length=min m.length l.length*ts.2/\(∀ v∈cs,v.oneCell'=true) /\
   (∀ (i j:Nat) (e z:DV),i<l.length->m[i]?=some e->e.cells[j]?=some z->∃ v,cs[i*ts.2+j]?=some v/\v.oneCell'=true/\VD c.bad c.w z v) /\
   (Builtin.copy_ #[dT,sT] o.type #[.slice (some ⟨blk,0,none⟩) l.length cap,sv]).run E.P c.w=.ok (goInt ((min m.length l.length:Nat):Int)) (c.w.setRow blk (cs++vs.toList.drop cs.length).toArray):=by
  have Sv:c.w.setRow blk (([]:List Value)++vs.toList.drop ([]:List Value).length).toArray=c.w:=by
   simp only[List.nil_append,List.length_nil,List.drop_zero,Array.toArray_toList];exact setRow_self c.w blk vs ts.1 (0,0) b3
  have bP:(E.P.info? e).map (·.size)=some ts.2:=by rw[p1,Option.map_some,iR,<- p4]
  generalize hu:a.eval y=u at fT;cases fT with
  |d _ _ hv=>cases hv with
   |slnil =>
    refine⟨[],_,rfl,by simp,fun v hv=>by simp at hv,fun i j e z _ he=>by simp at he,?_⟩;rw[Sv];have zK:min ([]:List DV).length l.length=0:=by simp
    rw[zK];have:=run_copy_nil (P:=E.P) c.w dT sT o.type e ⟨blk,0,none⟩ l.length cap q2 (by rw[p1];rfl)
    simpa using this
   |ku a' =>
    refine⟨[],_,rfl,by simp,fun v hv=>by simp at hv,fun i j e z _ he=>by simp at he,?_⟩;have zK:min ([]:List DV).length l.length=0:=by simp
    rw[zK];have:=KP (P:=E.P) c.w dT sT o.type e blk l.length cap a' 0 0 ts.2 vs ts.1 [] q2 bP b3 (by simp) (fun j v hj=>by simp at hj) (by simp) (fun v hv=>by simp at hv)
    simpa using this
   |sl _ FV off dS sz f h1 h2 h3 h4 h5 h6 h7 =>
    have facts:∀ q,q<min m.length l.length*ts.2->∃ e z,m[q / ts.2]?=some e/\e.cells[q % ts.2]?=some z/\sz=ts.2:=fun q hq=>by
     have hi:q / ts.2<min m.length l.length:=Nat.div_lt_of_lt_mul (by rw[Nat.mul_comm];exact hq);have hj:q % ts.2<ts.2:=Nat.mod_lt _ b0;obtain⟨z,hz⟩:∃ z,m[q / ts.2]?=some z:=⟨m[q / ts.2]'(by omega),by rw[List.getElem?_eq_getElem]⟩;have rP:=hm z (List.mem_of_getElem? hz);have oE:=h4 _ z hz;exact⟨z,z.cells[q % ts.2]'(by omega),hz,by rw[List.getElem?_eq_getElem],by omega⟩
    have hlen:((List.range (min m.length l.length*ts.2)).map fun q=>f (q / ts.2) (q % ts.2)).length=min m.length l.length*ts.2:=by simp
    have dE:∀ q v,((List.range (min m.length l.length*ts.2)).map fun q=>f (q / ts.2) (q % ts.2))[q]?=some v->q<min m.length l.length*ts.2/\v=f (q / ts.2) (q % ts.2):=fun q v hq=>by
     have ah:=aQ hq;rw[hlen]at ah;refine⟨ah,?_⟩;simp[ah]at hq;exact hq.symm
    refine⟨_,_,rfl,hlen,fun v hv=>?_,fun i j e z hi he hz=>?_,?_⟩
    ·obtain⟨q,hq⟩:=List.getElem?_of_mem hv;obtain⟨lG,rfl⟩:=dE q v hq;obtain⟨e,z,g1,g2,g3⟩:=facts q lG;exact h7 _ _ e z g1 g2
    ·have hj:j<ts.2:=by rw[<- hm e (List.mem_of_getElem? he)];exact aQ hz
     have xm:=aQ he;have hq:i*ts.2+j<min m.length l.length*ts.2:=by
      have h1:(i+1)*ts.2<=min m.length l.length*ts.2:=Nat.mul_le_mul_right _ (by omega);rw[Nat.add_mul]at h1;omega
     have ed:(i*ts.2+j) / ts.2=i:=by rw[Nat.mul_comm,Nat.mul_add_div b0,Nat.div_eq_of_lt hj];omega
     have em:(i*ts.2+j) % ts.2=j:=by rw[Nat.mul_comm,Nat.mul_add_mod,Nat.mod_eq_of_lt hj]
     exact⟨f i j,by simp[hq,ed,em],h7 i j e z he hz,h6 i j e z he hz⟩
    ·have iw:((List.range (min m.length l.length*ts.2)).map fun q=>f (q / ts.2) (q % ts.2)).length<=vs.size:=by
      rw[hlen,b4];exact Nat.mul_le_mul_right _ (by omega)
     exact KP (P:=E.P) c.w dT sT o.type e blk l.length cap ⟨FV,off,none⟩ m.length dS ts.2 vs ts.1 _ q2 bP b3 hlen (fun q v hq=>by
      obtain⟨lG,rfl⟩:=dE q v hq;obtain⟨e,z,g1,g2,g3⟩:=facts q lG;have:=h5 _ _ e z g1 g2;subst g3;rw[Nat.mul_comm,Nat.div_add_mod]at this;have BG:(⟨FV,off,none⟩:Addr).add q=⟨FV,off+q,none⟩:=by unfold Addr.add;split<;>simp_all
      rw[BG];exact this) iw (fun v hv=>by
      obtain⟨q,hq⟩:=List.getElem?_of_mem hv;obtain⟨lG,rfl⟩:=dE q v hq;obtain⟨e,z,g1,g2,g3⟩:=facts q lG
      exact h7 _ _ e z g1 g2)
 obtain⟨cs,sv,k1,k2,k3,k4,k5⟩:=key;have abz:cs.length<=vs.size:=by rw[k2,b4];exact Nat.mul_le_mul_right _ (by omega)
 have Sw:blk<c.w.heap.size:=(e3.bA b blk cap r1).1;have FW:=e3.rewrite (l':=m.take l.length++l.drop m.length) (vs':=(cs++vs.toList.drop cs.length).toArray) (w':=c.w.setRow blk (cs++vs.toList.drop cs.length).toArray) hb r1 b3 (by simp;omega) (fun i e he=>?_) (by simp;omega) rfl rfl rfl (by simp[World.setRow]) (fun x hx=>by simp[World.setRow,Array.getElem?_modify,Ne.symm hx]) (by simp[World.setRow,Array.getElem?_modify,b3]) (fun i j e z he hz=>?_)
 ·obtain⟨aM,bg⟩:=FW;refine⟨_,.int .i64 (min m.length l.length:Nat),.inl ?_,rfl,aM,.d _ _ (.int _ _),bg⟩;simp only[execOp,e1,resolve,invoke,builtin,List.map_toArray,List.map_cons,List.map_nil,r2,k1,Sem.run_bind,Sem.run_pure,Result.andThen_ok,k5];rfl
 ·rcases Nat.lt_or_ge i (m.take l.length).length with h|h
  ·rw[List.getElem?_append_left h]at he;exact hm e (List.mem_of_mem_take (List.mem_of_getElem? he))
  ·rw[List.getElem?_append_right h]at he;exact b1 _ e (by rw[List.getElem?_drop]at he;exact he)
 ·have hj:∀ z:DV,z.cells.length=ts.2->∀ w,z.cells[j]?=some w->j<ts.2:=fun z hz w hw=>by rw[<- hz];exact aQ hw
  rcases Nat.lt_or_ge i (m.take l.length).length with h|h
  ·rw[List.getElem?_append_left h,List.getElem?_take]at he;have fR:i<l.length:=by simp at h;omega
   rw[if_pos fR]at he;obtain⟨v,v1,v2,v3⟩:=k4 i j e z fR he hz;refine⟨v,?_,v2,v3⟩;rw[List.getElem?_toArray,List.getElem?_append_left (aQ v1)];exact v1
  ·rw[List.getElem?_append_right h]at he;rw[List.getElem?_drop]at he;have hlen:(m.take l.length).length=min m.length l.length:=by simp;omega
   rw[hlen]at he h;have FY:m.length<l.length:=by
    have:=aQ he;omega
   have KR:min m.length l.length=m.length:=by omega
   rw[KR]at he h;rw[show m.length+(i-m.length)=i by omega]at he;obtain⟨v,v1,v2,v3⟩:=b7 i j e z he hz;refine⟨v,?_,v2,v3⟩;have pq:cs.length<=i*ts.2+j:=by
    rw[k2,KR];have:=Nat.mul_le_mul_right ts.2 h;omega
   rw[List.getElem?_toArray,List.getElem?_append_right pq,List.getElem?_drop,show cs.length+(i*ts.2+j-cs.length)=i*ts.2+j by omega]
   simpa using v1
theorem I.KS(hE:E.OK){dT sT:Nat}{x y:Operand}(hg:o.guard=none)(cm:o.op=.call { callee := .builtin .copy,args := #[x,y],argTypes := #[dT,sT] })
  (H:aT E.T dT False fun i=>match i.k with
   | .slice e=>aT E.T e False fun ei=>ca E.G s x False fun
    | .own b g=>aT h b False fun
     | .arr g' ts l'=>match Nat.beq g g' with
      |true=>ca E.G s y False fun
       | .d (.sl m)=>need (l'≠[]/\ts.2=ei.size/\∀ z∈m,z.cells.length=ts.2) (fz h b (.arr g ts (m.take l'.length++l'.drop m.length)) fun h'=>cd s o.dst (.d (.int .i64 (min m.length l'.length:Nat))) fun s'=>I E ag R lits (.bu ops l::k) s' h')
       |_=>False
      |false=>False
     |_=>False
    |_=>False
   |_=>False):I E ag R lits (.bu ops (o::l)::k) s h:=by
 rcases bo H with H|⟨i,hi,H⟩
 ·exact H.elim
 split at H
 case h_2=>exact H.elim
 rename_i e hk;rcases bo H with H|⟨ei,bT,H⟩
 ·exact H.elim
 rcases cq H with H|⟨v,hv,H⟩
 ·exact H.elim
 split at H
 case h_2=>exact H.elim
 rename_i b g;rcases bo H with H|⟨bx,hb,H⟩
 ·exact H.elim
 split at H
 case h_2=>exact H.elim
 rename_i g' ts l';split at H
 case h_2=>exact H.elim
 rename_i q;have q:=Nat.eq_of_beq_eq_true q;subst q;rcases cq H with H|⟨u,hu,H⟩
 ·exact H.elim
 split at H
 case h_2=>exact H.elim
 rename_i m;obtain⟨⟨n1,n2,n3⟩,H⟩:=mR H;rw[gq,dP]at H;refine .of (.op (fS hg) ?_ H.to);rw[cm];exact KQ hE hi hk bT n2 hb n1 hv hu n3
end
end Go.ay
end
section
namespace Go.ay
open Go Go.RowKit
theorem gu.mid{lim:Nat}{c:Cx}{g1 g2:List bk}{g:bk}(h:gu lim c (g1++g2))(hg:iQ lim c g)(hn:g.cj.Nodup)(hd:∀ x∈g.cj,x ∉ (g1++g2).flatMap bk.cj):gu lim c (g1++g::g2):=by
 refine⟨fun r hr=>?_,?_⟩
 ·rcases List.mem_append.1 hr with hr|hr
  ·exact h.each r (List.mem_append_left _ hr)
  ·rcases List.mem_cons.1 hr with rfl|hr
   ·exact hg
   ·exact h.each r (List.mem_append_right _ hr)
 ·have hp:((g1++g::g2).flatMap bk.cj).Perm (g.cj++(g1++g2).flatMap bk.cj):=by
   have:=(List.perm_middle (a:=g) (l₁ := g1) (l₂ := g2)).flatMap_right bk.cj
   simpa using this
  rw[hp.nodup_iff,List.nodup_append];exact⟨hn,h.nodup,fun x hx y hy e=>by subst e;exact hd x hx hy⟩
section
variable {lim:Nat} {c:Cx} {rows L:List bk}
theorem cR.push{g:bk}(h:cR lim c rows L)(hg:iQ lim c g)(hn:g.cj.Nodup)(hd:∀ x∈g.cj,x ∉ (rows++L).flatMap bk.cj):cR lim c rows (g::L):=⟨h.all.mid hg hn hd,h.flat⟩
theorem cR.pop{g:bk}(h:cR lim c rows (g::L)):cR lim c rows L/\iQ lim c g/\∀ x∈g.cj,x ∉ (rows++L).flatMap bk.cj:=by
 obtain⟨h1,h2,h3⟩:=h.all.uK;exact⟨⟨h1,h.flat⟩,h2,h3⟩
theorem cR.old{G:List (Nat × DV)}(h:cR lim c rows L)(ho:aK G c){b:Nat}(hb:b∈(rows++L).flatMap bk.cj):b<c.w.heap.size:=by
 obtain⟨g,hg,hx⟩:=List.mem_flatMap.1 hb;exact ho.bQ _ ((h.all.each g hg).az _ hx)
theorem Touch.putObj{l:Nat}{o:Obj}(hb:c.az l):Touch c l (c.w.putObj l o):=⟨hb,rfl,rfl,rfl,World.putObj_size,fun _ h=>World.putObj_heap_other h⟩
theorem cR.KT{n r:Nat}{g g':bk}{w':World}(h:cR lim c rows L)(hl:L[n]?=some g)(hb:g.cj=[r])(cw:g'.cj=[r])(ht:Touch c r w')(hg:iQ lim (c.eu w') g'):cR lim (c.eu w') rows (L.set n g'):=by
 have ah:=aQ hl;have e1:L=L.take n++g::L.drop (n+1):=by
  have sE:L[n]=g:=(List.getElem?_eq_some_iff.1 hl).2;rw[<- sE,List.getElem_cons_drop,List.take_append_drop]
 have e2:L.set n g'=L.take n++g'::L.drop (n+1):=by
  rw[List.set_eq_take_append_cons_drop,if_pos ah]
 have h1:=h.all;rw[e1,<- List.append_assoc]at h1;obtain⟨k1,k2,k3⟩:=h1.uK;rw[e2];refine⟨?_,h.flat⟩;rw[<- List.append_assoc];refine(ht.rows k1 (k3 r (by rw[hb];simp))).mid hg (by rw[cw];simp) (fun x hx=>?_);rw[cw]at hx;exact k3 x (by rw[hb];exact hx)
end
def uP:List Nat->List AV->List AV->List AV
 |p::ps,a::l,s=>uP ps l (s.set p a)
 |_,_,s=>s
theorem FZ{c:Cx}:∀ {ps:List Nat} {l:List AV} {vs:List Value} {s:List AV} {t:Array Value},VS c s t->VL c l vs->VS c (uP ps l s) ((ps.zip vs).foldl (fun t (p,v)=>t.setIfInBounds p v) t)
 |[],_,_,_,_,h,_=>by simpa [uP]using h
 |_::_,[],[],_,_,h,_=>by simpa [uP]using h
 |_::_,_::_,[],_,_,_,hl=>by have:=hl.1;simp at this
 |_::_,[],_::_,_,_,_,hl=>by have:=hl.1;simp at this
 |p::ps,a::l,v::vs,s,t,h,hl=>by
  simp only[uP,List.zip_cons_cons,List.foldl_cons];exact FZ (h.put p hl.head.1) hl.head.2
theorem Sx {P : Program} {f : FuncId} {fn : Func} {b : Code} (hf : P.funcs[f]? = some fn) (hb : fn.body = some b) (hn : (fn.name == "runtime.NumGoroutine") = false) (args : Array Value) (w : World) : (callFunc f args).run P w = .ok (.enter f args) w := by
 simp only[callFunc,Sem.run_bind,Sem.run_pure,Result.andThen_ok,program,Sem.run,hf,hn,hb,Option.isNone_some,Bool.false_eq_true,if_false]
theorem KU{P:Program}{f:FuncId}{fn:Func}{b:Code}(hf:P.funcs[f]?=some fn)(hb:fn.body=some b)(vs:List Value)(s:List AV):Frame.enter P f vs.toArray .normal=(⟨⟨f,none,[]⟩,[.code b],s⟩:b8).bI (vs.toArray++Array.replicate (fn.ntmps-vs.toArray.size) undef):=by
 simp[Frame.enter,b8.bI,Frame.atR,hf,hb,bf,aP.bI,marks]
theorem KV{P:Program}{b:Frame}{a:Act}{k:List Item}{cs:List Frame}{w:World}{ops:Array Oper}{i:Nat}{rest:List Nat}{o:Oper}{l:Nat}{f:FuncId}{tmps:Array Value}{assign body:Code}(ho:ops[i]?=some o)(hw:Region.wanted o (yielded ops a.tmps)=true)
  (hr:(execOp a.eval o).run P w=.ok (.round l f tmps assign body) w) :
  step P (lone (b.atR a (.inRegion ops (i::rest)::k)) cs w)=.next (lone (Frame.round l f tmps assign body .normal) (b.atR a (.inRegion ops (i::rest)::k)::cs) w):=by
 have hg:=stepGR_op (P:=P) (b:=b) (k:=k) (cs:=cs) (w:=w) (rest:=rest) ho hw;have tW:=rZ (ro:=b.roundOf) hr (by simp);exact step_lone_go (by rw[hg];simp[stepG.apply,tW])
theorem KW{P:Program}{G:List (Nat × DV)}{c0:Cx}{rows L:List bk}{cs:List Frame}:∀ (D:List Nat) (c:Cx) (fr:Frame),aK G c->c8 c0 c->cR c0.w.heap.size c rows (D.map .mark++L)->fr.mode=.returning->fr.defers=marks D ->
  ∃ c':Cx,c'.heap=c.heap/\aK G c'/\c8 c0 c'/\cR c0.w.heap.size c' rows L/\(∀ x v,VR c x v->VR c' x v)/\Steps P (lone fr cs c.w) (lone { fr with defers:=[] } cs c'.w)
 |[],c,fr,h1,h2,h3,_,h5=>by
  refine⟨c,rfl,h1,h2,h3,fun _ _ h=>h,?_⟩;have:{ fr with defers:=[] }=fr:=by cases fr;simp only at h5;subst h5;rfl
  rw[this];exact .refl _ _
 |d::D,c,fr,h1,h2,h3,h4,h5=>by
  obtain⟨k1,k2,k3⟩:=h3.pop;have k2:rY c0.w.heap.size c d:=k2;have ht:Touch c d (c.w.putObj d (.deferred none)) := .putObj k2.az;have Sy:=ht.rows k1.all (k3 d (by simp[bk.cj]));obtain⟨c',q1,q2,q3,q4,q5,q6⟩:=KW D (c.eu (c.w.putObj d (.deferred none))) { fr with defers:=marks D } (ht.aM h1) (ht.rel h2 k2.new) ⟨Sy,k1.flat⟩ h4 rfl;refine⟨c',q1,q2,q3,q4,fun x v hv=>q5 x v (ht.vr hv),.head ?_ q6⟩;exact step_collected (calls:=[]) (by rw[h4];simp) h5 rfl (run_takeDeferred k2.mem)
theorem F0{E:Env}(hE:E.OK){fn:Func}{s:List AV}{h:List af}{K:AV->List af->Prop}(H:nT E.T s h fn.results.toList False K) :
  ∃ r,K r h/\∀ (c:Cx) (t:Array Value),c.heap=h->aK E.G c->VS c s t->∃ v,VR c r v/\(results fn t).run E.P c.w=.ok v c.w:=by
 unfold nT at H;rcases Bh hE H with h'|⟨l,H,hl⟩
 ·cases h'
 split at H
 ·rename_i x;refine⟨x,H,fun c t e1 e2 e3=>?_⟩;obtain⟨vs,g1,g2⟩:=hl c t e1 e2 e3;cases vs with
  |nil=>have:=g1.1;simp at this
  |cons v vs=>cases vs with
   |cons u vs=>have:=g1.1;simp at this
   |nil=>exact⟨v,g1.head.1,Ee g2⟩
 ·rename_i aI;refine⟨_,H,fun c t e1 e2 e3=>?_⟩;obtain⟨vs,g1,g2⟩:=hl c t e1 e2 e3;refine⟨.tuple vs.toArray,.aD _ _ (by simpa using g1.1) fun j x v hx hu=>g1.2 j x v hx (by simpa using hu),?_⟩;have:=Ee g2;cases vs with
  |nil=>exact this
  |cons v vs=>cases vs with
   |nil =>
    have:=g1.1;cases l with
    |nil=>simp at this
    |cons x l=>cases l with
     |nil=>exact absurd rfl (aI x)
     |cons y l=>simp at this
   |cons u vs=>exact this
section
variable {E:Env} {ag:FuncId} {R:cF} {s:List AV} {h:List af} {lits:List Nat} {ops:Array Oper} {o:Oper} {l:List Oper} {k:List aP}
theorem I.rangeFunc {g : Operand} {ps : Array Tmp} {assign body KX : Code} {gf : FuncId} {a1 a2 : List AV} {fn : Func} (hg : aZ E.G s g (.fn (.func gf) a1 a2)) (hf : E.P.funcs[gf]? = some fn) (hb : fn.body = some KX) (hn : (fn.name == "runtime.NumGoroutine") = false) (jW : R.fx.cB = none)
  (H:∀ (ll d:Nat) (t:Array Value),I E gf ⟨R.n,R.Q,R.rows,⟨R.fx.f0,none,[],⟨⟨ag,none,d::R.fx.aL⟩,.pn ll::k,s⟩::R.fx.cls,.loop ⟨ll,d,.ready,none,ag,t,ps,assign,body,s⟩ :: .mark d::R.fx.loops,R.fx.inl⟩⟩ [] [.code KX] (nS (a1++[.fn (.yield ll) [] []]++a2) fn.ntmps) h) :
  I E ag R lits (.code (.rangeFunc g ps assign body)::k) s h:=by
 have e:(⟨ag,R.fx.cB,R.fx.aL⟩:iP)=⟨ag,none,R.fx.aL⟩:=by rw[jW]
 refine .of ?_;rw[e];unfold AW;intro c0 c t ts h0 h1 h2 h3 hr bq h4 h5 cs;subst h2;obtain⟨v1,v2,e1,e2,e3⟩:=ma (hg c ⟨t,marks R.fx.aL⟩ h3 h4);obtain⟨i,hi⟩:∃ i:kz,i=⟨c.w.heap.size+1,c.w.heap.size,.ready,none,ag,t,ps,assign,body,s⟩:=⟨_,rfl⟩;have bP:(c.cS (.deferred (some []))).w.heap.size=c.w.heap.size+1:=by simp[Cx.cS]
 have dz:aK E.G (c.cS (.deferred (some []))):=h3.cS;have fM:aK E.G ((c.cS (.deferred (some []))).cS (.loop i.eV)):=dz.cS;have FM:c8 c0 ((c.cS (.deferred (some []))).cS (.loop i.eV)):=hr.cS.cS;have iC:∀ x v,VR c x v->VR ((c.cS (.deferred (some []))).cS (.loop i.eV)) x v:=fun x v hv=>uL (uL hv);have fR:i.l=c.w.heap.size+1:=by rw[hi]
 have zL:cR c0.w.heap.size ((c.cS (.deferred (some []))).cS (.loop i.eV)) R.rows (.loop i :: .mark c.w.heap.size::R.fx.loops):=by
  have b0:cR c0.w.heap.size ((c.cS (.deferred (some []))).cS (.loop i.eV)) R.rows R.fx.loops:=⟨(bq.all.cS h3).cS dz,bq.flat⟩;have b1:cR c0.w.heap.size ((c.cS (.deferred (some []))).cS (.loop i.eV)) R.rows (.mark c.w.heap.size::R.fx.loops):=by
   refine b0.push (g := .mark c.w.heap.size) (show rY _ _ _ from ⟨.inl (.inr rfl),hr.size,?_⟩) (by simp[bk.cj]) (fun x hx hm=>?_)
   ·show((c.w.alloc (.deferred (some []))).alloc (.loop i.eV)).heap[c.w.heap.size]?=_;rw[Below.heap_alloc _ _ _ (by simp)];exact heap_alloc_new _ _
   ·simp[bk.cj]at hx;subst hx;have:=bq.old h3 hm;omega
  refine b1.push (g := .loop i) (show nR _ _ _ from ⟨.inr (by rw[fR,bP]),by rw[fR];have:=hr.size;omega,?_,?_⟩) (by simp[bk.cj]) (fun x hx hm=>?_)
  ·show((c.w.alloc (.deferred (some []))).alloc (.loop i.eV)).heap[i.l]?=_;rw[fR,show c.w.heap.size+1=(c.w.alloc (.deferred (some []))).heap.size by simp];exact heap_alloc_new _ _
  ·have es:i.iB=s:=by rw[hi]
   have et:i.tm=t:=by rw[hi]
   rw[es,et];exact⟨h4.1,fun j x v hx hv=>iC x v (h4.2 j x v hx hv)⟩
  ·simp[bk.cj]at hx;subst hx;rw[List.flatMap_append,List.mem_append,List.flatMap_cons,List.mem_append]at hm;rcases hm with hm|hm|hm
   ·have:=bq.old h3 (b:=i.l) (by rw[List.flatMap_append];exact List.mem_append_left _ hm);omega
   ·simp[bk.cj]at hm;omega
   ·have:=bq.old h3 (b:=i.l) (by rw[List.flatMap_append];exact List.mem_append_right _ hm);omega
 have H:=(H (c.w.heap.size+1) c.w.heap.size t).to;rw[<- hi]at H;unfold AW at H;have jK:VL ((c.cS (.deferred (some []))).cS (.loop i.eV)) (a1++[.fn (.yield (c.w.heap.size+1)) [] []]++a2) (v1++[.func (.yield (c.w.heap.size+1)) #[] #[]]++v2):=by
  have lift:∀ {x:List AV} {u:List Value},VL c x u->VL ((c.cS (.deferred (some []))).cS (.loop i.eV)) x u:=fun hx=>⟨hx.1,fun j x v h1 h2=>iC x v (hx.2 j x v h1 h2)⟩;exact((lift e2).append (.cons (.fn _ _ _ _ _ rfl rfl (fun j x v hx=>by simp at hx) (fun j x v hx=>by simp at hx)) .nil)).append (lift e3)
 obtain⟨c2,fr,r,v,q1,q2,q3,q4,q5,q6⟩:=H c0 ((c.cS (.deferred (some []))).cS (.loop i.eV)) _ (t::ts) h0 (fun x hx=>by simp at hx;subst hx;trivial) rfl fM FM zL (D7 fn.ntmps jK) ⟨⟨h4.1,fun j x v hx hv=>iC x v (h4.2 j x v hx hv)⟩,gC trivial (dZ h1),nQ iC h5⟩ cs;refine⟨c2,fr,r,v,q1,q2,q3,q4,.head ?_ q5,q6⟩;have fU:=run_enterLoop_outer (P:=E.P) (w:=c.w) ag t ps assign body;have Sz:(Loop.mk .ready none ag t ps assign body c.w.heap.size)=i.eV:=by rw[hi];rfl
 rw[Sz]at fU;have F1:(resolve (⟨t,marks R.fx.aL⟩:Act).eval (rangeCall g (c.w.heap.size+1)) 0).run E.P ((c.w.alloc (.deferred (some []))).alloc (.loop i.eV))=.ok { target := .fn (.func gf) v2.toArray,args:=v1.toArray ++ #[.func (.yield (c.w.heap.size+1)) #[] #[]] } ((c.w.alloc (.deferred (some []))).alloc (.loop i.eV)):=by
  have hy:∀ l:Nat,#[Operand.const (Value.func (Fn.yield l) #[] #[])].map (⟨t,marks R.fx.aL⟩:Act).eval = #[.func (.yield l) #[] #[]]:=fun _=>by simp[Act.eval]
  simp only[resolve,rangeCall,e1,Deferred.ofValue,Sem.run_pure,hy]
 have hinv:(invoke (Target.fn (.func gf) v2.toArray) (v1.toArray ++ #[.func (.yield (c.w.heap.size+1)) #[] #[]])).run E.P ((c.w.alloc (.deferred (some []))).alloc (.loop i.eV))=.ok (.enter gf (v1++[Value.func (.yield (c.w.heap.size+1)) #[] #[]]++v2).toArray) ((c.w.alloc (.deferred (some []))).alloc (.loop i.eV)):=by
  simp only[invoke];rw[Sx hf hb hn]
  congr 2
  apply Array.ext';simp
 have hs:=stepR_rangeFunc (P:=E.P) (b:=bf ⟨ag,none,R.fx.aL⟩) (a:=⟨t,marks R.fx.aL⟩) (k:=k.map aP.bI) (cs:=eL R.fx.cls ts++cs) fU F1 hinv;rw[KU hf hb _ (nS (a1++[.fn (.yield (c.w.heap.size+1)) [] []]++a2) fn.ntmps)]at hs;exact hs
theorem I.yield(n:Nat){i:kz}{fx:Operand}{args:Array Operand}{ts:Array TypeId}{av:List AV}(hl:R.fx.loops[n]?=some (.loop i))(hg:o.guard=none)(cm:o.op=.call { callee := .value fx,args:=args,argTypes:=ts })(hf:aZ E.G s fx (.fn (.yield i.l) [] []))(ha:jn E.G s args.toList av)(hlen:av.length=i.ps.size)
  (H:I E i.fn ⟨R.n,R.Q,R.rows,⟨R.fx.f0,some i.l,[],⟨⟨ag,R.fx.cB,R.fx.aL⟩,.bu ops (o::l)::k,s⟩::R.fx.cls,R.fx.loops,R.fx.inl⟩⟩ [] [.code i.assign,.ql,.code i.body] (uP i.ps.toList av i.iB) h):I E ag R lits (.bu ops (o::l)::k) s h:=by
 refine .of ?_;unfold AW;intro c0 c t tt h0 h1 h2 h3 hr bq h4 h5 cs;subst h2;obtain⟨j,hj,ea,aM⟩:=mQ (h1 _ (List.mem_cons_self ..));have hi:nR c0.w.heap.size c i:=bq.all.each _ (List.mem_append_right _ (List.mem_of_getElem? hl));obtain⟨v1,v2,e1,e2,e3⟩:=ma (hf c ⟨t,marks R.fx.aL⟩ h3 h4);obtain rfl:v1=[]:=List.eq_nil_of_length_eq_zero (by simpa using e2.1.symm);obtain rfl:v2=[]:=List.eq_nil_of_length_eq_zero (by simpa using e3.1.symm);have e4:=ha c ⟨t,marks R.fx.aL⟩ h3 h4;have H:=H.to;unfold AW at H;have jr:(#[]++args.map (⟨t,marks R.fx.aL⟩:Act).eval).size=i.eV.params.size:=by
  have:=e4.1;simp at this ⊢;rw[<- this,hlen];rfl
 have dm:=FZ (ps:=i.ps.toList) hi.iB e4;obtain⟨c2,fr,r,v,q1,q2,q3,q4,q5,q6⟩:=H c0 c _ (t::tt) h0 (fun x hx=>by simp at hx;rcases hx with rfl|rfl|rfl<;>trivial) rfl h3 hr bq dm ⟨h4,h1,h5⟩ cs;refine⟨c2,fr,r,v,q1,q2,q3,q4,.head ?_ q5,q6⟩;have cI:(execOp (⟨t,marks R.fx.aL⟩:Act).eval o).run E.P c.w=.ok (.round i.l i.fn ((i.ps.toList.zip (args.toList.map (⟨t,marks R.fx.aL⟩:Act).eval)).foldl (fun t (p,v)=>t.setIfInBounds p v) i.tm) i.assign i.body) c.w:=by
  have hy:=run_yield (P:=E.P) hi.mem jr;simp only[execOp,cm,resolve,e1,Deferred.ofValue,invoke,Sem.run_bind,Sem.run_pure,Result.andThen_ok,hy]
  congr 2
  rw[<- Array.foldl_toList,Array.toList_zip];simp[kz.eV]
 have hs:=KV (P:=E.P) (b:=bf ⟨ag,R.fx.cB,R.fx.aL⟩) (a:=⟨t,marks R.fx.aL⟩) (k:=k.map aP.bI) (cs:=eL R.fx.cls tt++cs) (rest:=(List.range ops.size).drop (ops.size-l.length)) hj (fS hg c t h4) cI;simp only[b8.bI,List.map_cons,eL,ea,List.cons_append];exact hs
theorem I.begin(n:Nat){i:kz}(hl:R.fx.loops[n]?=some (.loop i))(jW:R.fx.cB=some i.l)(bg:i.st=.ready)
  (H:I E ag ⟨R.n,R.Q,R.rows,⟨R.fx.f0,some i.l,R.fx.aL,R.fx.cls,R.fx.loops.set n (.loop { i with st := .busy }),R.fx.inl⟩⟩ lits k s h):I E ag R lits (.ql::k) s h:=by
 have e:(⟨ag,R.fx.cB,R.fx.aL⟩:iP)=⟨ag,some i.l,R.fx.aL⟩:=by rw[jW]
 refine .of ?_;rw[e];unfold AW;intro c0 c t tt h0 h1 h2 h3 hr bq h4 h5 cs;subst h2;have hi:nR c0.w.heap.size c i:=bq.all.each _ (List.mem_append_right _ (List.mem_of_getElem? hl));have ht:Touch c i.l (c.w.putObj i.l (.loop { i with st := .busy }.eV)) := .putObj hi.az;have ah:=h3.bQ _ hi.az;have zL:cR c0.w.heap.size (c.eu (c.w.putObj i.l (.loop { i with st := .busy }.eV))) R.rows (R.fx.loops.set n (.loop { i with st := .busy })) :=
  bq.KT hl rfl rfl ht (show nR _ _ _ from ⟨hi.az,hi.new,World.putObj_heap_same ah,⟨hi.iB.1,fun j x v hx hv=>ht.vr (hi.iB.2 j x v hx hv)⟩⟩)
 have H:=H.to;unfold AW at H;obtain⟨c2,fr,r,v,q1,q2,q3,q4,q5,q6⟩:=H c0 (c.eu (c.w.putObj i.l (.loop { i with st := .busy }.eV))) t tt h0 (dZ h1) rfl (ht.aM h3) (ht.rel hr hi.new) zL ⟨h4.1,fun j x v hx hv=>ht.vr (h4.2 j x v hx hv)⟩ (nQ (fun _ _=>ht.vr) h5) cs;refine⟨c2,fr,r,v,q1,q2,q3,q4,.head ?_ q5,q6⟩;exact stepR_beginRound (b:=bf ⟨ag,some i.l,R.fx.aL⟩) (a:=⟨t,marks R.fx.aL⟩) (k:=k.map aP.bI) rfl (run_beginRound hi.mem bg)
theorem I.F2(n:Nat){i:kz}(jump:Option Code){td:List aP}{fd:iP}{ib:Array Oper}{o1:Oper}{l1:List Oper}{k1:List aP}{s1:List AV}{gQ:List b8}
  (hj:∀ (b:Frame) (a:Act) (cf:Frame) (cs:List Frame) (w w':World) (v:Value),b.roundOf=some i.l->b.kind=.normal->(Instr.endRound i.l jump).run E.P w=.ok v w'->step E.P (lone (b.atR a (td.map aP.bI)) (cf::cs) w)=.next (lone (cf.finish v) cs w'))
  (hl:R.fx.loops[n]?=some (.loop i)) (jW:R.fx.cB=some i.l) (hc:R.fx.cls=⟨fd,.bu ib (o1::l1)::k1,s1⟩::gQ)
  (H:I E fd.f ⟨R.n,R.Q,R.rows,⟨R.fx.f0,fd.cB,fd.aL,gQ,R.fx.loops.set n (.loop { i with st:=if jump.isNone then .ready else .done,pe:=jump }),R.fx.inl⟩⟩ [] (.bu ib l1::k1) (bX s1 o1.dst (.d (.bool jump.isNone))) h):I E ag R lits td s h:=by
 have e:(⟨ag,R.fx.cB,R.fx.aL⟩:iP)=⟨ag,some i.l,R.fx.aL⟩:=by rw[jW]
 refine .of ?_;rw[e,hc];unfold AW;intro c0 c t tt h0 h1 h2 h3 hr bq h4 h5 cs;subst h2;obtain⟨t1,iX,rfl⟩:∃ t1 iX,tt=t1::iX:=by
  cases tt with
  |nil=>exact h5.elim
  |cons t1 iX=>exact⟨_,_,rfl⟩
 obtain⟨c4,c5,c6⟩:=h5;obtain⟨j,Cg,ea,aM⟩:=mQ (c5 _ (List.mem_cons_self ..));have hi:nR c0.w.heap.size c i:=bq.all.each _ (List.mem_append_right _ (List.mem_of_getElem? hl));obtain⟨i2,xn⟩:∃ i2:kz,i2={ i with st:=if jump.isNone then .ready else .done,pe:=jump }:=⟨_,rfl⟩;rw[<- xn]at H;have Ch:i2.l=i.l:=by rw[xn]
 have es:i2.iB=i.iB:=by rw[xn]
 have et:i2.tm=i.tm:=by rw[xn]
 have ht:Touch c i.l (c.w.putObj i.l (.loop i2.eV)) := .putObj hi.az;have ah:=h3.bQ _ hi.az;have zL:cR c0.w.heap.size (c.eu (c.w.putObj i.l (.loop i2.eV))) R.rows (R.fx.loops.set n (.loop i2)) :=
  bq.KT hl rfl (by simp[bk.cj,Ch]) ht (show nR _ _ _ from ⟨by rw[Ch];exact hi.az,by rw[Ch];exact hi.new,by rw[Ch];exact World.putObj_heap_same ah,by rw[es,et];exact⟨hi.iB.1,fun j x v hx hv=>ht.vr (hi.iB.2 j x v hx hv)⟩⟩)
 have H:=H.to;unfold AW at H;have jJ:VS (c.eu (c.w.putObj i.l (.loop i2.eV))) (bX s1 o1.dst (.d (.bool jump.isNone))) ((⟨t1,marks fd.aL⟩:Act).put o1.dst (.bool jump.isNone)).tmps :=
  VS.bX (a:=⟨t1,marks fd.aL⟩) ⟨c4.1,fun j x v hx hv=>ht.vr (c4.2 j x v hx hv)⟩ o1.dst (.d _ _ (.bool _))
 obtain⟨c2,fr,r,v,q1,q2,q3,q4,q5,q6⟩:=H c0 (c.eu (c.w.putObj i.l (.loop i2.eV))) _ iX h0 (gC aM (dZ c5)) rfl (ht.aM h3) (ht.rel hr hi.new) zL jJ (nQ (fun _ _=>ht.vr) c6) cs;refine⟨c2,fr,r,v,q1,q2,q3,q4,.head ?_ q5,q6⟩;have cI:(Instr.endRound i.l jump).run E.P c.w=.ok (.bool jump.isNone) (c.w.putObj i.l (.loop i2.eV)):=by
  have:=run_endRound (P:=E.P) jump hi.mem;rw[xn];exact this
 have hs:=hj (bf ⟨ag,some i.l,R.fx.aL⟩) ⟨t,marks R.fx.aL⟩ ((⟨fd,.bu ib (o1::l1)::k1,s1⟩:b8).bI t1) (eL gQ iX++cs) c.w _ _ rfl rfl cI;have gv:((⟨fd,.bu ib (o1::l1)::k1,s1⟩:b8).bI t1).finish (.bool jump.isNone)=(⟨⟨fd.f,fd.cB,fd.aL⟩,.bu ib l1::k1,bX s1 o1.dst (.d (.bool jump.isNone))⟩:b8).bI ((⟨t1,marks fd.aL⟩:Act).put o1.dst (.bool jump.isNone)).tmps:=by
  simp only[b8.bI,List.map_cons,ea];rw[Frame.finish_atR,Cg];simp only[Option.bind_some];rw[put_defers];rfl
 rw[gv]at hs;exact hs
theorem I.pM(n:Nat){i:kz}{fd:iP}{ib:Array Oper}{o1:Oper}{l1:List Oper}{k1:List aP}{s1:List AV}{gQ:List b8}(hl:R.fx.loops[n]?=some (.loop i))(jW:R.fx.cB=some i.l)(hc:R.fx.cls=⟨fd,.bu ib (o1::l1)::k1,s1⟩::gQ)
  (H:I E fd.f ⟨R.n,R.Q,R.rows,⟨R.fx.f0,fd.cB,fd.aL,gQ,R.fx.loops.set n (.loop { i with st := .ready,pe:=none }),R.fx.inl⟩⟩ [] (.bu ib l1::k1) (bX s1 o1.dst (.d (.bool true))) h):I E ag R lits [] s h :=
 .F2 n none (fun b a cf cs w w' v h1 h2 h3=>stepR_round_end h1 h2 h3) hl jW hc H
theorem I.Ci(n:Nat){i:kz}{fd:iP}{ib:Array Oper}{o1:Oper}{l1:List Oper}{k1:List aP}{s1:List AV}{gQ:List b8}(hl:R.fx.loops[n]?=some (.loop i))(jW:R.fx.cB=some i.l)(hc:R.fx.cls=⟨fd,.bu ib (o1::l1)::k1,s1⟩::gQ)
  (H:I E fd.f ⟨R.n,R.Q,R.rows,⟨R.fx.f0,fd.cB,fd.aL,gQ,R.fx.loops.set n (.loop { i with st := .done,pe:=some .ret }),R.fx.inl⟩⟩ [] (.bu ib l1::k1) (bX s1 o1.dst (.d (.bool false))) h):I E ag R lits (.code .ret::k) s h :=
 .F2 n (some .ret) (fun b a cf cs w w' v h1 h2 h3=>stepR_round_ret h1 h2 h3) hl jW hc H
theorem uQ{id:Nat}:∀ {l:List aP},mP id l=none->exitTo id (l.map aP.bI)=none
 |[],_=>rfl
 | .inBlock i::l,hl=>by
  simp only[mP]at hl;simp only[List.map_cons,aP.bI,exitTo];split at hl
  ·cases hl
  ·rename_i q
   rw[if_neg (by intro hh;have : i=id := by simpa using hh
                 rw[this, Nat.beq_refl]at q;cases q)]
   exact uQ hl
 | .code c::l,hl=>uQ (l:=l) hl
 | .inLoop c::l,hl=>uQ (l:=l) hl
 | .bu ops q::l,hl=>uQ (l:=l) hl
 | .pn c::l,hl=>uQ (l:=l) hl
 | .ql::l,hl=>uQ (l:=l) hl
theorem I.SA(n:Nat){i:kz}{id:Nat}{fd:iP}{ib:Array Oper}{o1:Oper}{l1:List Oper}{k1:List aP}{s1:List AV}{gQ:List b8}(hx:mP id k=none)(hl:R.fx.loops[n]?=some (.loop i))(jW:R.fx.cB=some i.l)(hc:R.fx.cls=⟨fd,.bu ib (o1::l1)::k1,s1⟩::gQ)
  (H:I E fd.f ⟨R.n,R.Q,R.rows,⟨R.fx.f0,fd.cB,fd.aL,gQ,R.fx.loops.set n (.loop { i with st := .done,pe:=some (.exit id) }),R.fx.inl⟩⟩ [] (.bu ib l1::k1) (bX s1 o1.dst (.d (.bool false))) h):I E ag R lits (.code (.exit id)::k) s h :=
 .F2 n (some (.exit id)) (fun b a cf cs w w' v h1 h2 h3=>stepR_round_exit h1 h2 (uQ hx) h3) hl jW hc H
theorem I.oa {fx : Operand} {args : Array Operand} {ts : Array TypeId} {f : FuncId} {fn : Func} {b : Code} {a1 a2 av : List AV} (hg : o.guard = none) (cm : o.op = .call { callee := .value fx, args := args, argTypes := ts }) (nk : aZ E.G s fx (.fn (.func f) a1 a2)) (ha : jn E.G s args.toList av) (hf : E.P.funcs[f]? = some fn) (hb : fn.body = some b) (hn : (fn.name == "runtime.NumGoroutine") = false)
  (H:I E f ⟨R.n,R.Q,R.rows,⟨R.fx.f0,none,[],⟨⟨ag,R.fx.cB,R.fx.aL⟩,.bu ops (o::l)::k,s⟩::R.fx.cls,R.fx.loops,R.fx.inl⟩⟩ [] [.code b] (nS (a1++av++a2) fn.ntmps) h):I E ag R lits (.bu ops (o::l)::k) s h:=by
 refine .of ?_;unfold AW;intro c0 c t tt h0 h1 h2 h3 hr bq h4 h5 cs;subst h2;obtain⟨j,hj,ea,aM⟩:=mQ (h1 _ (List.mem_cons_self ..));obtain⟨v1,v2,e1,e2,e3⟩:=ma (nk c ⟨t,marks R.fx.aL⟩ h3 h4);have e4:=ha c ⟨t,marks R.fx.aL⟩ h3 h4;have e5:=(e2.append e4).append e3;have H:=H.to;unfold AW at H;obtain⟨c2,fr,r,v,q1,q2,q3,q4,q5,q6⟩:=H c0 c _ (t::tt) h0 (fun x hx=>by simp at hx;subst hx;trivial) rfl h3 hr bq (D7 fn.ntmps e5) ⟨h4,h1,h5⟩ cs;refine⟨c2,fr,r,v,q1,q2,q3,q4,.head ?_ q5,q6⟩;have cI:=yr (P:=E.P) (w:=c.w) (a:=⟨t,marks R.fx.aL⟩) cm e1 ⟨fn,hf,by rw[hb];rfl,hn⟩;have jK:(v1.toArray++args.map (⟨t,marks R.fx.aL⟩:Act).eval++v2.toArray)=(v1++args.toList.map (⟨t,marks R.fx.aL⟩:Act).eval++v2).toArray:=by
  apply Array.ext';simp
 rw[jK]at cI;have hs:=D8 (P:=E.P) (b:=bf ⟨ag,R.fx.cB,R.fx.aL⟩) (a:=⟨t,marks R.fx.aL⟩) (k:=k.map aP.bI) (cs:=eL R.fx.cls tt++cs) (rest:=(List.range ops.size).drop (ops.size-l.length)) hj (fS hg c t h4) cI;rw[KU hf hb _ (nS (a1++av++a2) fn.ntmps)]at hs;simp only[b8.bI,List.map_cons,eL,ea,List.cons_append]at hs ⊢;exact hs
def xo:List aP->Bool
 |[]=>true
 | .code .ret::_=>true
 |_=>false
theorem SB{P:Program}{fd:iP}(hr:fd.cB=none){td:List aP}(h:xo td=true)(a:Act)(cs:List Frame)(w:World):step P (lone ((bf fd).atR a (td.map aP.bI)) cs w)=.next (lone { (bf fd).atR a (td.map aP.bI)with mode := .returning } cs w):=by
 unfold xo at h;split at h
 ·exact stepR_end hr
 ·exact stepR_ret hr
 ·cases h
theorem F3{P:Program}{G:List (Nat × DV)}{c0 c:Cx}{ag:FuncId}{fn:Func}{aL:List Nat}{rows L:List bk}{td:List aP}{s:List AV}{t:Array Value}{r:AV}(hf:P.funcs[ag]?=some fn)(nU:xo td=true)(ho:aK G c)(hr:c8 c0 c)(bq:cR c0.w.heap.size c rows (aL.map .mark++L))(hs:VS c s t)
  (F1:∀ (c':Cx) (t:Array Value),c'.heap=c.heap->aK G c'->VS c' s t->∃ v,VR c' r v/\(results fn t).run P c'.w=.ok v c'.w) (cs:List Frame) :
  ∃ (c':Cx) (fr:Frame) (v:Value),c'.heap=c.heap/\aK G c'/\c8 c0 c'/\cR c0.w.heap.size c' rows L/\(∀ x u,VR c x u->VR c' x u)/\VR c' r v/\Steps P (lone ((⟨⟨ag,none,aL⟩,td,s⟩:b8).bI t) cs c.w) (lone fr cs c'.w)/\fr.fn=ag/\fr.leaving P c'.w (.returned v):=by
 obtain⟨c',q1,q2,q3,q4,q5,q6⟩:=KW (P:=P) (cs:=cs) aL c { (bf ⟨ag,none,aL⟩).atR ⟨t,marks aL⟩ (td.map aP.bI)with mode := .returning } ho hr bq rfl rfl;obtain⟨v,p1,p2⟩:=F1 c' t q1 q2 ⟨hs.1,fun j x v hx hv=>q5 x v (hs.2 j x v hx hv)⟩;exact⟨c',_,v,q1,q2,q3,q4,q5,p1,.head (SB rfl nU _ _ _) q6,rfl,rfl,rfl,rfl,fn,hf,p2⟩
theorem I.mo(hE:E.OK){fn:Func}{L:List bk}{td:List aP}(hf:E.P.funcs[ag]?=some fn)(nU:xo td=true)(jW:R.fx.cB=none)(hc:R.fx.cls=[])(h0:R.fx.f0=ag)(hL:R.fx.loops=R.fx.aL.map .mark++L)(H:nT E.T s h fn.results.toList False R.Q):I E ag R lits td s h:=by
 have e:(⟨ag,R.fx.cB,R.fx.aL⟩:iP)=⟨ag,none,R.fx.aL⟩:=by rw[jW]
 refine .of ?_;rw[e,hc,h0];unfold AW;intro c0 c t tt h0 h1 h2 h3 hr bq h4 h5 cs;obtain⟨r,k1,k2⟩:=F0 hE H;subst h2;rw[hL]at bq;obtain⟨c',fr,v,q1,q2,q3,q4,q5,q6,q7,q8,q9⟩:=F3 hf nU h3 hr bq h4 k2 (eL [] tt++cs);have iR:eL [] tt=[]:=by cases tt<;>rfl
 rw[iR]at q7 ⊢;exact⟨c',fr,r,v,by rw[q1];exact k1,q6,q2,q3,q7,q8,q9⟩
theorem I.kM(hE:E.OK){fn:Func}{L:List bk}{td:List aP}{fd:iP}{ib:Array Oper}{o1:Oper}{l1:List Oper}{k1:List aP}{s1:List AV}{gQ:List b8}(hf:E.P.funcs[ag]?=some fn)(nU:xo td=true)(jW:R.fx.cB=none)(hc:R.fx.cls=⟨fd,.bu ib (o1::l1)::k1,s1⟩::gQ)(hL:R.fx.loops=R.fx.aL.map .mark++L)
  (H:nT E.T s h fn.results.toList False fun r h'=>cd s1 o1.dst r fun s'=>I E fd.f ⟨R.n,R.Q,R.rows,⟨R.fx.f0,fd.cB,fd.aL,gQ,L,R.fx.inl⟩⟩ [] (.bu ib l1::k1) s' h'):I E ag R lits td s h:=by
 have e:(⟨ag,R.fx.cB,R.fx.aL⟩:iP)=⟨ag,none,R.fx.aL⟩:=by rw[jW]
 refine .of ?_;rw[e,hc];unfold AW;intro c0 c t tt h0 h1 h2 h3 hr bq h4 h5 cs;obtain⟨r,H,k2⟩:=F0 hE H;subst h2;rw[hL]at bq;obtain⟨t1,iX,rfl⟩:∃ t1 iX,tt=t1::iX:=by
  cases tt with
  |nil=>exact h5.elim
  |cons t1 iX=>exact⟨_,_,rfl⟩
 obtain⟨c4,c5,c6⟩:=h5;obtain⟨j,Cg,ea,aM⟩:=mQ (c5 _ (List.mem_cons_self ..));obtain⟨c',fr,v,q1,q2,q3,q4,q5,q6,q7,q8,q9⟩:=F3 hf nU h3 hr bq h4 k2 (eL (⟨fd,.bu ib (o1::l1)::k1,s1⟩::gQ) (t1::iX)++cs);rw[dP]at H;have H:=H.to;unfold AW at H;have jJ:VS c' (bX s1 o1.dst r) ((⟨t1,marks fd.aL⟩:Act).put o1.dst v).tmps:=VS.bX (a:=⟨t1,marks fd.aL⟩) ⟨c4.1,fun j x v hx hv=>q5 x v (c4.2 j x v hx hv)⟩ o1.dst q6;obtain⟨c2,tX,r2,v2,p1,p2,p3,p4,p5,p6⟩:=H c0 c' _ iX h0 (gC aM (dZ c5)) q1 q2 q3 q4 jJ (nQ q5 c6) cs;refine⟨c2,tX,r2,v2,p1,p2,p3,p4,q7.trans (.head ?_ p5),p6⟩;have hs:=step_leave_returned (c:=(⟨fd,.bu ib (o1::l1)::k1,s1⟩:b8).bI t1) (cs:=eL gQ iX++cs) q9;have gv:((⟨fd,.bu ib (o1::l1)::k1,s1⟩:b8).bI t1).finish v=(⟨⟨fd.f,fd.cB,fd.aL⟩,.bu ib l1::k1,bX s1 o1.dst r⟩:b8).bI ((⟨t1,marks fd.aL⟩:Act).put o1.dst v).tmps:=by
  simp only[b8.bI,List.map_cons,ea];rw[Frame.finish_atR,Cg];simp only[Option.bind_some];rw[put_defers];rfl
 rw[gv]at hs;exact hs
def F5:Option Code->List aP->List aP
 |some c,k => .code c::k
 |none,k=>k
theorem I.kN(hE:E.OK){fn:Func}{L:List bk}{td:List aP}{i:kz}{fd:iP}{k1:List aP}{s1:List AV}{gQ:List b8}(hf:E.P.funcs[ag]?=some fn)(nU:xo td=true)(jW:R.fx.cB=none)(hc:R.fx.cls=⟨fd,.pn i.l::k1,s1⟩::gQ)(hL:R.fx.loops=R.fx.aL.map .mark ++ .loop i::L)(bg:i.st ≠ .busy)
  (H:nT E.T s h fn.results.toList False fun _ _=>I E fd.f ⟨R.n,R.Q,R.rows,⟨R.fx.f0,fd.cB,fd.aL,gQ,L,R.fx.inl⟩⟩ [] (F5 i.pe k1) s1 h):I E ag R lits td s h:=by
 have e:(⟨ag,R.fx.cB,R.fx.aL⟩:iP)=⟨ag,none,R.fx.aL⟩:=by rw[jW]
 refine .of ?_;rw[e,hc];unfold AW;intro c0 c t tt h0 h1 h2 h3 hr bq h4 h5 cs;obtain⟨r,H,k2⟩:=F0 hE H;subst h2;rw[hL]at bq;obtain⟨t1,iX,rfl⟩:∃ t1 iX,tt=t1::iX:=by
  cases tt with
  |nil=>exact h5.elim
  |cons t1 iX=>exact⟨_,_,rfl⟩
 obtain⟨c4,c5,c6⟩:=h5;obtain⟨c',fr,v,q1,q2,q3,q4,q5,q6,q7,q8,q9⟩:=F3 hf nU h3 hr bq h4 k2 (eL (⟨fd,.pn i.l::k1,s1⟩::gQ) (t1::iX)++cs);obtain⟨g1,g2,g3⟩:=q4.pop;have g2:nR c0.w.heap.size c' i:=g2;obtain⟨o2,yZ⟩:∃ o2:Obj,o2=.loop { i.eV with state := .exhausted }:=⟨_,rfl⟩;have ht:Touch c' i.l (c'.w.putObj i.l o2) := .putObj g2.az;have H:=H.to;unfold AW at H;have SC:(∀ x∈F5 i.pe k1,x.ok):=by
  cases i.pe with
  |none=>exact dZ c5
  |some c=>exact gC trivial (dZ c5)
 obtain⟨c2,tX,r2,v2,p1,p2,p3,p4,p5,p6⟩:=H c0 (c'.eu (c'.w.putObj i.l o2)) t1 iX h0 SC q1 (ht.aM q2) (ht.rel q3 g2.new) ⟨ht.rows g1.all (g3 i.l (by simp[bk.cj])),g1.flat⟩ ⟨c4.1,fun j x v hx hv=>ht.vr (q5 x v (c4.2 j x v hx hv))⟩ (nQ (fun x v hv=>ht.vr (q5 x v hv)) c6) cs;refine⟨c2,tX,r2,v2,p1,p2,p3,p4,q7.trans (.head (step_leave_returned q9) (.head ?_ p5)),p6⟩;have gv:((⟨fd,.pn i.l::k1,s1⟩:b8).bI t1).finish v=(bf fd).atR ⟨t1,marks fd.aL⟩ (.endRangeFunc i.l::k1.map aP.bI):=by
  simp only[b8.bI,List.map_cons,aP.bI];exact finish_atR_inRangeFunc _ _
 have qQ:(Instr.endLoop i.l).run E.P c'.w=.ok i.pe (c'.w.putObj i.l o2):=by
  have:=run_endLoop (P:=E.P) g2.mem bg;rw[yZ];exact this
 have hs:=stepR_endRangeFunc (P:=E.P) (b:=bf fd) (a:=⟨t1,marks fd.aL⟩) (k:=k1.map aP.bI) (cs:=eL gQ iX++cs) qQ;rw[<- gv]at hs;have yO:(i.pe.map Item.code).toList++k1.map aP.bI=(F5 i.pe k1).map aP.bI:=by cases i.pe<;>rfl
 rw[yO]at hs;exact hs
end
end Go.ay
end
section
namespace Go.ay
open Go Go.RowKit
section
variable {E:Env} {s:List AV} {h:List af}
theorem SD(hE:E.OK){t kt e:Nat}{m ko:Operand}{ti:br}(bV:E.T[t]?=some ti)(hk:ti.k=.map kt e){kd:TK}(hT:sh E kt kd){b:Nat}{es:List (DV × DV)}(hb:h[b]?=some (.map es))(hm:aZ E.G s m (.map b)){x:DV}(hx:aZ E.G s ko (.d x))
  (h1:dn E.T kd x) (h2:∀ p∈es,dn E.T kd p.1) {z:DV} {zv:Value} (gr:∀ w,(zeroValue e).run E.P w=.ok zv w) (ix:∀ bad w,VD bad w z zv) :
  bw E (.mapEntry t m ko) s h (.d (.aD [(findD x es).getD z,.int .i64 ((eX x es).getD es.length)])) (h.set b (.map (bU x ((findD x es).getD z) es))):=fun o c ac e1 e2 h3 h4=>by
 subst e2;obtain⟨me,d,g1,g2,g3,-⟩:=cD (hE.types t ti bV);have hd:d=.map kt e:=by rw[hk]at g3;cases d<;>first|(cases g3;rfl)|cases g3
 subst hd;have eJ:=aQ hb;obtain⟨blk,cap,en,ck,q1,q2,q3,qe,q4⟩:=wG h3 hb (hm c ac h3 h4);have cG:=hx c ac h3 h4;generalize hu:ac.eval ko=u at cG;cases cG with
 |d _ _ cG =>
  have r1:=EC hE hT h1 cG false;have r2:=EB hE hT h1 cG h2 q4;have hblk:blk<c.w.heap.size:=(h3.bA b blk cap q2).1;have hl:en.size=es.length:=by simpa using q4.1
  have main:∃ (iS:Array MapEntry) (mU:Nat) (v:Value),(Instr.mapEntry t (.map (some blk)) u).run E.P c.w=.ok (.tuple #[v,goInt ((eX x es).getD es.length:Nat)]) { c.w with heap:=c.w.heap.setIfInBounds blk (.map iS mU) }/\nM iS mU (bU x ((findD x es).getD z) es).length/\VD c.bad c.w ((findD x es).getD z) v /\
    ∀ (j:Nat) (k v:DV) (mm:MapEntry),(bU x ((findD x es).getD z) es)[j]?=some (k,v)->iS[j]?=some mm->VD c.bad c.w k mm.key/\VD c.bad c.w v mm.val:=by
   cases hf:eX x es with
   |none =>
    rw[Ey hf];refine⟨en.push { key:=u,val:=zv,born:=ck },ck+1,zv,?_,?_,ix _ _,?_⟩
    ·simp only[Instr.mapEntry,Sem.run_bind,run_underlying g2,Result.andThen_ok,qz q3,r1,r2,lx,hf,Option.bind_none,gr,yM _ q3,Sem.run_pure,Option.getD_none];rw[qe.tick]
    ·rw[Option.getD_none,yL hf,List.length_append];exact qe.push u zv
    ·intro j k v mm hj ey;rw[Option.getD_none,yL hf]at hj;rcases Nat.lt_or_ge j es.length with ah|aA
     ·rw[List.getElem?_append_left ah]at hj;rw[Array.getElem?_push,if_neg (by omega)]at ey;exact q4.2 j k v mm hj (by simpa using ey)
     ·have jL:j=es.length:=by
       have:=aQ hj;simp at this;omega
      subst jL;rw[List.getElem?_append_right (Nat.le_refl _)]at hj;simp at hj;obtain⟨rfl,rfl⟩:=hj;rw[Array.getElem?_push,if_pos hl.symm]at ey;cases ey;exact⟨cG,ix _ _⟩
   |some i =>
    obtain⟨p,p1,p2,p3⟩:=Br hf;rw[p3];have hi:i<en.size:=by rw[hl];exact aQ p1
    have kF:en[i]?=some en[i]:=by simp[hi]
    have fU:=q4.2 i p.1 p.2 en[i] p1 (by simp[hi]);have yO:=Ji p2;have e3:=uf h1 cG;have e4:=uf (h2 p (List.mem_of_getElem? p1)) fU.1;have ED:Instr.sameBits 10000 en[i].key u=true:=by
     rw[e3,e4,<- yO];exact Jj h1
    refine⟨en.modify i fun e=>{ e with key:=u },ck,en[i].val,?_,?_,fU.2,?_⟩
    ·have EE:lx x es en.toList 0=some (i,en[i].val):=by
      simp[lx,hf,hi]
     have Bt:(Instr.keyThatStays en[i].key u).run E.P c.w=.ok u c.w:=by
      simp only[Instr.keyThatStays,ED,if_true,Sem.run_pure]
     simp only[Instr.mapEntry,Sem.run_bind,run_underlying g2,Result.andThen_ok,qz q3,r1,r2,EE,kF,Option.map_some,Option.getD_some,Bt,yM _ q3,Sem.run_pure];rw[qe.idx i _ kF]
    ·rw[Option.getD_some,yK hf,List.length_set];have pr:(en.modify i fun e=>{ e with key:=u })=(en.modify i fun e=>{ e with key:=u,val:=en[i].val }):=by
      apply Array.ext_getElem?;intro j;rw[Array.getElem?_modify,Array.getElem?_modify];by_cases hj:i=j
      ·subst hj;simp[hi]
      ·simp[hj]
     rw[pr];exact qe.modify i u _
    ·intro j k v mm hj ey;rw[Option.getD_some,yK hf]at hj;by_cases ly:j=i
     ·subst ly;rw[List.getElem?_set_self (by omega)]at hj;cases hj;rw[Array.getElem?_modify,if_pos rfl,kF]at ey;cases ey;exact⟨cG,fU.2⟩
     ·rw[List.getElem?_set_ne (Ne.symm ly)]at hj;rw[Array.getElem?_modify,if_neg (Ne.symm ly)]at ey;exact q4.2 j k v mm hj (by simpa using ey)
  obtain⟨iS,mU,v0,cI,hlen,xp,fU⟩:=main;generalize bU x ((findD x es).getD z) es=dV at hlen fU ⊢
  let c':Cx:={ c with heap:=c.heap.set b (.map dV),w:={ c.w with heap:=c.w.heap.setIfInBounds blk (.map iS mU) } }
  have yP:c'.w.heap[blk]?=some (.map iS mU):=by simp[c',hblk]
  have si:∀ b',b'≠blk->c'.w.heap[b']?=c.w.heap[b']? := fun b' cw=>by simp[c',Array.getElem?_setIfInBounds,Ne.symm cw]
  have qA:c'.heap[b]?=some (.map dV):=by show(c.heap.set b _)[b]?=_;rw[List.getElem?_set_self eJ]
  have jN:∀ i,i≠b->c'.heap[i]?=c.heap[i]? := fun i hi=>by show(c.heap.set b _)[i]?=_;rw[List.getElem?_set_ne (Ne.symm hi)]
  have bg:Step c c':=⟨rfl,h3.bQ,rfl,rfl,rfl,by simp[c'],fun b' _ bK=>si b' (fun oL=>bK b cap (oL ▸ q2)),fun i b' n hi _=>⟨n,hi⟩,fun i bx hi=>by
   by_cases bE:i=b
   ·subst bE;rw[hb]at hi;cases hi;exact .inl ⟨_,qA,rfl⟩
   ·exact l6 hi (jN i bE) rfl⟩
  have aM:aK E.G c':=by
   refine h3.next bg (fun i b' n hi=>?_) h3.inj (fun i bx hi=>?_)
   ·have:=h3.bA i b' n hi;refine⟨by simpa [c']using this.1,?_⟩;show i<(c.heap.set b _).length;rw[List.length_set];exact this.2
   ·by_cases bE:i=b
    ·subst bE;rw[qA]at hi;cases hi;right;exact⟨blk,cap,iS,mU,q2,yP,hlen,fun j k v mm hj ey=>⟨bg.vd (fU j k v mm hj ey).1,bg.vd (fU j k v mm hj ey).2⟩⟩
    ·rw[jN i bE]at hi;exact .inl ⟨hi,rfl,fun b' n hn=>si b' (fun oL=>bE (h3.inj i b blk n cap (oL ▸ hn) q2))⟩
  refine⟨c',.tuple #[v0,goInt ((eX x es).getD es.length:Nat)],.inl ?_,rfl,aM,.d _ _ (.aD _ _ rfl fun j y v hy hv=>?_),bg⟩
  ·simp only[execOp,e1,q1,hu,Sem.run_bind,cI,Result.andThen_ok,Sem.run_pure];rfl
  ·match j with
   |0=>simp at hy hv;subst hy;subst hv;exact bg.vd xp
   |1=>simp at hy hv;subst hy;subst hv;exact .int _ _
   |j+2=>simp at hy
theorem SE(hE:E.OK){t:Nat}{m st vo:Operand}{b:Nat}{es:List (DV × DV)}(hb:h[b]?=some (.map es))(hm:aZ E.G s m (.map b)){n:Nat}{k0 x0 y:DV}(hn:es[n]?=some (k0,x0))(SF:aZ E.G s st (.d (.int .i64 n)))(hy:aZ E.G s vo (.d y)) :
  bw E (.entryStore t m st vo) s h (.d .undef) (h.set b (.map (es.set n (k0,y)))):=fun o c ac e1 e2 h3 h4=>by
 subst e2;have eJ:=aQ hb;obtain⟨blk,cap,en,ck,q1,q2,q3,qe,q4⟩:=wG h3 hb (hm c ac h3 h4);have Cj:=SF c ac h3 h4;have mc:=hy c ac h3 h4;generalize hu:ac.eval st=u at Cj;generalize hw:ac.eval vo=w at mc;cases Cj with
 |d _ _ Cj=>cases Cj;cases mc with
  |d _ _ mc =>
   have hblk:blk<c.w.heap.size:=(h3.bA b blk cap q2).1;have hl:en.size=es.length:=by simpa using q4.1
   have hi:n<en.size:=by rw[hl];exact aQ hn
   have kF:en[n]?=some en[n]:=by simp[hi]
   have SG:=q4.2 n k0 x0 en[n] hn (by simp[hi]);have oW:en.findIdx? (fun e=>(e.born:Int)==(n:Int))=some n:=by
    rw[Array.findIdx?_eq_some_iff_getElem];refine⟨hi,?_,fun j hj=>?_⟩
    ·have:=qe.idx n _ kF;simp[this]
    ·have:=qe.idx j en[j] (by rw[Array.getElem?_eq_getElem]);simp[this];omega
   have cI:(Instr.entryStore t (.map (some blk)) (.int .i64 n) w).run E.P c.w=.ok () { c.w with heap:=c.w.heap.setIfInBounds blk (.map (en.modify n fun e=>{ e with val:=w }) ck) }:=by
    have ha:(asInt (.int .i64 (n:Int))).run E.P c.w=.ok (n:Int) c.w:=rfl;simp only[Instr.entryStore,Sem.run_bind,Sem.run_pure,Result.andThen_ok,qz q3,ha,oW,yM _ q3]
   have hlen:nM (en.modify n fun e=>{ e with val:=w }) ck (es.set n (k0,y)).length:=by
    have pr:(en.modify n fun e=>{ e with val:=w })=(en.modify n fun e=>{ e with key:=en[n].key,val:=w }):=by
     apply Array.ext_getElem?;intro j;rw[Array.getElem?_modify,Array.getElem?_modify];by_cases hj:n=j
     ·subst hj;simp[hi]
     ·simp[hj]
    rw[pr,List.length_set];exact qe.modify n _ w
   have fU:∀ (j:Nat) (k v:DV) (mm:MapEntry),(es.set n (k0,y))[j]?=some (k,v)->(en.modify n fun e=>{ e with val:=w })[j]?=some mm->VD c.bad c.w k mm.key/\VD c.bad c.w v mm.val:=by
    intro j k v mm hj ey;by_cases ly:j=n
    ·subst ly;rw[List.getElem?_set_self (by omega)]at hj;cases hj;rw[Array.getElem?_modify,if_pos rfl,kF]at ey;cases ey;exact⟨SG.1,mc⟩
    ·rw[List.getElem?_set_ne (Ne.symm ly)]at hj;rw[Array.getElem?_modify,if_neg (Ne.symm ly)]at ey;exact q4.2 j k v mm hj (by simpa using ey)
   generalize en.modify n (fun e=>{ e with val:=w })=iS at cI hlen fU;generalize es.set n (k0,y)=dV at hlen fU ⊢
   let c':Cx:={ c with heap:=c.heap.set b (.map dV),w:={ c.w with heap:=c.w.heap.setIfInBounds blk (.map iS ck) } }
   have yP:c'.w.heap[blk]?=some (.map iS ck):=by simp[c',hblk]
   have si:∀ b',b'≠blk->c'.w.heap[b']?=c.w.heap[b']? := fun b' cw=>by simp[c',Array.getElem?_setIfInBounds,Ne.symm cw]
   have qA:c'.heap[b]?=some (.map dV):=by show(c.heap.set b _)[b]?=_;rw[List.getElem?_set_self eJ]
   have jN:∀ i,i≠b->c'.heap[i]?=c.heap[i]? := fun i hi=>by show(c.heap.set b _)[i]?=_;rw[List.getElem?_set_ne (Ne.symm hi)]
   have bg:Step c c':=⟨rfl,h3.bQ,rfl,rfl,rfl,by simp[c'],fun b' _ bK=>si b' (fun oL=>bK b cap (oL ▸ q2)),fun i b' n hi _=>⟨n,hi⟩,fun i bx hi=>by
    by_cases bE:i=b
    ·subst bE;rw[hb]at hi;cases hi;exact .inl ⟨_,qA,rfl⟩
    ·exact l6 hi (jN i bE) rfl⟩
   have aM:aK E.G c':=by
    refine h3.next bg (fun i b' n hi=>?_) h3.inj (fun i bx hi=>?_)
    ·have:=h3.bA i b' n hi;refine⟨by simpa [c']using this.1,?_⟩;show i<(c.heap.set b _).length;rw[List.length_set];exact this.2
    ·by_cases bE:i=b
     ·subst bE;rw[qA]at hi;cases hi;right;exact⟨blk,cap,iS,ck,q2,yP,hlen,fun j k v mm hj ey=>⟨bg.vd (fU j k v mm hj ey).1,bg.vd (fU j k v mm hj ey).2⟩⟩
     ·rw[jN i bE]at hi;exact .inl ⟨hi,rfl,fun b' n hn=>si b' (fun oL=>bE (h3.inj i b blk n cap (oL ▸ hn) q2))⟩
   refine⟨c',undef,.inr ⟨?_,rfl⟩,rfl,aM,.d _ _ .undef,bg⟩;simp only[execOp,e1,q1,hu,hw,Sem.run_bind,cI,Result.andThen_ok,Sem.run_pure];rfl
end
section
variable {E:Env} {ag:FuncId} {R:cF} {td:List aP} {s:List AV} {h:List af} {lits:List Nat} {ops:Array Oper} {o:Oper} {l:List Oper} {k:List aP}
theorem I.mapEntry(hE:E.OK)(z:DV)(zv:Value)(v:DV)(i:Nat)(dV:List (DV × DV)){t:Nat}{m x:Operand}(hg:o.guard=none)(cm:o.op=.mapEntry t m x)(ix:∀ bad w,VD bad w z zv)
  (H:aT E.T t False fun ti=>match ti.k with
   | .map kt e=>ca E.G s m False fun
    | .map b=>aT h b False fun
     | .map es=>ca E.G s x False fun
      | .d y=>wH E kt False fun kd=>(dn E.T kd y/\∀ p∈es,dn E.T kd p.1)/\(∀ w,(zeroValue e).run E.P w=.ok zv w)/\((findD y es).getD z=v/\(eX y es).getD es.length=i/\bU y v es=dV) /\
       fz h b (.map dV) fun h'=>cd s o.dst (.d (.aD [v,.int .i64 i])) fun s'=>I E ag R lits (.bu ops l::k) s' h'
      |_=>False
     |_=>False
    |_=>False
   |_=>False):I E ag R lits (.bu ops (o::l)::k) s h:=by
 rcases bo H with H|⟨ti,bV,H⟩
 ·exact H.elim
 split at H
 ·rename_i kt e hk;rcases cq H with H|⟨a,ha,H⟩
  ·exact H.elim
  split at H
  ·rename_i b;rcases bo H with H|⟨bx,hb,H⟩
   ·exact H.elim
   split at H
   ·rename_i es;rcases cq H with H|⟨y,hy,H⟩
    ·exact H.elim
    split at H
    ·rename_i y;rcases Bu H with H|⟨kd,hT,H⟩
     ·exact H.elim
     obtain⟨⟨f1,f2⟩,f3,⟨g1,g2,g3⟩,H⟩:=H;have ho:=SD hE bV hk hT hb ha hy f1 f2 f3 ix;rw[g1,g2,g3]at ho;rw[gq,dP]at H;rw[<- cm]at ho;exact .of (.op (fS hg) ho H.to)
    ·exact H.elim
   ·exact H.elim
  ·exact H.elim
 ·exact H.elim
theorem I.entryStore(hE:E.OK){t:Nat}{m st vo:Operand}(n:Nat){k0 x0:DV}(hg:o.guard=none)(cm:o.op=.entryStore t m st vo)
  (H:ca E.G s m False fun
    | .map b=>aT h b False fun
     | .map es=>es[n]?=some (k0,x0)/\ca E.G s st False fun u=>u=.d (.int .i64 n)/\ca E.G s vo False fun
      | .d y=>fz h b (.map (es.set n (k0,y))) fun h'=>cd s o.dst (.d .undef) fun s'=>I E ag R lits (.bu ops l::k) s' h'
      |_=>False
     |_=>False
    |_=>False):I E ag R lits (.bu ops (o::l)::k) s h:=by
 rcases cq H with H|⟨a,ha,H⟩
 ·exact H.elim
 split at H
 ·rename_i b;rcases bo H with H|⟨bx,hb,H⟩
  ·exact H.elim
  split at H
  ·rename_i es;obtain⟨hn,H⟩:=H;rcases cq H with H|⟨u,hu,H⟩
   ·exact H.elim
   obtain⟨rfl,H⟩:=H;rcases cq H with H|⟨y,hy,H⟩
   ·exact H.elim
   split at H
   ·rename_i y;have ho:=SE hE (t:=t) hb ha hn hu hy;rw[gq,dP]at H;rw[<- cm]at ho;exact .of (.op (fS hg) ho H.to)
   ·exact H.elim
  ·exact H.elim
 ·exact H.elim
theorem I.entry{x:Operand}{it:Iter}{g1 g2:List bk}{pre:List Nat}{j:Nat}{kk y:DV}(hg:o.guard=none)(cm:o.op=.entry x)(pI:R.rows=g1 ++ .iter it::g2)(F6:it.seen=pre++[j])(hj:it.es[j]?=some (kk,y))(hx:aZ E.G s x (.d (.raw (.pointer (some ⟨it.r,0,none⟩)))))
  (H:I E ag R lits (.bu ops l::k) (bX s o.dst (.d (.aD [kk,y]))) h):I E ag R lits (.bu ops (o::l)::k) s h:=by
 refine .of ?_;unfold AW;intro c0 c t' ew h0 h1 h2 h3 hr bq h4 h5 cs;subst h2;obtain⟨i,hi,ea,aM⟩:=mQ (h1 _ (List.mem_cons_self ..));have cG:(⟨t',marks R.fx.aL⟩:Act).eval x=.pointer (some ⟨it.r,0,none⟩):=by
  have:=hx c ⟨t',marks R.fx.aL⟩ h3 h4;generalize (⟨t',marks R.fx.aL⟩:Act).eval x=u at this;cases this with
  |d _ _ hq=>cases hq;rfl
 have r2:l8 c0.w.heap.size c it:=bq.all.each (.iter it) (by rw[pI];simp);obtain⟨z0,z1,z3,z2⟩:=r2.iter;obtain rfl:=z3 (by rw[F6];simp);have jL:j<it.en.size:=r2.lt j (by rw[F6];simp);have fU:it.en[j]?=some it.en[j]:=by simp[jL]
 have bH:=r2.val j kk y it.en[j] hj fU;have SH:((it.seen.map fun j=>((it.en[j]?).map (·.born)).getD 0).toArray).back?=some j:=by
  rw[F6];simp[fU,r2.cC.idx j _ fU]
 have oW:it.en.find? (fun e=>e.born==j)=some it.en[j]:=by
  rw[Array.find?_eq_some_iff_getElem];refine⟨by simp[r2.cC.idx j _ fU],j,jL,rfl,fun q hq=>?_⟩;have:=r2.cC.idx q it.en[q] (by rw[Array.getElem?_eq_getElem]);simp[this];omega
 have dE:(getObj it.r).run E.P c.w=.ok (.mapIter (some it.bm) it.since ((it.seen.map fun j=>((it.en[j]?).map (·.born)).getD 0).toArray) it.ck) c.w:=by simp[getObj,Sem.run,z2]
 have cI:(execOp (⟨t',marks R.fx.aL⟩:Act).eval o).run E.P c.w=.ok (.value (.tuple #[it.en[j].key,it.en[j].val])) c.w:=by
  simp only[execOp,cm,cG,Instr.entry,Sem.run_bind,Sem.run_pure,Result.andThen_ok,dE,SH,qz r2.map,bne_self_eq_false,Bool.false_eq_true,if_false,oW]
 have dm:VS c (bX s o.dst (.d (.aD [kk,y]))) ((⟨t',marks R.fx.aL⟩:Act).put o.dst (.tuple #[it.en[j].key,it.en[j].val])).tmps :=
  VS.bX (a:=⟨t',marks R.fx.aL⟩) h4 o.dst (.d _ _ (.aD _ _ rfl fun p z v hz hv=>by
   match p with
   |0=>simp at hz hv;subst hz;subst hv;exact bH.1
   |1=>simp at hz hv;subst hz;subst hv;exact bH.2
   |p+2=>simp at hz))
 have H:=H.to;unfold AW at H;obtain⟨c2,fr,rr,u,e1,e2,e3,e4,e5,e6⟩:=H c0 c _ ew h0 (gC aM (dZ h1)) rfl h3 hr bq dm h5 cs;refine⟨c2,fr,rr,u,e1,e2,e3,e4,.head ?_ e5,e6⟩;simp only[b8.bI,List.map_cons,ea];rw[wq hi (fS hg c t' h4) (.inl cI),put_defers];rfl
theorem I.SI(d:Nat)(ts:Nat × Nat)(iR:0<ts.2)(hd:s[d]?=some (.d (.raw (.slice none 0 0))))(H:I E ag R lits td (s.set d (.own h.length 0)) (h++[.arr 0 ts []])):I E ag R lits td s h:=by
 replace H:=H.to;refine .of (.kA (fun c t ew h1 h2 h3 h4 h5=>?_) H);subst h2
 let c':Cx:={ c with heap:=c.heap++[.arr 0 ts []] }
 have bK:c.own c.heap.length=none:=by
  cases ho:c.own c.heap.length with
  |none=>rfl
  |some p=>have:=(h3.bA _ p.1 p.2 ho).2;omega
 have bg:Step c c':=⟨rfl,h3.bQ,rfl,rfl,rfl,Nat.le_refl _,fun _ _ _=>rfl,fun i b n hi _=>⟨n,hi⟩,fun i bx hi=>l6 hi (List.getElem?_append_left (aQ hi)) rfl⟩;have eb:c'.heap[c.heap.length]?=some (.arr 0 ts []):=by show(c.heap++_)[_]?=_;simp
 have aM:aK E.G c':=h3.next bg (fun i b n hi=>⟨(h3.bA i b n hi).1,by have:=(h3.bA i b n hi).2;show i<(c.heap++_).length;simp;omega⟩) h3.inj (fun i bx hi=>by
  by_cases fR:i=c.heap.length
  ·subst fR;rw[eb]at hi;cases hi;exact .inr ⟨iR,fun i e he=>by simp at he,.inl ⟨bK,rfl⟩⟩
  ·have ah : i < c.heap.length := by have := aQ hi;have h2 : c'.heap.length=c.heap.length+1 := by show(c.heap ++ _).length=_;simp
                                     omega
   have cg:(c.heap++[.arr 0 ts []])[i]?=some bx:=hi;rw[List.getElem?_append_left ah]at cg
   exact .inl ⟨cg,rfl,fun _ _ _=>rfl⟩)
 refine⟨c',t,ew,h1,rfl,aM,?_,bg.cr h5,bg,fun _ => .refl _ _⟩;have gX:d<t.size:=by rw[<- h4.1];exact aQ hd
 have hv:t[d]=.slice none 0 0:=by
  have:=h4.2 d _ t[d] hd (by simp[gX]);generalize t[d]=u at this;cases this with
  |d _ _ hv=>cases hv;rfl
 have:=VS.put (bg.vs h4) d (x := .own c.heap.length 0) (v:=t[d]) (by rw[hv];exact .iu _ _ ts eb bK)
 simpa [Array.setIfInBounds,gX]using this
theorem I.Ck{b:Code}{κ:Type}(fY:List Nat)(vars:κ->List (Nat × AV))(boxes:κ->List (Nat × af))(rows:κ->List bk)(Φ:κ->Prop)(μ:κ->Nat)(x0:κ)(h0:Φ x0)(hR:R.rows=rows x0)
  (oQ:uy fY (nb (boxes x0)) (vars x0) (boxes x0) s h fun s' h'=>w0 h h' R.fx (wY R.n h s h' s'))
  (sG:∀ x,Φ x->(∀ y,Φ y->μ y<μ x->I E ag ⟨R.n,R.Q,rows y,R.fx⟩ [] (.inLoop b::k) (lB (vars y) (anyS fY (lD (nb (boxes x0)) s))) (lC (boxes y) h))->I E ag ⟨R.n,R.Q,rows x,R.fx⟩ [] (.code b :: .inLoop b::k) (lB (vars x) (anyS fY (lD (nb (boxes x0)) s))) (lC (boxes x) h)) :
  I E ag R lits (.code (.loop b)::k) s h:=by
 have e:R=⟨R.n,R.Q,rows x0,R.fx⟩:=by cases R;simp only at hR;subst hR;rfl
 have main:∀ n x,μ x<n->Φ x->I E ag ⟨R.n,R.Q,rows x,R.fx⟩ [] (.inLoop b::k) (lB (vars x) (anyS fY (lD (nb (boxes x0)) s))) (lC (boxes x) h):=by
  intro n
  induction n with
  |zero=>intro x hx;omega
  |succ n ih=>intro x hx hP;exact .of (.inLoop (sG x hP fun y hy hm=>ih y (by omega) hy).to)
 rw[zk]at oQ;rw[e];exact .of (.loop (.weaken oQ (sG x0 h0 fun y hy _=>main (μ y+1) y (by omega) hy).to))
end
end Go.ay
end
section
namespace Go.ay
open Go Go.RowKit
section
variable {E:Env} {ag:FuncId} {R:cF} {s:List AV} {h:List af} {ops:Array Oper} {o:Oper} {l:List Oper} {k:List aP}
theorem I.SJ{lits:List Nat}{x y:Operand}{ts:Array TypeId}{a b:Int}(hg:o.guard=none)(cm:o.op=.call { callee := .builtin .min,args := #[x,y],argTypes:=ts })(hx:aZ E.G s x (.d (.int .i64 a)))(hy:aZ E.G s y (.d (.int .i64 b)))
  (H:I E ag R lits (.bu ops l::k) (bX s o.dst (.d (.int .i64 (min a b)))) h):I E ag R lits (.bu ops (o::l)::k) s h:=by
 refine .of (.op (fS hg) ?_ H.to);rw[cm];refine .quiet fun o c ac e1 e2 h3 h4=>⟨.int .i64 (min a b),?_,.d _ _ (.int _ _)⟩;have q1:=dW (hx c ac h3 h4);have q2:=dW (hy c ac h3 h4);have q3:(if b<a then b else a)=min a b:=by
  rcases Int.lt_or_le b a with q|q
  ·rw[if_pos q,Int.min_eq_right (Int.le_of_lt q)]
  ·rw[if_neg (Int.not_lt.2 q),Int.min_eq_left q]
 simp only[execOp,e1,resolve,invoke,builtin,Builtin.min_,Builtin.min2,List.map_toArray,List.map_cons,List.map_nil,q1,q2,List.foldlM_cons,List.foldlM_nil,Sem.run_bind,Sem.run_pure,Result.andThen_ok,pure_bind,bind_pure,q3]
end
end Go.ay
end
section
namespace Go.ay
open Go Go.RowKit
section
variable {E:Env} {ag:FuncId} {R:cF} {s:List AV} {h:List af} {lits:List Nat} {ops:Array Oper} {o:Oper} {l:List Oper} {k:List aP}
theorem SK(hE:E.OK){t e len m:Nat}{x i:Operand}{ti ei:br}{cs:List AV}{j:IntKind}{n:Int}{v:AV}(ht:E.T[t]?=some ti)(hk:ti.k=.array len e)(wD:E.T[e]?=some ei)(F7:ei.k.agg=false)(oP:ei.size=1)
  (hx:aZ E.G s x (.agg cs)) (hi:aZ E.G s i (.d (.int j n))) (hn:n=(m:Int)) (hm:m<len) (hv:cs[m]?=some v):bw E (.index t x i) s h v h := .quiet fun o c ac e1 _ h3 h4=>by
 subst hn;have cG:=hx c ac h3 h4;have SL:=dW (hi c ac h3 h4);obtain⟨wk,d,g1,g2,g3,-⟩:=cD (hE.types t ti ht);obtain rfl:=we (hk.symm.trans g3);generalize hp:ac.eval x=p at cG;cases cG with
 |agg _ vs hlen bH =>
  have FY:=aQ hv;have hu:vs.toList[m]?=some (vs[m]'(by omega)):=by simp[show m<vs.size by omega]
  have xa:vs[m]?=some (vs[m]'(by omega)):=by simp[show m<vs.size by omega]
  refine⟨_,?_,bH m v _ hv xa⟩;have KY:=yj (hE.types e ei wD) c.w vs.toList m _ hu F7;have bP:=run_sizeOf (hE.types e ei wD) c.w;have h0:(0:Int)<=m/\(m:Int)<(len:Int):=⟨by omega,by omega⟩;simp only[Array.toArray_toList]at KY;simp[execOp,e1,hp,SL,Instr.index,asIntOf,run_underlying g2,h0,bP,oP,KY];intro pN;omega
theorem I.sR(hE:E.OK)(m:Nat){t e len:Nat}{x i:Operand}{ti ei:br}{cs:List AV}{j:IntKind}{n:Int}{v:AV}(hg:o.guard=none)(cm:o.op=.index t x i)(ht:E.T[t]?=some ti)(hk:ti.k=.array len e)(wD:E.T[e]?=some ei)(F7:ei.k.agg=false)(oP:ei.size=1)
  (hx:aZ E.G s x (.agg cs)) (hi:aZ E.G s i (.d (.int j n))) (hn:n=(m:Int)) (hm:m<len) (hv:cs[m]?=some v)
  (H:I E ag R lits (.bu ops l::k) (bX s o.dst v) h):I E ag R lits (.bu ops (o::l)::k) s h:=by
 refine .of (.op (fS hg) ?_ H.to);rw[cm];exact SK hE ht hk wD F7 oP hx hi hn hm hv
end
section
variable {E:Env} {ag:FuncId} {R:cF} {s:List AV} {h:List af} {td:List aP}
end
end Go.ay
end
