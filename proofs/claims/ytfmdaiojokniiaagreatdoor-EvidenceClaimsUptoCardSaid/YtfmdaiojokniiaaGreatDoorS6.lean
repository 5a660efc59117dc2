/- Lemmas of mine. Conditions: as stated. -/
import Derived.Test.YtfmdaiojokniiaaGreatDoorS5
import Derived.Lib.BufferMore
import Derived.Lib.LazyBuf
import Derived.Laws.CopyRow
set_option linter.unusedVariables false
set_option linter.unusedSimpArgs false
open Array renaming getElem?_modify->aes,toArray_toList->agS,ext'->afp,getElem?_push->aeL,ext_getElem?->agV,getElem?_setIfInBounds->af',getElem?_eq_getElem->aev
open Bool renaming false_eq_true->aet
open List renaming map_cons->ad0,mem_of_getElem?->afh,mem_cons_self->aeQ,getElem?_set_self->aei,getElem?_set_ne->aej,getElem?_append_left->ael,length_set->aeX,range->aeU,mem_append_right->agd,getElem?_append_right->ae9,getElem?_drop->afw,mem_append->aeI,flatMap_append->agJ,nil_append->agR,getElem?_eq_getElem->afo,getElem?_of_mem->afe,map_toArray->agT,map_nil->agU,getElem?_toArray->afZ,mem_append_left->agc,append_assoc->afb,eq_nil_of_length_eq_zero->aee,cons_append->aeH
open Nat renaming mul_comm->aeE,mul_le_mul_right->afg,le_refl->aed,lt_or_ge->adV
open Option renaming getD_none->afq,getD_some->aeB,map_some->aeT,bind_some->ae0
open Go.Result renaming andThen_ok->adU
open Go.Sem renaming run_pure->adS,run_bind->adT
section
namespace Go.aA
open Go Go.RowKit
section
variable {E:Env} {aj:FuncId} {R:cF} {s:List AV} {h:List af} {lits:List Nat} {ops:Array Oper} {o:Oper} {l:List Oper} {k:List aT}
theorem TA(op:BinOp)(t:TypeId)(x y:Operand)(p q:Option Addr)(a b c d:Nat):eqGuard op t x y (.slice p a b) (.slice q c d)=pure ():=by
 unfold eqGuard;cases op<;>rfl
theorem J.lU(hE:E.OK){t e:Nat}{x:Operand}{yt:Nat}{m:List DV}{ti:bu}(hg:o.guard=none)(cn:o.op=.binOp .eql t x (.const (.slice none 0 0)) yt)(bX:E.T[t]?=some ti)(hk:ti.k=.slice e)(hx:bh E.G s x (.d (.sl m)))
  (H:∀ b,(b=true->m=[])->J E aj R lits (.bw ops l::k) (b8 s o.dst (.d (.bool b))) h):J E aj R lits (.bw ops (o::l)::k) s h:=by
 refine .of ?_;unfold AW;intro c0 c t' eD h0 h1 h2 h3 hr br h4 h5 cs;subst h2;obtain⟨i,hi,eo,aP⟩:=nf (h1 _ (aeQ ..));obtain⟨mz,d,g1,g2,g3,-⟩:=cC (hE.types t ti bX);obtain rfl:=lF (hk.symm.trans g3);have hv:=hx c ⟨t',marks R.fx.aN⟩ h3 h4;have fin:∀ (p:Option Addr) (n cp:Nat) (b:Bool),(⟨t',marks R.fx.aN⟩:Act).eval x=.slice p n cp->(binOp .eql t (.slice p n cp) (.slice none 0 0)).run E.P c.w=.ok (.bool b) c.w->(execOp (⟨t',marks R.fx.aN⟩:Act).eval o).run E.P c.w=.ok (.value (.bool b)) c.w:=fun p n cp b e1 e2=>by
  have nB:(⟨t',marks R.fx.aN⟩:Act).eval (.const (.slice none 0 0))=.slice none 0 0:=rfl;simp only[execOp,cn,e1,nB,TA,adT,adS,adU,e2]
 have key:∃ b,(b=true->m=[])/\(execOp (⟨t',marks R.fx.aN⟩:Act).eval o).run E.P c.w=.ok (.value (.bool b)) c.w:=by
  generalize hu:(⟨t',marks R.fx.aN⟩:Act).eval x=u at hv;cases hv with
  |d _ _ hv=>cases hv with
   |slnil=>exact⟨true,fun _=>rfl,fin _ _ _ _ hu (Lib.run_eql_slice_nil_nil c.w 0 0 g2)⟩
   |jX a=>exact⟨false,fun _=>rfl,fin _ _ _ _ hu (Lib.run_eql_slice_some_nil c.w a 0 0 g2)⟩
   |sl _ blk off cap sz f=>exact⟨false,fun q=>(by cases q),fin _ _ _ _ hu (Lib.run_eql_slice_some_nil c.w _ _ _ g2)⟩
 obtain⟨b,hb,cK⟩:=key;have H:=(H b hb).to;unfold AW at H;have eT:VS c (b8 s o.dst (.d (.bool b))) ((⟨t',marks R.fx.aN⟩:Act).put o.dst (.bool b)).tmps:=VS.b8 (a:=⟨t',marks R.fx.aN⟩) h4 o.dst (.d _ _ (.bool b));obtain⟨c2,fr,rr,u,e1,e2,e3,e4,e5,e6⟩:=H c0 c _ eD h0 (gP aP (ek h1)) rfl h3 hr br eT h5 cs;refine⟨c2,fr,rr,u,e1,e2,e3,e4,.head ?_ e5,e6⟩;simp only[ca.bK,ad0,eo];rw[wQ hi (gb hg c t' h4) (.inl cK),put_defers];rfl
end
end Go.aA
end
section
namespace Go.aA
open Go Go.RowKit
section
variable {G:List (Nat × DV)} {c:Cx}
theorem aM.rewrite(ho:aM G c){b g blk cap:Nat}{ts:Nat × Nat}{l l':List DV}{vs vs':Array Value}{w':World}(hb:c.heap[b]?=some (.arr g ts l))(bH:c.own b=some (blk,cap))(hblk:c.w.heap[blk]?=some (.cells vs ts.1 (0,0)))
  (hl:l'.length=l.length) (dW:∀ (i:Nat) (e:DV),l'[i]?=some e->e.cells.length=ts.2) (bR:vs'.size=vs.size) (EO:w'.os=c.w.os) (ht:w'.tape=c.w.tape) (TB:w'.output=c.w.output) (hs:w'.heap.size=c.w.heap.size)
  (rh:∀ x,x≠blk->w'.heap[x]?=c.w.heap[x]?) (dF:w'.heap[blk]?=some (.cells vs' ts.1 (0,0)))
  (hv:∀ (i j:Nat) (e x:DV),l'[i]?=some e->e.cells[j]?=some x->∃ v,vs'[i*ts.2+j]?=some v/\v.oneCell'=true/\VD c.bad c.w x v) :
  aM G { c with heap:=c.heap.set b (.arr g ts l'),w:=w' }/\Step c { c with heap:=c.heap.set b (.arr g ts l'),w:=w' }:=by
 have eS:=aX hb
 have bg:Step c { c with heap:=c.heap.set b (.arr g ts l'),w:=w' }:=⟨rfl,ho.bS,EO,ht,TB,by show _<=w'.heap.size;rw[hs];exact aed _,fun x _ hn=>rh x (fun e=>by subst e;exact hn b cap bH),fun i x n hi _=>⟨n,hi⟩,fun i bx hi=>by
  by_cases bF:i=b
  ·subst bF;rw[hb]at hi;cases hi;exact .inl ⟨g,l',aei eS,.inr ⟨rfl,hl,rfl⟩⟩
  ·exact ml hi (aej (Ne.symm bF)) rfl⟩
 refine⟨ho.next bg (fun i x n hi=>?_) ho.inj (fun i bx hi=>?_),bg⟩
 ·have:=ho.bB i x n hi;refine⟨by show x<w'.heap.size;rw[hs];exact this.1,?_⟩;show i<(c.heap.set b _).length;rw[aeX];exact this.2
 ·by_cases bF:i=b
  ·subst bF;have cj:(c.heap.set i (.arr g ts l'))[i]?=some bx:=hi;rw[aei eS]at cj;cases cj;right;obtain⟨q0,q1,q2⟩:=ho.box i _ hb;rcases q2 with⟨q2,-⟩|⟨iX,gZ,vs0,q2,q3,q4,q5,q6,q7⟩
   ·rw[bH]at q2;cases q2
   rw[bH]at q2;cases q2;rw[hblk]at q3;cases q3;refine⟨q0,dW,.inr ⟨blk,cap,vs',bH,dF,by rw[bR];exact q4,by rw[hl];exact q5,q6,fun i j e x he hx=>?_⟩⟩;obtain⟨v,k1,k2,k3⟩:=hv i j e x he hx;exact⟨v,k1,k2,bg.vd k3⟩
  ·have cj:(c.heap.set b (.arr g ts l'))[i]?=some bx:=hi;rw[aej (Ne.symm bF)]at cj;exact .inl ⟨cj,rfl,fun x n hn=>rh x (fun e=>by subst e;exact bF (ho.inj i b _ n cap hn bH))⟩
theorem LL{P:Program}(w:World)(dT sT ty elem:TypeId)(g vh Ab:Nat)(a:Addr)(Gu TC sz:Nat)(cur:Array Value)(t:TypeId)(cs:List Value)
  (hu:P.underlying dT=some (.slice elem)) (hs:(P.info? elem).map (·.size)=some sz)
  (hg:w.heap[g]?=some (.cells cur t (0,0))) (hn:cs.length=Nat.min Gu vh*sz)
  (qJ:∀ j v,cs[j]?=some v->w.cell? (a.add j)=some v) (iJ:cs.length<=cur.size) (h1:∀ v∈cs,v.oneCell'=true) :
  (Builtin.copy_ #[dT,sT] ty #[.slice (some ⟨g,0,none⟩) vh Ab,.slice (some a) Gu TC]).run P w =
   .ok (goInt (Nat.min Gu vh)) (w.setRow g (cs++cur.toList.drop cs.length).toArray):=by
 have hl:=run_loadCells_list (P:=P) w a cs qJ;have bg:=run_storeCells_at P g 0 t cs 0 cur w hg (by simpa using iJ) h1;simp only[Nat.add_zero,List.take_zero,agR,Nat.zero_add]at bg;cases hq:P.info? elem with
 |none=>simp[hq]at hs
 |some i =>
  have hi:i.size=sz:=by simpa [hq]using hs
  simp[Builtin.copy_,run_underlying hu,Builtin.lenOf,Builtin.firstCells,sizeOf,typeInfo,hq,hi,<- hn,hl,bg]
end
section
variable {E:Env} {aj:FuncId} {R:cF} {s:List AV} {h:List af} {lits:List Nat} {ops:Array Oper} {o:Oper} {l:List Oper} {k:List aT}
theorem LM(hE:E.OK){dT sT e b g:Nat}{x y:Operand}{i ei:bu}{ts:Nat × Nat}{l m:List DV}(hi:E.T[dT]?=some i)(hk:i.k=.slice e)(bV:E.T[e]?=some ei)(jb:ts.2=ei.size)(hb:h[b]?=some (.arr g ts l))(aJ:l≠[])
  (hx:bh E.G s x (.own b g)) (hy:bh E.G s y (.d (.sl m))) (hm:∀ z∈m,z.cells.length=ts.2) :
  bz E (.call { callee := .builtin .copy,args := #[x,y],argTypes := #[dT,sT] }) s h (.d (.int .i64 (min m.length l.length:Nat))) (h.set b (.arr g ts (m.take l.length++l.drop m.length))):=by
 intro o c a e1 e2 e3 e4;subst e2;obtain⟨wN,d,q1,q2,q3,-⟩:=cC (hE.types dT i hi);obtain rfl:=lF (hk.symm.trans q3);obtain⟨tie,de,p1,p2,p3,p4,-⟩:=cC (hE.types e ei bV);obtain⟨b0,b1,b2⟩:=e3.box b _ hb;rcases kW hb (hx c a e3 e4)with⟨blk,cap,r1,r2⟩|⟨r,-,-⟩
 case inr=>exact absurd r aJ
 rcases b2 with⟨b2,-⟩|⟨iX,gZ,vs,b2,b3,b4,b5,b6,b7⟩
 ·rw[r1]at b2;cases b2
 rw[r1]at b2;cases b2;have gd:=hy c a e3 e4;have key:∃ (cs:List Value) (sv:Value),a.eval y=sv/\cs.length=min m.length l.length*ts.2/\(∀ v∈cs,v.oneCell'=true) /\
   (∀ (i j:Nat) (e z:DV),i<l.length->m[i]?=some e->e.cells[j]?=some z->∃ v,cs[i*ts.2+j]?=some v/\v.oneCell'=true/\VD c.bad c.w z v) /\
   (Builtin.copy_ #[dT,sT] o.type #[.slice (some ⟨blk,0,none⟩) l.length cap,sv]).run E.P c.w=.ok (goInt ((min m.length l.length:Nat):Int)) (c.w.setRow blk (cs++vs.toList.drop cs.length).toArray):=by
  have TD:c.w.setRow blk (([]:List Value)++vs.toList.drop ([]:List Value).length).toArray=c.w:=by
   simp only[agR,List.length_nil,List.drop_zero,agS];exact setRow_self c.w blk vs ts.1 (0,0) b3
  have bR:(E.P.info? e).map (·.size)=some ts.2:=by rw[p1,aeT,jb,<- p4]
  generalize hu:a.eval y=u at gd;cases gd with
  |d _ _ hv=>cases hv with
   |slnil =>
    refine⟨[],_,rfl,by simp,fun v hv=>by simp at hv,fun i j e z _ he=>by simp at he,?_⟩;rw[TD];have Ac:min ([]:List DV).length l.length=0:=by simp
    rw[Ac];have:=run_copy_nil (P:=E.P) c.w dT sT o.type e ⟨blk,0,none⟩ l.length cap q2 (by rw[p1];rfl)
    simpa using this
   |jX a' =>
    refine⟨[],_,rfl,by simp,fun v hv=>by simp at hv,fun i j e z _ he=>by simp at he,?_⟩;have Ac:min ([]:List DV).length l.length=0:=by simp
    rw[Ac];have:=LL (P:=E.P) c.w dT sT o.type e blk l.length cap a' 0 0 ts.2 vs ts.1 [] q2 bR b3 (by simp) (fun j v hj=>by simp at hj) (by simp) (fun v hv=>by simp at hv)
    simpa using this
   |sl _ Gv off ea sz f h1 h2 h3 h4 h5 h6 h7 =>
    have facts:∀ q,q<min m.length l.length*ts.2->∃ e z,m[q / ts.2]?=some e/\e.cells[q % ts.2]?=some z/\sz=ts.2:=fun q hq=>by
     have hi:q / ts.2<min m.length l.length:=Nat.div_lt_of_lt_mul (by rw[aeE];exact hq);have hj:q % ts.2<ts.2:=Nat.mod_lt _ b0;obtain⟨z,hz⟩:∃ z,m[q / ts.2]?=some z:=⟨m[q / ts.2]'(by omega),by rw[afo]⟩;have si:=hm z (afh hz);have oQ:=h4 _ z hz;exact⟨z,z.cells[q % ts.2]'(by omega),hz,by rw[afo],by omega⟩
    have hlen:((aeU (min m.length l.length*ts.2)).map fun q=>f (q / ts.2) (q % ts.2)).length=min m.length l.length*ts.2:=by simp
    have dE:∀ q v,((aeU (min m.length l.length*ts.2)).map fun q=>f (q / ts.2) (q % ts.2))[q]?=some v->q<min m.length l.length*ts.2/\v=f (q / ts.2) (q % ts.2):=fun q v hq=>by
     have ah:=aX hq;rw[hlen]at ah;refine⟨ah,?_⟩;simp[ah]at hq;exact hq.symm
    refine⟨_,_,rfl,hlen,fun v hv=>?_,fun i j e z hi he hz=>?_,?_⟩
    ·obtain⟨q,hq⟩:=afe hv;obtain⟨lV,rfl⟩:=dE q v hq;obtain⟨e,z,g1,g2,g3⟩:=facts q lV;exact h7 _ _ e z g1 g2
    ·have hj:j<ts.2:=by rw[<- hm e (afh he)];exact aX hz
     have xJ:=aX he;have hq:i*ts.2+j<min m.length l.length*ts.2:=by
      have h1:(i+1)*ts.2<=min m.length l.length*ts.2:=afg _ (by omega);rw[Nat.add_mul]at h1;omega
     have ed:(i*ts.2+j) / ts.2=i:=by rw[aeE,Nat.mul_add_div b0,Nat.div_eq_of_lt hj];omega
     have em:(i*ts.2+j) % ts.2=j:=by rw[aeE,Nat.mul_add_mod,Nat.mod_eq_of_lt hj]
     exact⟨f i j,by simp[hq,ed,em],h7 i j e z he hz,h6 i j e z he hz⟩
    ·have iJ:((aeU (min m.length l.length*ts.2)).map fun q=>f (q / ts.2) (q % ts.2)).length<=vs.size:=by
      rw[hlen,b4];exact afg _ (by omega)
     exact LL (P:=E.P) c.w dT sT o.type e blk l.length cap ⟨Gv,off,none⟩ m.length ea ts.2 vs ts.1 _ q2 bR b3 hlen (fun q v hq=>by
      obtain⟨lV,rfl⟩:=dE q v hq;obtain⟨e,z,g1,g2,g3⟩:=facts q lV;have:=h5 _ _ e z g1 g2;subst g3;rw[aeE,Nat.div_add_mod]at this;have B4:(⟨Gv,off,none⟩:Addr).add q=⟨Gv,off+q,none⟩:=by unfold Addr.add;split<;>simp_all
      rw[B4];exact this) iJ (fun v hv=>by
      obtain⟨q,hq⟩:=afe hv;obtain⟨lV,rfl⟩:=dE q v hq;obtain⟨e,z,g1,g2,g3⟩:=facts q lV
      exact h7 _ _ e z g1 g2)
 obtain⟨cs,sv,k1,k2,k3,k4,k5⟩:=key;have adf:cs.length<=vs.size:=by rw[k2,b4];exact afg _ (by omega)
 have TE:blk<c.w.heap.size:=(e3.bB b blk cap r1).1;have Gw:=e3.rewrite (l':=m.take l.length++l.drop m.length) (vs':=(cs++vs.toList.drop cs.length).toArray) (w':=c.w.setRow blk (cs++vs.toList.drop cs.length).toArray) hb r1 b3 (by simp;omega) (fun i e he=>?_) (by simp;omega) rfl rfl rfl (by simp[World.setRow]) (fun x hx=>by simp[World.setRow,aes,Ne.symm hx]) (by simp[World.setRow,aes,b3]) (fun i j e z he hz=>?_)
 ·obtain⟨aP,bg⟩:=Gw;refine⟨_,.int .i64 (min m.length l.length:Nat),.inl ?_,rfl,aP,.d _ _ (.int _ _),bg⟩;simp only[execOp,e1,resolve,invoke,builtin,agT,ad0,agU,r2,k1,adT,adS,adU,k5];rfl
 ·rcases adV i (m.take l.length).length with h|h
  ·rw[ael h]at he;exact hm e (List.mem_of_mem_take (afh he))
  ·rw[ae9 h]at he;exact b1 _ e (by rw[afw]at he;exact he)
 ·have hj:∀ z:DV,z.cells.length=ts.2->∀ w,z.cells[j]?=some w->j<ts.2:=fun z hz w hw=>by rw[<- hz];exact aX hw
  rcases adV i (m.take l.length).length with h|h
  ·rw[ael h,List.getElem?_take]at he;have ga:i<l.length:=by simp at h;omega
   rw[if_pos ga]at he;obtain⟨v,v1,v2,v3⟩:=k4 i j e z ga he hz;refine⟨v,?_,v2,v3⟩;rw[afZ,ael (aX v1)];exact v1
  ·rw[ae9 h]at he;rw[afw]at he;have hlen:(m.take l.length).length=min m.length l.length:=by simp;omega
   rw[hlen]at he h;have Gx:m.length<l.length:=by
    have:=aX he;omega
   have LN:min m.length l.length=m.length:=by omega
   rw[LN]at he h;rw[show m.length+(i-m.length)=i by omega]at he;obtain⟨v,v1,v2,v3⟩:=b7 i j e z he hz;refine⟨v,?_,v2,v3⟩;have pK:cs.length<=i*ts.2+j:=by
    rw[k2,LN];have:=afg ts.2 h;omega
   rw[afZ,ae9 pK,afw,show cs.length+(i*ts.2+j-cs.length)=i*ts.2+j by omega]
   simpa using v1
theorem J.LO(hE:E.OK){dT sT:Nat}{x y:Operand}(hg:o.guard=none)(cn:o.op=.call { callee := .builtin .copy,args := #[x,y],argTypes := #[dT,sT] })
  (H:aZ E.T dT False fun i=>match i.k with
   | .slice e=>aZ E.T e False fun ei=>cd E.G s x False fun
    | .own b g=>aZ h b False fun
     | .arr g' ts l'=>match Nat.beq g g' with
      |true=>cd E.G s y False fun
       | .d (.sl m)=>need (l'≠[]/\ts.2=ei.size/\∀ z∈m,z.cells.length=ts.2) (fG h b (.arr g ts (m.take l'.length++l'.drop m.length)) fun h'=>cg s o.dst (.d (.int .i64 (min m.length l'.length:Nat))) fun s'=>J E aj R lits (.bw ops l::k) s' h')
       |_=>False
      |false=>False
     |_=>False
    |_=>False
   |_=>False):J E aj R lits (.bw ops (o::l)::k) s h:=by
 rcases bp H with H|⟨i,hi,H⟩
 ·exact H.elim
 split at H
 case h_2=>exact H.elim
 rename_i e hk;rcases bp H with H|⟨ei,bV,H⟩
 ·exact H.elim
 rcases cu H with H|⟨v,hv,H⟩
 ·exact H.elim
 split at H
 case h_2=>exact H.elim
 rename_i b g;rcases bp H with H|⟨bx,hb,H⟩
 ·exact H.elim
 split at H
 case h_2=>exact H.elim
 rename_i g' ts l';split at H
 case h_2=>exact H.elim
 rename_i q;have q:=Nat.eq_of_beq_eq_true q;subst q;rcases cu H with H|⟨u,hu,H⟩
 ·exact H.elim
 split at H
 case h_2=>exact H.elim
 rename_i m;obtain⟨⟨n1,n2,n3⟩,H⟩:=ng H;rw[gF,dX]at H;refine .of (.op (gb hg) ?_ H.to);rw[cn];exact LM hE hi hk bV n2 hb n1 hv hu n3
end
end Go.aA
end
section
namespace Go.aA
open Go Go.RowKit
theorem gH.mid{lim:Nat}{c:Cx}{g1 g2:List bo}{g:bo}(h:gH lim c (g1++g2))(hg:ja lim c g)(hn:g.cm.Nodup)(hd:∀ x∈g.cm,x ∉ (g1++g2).flatMap bo.cm):gH lim c (g1++g::g2):=by
 refine⟨fun r hr=>?_,?_⟩
 ·rcases aeI.1 hr with hr|hr
  ·exact h.each r (agc _ hr)
  ·rcases List.mem_cons.1 hr with rfl|hr
   ·exact hg
   ·exact h.each r (agd _ hr)
 ·have hp:((g1++g::g2).flatMap bo.cm).Perm (g.cm++(g1++g2).flatMap bo.cm):=by
   have:=(List.perm_middle (a:=g) (l₁ := g1) (l₂ := g2)).flatMap_right bo.cm
   simpa using this
  rw[hp.nodup_iff,List.nodup_append];exact⟨hn,h.nodup,fun x hx y hy e=>by subst e;exact hd x hx hy⟩
section
variable {lim:Nat} {c:Cx} {rows L:List bo}
theorem cT.push{g:bo}(h:cT lim c rows L)(hg:ja lim c g)(hn:g.cm.Nodup)(hd:∀ x∈g.cm,x ∉ (rows++L).flatMap bo.cm):cT lim c rows (g::L):=⟨h.all.mid hg hn hd,h.flat⟩
theorem cT.pop{g:bo}(h:cT lim c rows (g::L)):cT lim c rows L/\ja lim c g/\∀ x∈g.cm,x ∉ (rows++L).flatMap bo.cm:=by
 obtain⟨h1,h2,h3⟩:=h.all.vc;exact⟨⟨h1,h.flat⟩,h2,h3⟩
theorem cT.old{G:List (Nat × DV)}(h:cT lim c rows L)(ho:aM G c){b:Nat}(hb:b∈(rows++L).flatMap bo.cm):b<c.w.heap.size:=by
 obtain⟨g,hg,hx⟩:=List.mem_flatMap.1 hb;exact ho.bS _ ((h.all.each g hg).aE _ hx)
theorem Touch.putObj{l:Nat}{o:Obj}(hb:c.aE l):Touch c l (c.w.putObj l o):=⟨hb,rfl,rfl,rfl,World.putObj_size,fun _ h=>World.putObj_heap_other h⟩
theorem cT.LP{n r:Nat}{g g':bo}{w':World}(h:cT lim c rows L)(hl:L[n]?=some g)(hb:g.cm=[r])(cw:g'.cm=[r])(ht:Touch c r w')(hg:ja lim (c.eB w') g'):cT lim (c.eB w') rows (L.set n g'):=by
 have ah:=aX hl;have e1:L=L.take n++g::L.drop (n+1):=by
  have s6:L[n]=g:=(List.getElem?_eq_some_iff.1 hl).2;rw[<- s6,List.getElem_cons_drop,List.take_append_drop]
 have e2:L.set n g'=L.take n++g'::L.drop (n+1):=by
  rw[List.set_eq_take_append_cons_drop,if_pos ah]
 have h1:=h.all;rw[e1,<- afb]at h1;obtain⟨k1,k2,k3⟩:=h1.vc;rw[e2];refine⟨?_,h.flat⟩;rw[<- afb];refine(ht.rows k1 (k3 r (by rw[hb];simp))).mid hg (by rw[cw];simp) (fun x hx=>?_);rw[cw]at hx;exact k3 x (by rw[hb];exact hx)
end
def vi:List Nat->List AV->List AV->List AV
 |p::ps,a::l,s=>vi ps l (s.set p a)
 |_,_,s=>s
theorem Gy{c:Cx}:∀ {ps:List Nat} {l:List AV} {vs:List Value} {s:List AV} {t:Array Value},VS c s t->VL c l vs->VS c (vi ps l s) ((ps.zip vs).foldl (fun t (p,v)=>t.setIfInBounds p v) t)
 |[],_,_,_,_,h,_=>by simpa [vi]using h
 |_::_,[],[],_,_,h,_=>by simpa [vi]using h
 |_::_,_::_,[],_,_,_,hl=>by have:=hl.1;simp at this
 |_::_,[],_::_,_,_,_,hl=>by have:=hl.1;simp at this
 |p::ps,a::l,v::vs,s,t,h,hl=>by
  simp only[vi,List.zip_cons_cons,List.foldl_cons];exact Gy (h.put p hl.head.1) hl.head.2
theorem TF {P : Program} {f : FuncId} {fn : Func} {b : Code} (hf : P.funcs[f]? = some fn) (hb : fn.body = some b) (hn : (fn.name == "runtime.NumGoroutine") = false) (args : Array Value) (w : World) : (callFunc f args).run P w = .ok (.enter f args) w := by
 simp only[callFunc,adT,adS,adU,program,Sem.run,hf,hn,hb,Option.isNone_some,aet,if_false]
theorem LQ{P:Program}{f:FuncId}{fn:Func}{b:Code}(hf:P.funcs[f]?=some fn)(hb:fn.body=some b)(vs:List Value)(s:List AV):Frame.enter P f vs.toArray .normal=(⟨⟨f,none,[]⟩,[.code b],s⟩:ca).bK (vs.toArray++Array.replicate (fn.ntmps-vs.toArray.size) undef):=by
 simp[Frame.enter,ca.bK,Frame.atR,hf,hb,bf,aT.bK,marks]
theorem LR{P:Program}{b:Frame}{a:Act}{k:List Item}{cs:List Frame}{w:World}{ops:Array Oper}{i:Nat}{rest:List Nat}{o:Oper}{l:Nat}{f:FuncId}{tmps:Array Value}{assign body:Code}(ho:ops[i]?=some o)(hw:Region.wanted o (yielded ops a.tmps)=true)
  (hr:(execOp a.eval o).run P w=.ok (.round l f tmps assign body) w) :
  step P (lone (b.atR a (.inRegion ops (i::rest)::k)) cs w)=.next (lone (Frame.round l f tmps assign body .normal) (b.atR a (.inRegion ops (i::rest)::k)::cs) w):=by
 have hg:=stepGR_op (P:=P) (b:=b) (k:=k) (cs:=cs) (w:=w) (rest:=rest) ho hw;have ur:=sB (ro:=b.roundOf) hr (by simp);exact step_lone_go (by rw[hg];simp[stepG.apply,ur])
theorem LS{P:Program}{G:List (Nat × DV)}{c0:Cx}{rows L:List bo}{cs:List Frame}:∀ (D:List Nat) (c:Cx) (fr:Frame),aM G c->dc c0 c->cT c0.w.heap.size c rows (D.map .mark++L)->fr.mode=.returning->fr.defers=marks D ->
  ∃ c':Cx,c'.heap=c.heap/\aM G c'/\dc c0 c'/\cT c0.w.heap.size c' rows L/\(∀ x v,VR c x v->VR c' x v)/\Steps P (lone fr cs c.w) (lone { fr with defers:=[] } cs c'.w)
 |[],c,fr,h1,h2,h3,_,h5=>by
  refine⟨c,rfl,h1,h2,h3,fun _ _ h=>h,?_⟩;have:{ fr with defers:=[] }=fr:=by cases fr;simp only at h5;subst h5;rfl
  rw[this];exact .refl _ _
 |d::D,c,fr,h1,h2,h3,h4,h5=>by
  obtain⟨k1,k2,k3⟩:=h3.pop;have k2:sA c0.w.heap.size c d:=k2;have ht:Touch c d (c.w.putObj d (.deferred none)) := .putObj k2.aE;have TG:=ht.rows k1.all (k3 d (by simp[bo.cm]));obtain⟨c',q1,q2,q3,q4,q5,q6⟩:=LS D (c.eB (c.w.putObj d (.deferred none))) { fr with defers:=marks D } (ht.aP h1) (ht.rel h2 k2.new) ⟨TG,k1.flat⟩ h4 rfl;refine⟨c',q1,q2,q3,q4,fun x v hv=>q5 x v (ht.vr hv),.head ?_ q6⟩;exact step_collected (calls:=[]) (by rw[h4];simp) h5 rfl (run_takeDeferred k2.mem)
theorem Gz{E:Env}(hE:E.OK){fn:Func}{s:List AV}{h:List af}{K:AV->List af->Prop}(H:oh E.T s h fn.results.toList False K) :
  ∃ r,K r h/\∀ (c:Cx) (t:Array Value),c.heap=h->aM E.G c->VS c s t->∃ v,VR c r v/\(results fn t).run E.P c.w=.ok v c.w:=by
 unfold oh at H;rcases BF hE H with h'|⟨l,H,hl⟩
 ·cases h'
 split at H
 ·rename_i x;refine⟨x,H,fun c t e1 e2 e3=>?_⟩;obtain⟨vs,g1,g2⟩:=hl c t e1 e2 e3;cases vs with
  |nil=>have:=g1.1;simp at this
  |cons v vs=>cases vs with
   |cons u vs=>have:=g1.1;simp at this
   |nil=>exact⟨v,g1.head.1,EN g2⟩
 ·rename_i aJ;refine⟨_,H,fun c t e1 e2 e3=>?_⟩;obtain⟨vs,g1,g2⟩:=hl c t e1 e2 e3;refine⟨.tuple vs.toArray,.aF _ _ (by simpa using g1.1) fun j x v hx hu=>g1.2 j x v hx (by simpa using hu),?_⟩;have:=EN g2;cases vs with
  |nil=>exact this
  |cons v vs=>cases vs with
   |nil =>
    have:=g1.1;cases l with
    |nil=>simp at this
    |cons x l=>cases l with
     |nil=>exact absurd rfl (aJ x)
     |cons y l=>simp at this
   |cons u vs=>exact this
section
variable {E:Env} {aj:FuncId} {R:cF} {s:List AV} {h:List af} {lits:List Nat} {ops:Array Oper} {o:Oper} {l:List Oper} {k:List aT}
theorem J.rangeFunc {g : Operand} {ps : Array Tmp} {assign body LU : Code} {gf : FuncId} {a1 a2 : List AV} {fn : Func} (hg : bh E.G s g (.fn (.func gf) a1 a2)) (hf : E.P.funcs[gf]? = some fn) (hb : fn.body = some LU) (hn : (fn.name == "runtime.NumGoroutine") = false) (kv : R.fx.cA = none)
  (H:∀ (ll d:Nat) (t:Array Value),J E gf ⟨R.n,R.Q,R.rows,⟨R.fx.f0,none,[],⟨⟨aj,none,d::R.fx.aN⟩,.pI ll::k,s⟩::R.fx.cls,.loop ⟨ll,d,.ready,none,aj,t,ps,assign,body,s⟩ :: .mark d::R.fx.loops,R.fx.inl⟩⟩ [] [.code LU] (og (a1++[.fn (.yield ll) [] []]++a2) fn.ntmps) h) :
  J E aj R lits (.code (.rangeFunc g ps assign body)::k) s h:=by
 have e:(⟨aj,R.fx.cA,R.fx.aN⟩:iZ)=⟨aj,none,R.fx.aN⟩:=by rw[kv]
 refine .of ?_;rw[e];unfold AW;intro c0 c t ts h0 h1 h2 h3 hr br h4 h5 cs;subst h2;obtain⟨v1,v2,e1,e2,e3⟩:=mr (hg c ⟨t,marks R.fx.aN⟩ h3 h4);obtain⟨i,hi⟩:∃ i:kT,i=⟨c.w.heap.size+1,c.w.heap.size,.ready,none,aj,t,ps,assign,body,s⟩:=⟨_,rfl⟩;have bR:(c.cU (.deferred (some []))).w.heap.size=c.w.heap.size+1:=by simp[Cx.cU]
 have dm:aM E.G (c.cU (.deferred (some []))):=h3.cU;have fL:aM E.G ((c.cU (.deferred (some []))).cU (.loop i.ff)):=dm.cU;have Gm:dc c0 ((c.cU (.deferred (some []))).cU (.loop i.ff)):=hr.cU.cU;have iQ:∀ x v,VR c x v->VR ((c.cU (.deferred (some []))).cU (.loop i.ff)) x v:=fun x v hv=>ve (ve hv);have ga:i.l=c.w.heap.size+1:=by rw[hi]
 have Ad:cT c0.w.heap.size ((c.cU (.deferred (some []))).cU (.loop i.ff)) R.rows (.loop i :: .mark c.w.heap.size::R.fx.loops):=by
  have b0:cT c0.w.heap.size ((c.cU (.deferred (some []))).cU (.loop i.ff)) R.rows R.fx.loops:=⟨(br.all.cU h3).cU dm,br.flat⟩;have b1:cT c0.w.heap.size ((c.cU (.deferred (some []))).cU (.loop i.ff)) R.rows (.mark c.w.heap.size::R.fx.loops):=by
   refine b0.push (g := .mark c.w.heap.size) (show sA _ _ _ from ⟨.inl (.inr rfl),hr.size,?_⟩) (by simp[bo.cm]) (fun x hx hm=>?_)
   ·show((c.w.alloc (.deferred (some []))).alloc (.loop i.ff)).heap[c.w.heap.size]?=_;rw[Below.heap_alloc _ _ _ (by simp)];exact heap_alloc_new _ _
   ·simp[bo.cm]at hx;subst hx;have:=br.old h3 hm;omega
  refine b1.push (g := .loop i) (show oe _ _ _ from ⟨.inr (by rw[ga,bR]),by rw[ga];have:=hr.size;omega,?_,?_⟩) (by simp[bo.cm]) (fun x hx hm=>?_)
  ·show((c.w.alloc (.deferred (some []))).alloc (.loop i.ff)).heap[i.l]?=_;rw[ga,show c.w.heap.size+1=(c.w.alloc (.deferred (some []))).heap.size by simp];exact heap_alloc_new _ _
  ·have es:i.iP=s:=by rw[hi]
   have et:i.tm=t:=by rw[hi]
   rw[es,et];exact⟨h4.1,fun j x v hx hv=>iQ x v (h4.2 j x v hx hv)⟩
  ·simp[bo.cm]at hx;subst hx;rw[agJ,aeI,List.flatMap_cons,aeI]at hm;rcases hm with hm|hm|hm
   ·have:=br.old h3 (b:=i.l) (by rw[agJ];exact agc _ hm);omega
   ·simp[bo.cm]at hm;omega
   ·have:=br.old h3 (b:=i.l) (by rw[agJ];exact agd _ hm);omega
 have H:=(H (c.w.heap.size+1) c.w.heap.size t).to;rw[<- hi]at H;unfold AW at H;have kf:VL ((c.cU (.deferred (some []))).cU (.loop i.ff)) (a1++[.fn (.yield (c.w.heap.size+1)) [] []]++a2) (v1++[.func (.yield (c.w.heap.size+1)) #[] #[]]++v2):=by
  have lift:∀ {x:List AV} {u:List Value},VL c x u->VL ((c.cU (.deferred (some []))).cU (.loop i.ff)) x u:=fun hx=>⟨hx.1,fun j x v h1 h2=>iQ x v (hx.2 j x v h1 h2)⟩;exact((lift e2).append (.cons (.fn _ _ _ _ _ rfl rfl (fun j x v hx=>by simp at hx) (fun j x v hx=>by simp at hx)) .nil)).append (lift e3)
 obtain⟨c2,fr,r,v,q1,q2,q3,q4,q5,q6⟩:=H c0 ((c.cU (.deferred (some []))).cU (.loop i.ff)) _ (t::ts) h0 (fun x hx=>by simp at hx;subst hx;trivial) rfl fL Gm Ad (EF fn.ntmps kf) ⟨⟨h4.1,fun j x v hx hv=>iQ x v (h4.2 j x v hx hv)⟩,gP trivial (ek h1),od iQ h5⟩ cs;refine⟨c2,fr,r,v,q1,q2,q3,q4,.head ?_ q5,q6⟩;have gg:=run_enterLoop_outer (P:=E.P) (w:=c.w) aj t ps assign body;have TH:(Loop.mk .ready none aj t ps assign body c.w.heap.size)=i.ff:=by rw[hi];rfl
 rw[TH]at gg;have GA:(resolve (⟨t,marks R.fx.aN⟩:Act).eval (rangeCall g (c.w.heap.size+1)) 0).run E.P ((c.w.alloc (.deferred (some []))).alloc (.loop i.ff))=.ok { target := .fn (.func gf) v2.toArray,args:=v1.toArray ++ #[.func (.yield (c.w.heap.size+1)) #[] #[]] } ((c.w.alloc (.deferred (some []))).alloc (.loop i.ff)):=by
  have hy:∀ l:Nat,#[Operand.const (Value.func (Fn.yield l) #[] #[])].map (⟨t,marks R.fx.aN⟩:Act).eval = #[.func (.yield l) #[] #[]]:=fun _=>by simp[Act.eval]
  simp only[resolve,rangeCall,e1,Deferred.ofValue,adS,hy]
 have hinv:(invoke (Target.fn (.func gf) v2.toArray) (v1.toArray ++ #[.func (.yield (c.w.heap.size+1)) #[] #[]])).run E.P ((c.w.alloc (.deferred (some []))).alloc (.loop i.ff))=.ok (.enter gf (v1++[Value.func (.yield (c.w.heap.size+1)) #[] #[]]++v2).toArray) ((c.w.alloc (.deferred (some []))).alloc (.loop i.ff)):=by
  simp only[invoke];rw[TF hf hb hn]
  congr 2
  apply afp;simp
 have hs:=stepR_rangeFunc (P:=E.P) (b:=bf ⟨aj,none,R.fx.aN⟩) (a:=⟨t,marks R.fx.aN⟩) (k:=k.map aT.bK) (cs:=eV R.fx.cls ts++cs) gg GA hinv;rw[LQ hf hb _ (og (a1++[.fn (.yield (c.w.heap.size+1)) [] []]++a2) fn.ntmps)]at hs;exact hs
theorem J.yield(n:Nat){i:kT}{fx:Operand}{args:Array Operand}{ts:Array TypeId}{av:List AV}(hl:R.fx.loops[n]?=some (.loop i))(hg:o.guard=none)(cn:o.op=.call { callee := .value fx,args:=args,argTypes:=ts })(hf:bh E.G s fx (.fn (.yield i.l) [] []))(ha:jC E.G s args.toList av)(hlen:av.length=i.ps.size)
  (H:J E i.fn ⟨R.n,R.Q,R.rows,⟨R.fx.f0,some i.l,[],⟨⟨aj,R.fx.cA,R.fx.aN⟩,.bw ops (o::l)::k,s⟩::R.fx.cls,R.fx.loops,R.fx.inl⟩⟩ [] [.code i.assign,.qF,.code i.body] (vi i.ps.toList av i.iP) h):J E aj R lits (.bw ops (o::l)::k) s h:=by
 refine .of ?_;unfold AW;intro c0 c t tt h0 h1 h2 h3 hr br h4 h5 cs;subst h2;obtain⟨j,hj,eo,aP⟩:=nf (h1 _ (aeQ ..));have hi:oe c0.w.heap.size c i:=br.all.each _ (agd _ (afh hl));obtain⟨v1,v2,e1,e2,e3⟩:=mr (hf c ⟨t,marks R.fx.aN⟩ h3 h4);obtain rfl:v1=[]:=aee (by simpa using e2.1.symm);obtain rfl:v2=[]:=aee (by simpa using e3.1.symm);have e4:=ha c ⟨t,marks R.fx.aN⟩ h3 h4;have H:=H.to;unfold AW at H;have jG:(#[]++args.map (⟨t,marks R.fx.aN⟩:Act).eval).size=i.ff.params.size:=by
  have:=e4.1;simp at this ⊢;rw[<- this,hlen];rfl
 have eT:=Gy (ps:=i.ps.toList) hi.iP e4;obtain⟨c2,fr,r,v,q1,q2,q3,q4,q5,q6⟩:=H c0 c _ (t::tt) h0 (fun x hx=>by simp at hx;rcases hx with rfl|rfl|rfl<;>trivial) rfl h3 hr br eT ⟨h4,h1,h5⟩ cs;refine⟨c2,fr,r,v,q1,q2,q3,q4,.head ?_ q5,q6⟩;have cK:(execOp (⟨t,marks R.fx.aN⟩:Act).eval o).run E.P c.w=.ok (.round i.l i.fn ((i.ps.toList.zip (args.toList.map (⟨t,marks R.fx.aN⟩:Act).eval)).foldl (fun t (p,v)=>t.setIfInBounds p v) i.tm) i.assign i.body) c.w:=by
  have hy:=run_yield (P:=E.P) hi.mem jG;simp only[execOp,cn,resolve,e1,Deferred.ofValue,invoke,adT,adS,adU,hy]
  congr 2
  rw[<- Array.foldl_toList,Array.toList_zip];simp[kT.ff]
 have hs:=LR (P:=E.P) (b:=bf ⟨aj,R.fx.cA,R.fx.aN⟩) (a:=⟨t,marks R.fx.aN⟩) (k:=k.map aT.bK) (cs:=eV R.fx.cls tt++cs) (rest:=(aeU ops.size).drop (ops.size-l.length)) hj (gb hg c t h4) cK;simp only[ca.bK,ad0,eV,eo,aeH];exact hs
theorem J.begin(n:Nat){i:kT}(hl:R.fx.loops[n]?=some (.loop i))(kv:R.fx.cA=some i.l)(bg:i.st=.ready)
  (H:J E aj ⟨R.n,R.Q,R.rows,⟨R.fx.f0,some i.l,R.fx.aN,R.fx.cls,R.fx.loops.set n (.loop { i with st := .busy }),R.fx.inl⟩⟩ lits k s h):J E aj R lits (.qF::k) s h:=by
 have e:(⟨aj,R.fx.cA,R.fx.aN⟩:iZ)=⟨aj,some i.l,R.fx.aN⟩:=by rw[kv]
 refine .of ?_;rw[e];unfold AW;intro c0 c t tt h0 h1 h2 h3 hr br h4 h5 cs;subst h2;have hi:oe c0.w.heap.size c i:=br.all.each _ (agd _ (afh hl));have ht:Touch c i.l (c.w.putObj i.l (.loop { i with st := .busy }.ff)) := .putObj hi.aE;have ah:=h3.bS _ hi.aE;have Ad:cT c0.w.heap.size (c.eB (c.w.putObj i.l (.loop { i with st := .busy }.ff))) R.rows (R.fx.loops.set n (.loop { i with st := .busy })) :=
  br.LP hl rfl rfl ht (show oe _ _ _ from ⟨hi.aE,hi.new,World.putObj_heap_same ah,⟨hi.iP.1,fun j x v hx hv=>ht.vr (hi.iP.2 j x v hx hv)⟩⟩)
 have H:=H.to;unfold AW at H;obtain⟨c2,fr,r,v,q1,q2,q3,q4,q5,q6⟩:=H c0 (c.eB (c.w.putObj i.l (.loop { i with st := .busy }.ff))) t tt h0 (ek h1) rfl (ht.aP h3) (ht.rel hr hi.new) Ad ⟨h4.1,fun j x v hx hv=>ht.vr (h4.2 j x v hx hv)⟩ (od (fun _ _=>ht.vr) h5) cs;refine⟨c2,fr,r,v,q1,q2,q3,q4,.head ?_ q5,q6⟩;exact stepR_beginRound (b:=bf ⟨aj,some i.l,R.fx.aN⟩) (a:=⟨t,marks R.fx.aN⟩) (k:=k.map aT.bK) rfl (run_beginRound hi.mem bg)
theorem J.GB(n:Nat){i:kT}(jump:Option Code){td:List aT}{fd:iZ}{iv:Array Oper}{o1:Oper}{l1:List Oper}{k1:List aT}{s1:List AV}{hY:List ca}
  (hj:∀ (b:Frame) (a:Act) (cf:Frame) (cs:List Frame) (w w':World) (v:Value),b.roundOf=some i.l->b.kind=.normal->(Instr.endRound i.l jump).run E.P w=.ok v w'->step E.P (lone (b.atR a (td.map aT.bK)) (cf::cs) w)=.next (lone (cf.finish v) cs w'))
  (hl:R.fx.loops[n]?=some (.loop i)) (kv:R.fx.cA=some i.l) (hc:R.fx.cls=⟨fd,.bw iv (o1::l1)::k1,s1⟩::hY)
  (H:J E fd.f ⟨R.n,R.Q,R.rows,⟨R.fx.f0,fd.cA,fd.aN,hY,R.fx.loops.set n (.loop { i with st:=if jump.isNone then .ready else .done,pe:=jump }),R.fx.inl⟩⟩ [] (.bw iv l1::k1) (b8 s1 o1.dst (.d (.bool jump.isNone))) h):J E aj R lits td s h:=by
 have e:(⟨aj,R.fx.cA,R.fx.aN⟩:iZ)=⟨aj,some i.l,R.fx.aN⟩:=by rw[kv]
 refine .of ?_;rw[e,hc];unfold AW;intro c0 c t tt h0 h1 h2 h3 hr br h4 h5 cs;subst h2;obtain⟨t1,jh,rfl⟩:∃ t1 jh,tt=t1::jh:=by
  cases tt with
  |nil=>exact h5.elim
  |cons t1 jh=>exact⟨_,_,rfl⟩
 obtain⟨c4,c5,c6⟩:=h5;obtain⟨j,CG,eo,aP⟩:=nf (c5 _ (aeQ ..));have hi:oe c0.w.heap.size c i:=br.all.each _ (agd _ (afh hl));obtain⟨i2,xK⟩:∃ i2:kT,i2={ i with st:=if jump.isNone then .ready else .done,pe:=jump }:=⟨_,rfl⟩;rw[<- xK]at H;have CH:i2.l=i.l:=by rw[xK]
 have es:i2.iP=i.iP:=by rw[xK]
 have et:i2.tm=i.tm:=by rw[xK]
 have ht:Touch c i.l (c.w.putObj i.l (.loop i2.ff)) := .putObj hi.aE;have ah:=h3.bS _ hi.aE;have Ad:cT c0.w.heap.size (c.eB (c.w.putObj i.l (.loop i2.ff))) R.rows (R.fx.loops.set n (.loop i2)) :=
  br.LP hl rfl (by simp[bo.cm,CH]) ht (show oe _ _ _ from ⟨by rw[CH];exact hi.aE,by rw[CH];exact hi.new,by rw[CH];exact World.putObj_heap_same ah,by rw[es,et];exact⟨hi.iP.1,fun j x v hx hv=>ht.vr (hi.iP.2 j x v hx hv)⟩⟩)
 have H:=H.to;unfold AW at H;have ke:VS (c.eB (c.w.putObj i.l (.loop i2.ff))) (b8 s1 o1.dst (.d (.bool jump.isNone))) ((⟨t1,marks fd.aN⟩:Act).put o1.dst (.bool jump.isNone)).tmps :=
  VS.b8 (a:=⟨t1,marks fd.aN⟩) ⟨c4.1,fun j x v hx hv=>ht.vr (c4.2 j x v hx hv)⟩ o1.dst (.d _ _ (.bool _))
 obtain⟨c2,fr,r,v,q1,q2,q3,q4,q5,q6⟩:=H c0 (c.eB (c.w.putObj i.l (.loop i2.ff))) _ jh h0 (gP aP (ek c5)) rfl (ht.aP h3) (ht.rel hr hi.new) Ad ke (od (fun _ _=>ht.vr) c6) cs;refine⟨c2,fr,r,v,q1,q2,q3,q4,.head ?_ q5,q6⟩;have cK:(Instr.endRound i.l jump).run E.P c.w=.ok (.bool jump.isNone) (c.w.putObj i.l (.loop i2.ff)):=by
  have:=run_endRound (P:=E.P) jump hi.mem;rw[xK];exact this
 have hs:=hj (bf ⟨aj,some i.l,R.fx.aN⟩) ⟨t,marks R.fx.aN⟩ ((⟨fd,.bw iv (o1::l1)::k1,s1⟩:ca).bK t1) (eV hY jh++cs) c.w _ _ rfl rfl cK;have gI:((⟨fd,.bw iv (o1::l1)::k1,s1⟩:ca).bK t1).finish (.bool jump.isNone)=(⟨⟨fd.f,fd.cA,fd.aN⟩,.bw iv l1::k1,b8 s1 o1.dst (.d (.bool jump.isNone))⟩:ca).bK ((⟨t1,marks fd.aN⟩:Act).put o1.dst (.bool jump.isNone)).tmps:=by
  simp only[ca.bK,ad0,eo];rw[Frame.finish_atR,CG];simp only[ae0];rw[put_defers];rfl
 rw[gI]at hs;exact hs
theorem J.pb(n:Nat){i:kT}{fd:iZ}{iv:Array Oper}{o1:Oper}{l1:List Oper}{k1:List aT}{s1:List AV}{hY:List ca}(hl:R.fx.loops[n]?=some (.loop i))(kv:R.fx.cA=some i.l)(hc:R.fx.cls=⟨fd,.bw iv (o1::l1)::k1,s1⟩::hY)
  (H:J E fd.f ⟨R.n,R.Q,R.rows,⟨R.fx.f0,fd.cA,fd.aN,hY,R.fx.loops.set n (.loop { i with st := .ready,pe:=none }),R.fx.inl⟩⟩ [] (.bw iv l1::k1) (b8 s1 o1.dst (.d (.bool true))) h):J E aj R lits [] s h :=
 .GB n none (fun b a cf cs w w' v h1 h2 h3=>stepR_round_end h1 h2 h3) hl kv hc H
theorem J.CI(n:Nat){i:kT}{fd:iZ}{iv:Array Oper}{o1:Oper}{l1:List Oper}{k1:List aT}{s1:List AV}{hY:List ca}(hl:R.fx.loops[n]?=some (.loop i))(kv:R.fx.cA=some i.l)(hc:R.fx.cls=⟨fd,.bw iv (o1::l1)::k1,s1⟩::hY)
  (H:J E fd.f ⟨R.n,R.Q,R.rows,⟨R.fx.f0,fd.cA,fd.aN,hY,R.fx.loops.set n (.loop { i with st := .done,pe:=some .ret }),R.fx.inl⟩⟩ [] (.bw iv l1::k1) (b8 s1 o1.dst (.d (.bool false))) h):J E aj R lits (.code .ret::k) s h :=
 .GB n (some .ret) (fun b a cf cs w w' v h1 h2 h3=>stepR_round_ret h1 h2 h3) hl kv hc H
theorem vj{id:Nat}:∀ {l:List aT},nd id l=none->exitTo id (l.map aT.bK)=none
 |[],_=>rfl
 | .inBlock i::l,hl=>by
  simp only[nd]at hl;simp only[ad0,aT.bK,exitTo];split at hl
  ·cases hl
  ·rename_i q
   rw[if_neg (by intro hh;have : i=id := by simpa using hh
                 rw[this, Nat.beq_refl]at q;cases q)]
   exact vj hl
 | .code c::l,hl=>vj (l:=l) hl
 | .inLoop c::l,hl=>vj (l:=l) hl
 | .bw ops q::l,hl=>vj (l:=l) hl
 | .pI c::l,hl=>vj (l:=l) hl
 | .qF::l,hl=>vj (l:=l) hl
theorem J.TI(n:Nat){i:kT}{id:Nat}{fd:iZ}{iv:Array Oper}{o1:Oper}{l1:List Oper}{k1:List aT}{s1:List AV}{hY:List ca}(hx:nd id k=none)(hl:R.fx.loops[n]?=some (.loop i))(kv:R.fx.cA=some i.l)(hc:R.fx.cls=⟨fd,.bw iv (o1::l1)::k1,s1⟩::hY)
  (H:J E fd.f ⟨R.n,R.Q,R.rows,⟨R.fx.f0,fd.cA,fd.aN,hY,R.fx.loops.set n (.loop { i with st := .done,pe:=some (.exit id) }),R.fx.inl⟩⟩ [] (.bw iv l1::k1) (b8 s1 o1.dst (.d (.bool false))) h):J E aj R lits (.code (.exit id)::k) s h :=
 .GB n (some (.exit id)) (fun b a cf cs w w' v h1 h2 h3=>stepR_round_exit h1 h2 (vj hx) h3) hl kv hc H
theorem J.mG {fx : Operand} {args : Array Operand} {ts : Array TypeId} {f : FuncId} {fn : Func} {b : Code} {a1 a2 av : List AV} (hg : o.guard = none) (cn : o.op = .call { callee := .value fx, args := args, argTypes := ts }) (nC : bh E.G s fx (.fn (.func f) a1 a2)) (ha : jC E.G s args.toList av) (hf : E.P.funcs[f]? = some fn) (hb : fn.body = some b) (hn : (fn.name == "runtime.NumGoroutine") = false)
  (H:J E f ⟨R.n,R.Q,R.rows,⟨R.fx.f0,none,[],⟨⟨aj,R.fx.cA,R.fx.aN⟩,.bw ops (o::l)::k,s⟩::R.fx.cls,R.fx.loops,R.fx.inl⟩⟩ [] [.code b] (og (a1++av++a2) fn.ntmps) h):J E aj R lits (.bw ops (o::l)::k) s h:=by
 refine .of ?_;unfold AW;intro c0 c t tt h0 h1 h2 h3 hr br h4 h5 cs;subst h2;obtain⟨j,hj,eo,aP⟩:=nf (h1 _ (aeQ ..));obtain⟨v1,v2,e1,e2,e3⟩:=mr (nC c ⟨t,marks R.fx.aN⟩ h3 h4);have e4:=ha c ⟨t,marks R.fx.aN⟩ h3 h4;have e5:=(e2.append e4).append e3;have H:=H.to;unfold AW at H;obtain⟨c2,fr,r,v,q1,q2,q3,q4,q5,q6⟩:=H c0 c _ (t::tt) h0 (fun x hx=>by simp at hx;subst hx;trivial) rfl h3 hr br (EF fn.ntmps e5) ⟨h4,h1,h5⟩ cs;refine⟨c2,fr,r,v,q1,q2,q3,q4,.head ?_ q5,q6⟩;have cK:=yO (P:=E.P) (w:=c.w) (a:=⟨t,marks R.fx.aN⟩) cn e1 ⟨fn,hf,by rw[hb];rfl,hn⟩;have kf:(v1.toArray++args.map (⟨t,marks R.fx.aN⟩:Act).eval++v2.toArray)=(v1++args.toList.map (⟨t,marks R.fx.aN⟩:Act).eval++v2).toArray:=by
  apply afp;simp
 rw[kf]at cK;have hs:=EG (P:=E.P) (b:=bf ⟨aj,R.fx.cA,R.fx.aN⟩) (a:=⟨t,marks R.fx.aN⟩) (k:=k.map aT.bK) (cs:=eV R.fx.cls tt++cs) (rest:=(aeU ops.size).drop (ops.size-l.length)) hj (gb hg c t h4) cK;rw[LQ hf hb _ (og (a1++av++a2) fn.ntmps)]at hs;simp only[ca.bK,ad0,eV,eo,aeH]at hs ⊢;exact hs
def xL:List aT->Bool
 |[]=>true
 | .code .ret::_=>true
 |_=>false
theorem TJ{P:Program}{fd:iZ}(hr:fd.cA=none){td:List aT}(h:xL td=true)(a:Act)(cs:List Frame)(w:World):step P (lone ((bf fd).atR a (td.map aT.bK)) cs w)=.next (lone { (bf fd).atR a (td.map aT.bK)with mode := .returning } cs w):=by
 unfold xL at h;split at h
 ·exact stepR_end hr
 ·exact stepR_ret hr
 ·cases h
theorem GC{P:Program}{G:List (Nat × DV)}{c0 c:Cx}{aj:FuncId}{fn:Func}{aN:List Nat}{rows L:List bo}{td:List aT}{s:List AV}{t:Array Value}{r:AV}(hf:P.funcs[aj]?=some fn)(om:xL td=true)(ho:aM G c)(hr:dc c0 c)(br:cT c0.w.heap.size c rows (aN.map .mark++L))(hs:VS c s t)
  (GA:∀ (c':Cx) (t:Array Value),c'.heap=c.heap->aM G c'->VS c' s t->∃ v,VR c' r v/\(results fn t).run P c'.w=.ok v c'.w) (cs:List Frame) :
  ∃ (c':Cx) (fr:Frame) (v:Value),c'.heap=c.heap/\aM G c'/\dc c0 c'/\cT c0.w.heap.size c' rows L/\(∀ x u,VR c x u->VR c' x u)/\VR c' r v/\Steps P (lone ((⟨⟨aj,none,aN⟩,td,s⟩:ca).bK t) cs c.w) (lone fr cs c'.w)/\fr.fn=aj/\fr.leaving P c'.w (.returned v):=by
 obtain⟨c',q1,q2,q3,q4,q5,q6⟩:=LS (P:=P) (cs:=cs) aN c { (bf ⟨aj,none,aN⟩).atR ⟨t,marks aN⟩ (td.map aT.bK)with mode := .returning } ho hr br rfl rfl;obtain⟨v,p1,p2⟩:=GA c' t q1 q2 ⟨hs.1,fun j x v hx hv=>q5 x v (hs.2 j x v hx hv)⟩;exact⟨c',_,v,q1,q2,q3,q4,q5,p1,.head (TJ rfl om _ _ _) q6,rfl,rfl,rfl,rfl,fn,hf,p2⟩
theorem J.lW(hE:E.OK){fn:Func}{L:List bo}{td:List aT}(hf:E.P.funcs[aj]?=some fn)(om:xL td=true)(kv:R.fx.cA=none)(hc:R.fx.cls=[])(h0:R.fx.f0=aj)(hL:R.fx.loops=R.fx.aN.map .mark++L)(H:oh E.T s h fn.results.toList False R.Q):J E aj R lits td s h:=by
 have e:(⟨aj,R.fx.cA,R.fx.aN⟩:iZ)=⟨aj,none,R.fx.aN⟩:=by rw[kv]
 refine .of ?_;rw[e,hc,h0];unfold AW;intro c0 c t tt h0 h1 h2 h3 hr br h4 h5 cs;obtain⟨r,k1,k2⟩:=Gz hE H;subst h2;rw[hL]at br;obtain⟨c',fr,v,q1,q2,q3,q4,q5,q6,q7,q8,q9⟩:=GC hf om h3 hr br h4 k2 (eV [] tt++cs);have jb:eV [] tt=[]:=by cases tt<;>rfl
 rw[jb]at q7 ⊢;exact⟨c',fr,r,v,by rw[q1];exact k1,q6,q2,q3,q7,q8,q9⟩
theorem J.kx(hE:E.OK){fn:Func}{L:List bo}{td:List aT}{fd:iZ}{iv:Array Oper}{o1:Oper}{l1:List Oper}{k1:List aT}{s1:List AV}{hY:List ca}(hf:E.P.funcs[aj]?=some fn)(om:xL td=true)(kv:R.fx.cA=none)(hc:R.fx.cls=⟨fd,.bw iv (o1::l1)::k1,s1⟩::hY)(hL:R.fx.loops=R.fx.aN.map .mark++L)
  (H:oh E.T s h fn.results.toList False fun r h'=>cg s1 o1.dst r fun s'=>J E fd.f ⟨R.n,R.Q,R.rows,⟨R.fx.f0,fd.cA,fd.aN,hY,L,R.fx.inl⟩⟩ [] (.bw iv l1::k1) s' h'):J E aj R lits td s h:=by
 have e:(⟨aj,R.fx.cA,R.fx.aN⟩:iZ)=⟨aj,none,R.fx.aN⟩:=by rw[kv]
 refine .of ?_;rw[e,hc];unfold AW;intro c0 c t tt h0 h1 h2 h3 hr br h4 h5 cs;obtain⟨r,H,k2⟩:=Gz hE H;subst h2;rw[hL]at br;obtain⟨t1,jh,rfl⟩:∃ t1 jh,tt=t1::jh:=by
  cases tt with
  |nil=>exact h5.elim
  |cons t1 jh=>exact⟨_,_,rfl⟩
 obtain⟨c4,c5,c6⟩:=h5;obtain⟨j,CG,eo,aP⟩:=nf (c5 _ (aeQ ..));obtain⟨c',fr,v,q1,q2,q3,q4,q5,q6,q7,q8,q9⟩:=GC hf om h3 hr br h4 k2 (eV (⟨fd,.bw iv (o1::l1)::k1,s1⟩::hY) (t1::jh)++cs);rw[dX]at H;have H:=H.to;unfold AW at H;have ke:VS c' (b8 s1 o1.dst r) ((⟨t1,marks fd.aN⟩:Act).put o1.dst v).tmps:=VS.b8 (a:=⟨t1,marks fd.aN⟩) ⟨c4.1,fun j x v hx hv=>q5 x v (c4.2 j x v hx hv)⟩ o1.dst q6;obtain⟨c2,uu,r2,v2,p1,p2,p3,p4,p5,p6⟩:=H c0 c' _ jh h0 (gP aP (ek c5)) q1 q2 q3 q4 ke (od q5 c6) cs;refine⟨c2,uu,r2,v2,p1,p2,p3,p4,q7.trans (.head ?_ p5),p6⟩;have hs:=step_leave_returned (c:=(⟨fd,.bw iv (o1::l1)::k1,s1⟩:ca).bK t1) (cs:=eV hY jh++cs) q9;have gI:((⟨fd,.bw iv (o1::l1)::k1,s1⟩:ca).bK t1).finish v=(⟨⟨fd.f,fd.cA,fd.aN⟩,.bw iv l1::k1,b8 s1 o1.dst r⟩:ca).bK ((⟨t1,marks fd.aN⟩:Act).put o1.dst v).tmps:=by
  simp only[ca.bK,ad0,eo];rw[Frame.finish_atR,CG];simp only[ae0];rw[put_defers];rfl
 rw[gI]at hs;exact hs
def GF:Option Code->List aT->List aT
 |some c,k => .code c::k
 |none,k=>k
theorem J.ky(hE:E.OK){fn:Func}{L:List bo}{td:List aT}{i:kT}{fd:iZ}{k1:List aT}{s1:List AV}{hY:List ca}(hf:E.P.funcs[aj]?=some fn)(om:xL td=true)(kv:R.fx.cA=none)(hc:R.fx.cls=⟨fd,.pI i.l::k1,s1⟩::hY)(hL:R.fx.loops=R.fx.aN.map .mark ++ .loop i::L)(bg:i.st ≠ .busy)
  (H:oh E.T s h fn.results.toList False fun _ _=>J E fd.f ⟨R.n,R.Q,R.rows,⟨R.fx.f0,fd.cA,fd.aN,hY,L,R.fx.inl⟩⟩ [] (GF i.pe k1) s1 h):J E aj R lits td s h:=by
 have e:(⟨aj,R.fx.cA,R.fx.aN⟩:iZ)=⟨aj,none,R.fx.aN⟩:=by rw[kv]
 refine .of ?_;rw[e,hc];unfold AW;intro c0 c t tt h0 h1 h2 h3 hr br h4 h5 cs;obtain⟨r,H,k2⟩:=Gz hE H;subst h2;rw[hL]at br;obtain⟨t1,jh,rfl⟩:∃ t1 jh,tt=t1::jh:=by
  cases tt with
  |nil=>exact h5.elim
  |cons t1 jh=>exact⟨_,_,rfl⟩
 obtain⟨c4,c5,c6⟩:=h5;obtain⟨c',fr,v,q1,q2,q3,q4,q5,q6,q7,q8,q9⟩:=GC hf om h3 hr br h4 k2 (eV (⟨fd,.pI i.l::k1,s1⟩::hY) (t1::jh)++cs);obtain⟨g1,g2,g3⟩:=q4.pop;have g2:oe c0.w.heap.size c' i:=g2;obtain⟨o2,zp⟩:∃ o2:Obj,o2=.loop { i.ff with state := .exhausted }:=⟨_,rfl⟩;have ht:Touch c' i.l (c'.w.putObj i.l o2) := .putObj g2.aE;have H:=H.to;unfold AW at H;have TL:(∀ x∈GF i.pe k1,x.ok):=by
  cases i.pe with
  |none=>exact ek c5
  |some c=>exact gP trivial (ek c5)
 obtain⟨c2,uu,r2,v2,p1,p2,p3,p4,p5,p6⟩:=H c0 (c'.eB (c'.w.putObj i.l o2)) t1 jh h0 TL q1 (ht.aP q2) (ht.rel q3 g2.new) ⟨ht.rows g1.all (g3 i.l (by simp[bo.cm])),g1.flat⟩ ⟨c4.1,fun j x v hx hv=>ht.vr (q5 x v (c4.2 j x v hx hv))⟩ (od (fun x v hv=>ht.vr (q5 x v hv)) c6) cs;refine⟨c2,uu,r2,v2,p1,p2,p3,p4,q7.trans (.head (step_leave_returned q9) (.head ?_ p5)),p6⟩;have gI:((⟨fd,.pI i.l::k1,s1⟩:ca).bK t1).finish v=(bf fd).atR ⟨t1,marks fd.aN⟩ (.endRangeFunc i.l::k1.map aT.bK):=by
  simp only[ca.bK,ad0,aT.bK];exact finish_atR_inRangeFunc _ _
 have rq:(Instr.endLoop i.l).run E.P c'.w=.ok i.pe (c'.w.putObj i.l o2):=by
  have:=run_endLoop (P:=E.P) g2.mem bg;rw[zp];exact this
 have hs:=stepR_endRangeFunc (P:=E.P) (b:=bf fd) (a:=⟨t1,marks fd.aN⟩) (k:=k1.map aT.bK) (cs:=eV hY jh++cs) rq;rw[<- gI]at hs;have pM:(i.pe.map Item.code).toList++k1.map aT.bK=(GF i.pe k1).map aT.bK:=by cases i.pe<;>rfl
 rw[pM]at hs;exact hs
end
end Go.aA
end
section
namespace Go.aA
open Go Go.RowKit
section
variable {E:Env} {s:List AV} {h:List af}
theorem TM(hE:E.OK){t kt e:Nat}{m ko:Operand}{ti:bu}(bX:E.T[t]?=some ti)(hk:ti.k=.map kt e){kd:TK}(hT:sJ E kt kd){b:Nat}{es:List (DV × DV)}(hb:h[b]?=some (.map es))(hm:bh E.G s m (.map b)){x:DV}(hx:bh E.G s ko (.d x))
  (h1:du E.T kd x) (h2:∀ p∈es,du E.T kd p.1) {z:DV} {zv:Value} (gG:∀ w,(zeroValue e).run E.P w=.ok zv w) (iK:∀ bad w,VD bad w z zv) :
  bz E (.mapEntry t m ko) s h (.d (.aF [(findD x es).getD z,.int .i64 ((fj x es).getD es.length)])) (h.set b (.map (bW x ((findD x es).getD z) es))):=fun o c ac e1 e2 h3 h4=>by
 subst e2;obtain⟨mz,d,g1,g2,g3,-⟩:=cC (hE.types t ti bX);have hd:d=.map kt e:=by rw[hk]at g3;cases d<;>first|(cases g3;rfl)|cases g3
 subst hd;have eS:=aX hb;obtain⟨blk,cap,en,ck,q1,q2,q3,qe,q4⟩:=w8 h3 hb (hm c ac h3 h4);have cI:=hx c ac h3 h4;generalize hu:ac.eval ko=u at cI;cases cI with
 |d _ _ cI =>
  have r1:=Fb hE hT h1 cI false;have r2:=Fa hE hT h1 cI h2 q4;have hblk:blk<c.w.heap.size:=(h3.bB b blk cap q2).1;have hl:en.size=es.length:=by simpa using q4.1
  have main:∃ (jc:Array MapEntry) (nk:Nat) (v:Value),(Instr.mapEntry t (.map (some blk)) u).run E.P c.w=.ok (.tuple #[v,goInt ((fj x es).getD es.length:Nat)]) { c.w with heap:=c.w.heap.setIfInBounds blk (.map jc nk) }/\n' jc nk (bW x ((findD x es).getD z) es).length/\VD c.bad c.w ((findD x es).getD z) v /\
    ∀ (j:Nat) (k v:DV) (mm:MapEntry),(bW x ((findD x es).getD z) es)[j]?=some (k,v)->jc[j]?=some mm->VD c.bad c.w k mm.key/\VD c.bad c.w v mm.val:=by
   cases hf:fj x es with
   |none =>
    rw[E8 hf];refine⟨en.push { key:=u,val:=zv,born:=ck },ck+1,zv,?_,?_,iK _ _,?_⟩
    ·simp only[Instr.mapEntry,adT,run_underlying g2,adU,qO q3,r1,r2,lL,hf,Option.bind_none,gG,y9 _ q3,adS,afq];rw[qe.tick]
    ·rw[afq,y8 hf,List.length_append];exact qe.push u zv
    ·intro j k v mm hj eE;rw[afq,y8 hf]at hj;rcases adV j es.length with ah|aC
     ·rw[ael ah]at hj;rw[aeL,if_neg (by omega)]at eE;exact q4.2 j k v mm hj (by simpa using eE)
     ·have kg:j=es.length:=by
       have:=aX hj;simp at this;omega
      subst kg;rw[ae9 (aed _)]at hj;simp at hj;obtain⟨rfl,rfl⟩:=hj;rw[aeL,if_pos hl.symm]at eE;cases eE;exact⟨cI,iK _ _⟩
   |some i =>
    obtain⟨p,p1,p2,p3⟩:=BP hf;rw[p3];have hi:i<en.size:=by rw[hl];exact aX p1
    have kZ:en[i]?=some en[i]:=by simp[hi]
    have gg:=q4.2 i p.1 p.2 en[i] p1 (by simp[hi]);have pM:=J' p2;have e3:=uC h1 cI;have e4:=uC (h2 p (afh p1)) gg.1;have Fc:Instr.sameBits 10000 en[i].key u=true:=by
     rw[e3,e4,<- pM];exact Ka h1
    refine⟨en.modify i fun e=>{ e with key:=u },ck,en[i].val,?_,?_,gg.2,?_⟩
    ·have Fe:lL x es en.toList 0=some (i,en[i].val):=by
      simp[lL,hf,hi]
     have BR:(Instr.keyThatStays en[i].key u).run E.P c.w=.ok u c.w:=by
      simp only[Instr.keyThatStays,Fc,if_true,adS]
     simp only[Instr.mapEntry,adT,run_underlying g2,adU,qO q3,r1,r2,Fe,kZ,aeT,aeB,BR,y9 _ q3,adS];rw[qe.idx i _ kZ]
    ·rw[aeB,y7 hf,aeX];have pL:(en.modify i fun e=>{ e with key:=u })=(en.modify i fun e=>{ e with key:=u,val:=en[i].val }):=by
      apply agV;intro j;rw[aes,aes];by_cases hj:i=j
      ·subst hj;simp[hi]
      ·simp[hj]
     rw[pL];exact qe.modify i u _
    ·intro j k v mm hj eE;rw[aeB,y7 hf]at hj;by_cases lM:j=i
     ·subst lM;rw[aei (by omega)]at hj;cases hj;rw[aes,if_pos rfl,kZ]at eE;cases eE;exact⟨cI,gg.2⟩
     ·rw[aej (Ne.symm lM)]at hj;rw[aes,if_neg (Ne.symm lM)]at eE;exact q4.2 j k v mm hj (by simpa using eE)
  obtain⟨jc,nk,v0,cK,hlen,nD,gg⟩:=main;generalize bW x ((findD x es).getD z) es=ee at hlen gg ⊢
  let c':Cx:={ c with heap:=c.heap.set b (.map ee),w:={ c.w with heap:=c.w.heap.setIfInBounds blk (.map jc nk) } }
  have zc:c'.w.heap[blk]?=some (.map jc nk):=by simp[c',hblk]
  have sK:∀ b',b'≠blk->c'.w.heap[b']?=c.w.heap[b']? := fun b' cw=>by simp[c',af',Ne.symm cw]
  have qP:c'.heap[b]?=some (.map ee):=by show(c.heap.set b _)[b]?=_;rw[aei eS]
  have ki:∀ i,i≠b->c'.heap[i]?=c.heap[i]? := fun i hi=>by show(c.heap.set b _)[i]?=_;rw[aej (Ne.symm hi)]
  have bg:Step c c':=⟨rfl,h3.bS,rfl,rfl,rfl,by simp[c'],fun b' _ bI=>sK b' (fun oY=>bI b cap (oY ▸ q2)),fun i b' n hi _=>⟨n,hi⟩,fun i bx hi=>by
   by_cases bF:i=b
   ·subst bF;rw[hb]at hi;cases hi;exact .inl ⟨_,qP,rfl⟩
   ·exact ml hi (ki i bF) rfl⟩
  have aP:aM E.G c':=by
   refine h3.next bg (fun i b' n hi=>?_) h3.inj (fun i bx hi=>?_)
   ·have:=h3.bB i b' n hi;refine⟨by simpa [c']using this.1,?_⟩;show i<(c.heap.set b _).length;rw[aeX];exact this.2
   ·by_cases bF:i=b
    ·subst bF;rw[qP]at hi;cases hi;right;exact⟨blk,cap,jc,nk,q2,zc,hlen,fun j k v mm hj eE=>⟨bg.vd (gg j k v mm hj eE).1,bg.vd (gg j k v mm hj eE).2⟩⟩
    ·rw[ki i bF]at hi;exact .inl ⟨hi,rfl,fun b' n hn=>sK b' (fun oY=>bF (h3.inj i b blk n cap (oY ▸ hn) q2))⟩
  refine⟨c',.tuple #[v0,goInt ((fj x es).getD es.length:Nat)],.inl ?_,rfl,aP,.d _ _ (.aF _ _ rfl fun j y v hy hv=>?_),bg⟩
  ·simp only[execOp,e1,q1,hu,adT,cK,adU,adS];rfl
  ·match j with
   |0=>simp at hy hv;subst hy;subst hv;exact bg.vd nD
   |1=>simp at hy hv;subst hy;subst hv;exact .int _ _
   |j+2=>simp at hy
theorem TN(hE:E.OK){t:Nat}{m st vo:Operand}{b:Nat}{es:List (DV × DV)}(hb:h[b]?=some (.map es))(hm:bh E.G s m (.map b)){n:Nat}{k0 x0 y:DV}(hn:es[n]?=some (k0,x0))(TO:bh E.G s st (.d (.int .i64 n)))(hy:bh E.G s vo (.d y)) :
  bz E (.entryStore t m st vo) s h (.d .undef) (h.set b (.map (es.set n (k0,y)))):=fun o c ac e1 e2 h3 h4=>by
 subst e2;have eS:=aX hb;obtain⟨blk,cap,en,ck,q1,q2,q3,qe,q4⟩:=w8 h3 hb (hm c ac h3 h4);have CJ:=TO c ac h3 h4;have mw:=hy c ac h3 h4;generalize hu:ac.eval st=u at CJ;generalize hw:ac.eval vo=w at mw;cases CJ with
 |d _ _ CJ=>cases CJ;cases mw with
  |d _ _ mw =>
   have hblk:blk<c.w.heap.size:=(h3.bB b blk cap q2).1;have hl:en.size=es.length:=by simpa using q4.1
   have hi:n<en.size:=by rw[hl];exact aX hn
   have kZ:en[n]?=some en[n]:=by simp[hi]
   have TP:=q4.2 n k0 x0 en[n] hn (by simp[hi]);have pc:en.findIdx? (fun e=>(e.born:Int)==(n:Int))=some n:=by
    rw[Array.findIdx?_eq_some_iff_getElem];refine⟨hi,?_,fun j hj=>?_⟩
    ·have:=qe.idx n _ kZ;simp[this]
    ·have:=qe.idx j en[j] (by rw[aev]);simp[this];omega
   have cK:(Instr.entryStore t (.map (some blk)) (.int .i64 n) w).run E.P c.w=.ok () { c.w with heap:=c.w.heap.setIfInBounds blk (.map (en.modify n fun e=>{ e with val:=w }) ck) }:=by
    have ha:(asInt (.int .i64 (n:Int))).run E.P c.w=.ok (n:Int) c.w:=rfl;simp only[Instr.entryStore,adT,adS,adU,qO q3,ha,pc,y9 _ q3]
   have hlen:n' (en.modify n fun e=>{ e with val:=w }) ck (es.set n (k0,y)).length:=by
    have pL:(en.modify n fun e=>{ e with val:=w })=(en.modify n fun e=>{ e with key:=en[n].key,val:=w }):=by
     apply agV;intro j;rw[aes,aes];by_cases hj:n=j
     ·subst hj;simp[hi]
     ·simp[hj]
    rw[pL,aeX];exact qe.modify n _ w
   have gg:∀ (j:Nat) (k v:DV) (mm:MapEntry),(es.set n (k0,y))[j]?=some (k,v)->(en.modify n fun e=>{ e with val:=w })[j]?=some mm->VD c.bad c.w k mm.key/\VD c.bad c.w v mm.val:=by
    intro j k v mm hj eE;by_cases lM:j=n
    ·subst lM;rw[aei (by omega)]at hj;cases hj;rw[aes,if_pos rfl,kZ]at eE;cases eE;exact⟨TP.1,mw⟩
    ·rw[aej (Ne.symm lM)]at hj;rw[aes,if_neg (Ne.symm lM)]at eE;exact q4.2 j k v mm hj (by simpa using eE)
   generalize en.modify n (fun e=>{ e with val:=w })=jc at cK hlen gg;generalize es.set n (k0,y)=ee at hlen gg ⊢
   let c':Cx:={ c with heap:=c.heap.set b (.map ee),w:={ c.w with heap:=c.w.heap.setIfInBounds blk (.map jc ck) } }
   have zc:c'.w.heap[blk]?=some (.map jc ck):=by simp[c',hblk]
   have sK:∀ b',b'≠blk->c'.w.heap[b']?=c.w.heap[b']? := fun b' cw=>by simp[c',af',Ne.symm cw]
   have qP:c'.heap[b]?=some (.map ee):=by show(c.heap.set b _)[b]?=_;rw[aei eS]
   have ki:∀ i,i≠b->c'.heap[i]?=c.heap[i]? := fun i hi=>by show(c.heap.set b _)[i]?=_;rw[aej (Ne.symm hi)]
   have bg:Step c c':=⟨rfl,h3.bS,rfl,rfl,rfl,by simp[c'],fun b' _ bI=>sK b' (fun oY=>bI b cap (oY ▸ q2)),fun i b' n hi _=>⟨n,hi⟩,fun i bx hi=>by
    by_cases bF:i=b
    ·subst bF;rw[hb]at hi;cases hi;exact .inl ⟨_,qP,rfl⟩
    ·exact ml hi (ki i bF) rfl⟩
   have aP:aM E.G c':=by
    refine h3.next bg (fun i b' n hi=>?_) h3.inj (fun i bx hi=>?_)
    ·have:=h3.bB i b' n hi;refine⟨by simpa [c']using this.1,?_⟩;show i<(c.heap.set b _).length;rw[aeX];exact this.2
    ·by_cases bF:i=b
     ·subst bF;rw[qP]at hi;cases hi;right;exact⟨blk,cap,jc,ck,q2,zc,hlen,fun j k v mm hj eE=>⟨bg.vd (gg j k v mm hj eE).1,bg.vd (gg j k v mm hj eE).2⟩⟩
     ·rw[ki i bF]at hi;exact .inl ⟨hi,rfl,fun b' n hn=>sK b' (fun oY=>bF (h3.inj i b blk n cap (oY ▸ hn) q2))⟩
   refine⟨c',undef,.inr ⟨?_,rfl⟩,rfl,aP,.d _ _ .undef,bg⟩;simp only[execOp,e1,q1,hu,hw,adT,cK,adU,adS];rfl
end
section
variable {E:Env} {aj:FuncId} {R:cF} {td:List aT} {s:List AV} {h:List af} {lits:List Nat} {ops:Array Oper} {o:Oper} {l:List Oper} {k:List aT}
theorem J.mapEntry(hE:E.OK)(z:DV)(zv:Value)(v:DV)(i:Nat)(ee:List (DV × DV)){t:Nat}{m x:Operand}(hg:o.guard=none)(cn:o.op=.mapEntry t m x)(iK:∀ bad w,VD bad w z zv)
  (H:aZ E.T t False fun ti=>match ti.k with
   | .map kt e=>cd E.G s m False fun
    | .map b=>aZ h b False fun
     | .map es=>cd E.G s x False fun
      | .d y=>w9 E kt False fun kd=>(du E.T kd y/\∀ p∈es,du E.T kd p.1)/\(∀ w,(zeroValue e).run E.P w=.ok zv w)/\((findD y es).getD z=v/\(fj y es).getD es.length=i/\bW y v es=ee) /\
       fG h b (.map ee) fun h'=>cg s o.dst (.d (.aF [v,.int .i64 i])) fun s'=>J E aj R lits (.bw ops l::k) s' h'
      |_=>False
     |_=>False
    |_=>False
   |_=>False):J E aj R lits (.bw ops (o::l)::k) s h:=by
 rcases bp H with H|⟨ti,bX,H⟩
 ·exact H.elim
 split at H
 ·rename_i kt e hk;rcases cu H with H|⟨a,ha,H⟩
  ·exact H.elim
  split at H
  ·rename_i b;rcases bp H with H|⟨bx,hb,H⟩
   ·exact H.elim
   split at H
   ·rename_i es;rcases cu H with H|⟨y,hy,H⟩
    ·exact H.elim
    split at H
    ·rename_i y;rcases BS H with H|⟨kd,hT,H⟩
     ·exact H.elim
     obtain⟨⟨f1,f2⟩,f3,⟨g1,g2,g3⟩,H⟩:=H;have ho:=TM hE bX hk hT hb ha hy f1 f2 f3 iK;rw[g1,g2,g3]at ho;rw[gF,dX]at H;rw[<- cn]at ho;exact .of (.op (gb hg) ho H.to)
    ·exact H.elim
   ·exact H.elim
  ·exact H.elim
 ·exact H.elim
theorem J.entryStore(hE:E.OK){t:Nat}{m st vo:Operand}(n:Nat){k0 x0:DV}(hg:o.guard=none)(cn:o.op=.entryStore t m st vo)
  (H:cd E.G s m False fun
    | .map b=>aZ h b False fun
     | .map es=>es[n]?=some (k0,x0)/\cd E.G s st False fun u=>u=.d (.int .i64 n)/\cd E.G s vo False fun
      | .d y=>fG h b (.map (es.set n (k0,y))) fun h'=>cg s o.dst (.d .undef) fun s'=>J E aj R lits (.bw ops l::k) s' h'
      |_=>False
     |_=>False
    |_=>False):J E aj R lits (.bw ops (o::l)::k) s h:=by
 rcases cu H with H|⟨a,ha,H⟩
 ·exact H.elim
 split at H
 ·rename_i b;rcases bp H with H|⟨bx,hb,H⟩
  ·exact H.elim
  split at H
  ·rename_i es;obtain⟨hn,H⟩:=H;rcases cu H with H|⟨u,hu,H⟩
   ·exact H.elim
   obtain⟨rfl,H⟩:=H;rcases cu H with H|⟨y,hy,H⟩
   ·exact H.elim
   split at H
   ·rename_i y;have ho:=TN hE (t:=t) hb ha hn hu hy;rw[gF,dX]at H;rw[<- cn]at ho;exact .of (.op (gb hg) ho H.to)
   ·exact H.elim
  ·exact H.elim
 ·exact H.elim
theorem J.entry{x:Operand}{it:Iter}{g1 g2:List bo}{pre:List Nat}{j:Nat}{kk y:DV}(hg:o.guard=none)(cn:o.op=.entry x)(p9:R.rows=g1 ++ .iter it::g2)(GG:it.seen=pre++[j])(hj:it.es[j]?=some (kk,y))(hx:bh E.G s x (.d (.raw (.pointer (some ⟨it.r,0,none⟩)))))
  (H:J E aj R lits (.bw ops l::k) (b8 s o.dst (.d (.aF [kk,y]))) h):J E aj R lits (.bw ops (o::l)::k) s h:=by
 refine .of ?_;unfold AW;intro c0 c t' eD h0 h1 h2 h3 hr br h4 h5 cs;subst h2;obtain⟨i,hi,eo,aP⟩:=nf (h1 _ (aeQ ..));have cI:(⟨t',marks R.fx.aN⟩:Act).eval x=.pointer (some ⟨it.r,0,none⟩):=by
  have:=hx c ⟨t',marks R.fx.aN⟩ h3 h4;generalize (⟨t',marks R.fx.aN⟩:Act).eval x=u at this;cases this with
  |d _ _ hq=>cases hq;rfl
 have r2:mo c0.w.heap.size c it:=br.all.each (.iter it) (by rw[p9];simp);obtain⟨z0,z1,z3,z2⟩:=r2.iter;obtain rfl:=z3 (by rw[GG];simp);have kg:j<it.en.size:=r2.lt j (by rw[GG];simp);have gg:it.en[j]?=some it.en[j]:=by simp[kg]
 have bG:=r2.val j kk y it.en[j] hj gg;have TQ:((it.seen.map fun j=>((it.en[j]?).map (·.born)).getD 0).toArray).back?=some j:=by
  rw[GG];simp[gg,r2.cB.idx j _ gg]
 have pc:it.en.find? (fun e=>e.born==j)=some it.en[j]:=by
  rw[Array.find?_eq_some_iff_getElem];refine⟨by simp[r2.cB.idx j _ gg],j,kg,rfl,fun q hq=>?_⟩;have:=r2.cB.idx q it.en[q] (by rw[aev]);simp[this];omega
 have dE:(getObj it.r).run E.P c.w=.ok (.mapIter (some it.bm) it.since ((it.seen.map fun j=>((it.en[j]?).map (·.born)).getD 0).toArray) it.ck) c.w:=by simp[getObj,Sem.run,z2]
 have cK:(execOp (⟨t',marks R.fx.aN⟩:Act).eval o).run E.P c.w=.ok (.value (.tuple #[it.en[j].key,it.en[j].val])) c.w:=by
  simp only[execOp,cn,cI,Instr.entry,adT,adS,adU,dE,TQ,qO r2.map,bne_self_eq_false,aet,if_false,pc]
 have eT:VS c (b8 s o.dst (.d (.aF [kk,y]))) ((⟨t',marks R.fx.aN⟩:Act).put o.dst (.tuple #[it.en[j].key,it.en[j].val])).tmps :=
  VS.b8 (a:=⟨t',marks R.fx.aN⟩) h4 o.dst (.d _ _ (.aF _ _ rfl fun p z v hz hv=>by
   match p with
   |0=>simp at hz hv;subst hz;subst hv;exact bG.1
   |1=>simp at hz hv;subst hz;subst hv;exact bG.2
   |p+2=>simp at hz))
 have H:=H.to;unfold AW at H;obtain⟨c2,fr,rr,u,e1,e2,e3,e4,e5,e6⟩:=H c0 c _ eD h0 (gP aP (ek h1)) rfl h3 hr br eT h5 cs;refine⟨c2,fr,rr,u,e1,e2,e3,e4,.head ?_ e5,e6⟩;simp only[ca.bK,ad0,eo];rw[wQ hi (gb hg c t' h4) (.inl cK),put_defers];rfl
theorem J.TR(d:Nat)(ts:Nat × Nat)(jb:0<ts.2)(hd:s[d]?=some (.d (.raw (.slice none 0 0))))(H:J E aj R lits td (s.set d (.own h.length 0)) (h++[.arr 0 ts []])):J E aj R lits td s h:=by
 replace H:=H.to;refine .of (.kU (fun c t eD h1 h2 h3 h4 h5=>?_) H);subst h2
 let c':Cx:={ c with heap:=c.heap++[.arr 0 ts []] }
 have bI:c.own c.heap.length=none:=by
  cases ho:c.own c.heap.length with
  |none=>rfl
  |some p=>have:=(h3.bB _ p.1 p.2 ho).2;omega
 have bg:Step c c':=⟨rfl,h3.bS,rfl,rfl,rfl,aed _,fun _ _ _=>rfl,fun i b n hi _=>⟨n,hi⟩,fun i bx hi=>ml hi (ael (aX hi)) rfl⟩;have dF:c'.heap[c.heap.length]?=some (.arr 0 ts []):=by show(c.heap++_)[_]?=_;simp
 have aP:aM E.G c':=h3.next bg (fun i b n hi=>⟨(h3.bB i b n hi).1,by have:=(h3.bB i b n hi).2;show i<(c.heap++_).length;simp;omega⟩) h3.inj (fun i bx hi=>by
  by_cases ga:i=c.heap.length
  ·subst ga;rw[dF]at hi;cases hi;exact .inr ⟨jb,fun i e he=>by simp at he,.inl ⟨bI,rfl⟩⟩
  ·have ah : i < c.heap.length := by have := aX hi;have h2 : c'.heap.length=c.heap.length+1 := by show(c.heap ++ _).length=_;simp
                                     omega
   have cj:(c.heap++[.arr 0 ts []])[i]?=some bx:=hi;rw[ael ah]at cj
   exact .inl ⟨cj,rfl,fun _ _ _=>rfl⟩)
 refine⟨c',t,eD,h1,rfl,aP,?_,bg.cr h5,bg,fun _ => .refl _ _⟩;have ik:d<t.size:=by rw[<- h4.1];exact aX hd
 have hv:t[d]=.slice none 0 0:=by
  have:=h4.2 d _ t[d] hd (by simp[ik]);generalize t[d]=u at this;cases this with
  |d _ _ hv=>cases hv;rfl
 have:=VS.put (bg.vs h4) d (x := .own c.heap.length 0) (v:=t[d]) (by rw[hv];exact .iH _ _ ts dF bI)
 simpa [Array.setIfInBounds,ik]using this
theorem J.CK{b:Code}{κ:Type}(gq:List Nat)(vars:κ->List (Nat × AV))(boxes:κ->List (Nat × af))(rows:κ->List bo)(Φ:κ->Prop)(μ:κ->Nat)(x0:κ)(h0:Φ x0)(hR:R.rows=rows x0)
  (o4:uQ gq (nw (boxes x0)) (vars x0) (boxes x0) s h fun s' h'=>xt h h' R.fx (xq R.n h s h' s'))
  (s8:∀ x,Φ x->(∀ y,Φ y->μ y<μ x->J E aj ⟨R.n,R.Q,rows y,R.fx⟩ [] (.inLoop b::k) (lP (vars y) (anyS gq (lR (nw (boxes x0)) s))) (lQ (boxes y) h))->J E aj ⟨R.n,R.Q,rows x,R.fx⟩ [] (.code b :: .inLoop b::k) (lP (vars x) (anyS gq (lR (nw (boxes x0)) s))) (lQ (boxes x) h)) :
  J E aj R lits (.code (.loop b)::k) s h:=by
 have e:R=⟨R.n,R.Q,rows x0,R.fx⟩:=by cases R;simp only at hR;subst hR;rfl
 have main:∀ n x,μ x<n->Φ x->J E aj ⟨R.n,R.Q,rows x,R.fx⟩ [] (.inLoop b::k) (lP (vars x) (anyS gq (lR (nw (boxes x0)) s))) (lQ (boxes x) h):=by
  intro n
  induction n with
  |zero=>intro x hx;omega
  |succ n ih=>intro x hx hP;exact .of (.inLoop (s8 x hP fun y hy hm=>ih y (by omega) hy).to)
 rw[zI]at o4;rw[e];exact .of (.loop (.weaken o4 (s8 x0 h0 fun y hy _=>main (μ y+1) y (by omega) hy).to))
end
end Go.aA
end
section
namespace Go.aA
open Go Go.RowKit
section
variable {E:Env} {aj:FuncId} {R:cF} {s:List AV} {h:List af} {ops:Array Oper} {o:Oper} {l:List Oper} {k:List aT}
theorem J.TS{lits:List Nat}{x y:Operand}{ts:Array TypeId}{a b:Int}(hg:o.guard=none)(cn:o.op=.call { callee := .builtin .min,args := #[x,y],argTypes:=ts })(hx:bh E.G s x (.d (.int .i64 a)))(hy:bh E.G s y (.d (.int .i64 b)))
  (H:J E aj R lits (.bw ops l::k) (b8 s o.dst (.d (.int .i64 (min a b)))) h):J E aj R lits (.bw ops (o::l)::k) s h:=by
 refine .of (.op (gb hg) ?_ H.to);rw[cn];refine .quiet fun o c ac e1 e2 h3 h4=>⟨.int .i64 (min a b),?_,.d _ _ (.int _ _)⟩;have q1:=ef (hx c ac h3 h4);have q2:=ef (hy c ac h3 h4);have q3:(if b<a then b else a)=min a b:=by
  rcases Int.lt_or_le b a with q|q
  ·rw[if_pos q,Int.min_eq_right (Int.le_of_lt q)]
  ·rw[if_neg (Int.not_lt.2 q),Int.min_eq_left q]
 simp only[execOp,e1,resolve,invoke,builtin,Builtin.min_,Builtin.min2,agT,ad0,agU,q1,q2,List.foldlM_cons,List.foldlM_nil,adT,adS,adU,pure_bind,bind_pure,q3]
end
end Go.aA
end
section
namespace Go.aA
open Go Go.RowKit
section
variable {E:Env} {aj:FuncId} {R:cF} {s:List AV} {h:List af} {lits:List Nat} {ops:Array Oper} {o:Oper} {l:List Oper} {k:List aT}
theorem TT(hE:E.OK){t e len m:Nat}{x i:Operand}{ti ei:bu}{cs:List AV}{j:IntKind}{n:Int}{v:AV}(ht:E.T[t]?=some ti)(hk:ti.k=.array len e)(wZ:E.T[e]?=some ei)(GH:ei.k.agg=false)(pT:ei.size=1)
  (hx:bh E.G s x (.agg cs)) (hi:bh E.G s i (.d (.int j n))) (hn:n=(m:Int)) (hm:m<len) (hv:cs[m]?=some v):bz E (.index t x i) s h v h := .quiet fun o c ac e1 _ h3 h4=>by
 subst hn;have cI:=hx c ac h3 h4;have TU:=ef (hi c ac h3 h4);obtain⟨wN,d,g1,g2,g3,-⟩:=cC (hE.types t ti ht);obtain rfl:=wI (hk.symm.trans g3);generalize hp:ac.eval x=p at cI;cases cI with
 |agg _ vs hlen bG =>
  have Gx:=aX hv;have hu:vs.toList[m]?=some (vs[m]'(by omega)):=by simp[show m<vs.size by omega]
  have xx:vs[m]?=some (vs[m]'(by omega)):=by simp[show m<vs.size by omega]
  refine⟨_,?_,bG m v _ hv xx⟩;have LX:=yG (hE.types e ei wZ) c.w vs.toList m _ hu GH;have bR:=run_sizeOf (hE.types e ei wZ) c.w;have h0:(0:Int)<=m/\(m:Int)<(len:Int):=⟨by omega,by omega⟩;simp only[agS]at LX;simp[execOp,e1,hp,TU,Instr.index,asIntOf,run_underlying g2,h0,bR,pT,LX];intro qc;omega
theorem J.tj(hE:E.OK)(m:Nat){t e len:Nat}{x i:Operand}{ti ei:bu}{cs:List AV}{j:IntKind}{n:Int}{v:AV}(hg:o.guard=none)(cn:o.op=.index t x i)(ht:E.T[t]?=some ti)(hk:ti.k=.array len e)(wZ:E.T[e]?=some ei)(GH:ei.k.agg=false)(pT:ei.size=1)
  (hx:bh E.G s x (.agg cs)) (hi:bh E.G s i (.d (.int j n))) (hn:n=(m:Int)) (hm:m<len) (hv:cs[m]?=some v)
  (H:J E aj R lits (.bw ops l::k) (b8 s o.dst v) h):J E aj R lits (.bw ops (o::l)::k) s h:=by
 refine .of (.op (gb hg) ?_ H.to);rw[cn];exact TT hE ht hk wZ GH pT hx hi hn hm hv
end
section
variable {E:Env} {aj:FuncId} {R:cF} {s:List AV} {h:List af} {td:List aT}
end
end Go.aA
end
