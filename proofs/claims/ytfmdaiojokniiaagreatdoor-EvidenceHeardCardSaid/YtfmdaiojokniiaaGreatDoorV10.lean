/- Several texts of mine, one behind the other. Conditions: as each says. -/
import Derived.Test.YtfmdaiojokniiaaGreatDoorV6
import Derived.Lib.BufferMore
import Derived.Lib.LazyBuf
import Derived.Laws.CopyRow
set_option linter.unusedVariables false
set_option linter.unusedSimpArgs false
section
namespace Go.aw
open Go Go.RowKit
section
variable {E:Env} {ag:FuncId} {R:cw} {s:List AV} {h:List ae} {lits:List Nat} {ops:Array Oper} {o:Oper} {l:List Oper} {k:List aN}
theorem Pm (op:BinOp) (t:TypeId) (x y:Operand) (p q:Option Addr) (a b c d:Nat):eqGuard op t x y (.slice p a b) (.slice q c d)=pure ():=by
 unfold eqGuard; cases op <;> rfl
theorem I.kI (hE:E.OK) {t e:Nat} {x:Operand} {yt:Nat} {m:List DV} {ti:bp} (hg:o.guard=none) (ca:o.op = .binOp .eql t x (.const (.slice none 0 0)) yt) (bP:E.T[t]? = some ti) (hk:ti.k = .slice e) (hx:aY E.G s x (.d (.sl m)))
  (H:∀ b,(b=true→m=[])→I E ag R lits (.bq ops l::k) (b9 s o.dst (.d (.bool b))) h):I E ag R lits (.bq ops (o::l)::k) s h:=by
 refine .of ?_;unfold AW;intro c0 c t' dJ h0 h1 h2 h3 hr bF h4 h5 cs;subst h2;obtain ⟨i,hi,dA,aO⟩:=lh (h1 _ (List.mem_cons_self ..));obtain ⟨lr,d,g1,g2,g3,-⟩:=cj (hE.types t ti bP);obtain rfl:=kv (hk.symm.trans g3);have hv:=hx c ⟨t',marks R.fx.aI⟩ h3 h4;have fin:∀ (p:Option Addr) (n cp:Nat) (b:Bool),(⟨t',marks R.fx.aI⟩:Act).eval x = .slice p n cp→(binOp .eql t (.slice p n cp) (.slice none 0 0)).run E.P c.w = .ok (.bool b) c.w→(execOp (⟨t',marks R.fx.aI⟩:Act).eval o).run E.P c.w = .ok (.value (.bool b)) c.w:=fun p n cp b e1 e2=>by
  have nt:(⟨t',marks R.fx.aI⟩:Act).eval (.const (.slice none 0 0)) = .slice none 0 0:=rfl;simp only [execOp,ca,e1,nt,Pm,Sem.run_bind,Sem.run_pure,Result.andThen_ok,e2]
 have key:∃ b,(b=true→m=[])∧(execOp (⟨t',marks R.fx.aI⟩:Act).eval o).run E.P c.w = .ok (.value (.bool b)) c.w:=by
  generalize hu:(⟨t',marks R.fx.aI⟩:Act).eval x=u at hv;cases hv with
  |d _ _ hv=>cases hv with
   |slnil=>exact ⟨true,fun _=>rfl,fin _ _ _ _ hu (Lib.run_eql_slice_nil_nil c.w 0 0 g2)⟩
   |jJ a=>exact ⟨false,fun _=>rfl,fin _ _ _ _ hu (Lib.run_eql_slice_some_nil c.w a 0 0 g2)⟩
   |sl _ blk off cap sz f=>exact ⟨false,fun q=>(by cases q),fin _ _ _ _ hu (Lib.run_eql_slice_some_nil c.w _ _ _ g2)⟩
 obtain ⟨b,hb,cn⟩:=key;have H:=(H b hb).to;unfold AW at H;have eF:VS c (b9 s o.dst (.d (.bool b))) ((⟨t',marks R.fx.aI⟩:Act).put o.dst (.bool b)).tmps:=VS.b9 (a:=⟨t',marks R.fx.aI⟩) h4 o.dst (.d _ _ (.bool b));obtain ⟨c2,fr,rr,u,e1,e2,e3,e4,e5,e6⟩:=H c0 c _ dJ h0 (fD aO (dK h1)) rfl h3 hr bF eF h5 cs;refine ⟨c2,fr,rr,u,e1,e2,e3,e4,.head ?_ e5,e6⟩;simp only [bU.bB,List.map_cons,dA];rw [tI hi (fZ hg c t' h4) (.inl cn),put_defers];rfl
end
end Go.aw
end
section
namespace Go.aw
open Go Go.RowKit
section
variable {G:List (Nat × DV)} {c:Cx}
theorem aK.rewrite (ho:aK G c) {b g blk cap:Nat} {ts:Nat × Nat} {l l':List DV} {vs vs':Array Value} {w':World} (hb:c.heap[b]? = some (.arr g ts l)) (bA:c.own b=some (blk,cap)) (hblk:c.w.heap[blk]? = some (.cells vs ts.1 (0,0)))
  (hl:l'.length=l.length) (dx:∀ (i:Nat) (e:DV),l'[i]? = some e→e.cells.length=ts.2) (bQ:vs'.size=vs.size) (BO:w'.os=c.w.os) (ht:w'.tape=c.w.tape) (Pn:w'.output=c.w.output) (hs:w'.heap.size=c.w.heap.size)
  (xo:∀ x,x≠blk→w'.heap[x]? = c.w.heap[x]?) (gV:w'.heap[blk]? = some (.cells vs' ts.1 (0,0)))
  (hv:∀ (i j:Nat) (e x:DV),l'[i]? = some e→e.cells[j]? = some x→∃ v,vs'[i*ts.2+j]? = some v∧v.oneCell'=true∧VD c.bad c.w x v) :
  aK G { c with heap:=c.heap.set b (.arr g ts l'),w:=w' }∧Step c { c with heap:=c.heap.set b (.arr g ts l'),w:=w' }:=by
 have eu:=aR hb
 have bc:Step c { c with heap:=c.heap.set b (.arr g ts l'),w:=w' }:=⟨rfl,ho.bN,BO,ht,Pn,by show _≤w'.heap.size; rw [hs]; exact Nat.le_refl _,fun x _ hn=>xo x (fun e=>by subst e; exact hn b cap bA),fun i x n hi _=>⟨n,hi⟩,fun i bx hi=>by
  by_cases bz:i=b
  ·subst bz;rw [hb] at hi;cases hi;exact .inl ⟨g,l',List.getElem?_set_self eu,.inr ⟨rfl,hl,rfl⟩⟩
  ·exact lb hi (List.getElem?_set_ne (Ne.symm bz)) rfl⟩
 refine ⟨ho.next bc (fun i x n hi=>?_) ho.inj (fun i bx hi=>?_),bc⟩
 ·have:=ho.br i x n hi;refine ⟨by show x<w'.heap.size; rw [hs]; exact this.1,?_⟩;show i<(c.heap.set b _).length;rw [List.length_set]; exact this.2
 ·by_cases bz:i=b
  ·subst bz;have bY:(c.heap.set i (.arr g ts l'))[i]? = some bx:=hi;rw [List.getElem?_set_self eu] at bY;cases bY;right;obtain ⟨q0,q1,q2⟩:=ho.box i _ hb;rcases q2 with ⟨q2,-⟩ | ⟨iK,il,Xu,q2,q3,q4,q5,q6,q7⟩
   ·rw [bA] at q2; cases q2
   rw [bA] at q2;cases q2;rw [hblk] at q3;cases q3;refine ⟨q0,dx,.inr ⟨blk,cap,vs',bA,gV,by rw [bQ]; exact q4,by rw [hl]; exact q5,q6,fun i j e x he hx=>?_⟩⟩;obtain ⟨v,k1,k2,k3⟩:=hv i j e x he hx;exact ⟨v,k1,k2,bc.vd k3⟩
  ·have bY:(c.heap.set b (.arr g ts l'))[i]? = some bx:=hi;rw [List.getElem?_set_ne (Ne.symm bz)] at bY;exact .inl ⟨bY,rfl,fun x n hn=>xo x (fun e=>by subst e; exact bz (ho.inj i b _ n cap hn bA))⟩
theorem H6 {P:Program} (w:World) (dT sT ty elem:TypeId) (g Dn Po:Nat) (a:Addr) (Dp Pp sz:Nat) (cur:Array Value) (t:TypeId) (cs:List Value)
  (hu:P.underlying dT=some (.slice elem)) (hs:(P.info? elem).map (·.size)=some sz)
  (hg:w.heap[g]? = some (.cells cur t (0,0))) (hn:cs.length=Nat.min Dp Dn*sz)
  (tP:∀ j v,cs[j]? = some v→w.cell? (a.add j)=some v) (gz:cs.length≤cur.size) (h1:∀ v∈cs,v.oneCell'=true) :
  (Builtin.copy_ #[dT,sT] ty #[.slice (some ⟨g,0,none⟩) Dn Po,.slice (some a) Dp Pp]).run P w =
   .ok (goInt (Nat.min Dp Dn)) (w.setRow g (cs++cur.toList.drop cs.length).toArray):=by
 have hl:=run_loadCells_list (P:=P) w a cs tP;have bc:=run_storeCells_at P g 0 t cs 0 cur w hg (by simpa using gz) h1;simp only [Nat.add_zero,List.take_zero,List.nil_append,Nat.zero_add] at bc;cases hq:P.info? elem with
 |none=>simp [hq] at hs
 |some i =>
  have hi:i.size=sz:=by simpa [hq] using hs
  simp [Builtin.copy_,run_underlying hu,Builtin.lenOf,Builtin.firstCells,sizeOf,typeInfo,hq,hi,← hn,hl,bc]
end
section
variable {E:Env} {ag:FuncId} {R:cw} {s:List AV} {h:List ae} {lits:List Nat} {ops:Array Oper} {o:Oper} {l:List Oper} {k:List aN}
theorem H7 (hE:E.OK) {dT sT e b g:Nat} {x y:Operand} {i ei:bp} {ts:Nat × Nat} {l m:List DV} (hi:E.T[dT]? = some i) (hk:i.k = .slice e) (bR:E.T[e]? = some ei) (gU:ts.2=ei.size) (hb:h[b]? = some (.arr g ts l)) (aJ:l≠[])
  (hx:aY E.G s x (.own b g)) (hy:aY E.G s y (.d (.sl m))) (hm:∀ z∈m,z.cells.length=ts.2) :
  bC E (.call { callee := .builtin .copy,args := #[x,y],argTypes := #[dT,sT] }) s h (.d (.int .i64 (min m.length l.length:Nat))) (h.set b (.arr g ts (m.take l.length++l.drop m.length))):=by
 intro o c a e1 e2 e3 e4;subst e2;obtain ⟨vQ,d,q1,q2,q3,-⟩:=cj (hE.types dT i hi);obtain rfl:=kv (hk.symm.trans q3);obtain ⟨tie,de,p1,p2,p3,p4,-⟩:=cj (hE.types e ei bR);obtain ⟨b0,b1,b2⟩:=e3.box b _ hb;rcases ln hb (hx c a e3 e4) with ⟨blk,cap,r1,r2⟩ | ⟨r,-,-⟩
 case inr=>exact absurd r aJ
 rcases b2 with ⟨b2,-⟩ | ⟨iK,il,vs,b2,b3,b4,b5,b6,b7⟩
 ·rw [r1] at b2; cases b2
 rw [r1] at b2;cases b2;have fb:=hy c a e3 e4;have key:∃ (cs:List Value) (sv:Value),a.eval y=sv∧cs.length=min m.length l.length*ts.2∧(∀ v∈cs,v.oneCell'=true) ∧
   (∀ (i j:Nat) (e z:DV),i<l.length→m[i]? = some e→e.cells[j]? = some z→∃ v,cs[i*ts.2+j]? = some v∧v.oneCell'=true∧VD c.bad c.w z v) ∧
   (Builtin.copy_ #[dT,sT] o.type #[.slice (some ⟨blk,0,none⟩) l.length cap,sv]).run E.P c.w = .ok (goInt ((min m.length l.length:Nat):Int)) (c.w.setRow blk (cs++vs.toList.drop cs.length).toArray):=by
  have Pq:c.w.setRow blk (([]:List Value)++vs.toList.drop ([]:List Value).length).toArray=c.w:=by
   simp only [List.nil_append,List.length_nil,List.drop_zero,Array.toArray_toList];exact setRow_self c.w blk vs ts.1 (0,0) b3
  have bQ:(E.P.info? e).map (·.size)=some ts.2:=by rw [p1,Option.map_some,gU,← p4]
  generalize hu:a.eval y=u at fb;cases fb with
  |d _ _ hv=>cases hv with
   |slnil =>
    refine ⟨[],_,rfl,by simp,fun v hv=>by simp at hv,fun i j e z _ he=>by simp at he,?_⟩;rw [Pq];have Dq:min ([]:List DV).length l.length=0:=by simp
    rw [Dq];have:=run_copy_nil (P:=E.P) c.w dT sT o.type e ⟨blk,0,none⟩ l.length cap q2 (by rw [p1]; rfl)
    simpa using this
   |jJ a' =>
    refine ⟨[],_,rfl,by simp,fun v hv=>by simp at hv,fun i j e z _ he=>by simp at he,?_⟩;have Dq:min ([]:List DV).length l.length=0:=by simp
    rw [Dq];have:=H6 (P:=E.P) c.w dT sT o.type e blk l.length cap a' 0 0 ts.2 vs ts.1 [] q2 bQ b3 (by simp) (fun j v hj=>by simp at hj) (by simp) (fun v hv=>by simp at hv)
    simpa using this
   |sl _ Dr off Pr sz f h1 h2 h3 h4 h5 h6 h7 =>
    have facts:∀ q,q<min m.length l.length*ts.2→∃ e z,m[q / ts.2]? = some e∧e.cells[q % ts.2]? = some z∧sz=ts.2:=fun q hq=>by
     have hi:q / ts.2<min m.length l.length:=Nat.div_lt_of_lt_mul (by rw [Nat.mul_comm]; exact hq);have hj:q % ts.2<ts.2:=Nat.mod_lt _ b0;obtain ⟨z,hz⟩:∃ z,m[q / ts.2]? = some z:=⟨m[q / ts.2]'(by omega),by rw [List.getElem?_eq_getElem]⟩;have rl:=hm z (List.mem_of_getElem? hz);have nO:=h4 _ z hz;exact ⟨z,z.cells[q % ts.2]'(by omega),hz,by rw [List.getElem?_eq_getElem],by omega⟩
    have hlen:((List.range (min m.length l.length*ts.2)).map fun q=>f (q / ts.2) (q % ts.2)).length=min m.length l.length*ts.2:=by simp
    have dX:∀ q v,((List.range (min m.length l.length*ts.2)).map fun q=>f (q / ts.2) (q % ts.2))[q]? = some v→q<min m.length l.length*ts.2∧v=f (q / ts.2) (q % ts.2):=fun q v hq=>by
     have aj:=aR hq;rw [hlen] at aj;refine ⟨aj,?_⟩;simp [aj] at hq;exact hq.symm
    refine ⟨_,_,rfl,hlen,fun v hv=>?_,fun i j e z hi he hz=>?_,?_⟩
    ·obtain ⟨q,hq⟩:=List.getElem?_of_mem hv;obtain ⟨jz,rfl⟩:=dX q v hq;obtain ⟨e,z,g1,g2,g3⟩:=facts q jz;exact h7 _ _ e z g1 g2
    ·have hj:j<ts.2:=by rw [← hm e (List.mem_of_getElem? he)]; exact aR hz
     have Xv:=aR he;have hq:i*ts.2+j<min m.length l.length*ts.2:=by
      have h1:(i+1)*ts.2≤min m.length l.length*ts.2:=Nat.mul_le_mul_right _ (by omega);rw [Nat.add_mul] at h1;omega
     have ed:(i*ts.2+j) / ts.2=i:=by rw [Nat.mul_comm,Nat.mul_add_div b0,Nat.div_eq_of_lt hj]; omega
     have em:(i*ts.2+j) % ts.2=j:=by rw [Nat.mul_comm,Nat.mul_add_mod,Nat.mod_eq_of_lt hj]
     exact ⟨f i j,by simp [hq,ed,em],h7 i j e z he hz,h6 i j e z he hz⟩
    ·have gz:((List.range (min m.length l.length*ts.2)).map fun q=>f (q / ts.2) (q % ts.2)).length≤vs.size:=by
      rw [hlen,b4];exact Nat.mul_le_mul_right _ (by omega)
     exact H6 (P:=E.P) c.w dT sT o.type e blk l.length cap ⟨Dr,off,none⟩ m.length Pr ts.2 vs ts.1 _ q2 bQ b3 hlen (fun q v hq=>by
      obtain ⟨jz,rfl⟩:=dX q v hq;obtain ⟨e,z,g1,g2,g3⟩:=facts q jz;have:=h5 _ _ e z g1 g2;subst g3;rw [Nat.mul_comm,Nat.div_add_mod] at this;have zj:(⟨Dr,off,none⟩:Addr).add q=⟨Dr,off+q,none⟩:=by unfold Addr.add; split <;> simp_all
      rw [zj];exact this) gz (fun v hv=>by
      obtain ⟨q,hq⟩:=List.getElem?_of_mem hv;obtain ⟨jz,rfl⟩:=dX q v hq;obtain ⟨e,z,g1,g2,g3⟩:=facts q jz
      exact h7 _ _ e z g1 g2)
 obtain ⟨cs,sv,k1,k2,k3,k4,k5⟩:=key;have Xw:cs.length≤vs.size:=by rw [k2,b4]; exact Nat.mul_le_mul_right _ (by omega)
 have Xx:blk<c.w.heap.size:=(e3.br b blk cap r1).1;have Ps:=e3.rewrite (l':=m.take l.length++l.drop m.length) (vs':=(cs++vs.toList.drop cs.length).toArray) (w':=c.w.setRow blk (cs++vs.toList.drop cs.length).toArray) hb r1 b3 (by simp; omega) (fun i e he=>?_) (by simp; omega) rfl rfl rfl (by simp [World.setRow]) (fun x hx=>by simp [World.setRow,Array.getElem?_modify,Ne.symm hx]) (by simp [World.setRow,Array.getElem?_modify,b3]) (fun i j e z he hz=>?_)
 ·obtain ⟨aO,bc⟩:=Ps;refine ⟨_,.int .i64 (min m.length l.length:Nat),.inl ?_,rfl,aO,.d _ _ (.int _ _),bc⟩;simp only [execOp,e1,resolve,invoke,builtin,List.map_toArray,List.map_cons,List.map_nil,r2,k1,Sem.run_bind,Sem.run_pure,Result.andThen_ok,k5];rfl
 ·rcases Nat.lt_or_ge i (m.take l.length).length with h | h
  ·rw [List.getElem?_append_left h] at he;exact hm e (List.mem_of_mem_take (List.mem_of_getElem? he))
  ·rw [List.getElem?_append_right h] at he;exact b1 _ e (by rw [List.getElem?_drop] at he; exact he)
 ·have hj:∀ z:DV,z.cells.length=ts.2→∀ w,z.cells[j]? = some w→j<ts.2:=fun z hz w hw=>by rw [← hz]; exact aR hw
  rcases Nat.lt_or_ge i (m.take l.length).length with h | h
  ·rw [List.getElem?_append_left h,List.getElem?_take] at he;have fL:i<l.length:=by simp at h; omega
   rw [if_pos fL] at he;obtain ⟨v,v1,v2,v3⟩:=k4 i j e z fL he hz;refine ⟨v,?_,v2,v3⟩;rw [List.getElem?_toArray,List.getElem?_append_left (aR v1)];exact v1
  ·rw [List.getElem?_append_right h] at he;rw [List.getElem?_drop] at he;have hlen:(m.take l.length).length=min m.length l.length:=by simp; omega
   rw [hlen] at he h;have H8:m.length<l.length:=by
    have:=aR he;omega
   have H9:min m.length l.length=m.length:=by omega
   rw [H9] at he h;rw [show m.length+(i - m.length)=i by omega] at he;obtain ⟨v,v1,v2,v3⟩:=b7 i j e z he hz;refine ⟨v,?_,v2,v3⟩;have nX:cs.length≤i*ts.2+j:=by
    rw [k2,H9];have:=Nat.mul_le_mul_right ts.2 h;omega
   rw [List.getElem?_toArray,List.getElem?_append_right nX,List.getElem?_drop,show cs.length+(i*ts.2+j - cs.length)=i*ts.2+j by omega]
   simpa using v1
theorem I.Ia (hE:E.OK) {dT sT:Nat} {x y:Operand} (hg:o.guard=none) (ca:o.op = .call { callee := .builtin .copy,args := #[x,y],argTypes := #[dT,sT] })
  (H:aM E.T dT False fun i=>match i.k with
   | .slice e=>aM E.T e False fun ei=>bW E.G s x False fun
    | .own b g=>aM h b False fun
     | .arr g' ts l'=>match Nat.beq g g' with
      |true=>bW E.G s y False fun
       | .d (.sl m)=>need (l'≠[]∧ts.2=ei.size∧∀ z∈m,z.cells.length=ts.2) (fy h b (.arr g ts (m.take l'.length++l'.drop m.length)) fun h'=>cb s o.dst (.d (.int .i64 (min m.length l'.length:Nat))) fun s'=>I E ag R lits (.bq ops l::k) s' h')
       |_=>False
      |false=>False
     |_=>False
    |_=>False
   |_=>False):I E ag R lits (.bq ops (o::l)::k) s h:=by
 rcases a7 H with H | ⟨i,hi,H⟩
 ·exact H.elim
 split at H
 case h_2=>exact H.elim
 rename_i e hk;rcases a7 H with H | ⟨ei,bR,H⟩
 ·exact H.elim
 rcases b8 H with H | ⟨v,hv,H⟩
 ·exact H.elim
 split at H
 case h_2=>exact H.elim
 rename_i b g;rcases a7 H with H | ⟨bx,hb,H⟩
 ·exact H.elim
 split at H
 case h_2=>exact H.elim
 rename_i g' ts l';split at H
 case h_2=>exact H.elim
 rename_i q;have q:=Nat.eq_of_beq_eq_true q;subst q;rcases b8 H with H | ⟨u,hu,H⟩
 ·exact H.elim
 split at H
 case h_2=>exact H.elim
 rename_i m;obtain ⟨⟨n1,n2,n3⟩,H⟩:=lj H;rw [fY,dR] at H;refine .of (.op (fZ hg) ?_ H.to);rw [ca];exact H7 hE hi hk bR n2 hb n1 hv hu n3
end
end Go.aw
end
section
namespace Go.aw
open Go Go.RowKit
theorem fz.mid {lim:Nat} {c:Cx} {g1 g2:List bk} {g:bk} (h:fz lim c (g1++g2)) (hg:gR lim c g) (hn:g.cd.Nodup) (hd:∀ x∈g.cd,x ∉ (g1++g2).flatMap bk.cd):fz lim c (g1++g::g2):=by
 refine ⟨fun r hr=>?_,?_⟩
 ·rcases List.mem_append.1 hr with hr | hr
  ·exact h.each r (List.mem_append_left _ hr)
  ·rcases List.mem_cons.1 hr with rfl | hr
   ·exact hg
   ·exact h.each r (List.mem_append_right _ hr)
 ·have hp:((g1++g::g2).flatMap bk.cd).Perm (g.cd++(g1++g2).flatMap bk.cd):=by
   have:=(List.perm_middle (a:=g) (l₁ := g1) (l₂ := g2)).flatMap_right bk.cd
   simpa using this
  rw [hp.nodup_iff,List.nodup_append];exact ⟨hn,h.nodup,fun x hx y hy e=>by subst e; exact hd x hx hy⟩
section
variable {lim:Nat} {c:Cx} {rows L:List bk}
theorem dz.push {g:bk} (h:dz lim c rows L) (hg:gR lim c g) (hn:g.cd.Nodup) (hd:∀ x∈g.cd,x ∉ (rows++L).flatMap bk.cd):dz lim c rows (g::L):=⟨h.all.mid hg hn hd,h.flat⟩
theorem dz.pop {g:bk} (h:dz lim c rows (g::L)):dz lim c rows L∧gR lim c g∧∀ x∈g.cd,x ∉ (rows++L).flatMap bk.cd:=by
 obtain ⟨h1,h2,h3⟩:=h.all.uH;exact ⟨⟨h1,h.flat⟩,h2,h3⟩
theorem dz.old {G:List (Nat × DV)} (h:dz lim c rows L) (ho:aK G c) {b:Nat} (hb:b∈(rows++L).flatMap bk.cd):b<c.w.heap.size:=by
 obtain ⟨g,hg,hx⟩:=List.mem_flatMap.1 hb;exact ho.bN _ ((h.all.each g hg).ax _ hx)
theorem Touch.putObj {l:Nat} {o:Obj} (hb:c.ax l):Touch c l (c.w.putObj l o):=⟨hb,rfl,rfl,rfl,World.putObj_size,fun _ h=>World.putObj_heap_other h⟩
theorem dz.Ib {n r:Nat} {g g':bk} {w':World} (h:dz lim c rows L) (hl:L[n]? = some g) (hb:g.cd=[r]) (bZ:g'.cd=[r]) (ht:Touch c r w') (hg:gR lim (c.dP w') g'):dz lim (c.dP w') rows (L.set n g'):=by
 have aj:=aR hl;have e1:L=L.take n++g::L.drop (n+1):=by
  have wX:L[n]=g:=(List.getElem?_eq_some_iff.1 hl).2;rw [← wX,List.getElem_cons_drop,List.take_append_drop]
 have e2:L.set n g'=L.take n++g'::L.drop (n+1):=by
  rw [List.set_eq_take_append_cons_drop,if_pos aj]
 have h1:=h.all;rw [e1,← List.append_assoc] at h1;obtain ⟨k1,k2,k3⟩:=h1.uH;rw [e2];refine ⟨?_,h.flat⟩;rw [← List.append_assoc];refine (ht.rows k1 (k3 r (by rw [hb]; simp))).mid hg (by rw [bZ]; simp) (fun x hx=>?_);rw [bZ] at hx;exact k3 x (by rw [hb]; exact hx)
end
def sF:List Nat→List AV→List AV→List AV
 |p::ps,a::l,s=>sF ps l (s.set p a)
 |_,_,s=>s
theorem Ds {c:Cx}:∀ {ps:List Nat} {l:List AV} {vs:List Value} {s:List AV} {t:Array Value},VS c s t→VL c l vs→VS c (sF ps l s) ((ps.zip vs).foldl (fun t (p,v)=>t.setIfInBounds p v) t)
 | [],_,_,_,_,h,_=>by simpa [sF] using h
 |_::_,[],[],_,_,h,_=>by simpa [sF] using h
 |_::_,_::_,[],_,_,_,hl=>by have:=hl.1; simp at this
 |_::_,[],_::_,_,_,_,hl=>by have:=hl.1; simp at this
 |p::ps,a::l,v::vs,s,t,h,hl=>by
  simp only [sF,List.zip_cons_cons,List.foldl_cons];exact Ds (h.put p hl.head.1) hl.head.2
theorem Pt {P : Program} {f : FuncId} {fn : Func} {b : Code} (hf : P.funcs[f]? = some fn) (hb : fn.body = some b) (hn : (fn.name == "runtime.NumGoroutine") = false) (args : Array Value) (w : World) : (callFunc f args).run P w = .ok (.enter f args) w := by
 simp only [callFunc,Sem.run_bind,Sem.run_pure,Result.andThen_ok,program,Sem.run,hf,hn,hb,Option.isNone_some,Bool.false_eq_true,if_false]
theorem Ic {P:Program} {f:FuncId} {fn:Func} {b:Code} (hf:P.funcs[f]? = some fn) (hb:fn.body=some b) (vs:List Value) (s:List AV):Frame.enter P f vs.toArray .normal=(⟨⟨f,none,[]⟩,[.code b],s⟩:bU).bB (vs.toArray++Array.replicate (fn.ntmps - vs.toArray.size) undef):=by
 simp [Frame.enter,bU.bB,Frame.atR,hf,hb,bf,aN.bB,marks]
theorem Ie {P:Program} {b:Frame} {a:Act} {k:List Item} {cs:List Frame} {w:World} {ops:Array Oper} {i:Nat} {rest:List Nat} {o:Oper} {l:Nat} {f:FuncId} {tmps:Array Value} {assign body:Code} (ho:ops[i]? = some o) (hw:Region.wanted o (yielded ops a.tmps)=true)
  (hr:(execOp a.eval o).run P w = .ok (.round l f tmps assign body) w) :
  step P (lone (b.atR a (.inRegion ops (i::rest)::k)) cs w) = .next (lone (Frame.round l f tmps assign body .normal) (b.atR a (.inRegion ops (i::rest)::k)::cs) w):=by
 have hg:=stepGR_op (P:=P) (b:=b) (k:=k) (cs:=cs) (w:=w) (rest:=rest) ho hw;have rJ:=qa (ro:=b.roundOf) hr (by simp);exact step_lone_go (by rw [hg]; simp [stepG.apply,rJ])
theorem Ig {P:Program} {G:List (Nat × DV)} {c0:Cx} {rows L:List bk} {cs:List Frame}:∀ (D:List Nat) (c:Cx) (fr:Frame),aK G c→ec c0 c→dz c0.w.heap.size c rows (D.map .mark++L)→fr.mode = .returning→fr.defers=marks D →
  ∃ c':Cx,c'.heap=c.heap∧aK G c'∧ec c0 c'∧dz c0.w.heap.size c' rows L∧(∀ x v,VR c x v→VR c' x v)∧Steps P (lone fr cs c.w) (lone { fr with defers:=[] } cs c'.w)
 | [],c,fr,h1,h2,h3,_,h5=>by
  refine ⟨c,rfl,h1,h2,h3,fun _ _ h=>h,?_⟩;have:{ fr with defers:=[] }=fr:=by cases fr; simp only at h5; subst h5; rfl
  rw [this];exact .refl _ _
 |d::D,c,fr,h1,h2,h3,h4,h5=>by
  obtain ⟨k1,k2,k3⟩:=h3.pop;have k2:p9 c0.w.heap.size c d:=k2;have ht:Touch c d (c.w.putObj d (.deferred none)) := .putObj k2.ax;have Pu:=ht.rows k1.all (k3 d (by simp [bk.cd]));obtain ⟨c',q1,q2,q3,q4,q5,q6⟩:=Ig D (c.dP (c.w.putObj d (.deferred none))) { fr with defers:=marks D } (ht.aO h1) (ht.rel h2 k2.new) ⟨Pu,k1.flat⟩ h4 rfl;refine ⟨c',q1,q2,q3,q4,fun x v hv=>q5 x v (ht.vr hv),.head ?_ q6⟩;exact step_collected (calls:=[]) (by rw [h4]; simp) h5 rfl (run_takeDeferred k2.mem)
theorem Dt {E:Env} (hE:E.OK) {fn:Func} {s:List AV} {h:List ae} {K:AV→List ae→Prop} (H:ml E.T s h fn.results.toList False K) :
  ∃ r,K r h∧∀ (c:Cx) (t:Array Value),c.heap=h→aK E.G c→VS c s t→∃ v,VR c r v∧(results fn t).run E.P c.w = .ok v c.w:=by
 unfold ml at H;rcases yQ hE H with h' | ⟨l,H,hl⟩
 ·cases h'
 split at H
 ·rename_i x;refine ⟨x,H,fun c t e1 e2 e3=>?_⟩;obtain ⟨vs,g1,g2⟩:=hl c t e1 e2 e3;cases vs with
  |nil=>have:=g1.1; simp at this
  |cons v vs=>cases vs with
   |cons u vs=>have:=g1.1; simp at this
   |nil=>exact ⟨v,g1.head.1,BN g2⟩
 ·rename_i aJ;refine ⟨_,H,fun c t e1 e2 e3=>?_⟩;obtain ⟨vs,g1,g2⟩:=hl c t e1 e2 e3;refine ⟨.tuple vs.toArray,.aD _ _ (by simpa using g1.1) fun j x v hx hu=>g1.2 j x v hx (by simpa using hu),?_⟩;have:=BN g2;cases vs with
  |nil=>exact this
  |cons v vs=>cases vs with
   |nil =>
    have:=g1.1;cases l with
    |nil=>simp at this
    |cons x l=>cases l with
     |nil=>exact absurd rfl (aJ x)
     |cons y l=>simp at this
   |cons u vs=>exact this
section
variable {E:Env} {ag:FuncId} {R:cw} {s:List AV} {h:List ae} {lits:List Nat} {ops:Array Oper} {o:Oper} {l:List Oper} {k:List aN}
theorem I.rangeFunc {g : Operand} {ps : Array Tmp} {assign body Ih : Code} {gf : FuncId} {a1 a2 : List AV} {fn : Func} (hg : aY E.G s g (.fn (.func gf) a1 a2)) (hf : E.P.funcs[gf]? = some fn) (hb : fn.body = some Ih) (hn : (fn.name == "runtime.NumGoroutine") = false) (ja : R.fx.cz = none)
  (H:∀ (ll d:Nat) (t:Array Value),I E gf ⟨R.n,R.Q,R.rows,⟨R.fx.f0,none,[],⟨⟨ag,none,d::R.fx.aI⟩,.nT ll::k,s⟩::R.fx.cls,.loop ⟨ll,d,.ready,none,ag,t,ps,assign,body,s⟩ :: .mark d::R.fx.loops,R.fx.inl⟩⟩ [] [.code Ih] (mi (a1++[.fn (.yield ll) [] []]++a2) fn.ntmps) h) :
  I E ag R lits (.code (.rangeFunc g ps assign body)::k) s h:=by
 have e:(⟨ag,R.fx.cz,R.fx.aI⟩:gQ)=⟨ag,none,R.fx.aI⟩:=by rw [ja]
 refine .of ?_;rw [e];unfold AW;intro c0 c t ts h0 h1 h2 h3 hr bF h4 h5 cs;subst h2;obtain ⟨v1,v2,e1,e2,e3⟩:=jO (hg c ⟨t,marks R.fx.aI⟩ h3 h4);obtain ⟨i,hi⟩:∃ i:jr,i=⟨c.w.heap.size+1,c.w.heap.size,.ready,none,ag,t,ps,assign,body,s⟩:=⟨_,rfl⟩;have bQ:(c.cy (.deferred (some []))).w.heap.size=c.w.heap.size+1:=by simp [Cx.cy]
 have cR:aK E.G (c.cy (.deferred (some []))):=h3.cy;have np:aK E.G ((c.cy (.deferred (some []))).cy (.loop i.ee)):=cR.cy;have Df:ec c0 ((c.cy (.deferred (some []))).cy (.loop i.ee)):=hr.cy.cy;have kz:∀ x v,VR c x v→VR ((c.cy (.deferred (some []))).cy (.loop i.ee)) x v:=fun x v hv=>sD (sD hv);have fL:i.l=c.w.heap.size+1:=by rw [hi]
 have xt:dz c0.w.heap.size ((c.cy (.deferred (some []))).cy (.loop i.ee)) R.rows (.loop i :: .mark c.w.heap.size::R.fx.loops):=by
  have b0:dz c0.w.heap.size ((c.cy (.deferred (some []))).cy (.loop i.ee)) R.rows R.fx.loops:=⟨(bF.all.cy h3).cy cR,bF.flat⟩;have b1:dz c0.w.heap.size ((c.cy (.deferred (some []))).cy (.loop i.ee)) R.rows (.mark c.w.heap.size::R.fx.loops):=by
   refine b0.push (g := .mark c.w.heap.size) (show p9 _ _ _ from ⟨.inl (.inr rfl),hr.size,?_⟩) (by simp [bk.cd]) (fun x hx hm=>?_)
   ·show ((c.w.alloc (.deferred (some []))).alloc (.loop i.ee)).heap[c.w.heap.size]? = _;rw [Below.heap_alloc _ _ _ (by simp)];exact heap_alloc_new _ _
   ·simp [bk.cd] at hx;subst hx;have:=bF.old h3 hm;omega
  refine b1.push (g := .loop i) (show mh _ _ _ from ⟨.inr (by rw [fL,bQ]),by rw [fL]; have:=hr.size; omega,?_,?_⟩) (by simp [bk.cd]) (fun x hx hm=>?_)
  ·show ((c.w.alloc (.deferred (some []))).alloc (.loop i.ee)).heap[i.l]? = _;rw [fL,show c.w.heap.size+1=(c.w.alloc (.deferred (some []))).heap.size by simp];exact heap_alloc_new _ _
  ·have es:i.gG=s:=by rw [hi]
   have et:i.tm=t:=by rw [hi]
   rw [es,et];exact ⟨h4.1,fun j x v hx hv=>kz x v (h4.2 j x v hx hv)⟩
  ·simp [bk.cd] at hx;subst hx;rw [List.flatMap_append,List.mem_append,List.flatMap_cons,List.mem_append] at hm;rcases hm with hm | hm | hm
   ·have:=bF.old h3 (b:=i.l) (by rw [List.flatMap_append]; exact List.mem_append_left _ hm);omega
   ·simp [bk.cd] at hm;omega
   ·have:=bF.old h3 (b:=i.l) (by rw [List.flatMap_append]; exact List.mem_append_right _ hm);omega
 have H:=(H (c.w.heap.size+1) c.w.heap.size t).to;rw [← hi] at H;unfold AW at H;have gT:VL ((c.cy (.deferred (some []))).cy (.loop i.ee)) (a1++[.fn (.yield (c.w.heap.size+1)) [] []]++a2) (v1++[.func (.yield (c.w.heap.size+1)) #[] #[]]++v2):=by
  have lift:∀ {x:List AV} {u:List Value},VL c x u→VL ((c.cy (.deferred (some []))).cy (.loop i.ee)) x u:=fun hx=>⟨hx.1,fun j x v h1 h2=>kz x v (hx.2 j x v h1 h2)⟩;exact ((lift e2).append (.cons (.fn _ _ _ _ _ rfl rfl (fun j x v hx=>by simp at hx) (fun j x v hx=>by simp at hx)) .nil)).append (lift e3)
 obtain ⟨c2,fr,r,v,q1,q2,q3,q4,q5,q6⟩:=H c0 ((c.cy (.deferred (some []))).cy (.loop i.ee)) _ (t::ts) h0 (fun x hx=>by simp at hx; subst hx; trivial) rfl np Df xt (BG fn.ntmps gT) ⟨⟨h4.1,fun j x v hx hv=>kz x v (h4.2 j x v hx hv)⟩,fD trivial (dK h1),nU kz h5⟩ cs;refine ⟨c2,fr,r,v,q1,q2,q3,q4,.head ?_ q5,q6⟩;have fc:=run_enterLoop_outer (P:=E.P) (w:=c.w) ag t ps assign body;have Pv:(Loop.mk .ready none ag t ps assign body c.w.heap.size)=i.ee:=by rw [hi]; rfl
 rw [Pv] at fc;have Du:(resolve (⟨t,marks R.fx.aI⟩:Act).eval (rangeCall g (c.w.heap.size+1)) 0).run E.P ((c.w.alloc (.deferred (some []))).alloc (.loop i.ee)) = .ok { target := .fn (.func gf) v2.toArray,args:=v1.toArray ++ #[.func (.yield (c.w.heap.size+1)) #[] #[]] } ((c.w.alloc (.deferred (some []))).alloc (.loop i.ee)):=by
  have hy:∀ l:Nat,#[Operand.const (Value.func (Fn.yield l) #[] #[])].map (⟨t,marks R.fx.aI⟩:Act).eval = #[.func (.yield l) #[] #[]]:=fun _=>by simp [Act.eval]
  simp only [resolve,rangeCall,e1,Deferred.ofValue,Sem.run_pure,hy]
 have hinv:(invoke (Target.fn (.func gf) v2.toArray) (v1.toArray ++ #[.func (.yield (c.w.heap.size+1)) #[] #[]])).run E.P ((c.w.alloc (.deferred (some []))).alloc (.loop i.ee)) = .ok (.enter gf (v1++[Value.func (.yield (c.w.heap.size+1)) #[] #[]]++v2).toArray) ((c.w.alloc (.deferred (some []))).alloc (.loop i.ee)):=by
  simp only [invoke];rw [Pt hf hb hn]
  congr 2
  apply Array.ext';simp
 have hs:=stepR_rangeFunc (P:=E.P) (b:=bf ⟨ag,none,R.fx.aI⟩) (a:=⟨t,marks R.fx.aI⟩) (k:=k.map aN.bB) (cs:=eG R.fx.cls ts++cs) fc Du hinv;rw [Ic hf hb _ (mi (a1++[.fn (.yield (c.w.heap.size+1)) [] []]++a2) fn.ntmps)] at hs;exact hs
theorem I.yield (n:Nat) {i:jr} {fx:Operand} {args:Array Operand} {ts:Array TypeId} {av:List AV} (hl:R.fx.loops[n]? = some (.loop i)) (hg:o.guard=none) (ca:o.op = .call { callee := .value fx,args:=args,argTypes:=ts }) (hf:aY E.G s fx (.fn (.yield i.l) [] [])) (ha:im E.G s args.toList av) (hlen:av.length=i.ps.size)
  (H:I E i.fn ⟨R.n,R.Q,R.rows,⟨R.fx.f0,some i.l,[],⟨⟨ag,R.fx.cz,R.fx.aI⟩,.bq ops (o::l)::k,s⟩::R.fx.cls,R.fx.loops,R.fx.inl⟩⟩ [] [.code i.assign,.oQ,.code i.body] (sF i.ps.toList av i.gG) h):I E ag R lits (.bq ops (o::l)::k) s h:=by
 refine .of ?_;unfold AW;intro c0 c t tt h0 h1 h2 h3 hr bF h4 h5 cs;subst h2;obtain ⟨j,hj,dA,aO⟩:=lh (h1 _ (List.mem_cons_self ..));have hi:mh c0.w.heap.size c i:=bF.all.each _ (List.mem_append_right _ (List.mem_of_getElem? hl));obtain ⟨v1,v2,e1,e2,e3⟩:=jO (hf c ⟨t,marks R.fx.aI⟩ h3 h4);obtain rfl:v1=[]:=List.eq_nil_of_length_eq_zero (by simpa using e2.1.symm);obtain rfl:v2=[]:=List.eq_nil_of_length_eq_zero (by simpa using e3.1.symm);have e4:=ha c ⟨t,marks R.fx.aI⟩ h3 h4;have H:=H.to;unfold AW at H;have fA:(#[]++args.map (⟨t,marks R.fx.aI⟩:Act).eval).size=i.ee.params.size:=by
  have:=e4.1;simp at this ⊢;rw [← this,hlen];rfl
 have eF:=Ds (ps:=i.ps.toList) hi.gG e4;obtain ⟨c2,fr,r,v,q1,q2,q3,q4,q5,q6⟩:=H c0 c _ (t::tt) h0 (fun x hx=>by simp at hx; rcases hx with rfl | rfl | rfl <;> trivial) rfl h3 hr bF eF ⟨h4,h1,h5⟩ cs;refine ⟨c2,fr,r,v,q1,q2,q3,q4,.head ?_ q5,q6⟩;have cn:(execOp (⟨t,marks R.fx.aI⟩:Act).eval o).run E.P c.w = .ok (.round i.l i.fn ((i.ps.toList.zip (args.toList.map (⟨t,marks R.fx.aI⟩:Act).eval)).foldl (fun t (p,v)=>t.setIfInBounds p v) i.tm) i.assign i.body) c.w:=by
  have hy:=run_yield (P:=E.P) hi.mem fA;simp only [execOp,ca,resolve,e1,Deferred.ofValue,invoke,Sem.run_bind,Sem.run_pure,Result.andThen_ok,hy]
  congr 2
  rw [← Array.foldl_toList,Array.toList_zip];simp [jr.ee]
 have hs:=Ie (P:=E.P) (b:=bf ⟨ag,R.fx.cz,R.fx.aI⟩) (a:=⟨t,marks R.fx.aI⟩) (k:=k.map aN.bB) (cs:=eG R.fx.cls tt++cs) (rest:=(List.range ops.size).drop (ops.size - l.length)) hj (fZ hg c t h4) cn;simp only [bU.bB,List.map_cons,eG,dA,List.cons_append];exact hs
theorem I.begin (n:Nat) {i:jr} (hl:R.fx.loops[n]? = some (.loop i)) (ja:R.fx.cz=some i.l) (bc:i.st = .ready)
  (H:I E ag ⟨R.n,R.Q,R.rows,⟨R.fx.f0,some i.l,R.fx.aI,R.fx.cls,R.fx.loops.set n (.loop { i with st := .busy }),R.fx.inl⟩⟩ lits k s h):I E ag R lits (.oQ::k) s h:=by
 have e:(⟨ag,R.fx.cz,R.fx.aI⟩:gQ)=⟨ag,some i.l,R.fx.aI⟩:=by rw [ja]
 refine .of ?_;rw [e];unfold AW;intro c0 c t tt h0 h1 h2 h3 hr bF h4 h5 cs;subst h2;have hi:mh c0.w.heap.size c i:=bF.all.each _ (List.mem_append_right _ (List.mem_of_getElem? hl));have ht:Touch c i.l (c.w.putObj i.l (.loop { i with st := .busy }.ee)) := .putObj hi.ax;have aj:=h3.bN _ hi.ax;have xt:dz c0.w.heap.size (c.dP (c.w.putObj i.l (.loop { i with st := .busy }.ee))) R.rows (R.fx.loops.set n (.loop { i with st := .busy })) :=
  bF.Ib hl rfl rfl ht (show mh _ _ _ from ⟨hi.ax,hi.new,World.putObj_heap_same aj,⟨hi.gG.1,fun j x v hx hv=>ht.vr (hi.gG.2 j x v hx hv)⟩⟩)
 have H:=H.to;unfold AW at H;obtain ⟨c2,fr,r,v,q1,q2,q3,q4,q5,q6⟩:=H c0 (c.dP (c.w.putObj i.l (.loop { i with st := .busy }.ee))) t tt h0 (dK h1) rfl (ht.aO h3) (ht.rel hr hi.new) xt ⟨h4.1,fun j x v hx hv=>ht.vr (h4.2 j x v hx hv)⟩ (nU (fun _ _=>ht.vr) h5) cs;refine ⟨c2,fr,r,v,q1,q2,q3,q4,.head ?_ q5,q6⟩;exact stepR_beginRound (b:=bf ⟨ag,some i.l,R.fx.aI⟩) (a:=⟨t,marks R.fx.aI⟩) (k:=k.map aN.bB) rfl (run_beginRound hi.mem bc)
theorem I.Dv (n:Nat) {i:jr} (jump:Option Code) {td:List aN} {fd:gQ} {gj:Array Oper} {o1:Oper} {l1:List Oper} {k1:List aN} {s1:List AV} {fR:List bU}
  (hj:∀ (b:Frame) (a:Act) (cf:Frame) (cs:List Frame) (w w':World) (v:Value),b.roundOf=some i.l→b.kind = .normal→(Instr.endRound i.l jump).run E.P w = .ok v w'→step E.P (lone (b.atR a (td.map aN.bB)) (cf::cs) w) = .next (lone (cf.finish v) cs w'))
  (hl:R.fx.loops[n]? = some (.loop i)) (ja:R.fx.cz=some i.l) (hc:R.fx.cls=⟨fd,.bq gj (o1::l1)::k1,s1⟩::fR)
  (H:I E fd.f ⟨R.n,R.Q,R.rows,⟨R.fx.f0,fd.cz,fd.aI,fR,R.fx.loops.set n (.loop { i with st:=if jump.isNone then .ready else .done,pe:=jump }),R.fx.inl⟩⟩ [] (.bq gj l1::k1) (b9 s1 o1.dst (.d (.bool jump.isNone))) h):I E ag R lits td s h:=by
 have e:(⟨ag,R.fx.cz,R.fx.aI⟩:gQ)=⟨ag,some i.l,R.fx.aI⟩:=by rw [ja]
 refine .of ?_;rw [e,hc];unfold AW;intro c0 c t tt h0 h1 h2 h3 hr bF h4 h5 cs;subst h2;obtain ⟨t1,hI,rfl⟩:∃ t1 hI,tt=t1::hI:=by
  cases tt with
  |nil=>exact h5.elim
  |cons t1 hI=>exact ⟨_,_,rfl⟩
 obtain ⟨c4,c5,c6⟩:=h5;obtain ⟨j,zU,dA,aO⟩:=lh (c5 _ (List.mem_cons_self ..));have hi:mh c0.w.heap.size c i:=bF.all.each _ (List.mem_append_right _ (List.mem_of_getElem? hl));obtain ⟨i2,qK⟩:∃ i2:jr,i2={ i with st:=if jump.isNone then .ready else .done,pe:=jump }:=⟨_,rfl⟩;rw [← qK] at H;have zV:i2.l=i.l:=by rw [qK]
 have es:i2.gG=i.gG:=by rw [qK]
 have et:i2.tm=i.tm:=by rw [qK]
 have ht:Touch c i.l (c.w.putObj i.l (.loop i2.ee)) := .putObj hi.ax;have aj:=h3.bN _ hi.ax;have xt:dz c0.w.heap.size (c.dP (c.w.putObj i.l (.loop i2.ee))) R.rows (R.fx.loops.set n (.loop i2)) :=
  bF.Ib hl rfl (by simp [bk.cd,zV]) ht (show mh _ _ _ from ⟨by rw [zV]; exact hi.ax,by rw [zV]; exact hi.new,by rw [zV]; exact World.putObj_heap_same aj,by rw [es,et]; exact ⟨hi.gG.1,fun j x v hx hv=>ht.vr (hi.gG.2 j x v hx hv)⟩⟩)
 have H:=H.to;unfold AW at H;have mZ:VS (c.dP (c.w.putObj i.l (.loop i2.ee))) (b9 s1 o1.dst (.d (.bool jump.isNone))) ((⟨t1,marks fd.aI⟩:Act).put o1.dst (.bool jump.isNone)).tmps :=
  VS.b9 (a:=⟨t1,marks fd.aI⟩) ⟨c4.1,fun j x v hx hv=>ht.vr (c4.2 j x v hx hv)⟩ o1.dst (.d _ _ (.bool _))
 obtain ⟨c2,fr,r,v,q1,q2,q3,q4,q5,q6⟩:=H c0 (c.dP (c.w.putObj i.l (.loop i2.ee))) _ hI h0 (fD aO (dK c5)) rfl (ht.aO h3) (ht.rel hr hi.new) xt mZ (nU (fun _ _=>ht.vr) c6) cs;refine ⟨c2,fr,r,v,q1,q2,q3,q4,.head ?_ q5,q6⟩;have cn:(Instr.endRound i.l jump).run E.P c.w = .ok (.bool jump.isNone) (c.w.putObj i.l (.loop i2.ee)):=by
  have:=run_endRound (P:=E.P) jump hi.mem;rw [qK];exact this
 have hs:=hj (bf ⟨ag,some i.l,R.fx.aI⟩) ⟨t,marks R.fx.aI⟩ ((⟨fd,.bq gj (o1::l1)::k1,s1⟩:bU).bB t1) (eG fR hI++cs) c.w _ _ rfl rfl cn;have iM:((⟨fd,.bq gj (o1::l1)::k1,s1⟩:bU).bB t1).finish (.bool jump.isNone)=(⟨⟨fd.f,fd.cz,fd.aI⟩,.bq gj l1::k1,b9 s1 o1.dst (.d (.bool jump.isNone))⟩:bU).bB ((⟨t1,marks fd.aI⟩:Act).put o1.dst (.bool jump.isNone)).tmps:=by
  simp only [bU.bB,List.map_cons,dA];rw [Frame.finish_atR,zU];simp only [Option.bind_some];rw [put_defers];rfl
 rw [iM] at hs;exact hs
theorem I.mC (n:Nat) {i:jr} {fd:gQ} {gj:Array Oper} {o1:Oper} {l1:List Oper} {k1:List aN} {s1:List AV} {fR:List bU} (hl:R.fx.loops[n]? = some (.loop i)) (ja:R.fx.cz=some i.l) (hc:R.fx.cls=⟨fd,.bq gj (o1::l1)::k1,s1⟩::fR)
  (H:I E fd.f ⟨R.n,R.Q,R.rows,⟨R.fx.f0,fd.cz,fd.aI,fR,R.fx.loops.set n (.loop { i with st := .ready,pe:=none }),R.fx.inl⟩⟩ [] (.bq gj l1::k1) (b9 s1 o1.dst (.d (.bool true))) h):I E ag R lits [] s h :=
 .Dv n none (fun b a cf cs w w' v h1 h2 h3=>stepR_round_end h1 h2 h3) hl ja hc H
theorem I.zW (n:Nat) {i:jr} {fd:gQ} {gj:Array Oper} {o1:Oper} {l1:List Oper} {k1:List aN} {s1:List AV} {fR:List bU} (hl:R.fx.loops[n]? = some (.loop i)) (ja:R.fx.cz=some i.l) (hc:R.fx.cls=⟨fd,.bq gj (o1::l1)::k1,s1⟩::fR)
  (H:I E fd.f ⟨R.n,R.Q,R.rows,⟨R.fx.f0,fd.cz,fd.aI,fR,R.fx.loops.set n (.loop { i with st := .done,pe:=some .ret }),R.fx.inl⟩⟩ [] (.bq gj l1::k1) (b9 s1 o1.dst (.d (.bool false))) h):I E ag R lits (.code .ret::k) s h :=
 .Dv n (some .ret) (fun b a cf cs w w' v h1 h2 h3=>stepR_round_ret h1 h2 h3) hl ja hc H
theorem sG {id:Nat}:∀ {l:List aN},lg id l=none→exitTo id (l.map aN.bB)=none
 | [],_=>rfl
 | .inBlock i::l,hl=>by
  simp only [lg] at hl;simp only [List.map_cons,aN.bB,exitTo];split at hl
  ·cases hl
  ·rename_i q
   rw [if_neg (by intro hh; have : i = id := by simpa using hh
                  rw [this, Nat.beq_refl] at q; cases q)]
   exact sG hl
 | .code c::l,hl=>sG (l:=l) hl
 | .inLoop c::l,hl=>sG (l:=l) hl
 | .bq ops q::l,hl=>sG (l:=l) hl
 | .nT c::l,hl=>sG (l:=l) hl
 | .oQ::l,hl=>sG (l:=l) hl
theorem I.Pw (n:Nat) {i:jr} {id:Nat} {fd:gQ} {gj:Array Oper} {o1:Oper} {l1:List Oper} {k1:List aN} {s1:List AV} {fR:List bU} (hx:lg id k=none) (hl:R.fx.loops[n]? = some (.loop i)) (ja:R.fx.cz=some i.l) (hc:R.fx.cls=⟨fd,.bq gj (o1::l1)::k1,s1⟩::fR)
  (H:I E fd.f ⟨R.n,R.Q,R.rows,⟨R.fx.f0,fd.cz,fd.aI,fR,R.fx.loops.set n (.loop { i with st := .done,pe:=some (.exit id) }),R.fx.inl⟩⟩ [] (.bq gj l1::k1) (b9 s1 o1.dst (.d (.bool false))) h):I E ag R lits (.code (.exit id)::k) s h :=
 .Dv n (some (.exit id)) (fun b a cf cs w w' v h1 h2 h3=>stepR_round_exit h1 h2 (sG hx) h3) hl ja hc H
theorem I.kJ {fx : Operand} {args : Array Operand} {ts : Array TypeId} {f : FuncId} {fn : Func} {b : Code} {a1 a2 av : List AV} (hg : o.guard = none) (ca : o.op = .call { callee := .value fx, args := args, argTypes := ts }) (Px : aY E.G s fx (.fn (.func f) a1 a2)) (ha : im E.G s args.toList av) (hf : E.P.funcs[f]? = some fn) (hb : fn.body = some b) (hn : (fn.name == "runtime.NumGoroutine") = false)
  (H:I E f ⟨R.n,R.Q,R.rows,⟨R.fx.f0,none,[],⟨⟨ag,R.fx.cz,R.fx.aI⟩,.bq ops (o::l)::k,s⟩::R.fx.cls,R.fx.loops,R.fx.inl⟩⟩ [] [.code b] (mi (a1++av++a2) fn.ntmps) h):I E ag R lits (.bq ops (o::l)::k) s h:=by
 refine .of ?_;unfold AW;intro c0 c t tt h0 h1 h2 h3 hr bF h4 h5 cs;subst h2;obtain ⟨j,hj,dA,aO⟩:=lh (h1 _ (List.mem_cons_self ..));obtain ⟨v1,v2,e1,e2,e3⟩:=jO (Px c ⟨t,marks R.fx.aI⟩ h3 h4);have e4:=ha c ⟨t,marks R.fx.aI⟩ h3 h4;have e5:=(e2.append e4).append e3;have H:=H.to;unfold AW at H;obtain ⟨c2,fr,r,v,q1,q2,q3,q4,q5,q6⟩:=H c0 c _ (t::tt) h0 (fun x hx=>by simp at hx; subst hx; trivial) rfl h3 hr bF (BG fn.ntmps e5) ⟨h4,h1,h5⟩ cs;refine ⟨c2,fr,r,v,q1,q2,q3,q4,.head ?_ q5,q6⟩;have cn:=vT (P:=E.P) (w:=c.w) (a:=⟨t,marks R.fx.aI⟩) ca e1 ⟨fn,hf,by rw [hb]; rfl,hn⟩;have gT:(v1.toArray++args.map (⟨t,marks R.fx.aI⟩:Act).eval++v2.toArray)=(v1++args.toList.map (⟨t,marks R.fx.aI⟩:Act).eval++v2).toArray:=by
  apply Array.ext';simp
 rw [gT] at cn;have hs:=BH (P:=E.P) (b:=bf ⟨ag,R.fx.cz,R.fx.aI⟩) (a:=⟨t,marks R.fx.aI⟩) (k:=k.map aN.bB) (cs:=eG R.fx.cls tt++cs) (rest:=(List.range ops.size).drop (ops.size - l.length)) hj (fZ hg c t h4) cn;rw [Ic hf hb _ (mi (a1++av++a2) fn.ntmps)] at hs;simp only [bU.bB,List.map_cons,eG,dA,List.cons_append] at hs ⊢;exact hs
def uJ:List aN→Bool
 | []=>true
 | .code .ret::_=>true
 |_=>false
theorem Py {P:Program} {fd:gQ} (hr:fd.cz=none) {td:List aN} (h:uJ td=true) (a:Act) (cs:List Frame) (w:World):step P (lone ((bf fd).atR a (td.map aN.bB)) cs w) = .next (lone { (bf fd).atR a (td.map aN.bB) with mode := .returning } cs w):=by
 unfold uJ at h;split at h
 ·exact stepR_end hr
 ·exact stepR_ret hr
 ·cases h
theorem Dw {P:Program} {G:List (Nat × DV)} {c0 c:Cx} {ag:FuncId} {fn:Func} {aI:List Nat} {rows L:List bk} {td:List aN} {s:List AV} {t:Array Value} {r:AV} (hf:P.funcs[ag]? = some fn) (na:uJ td=true) (ho:aK G c) (hr:ec c0 c) (bF:dz c0.w.heap.size c rows (aI.map .mark++L)) (hs:VS c s t)
  (Du:∀ (c':Cx) (t:Array Value),c'.heap=c.heap→aK G c'→VS c' s t→∃ v,VR c' r v∧(results fn t).run P c'.w = .ok v c'.w) (cs:List Frame) :
  ∃ (c':Cx) (fr:Frame) (v:Value),c'.heap=c.heap∧aK G c'∧ec c0 c'∧dz c0.w.heap.size c' rows L∧(∀ x u,VR c x u→VR c' x u)∧VR c' r v∧Steps P (lone ((⟨⟨ag,none,aI⟩,td,s⟩:bU).bB t) cs c.w) (lone fr cs c'.w)∧fr.fn=ag∧fr.leaving P c'.w (.returned v):=by
 obtain ⟨c',q1,q2,q3,q4,q5,q6⟩:=Ig (P:=P) (cs:=cs) aI c { (bf ⟨ag,none,aI⟩).atR ⟨t,marks aI⟩ (td.map aN.bB) with mode := .returning } ho hr bF rfl rfl;obtain ⟨v,p1,p2⟩:=Du c' t q1 q2 ⟨hs.1,fun j x v hx hv=>q5 x v (hs.2 j x v hx hv)⟩;exact ⟨c',_,v,q1,q2,q3,q4,q5,p1,.head (Py rfl na _ _ _) q6,rfl,rfl,rfl,rfl,fn,hf,p2⟩
theorem I.fS (hE:E.OK) {fn:Func} {L:List bk} {td:List aN} (hf:E.P.funcs[ag]? = some fn) (na:uJ td=true) (ja:R.fx.cz=none) (hc:R.fx.cls=[]) (h0:R.fx.f0=ag) (hL:R.fx.loops=R.fx.aI.map .mark++L) (H:ml E.T s h fn.results.toList False R.Q):I E ag R lits td s h:=by
 have e:(⟨ag,R.fx.cz,R.fx.aI⟩:gQ)=⟨ag,none,R.fx.aI⟩:=by rw [ja]
 refine .of ?_;rw [e,hc,h0];unfold AW;intro c0 c t tt h0 h1 h2 h3 hr bF h4 h5 cs;obtain ⟨r,k1,k2⟩:=Dt hE H;subst h2;rw [hL] at bF;obtain ⟨c',fr,v,q1,q2,q3,q4,q5,q6,q7,q8,q9⟩:=Dw hf na h3 hr bF h4 k2 (eG [] tt++cs);have gU:eG [] tt=[]:=by cases tt <;> rfl
 rw [gU] at q7 ⊢;exact ⟨c',fr,r,v,by rw [q1]; exact k1,q6,q2,q3,q7,q8,q9⟩
theorem I.lI (hE:E.OK) {fn:Func} {L:List bk} {td:List aN} {fd:gQ} {gj:Array Oper} {o1:Oper} {l1:List Oper} {k1:List aN} {s1:List AV} {fR:List bU} (hf:E.P.funcs[ag]? = some fn) (na:uJ td=true) (ja:R.fx.cz=none) (hc:R.fx.cls=⟨fd,.bq gj (o1::l1)::k1,s1⟩::fR) (hL:R.fx.loops=R.fx.aI.map .mark++L)
  (H:ml E.T s h fn.results.toList False fun r h'=>cb s1 o1.dst r fun s'=>I E fd.f ⟨R.n,R.Q,R.rows,⟨R.fx.f0,fd.cz,fd.aI,fR,L,R.fx.inl⟩⟩ [] (.bq gj l1::k1) s' h'):I E ag R lits td s h:=by
 have e:(⟨ag,R.fx.cz,R.fx.aI⟩:gQ)=⟨ag,none,R.fx.aI⟩:=by rw [ja]
 refine .of ?_;rw [e,hc];unfold AW;intro c0 c t tt h0 h1 h2 h3 hr bF h4 h5 cs;obtain ⟨r,H,k2⟩:=Dt hE H;subst h2;rw [hL] at bF;obtain ⟨t1,hI,rfl⟩:∃ t1 hI,tt=t1::hI:=by
  cases tt with
  |nil=>exact h5.elim
  |cons t1 hI=>exact ⟨_,_,rfl⟩
 obtain ⟨c4,c5,c6⟩:=h5;obtain ⟨j,zU,dA,aO⟩:=lh (c5 _ (List.mem_cons_self ..));obtain ⟨c',fr,v,q1,q2,q3,q4,q5,q6,q7,q8,q9⟩:=Dw hf na h3 hr bF h4 k2 (eG (⟨fd,.bq gj (o1::l1)::k1,s1⟩::fR) (t1::hI)++cs);rw [dR] at H;have H:=H.to;unfold AW at H;have mZ:VS c' (b9 s1 o1.dst r) ((⟨t1,marks fd.aI⟩:Act).put o1.dst v).tmps:=VS.b9 (a:=⟨t1,marks fd.aI⟩) ⟨c4.1,fun j x v hx hv=>q5 x v (c4.2 j x v hx hv)⟩ o1.dst q6;obtain ⟨c2,rL,r2,v2,p1,p2,p3,p4,p5,p6⟩:=H c0 c' _ hI h0 (fD aO (dK c5)) q1 q2 q3 q4 mZ (nU q5 c6) cs;refine ⟨c2,rL,r2,v2,p1,p2,p3,p4,q7.trans (.head ?_ p5),p6⟩;have hs:=step_leave_returned (c:=(⟨fd,.bq gj (o1::l1)::k1,s1⟩:bU).bB t1) (cs:=eG fR hI++cs) q9;have iM:((⟨fd,.bq gj (o1::l1)::k1,s1⟩:bU).bB t1).finish v=(⟨⟨fd.f,fd.cz,fd.aI⟩,.bq gj l1::k1,b9 s1 o1.dst r⟩:bU).bB ((⟨t1,marks fd.aI⟩:Act).put o1.dst v).tmps:=by
  simp only [bU.bB,List.map_cons,dA];rw [Frame.finish_atR,zU];simp only [Option.bind_some];rw [put_defers];rfl
 rw [iM] at hs;exact hs
def Dx:Option Code→List aN→List aN
 |some c,k => .code c::k
 |none,k=>k
theorem I.iD (hE:E.OK) {fn:Func} {L:List bk} {td:List aN} {i:jr} {fd:gQ} {k1:List aN} {s1:List AV} {fR:List bU} (hf:E.P.funcs[ag]? = some fn) (na:uJ td=true) (ja:R.fx.cz=none) (hc:R.fx.cls=⟨fd,.nT i.l::k1,s1⟩::fR) (hL:R.fx.loops=R.fx.aI.map .mark ++ .loop i::L) (bc:i.st ≠ .busy)
  (H:ml E.T s h fn.results.toList False fun _ _=>I E fd.f ⟨R.n,R.Q,R.rows,⟨R.fx.f0,fd.cz,fd.aI,fR,L,R.fx.inl⟩⟩ [] (Dx i.pe k1) s1 h):I E ag R lits td s h:=by
 have e:(⟨ag,R.fx.cz,R.fx.aI⟩:gQ)=⟨ag,none,R.fx.aI⟩:=by rw [ja]
 refine .of ?_;rw [e,hc];unfold AW;intro c0 c t tt h0 h1 h2 h3 hr bF h4 h5 cs;obtain ⟨r,H,k2⟩:=Dt hE H;subst h2;rw [hL] at bF;obtain ⟨t1,hI,rfl⟩:∃ t1 hI,tt=t1::hI:=by
  cases tt with
  |nil=>exact h5.elim
  |cons t1 hI=>exact ⟨_,_,rfl⟩
 obtain ⟨c4,c5,c6⟩:=h5;obtain ⟨c',fr,v,q1,q2,q3,q4,q5,q6,q7,q8,q9⟩:=Dw hf na h3 hr bF h4 k2 (eG (⟨fd,.nT i.l::k1,s1⟩::fR) (t1::hI)++cs);obtain ⟨g1,g2,g3⟩:=q4.pop;have g2:mh c0.w.heap.size c' i:=g2;obtain ⟨o2,wF⟩:∃ o2:Obj,o2 = .loop { i.ee with state := .exhausted }:=⟨_,rfl⟩;have ht:Touch c' i.l (c'.w.putObj i.l o2) := .putObj g2.ax;have H:=H.to;unfold AW at H;have PA:(∀ x∈Dx i.pe k1,x.ok):=by
  cases i.pe with
  |none=>exact dK c5
  |some c=>exact fD trivial (dK c5)
 obtain ⟨c2,rL,r2,v2,p1,p2,p3,p4,p5,p6⟩:=H c0 (c'.dP (c'.w.putObj i.l o2)) t1 hI h0 PA q1 (ht.aO q2) (ht.rel q3 g2.new) ⟨ht.rows g1.all (g3 i.l (by simp [bk.cd])),g1.flat⟩ ⟨c4.1,fun j x v hx hv=>ht.vr (q5 x v (c4.2 j x v hx hv))⟩ (nU (fun x v hv=>ht.vr (q5 x v hv)) c6) cs;refine ⟨c2,rL,r2,v2,p1,p2,p3,p4,q7.trans (.head (step_leave_returned q9) (.head ?_ p5)),p6⟩;have iM:((⟨fd,.nT i.l::k1,s1⟩:bU).bB t1).finish v=(bf fd).atR ⟨t1,marks fd.aI⟩ (.endRangeFunc i.l::k1.map aN.bB):=by
  simp only [bU.bB,List.map_cons,aN.bB];exact finish_atR_inRangeFunc _ _
 have pk:(Instr.endLoop i.l).run E.P c'.w = .ok i.pe (c'.w.putObj i.l o2):=by
  have:=run_endLoop (P:=E.P) g2.mem bc;rw [wF];exact this
 have hs:=stepR_endRangeFunc (P:=E.P) (b:=bf fd) (a:=⟨t1,marks fd.aI⟩) (k:=k1.map aN.bB) (cs:=eG fR hI++cs) pk;rw [← iM] at hs;have wv:(i.pe.map Item.code).toList++k1.map aN.bB=(Dx i.pe k1).map aN.bB:=by cases i.pe <;> rfl
 rw [wv] at hs;exact hs
end
end Go.aw
end
section
namespace Go.aw
open Go Go.RowKit
section
variable {E:Env} {s:List AV} {h:List ae}
theorem PB (hE:E.OK) {t kt e:Nat} {m ko:Operand} {ti:bp} (bP:E.T[t]? = some ti) (hk:ti.k = .map kt e) {kd:TK} (hT:qj E kt kd) {b:Nat} {es:List (DV × DV)} (hb:h[b]? = some (.map es)) (hm:aY E.G s m (.map b)) {x:DV} (hx:aY E.G s ko (.d x))
  (h1:cW E.T kd x) (h2:∀ p∈es,cW E.T kd p.1) {z:DV} {zv:Value} (jL:∀ w,(zeroValue e).run E.P w = .ok zv w) (jq:∀ bad w,VD bad w z zv) :
  bC E (.mapEntry t m ko) s h (.d (.aD [(findD x es).getD z,.int .i64 ((eh x es).getD es.length)])) (h.set b (.map (bO x ((findD x es).getD z) es))):=fun o c ac e1 e2 h3 h4=>by
 subst e2;obtain ⟨lr,d,g1,g2,g3,-⟩:=cj (hE.types t ti bP);have hd:d = .map kt e:=by rw [hk] at g3; cases d <;> first | (cases g3; rfl) | cases g3
 subst hd;have eu:=aR hb;obtain ⟨blk,cap,en,ck,q1,q2,q3,qe,q4⟩:=tU h3 hb (hm c ac h3 h4);have cx:=hx c ac h3 h4;generalize hu:ac.eval ko=u at cx;cases cx with
 |d _ _ cx =>
  have r1:=B9 hE hT h1 cx false;have r2:=B8 hE hT h1 cx h2 q4;have hblk:blk<c.w.heap.size:=(h3.br b blk cap q2).1;have hl:en.size=es.length:=by simpa using q4.1
  have main:∃ (gW:Array MapEntry) (lu:Nat) (v:Value),(Instr.mapEntry t (.map (some blk)) u).run E.P c.w = .ok (.tuple #[v,goInt ((eh x es).getD es.length:Nat)]) { c.w with heap:=c.w.heap.setIfInBounds blk (.map gW lu) }∧ma gW lu (bO x ((findD x es).getD z) es).length∧VD c.bad c.w ((findD x es).getD z) v ∧
    ∀ (j:Nat) (k v:DV) (mm:MapEntry),(bO x ((findD x es).getD z) es)[j]? = some (k,v)→gW[j]? = some mm→VD c.bad c.w k mm.key∧VD c.bad c.w v mm.val:=by
   cases hf:eh x es with
   |none =>
    rw [B5 hf];refine ⟨en.push { key:=u,val:=zv,born:=ck },ck+1,zv,?_,?_,jq _ _,?_⟩
    ·simp only [Instr.mapEntry,Sem.run_bind,run_underlying g2,Result.andThen_ok,oY q3,r1,r2,jR,hf,Option.bind_none,jL,wq _ q3,Sem.run_pure,Option.getD_none];rw [qe.tick]
    ·rw [Option.getD_none,wo hf,List.length_append];exact qe.push u zv
    ·intro j k v mm hj dL;rw [Option.getD_none,wo hf] at hj;rcases Nat.lt_or_ge j es.length with aj | aC
     ·rw [List.getElem?_append_left aj] at hj;rw [Array.getElem?_push,if_neg (by omega)] at dL;exact q4.2 j k v mm hj (by simpa using dL)
     ·have iO:j=es.length:=by
       have:=aR hj;simp at this;omega
      subst iO;rw [List.getElem?_append_right (Nat.le_refl _)] at hj;simp at hj;obtain ⟨rfl,rfl⟩:=hj;rw [Array.getElem?_push,if_pos hl.symm] at dL;cases dL;exact ⟨cx,jq _ _⟩
   |some i =>
    obtain ⟨p,p1,p2,p3⟩:=y0 hf;rw [p3];have hi:i<en.size:=by rw [hl]; exact aR p1
    have ju:en[i]? = some en[i]:=by simp [hi]
    have fc:=q4.2 i p.1 p.2 en[i] p1 (by simp [hi]);have wv:=Gn p2;have e3:=rV h1 cx;have e4:=rV (h2 p (List.mem_of_getElem? p1)) fc.1;have B':Instr.sameBits 10000 en[i].key u=true:=by
     rw [e3,e4,← wv];exact Gp h1
    refine ⟨en.modify i fun e=>{ e with key:=u },ck,en[i].val,?_,?_,fc.2,?_⟩
    ·have Ca:jR x es en.toList 0=some (i,en[i].val):=by
      simp [jR,hf,hi]
     have y4:(Instr.keyThatStays en[i].key u).run E.P c.w = .ok u c.w:=by
      simp only [Instr.keyThatStays,B',if_true,Sem.run_pure]
     simp only [Instr.mapEntry,Sem.run_bind,run_underlying g2,Result.andThen_ok,oY q3,r1,r2,Ca,ju,Option.map_some,Option.getD_some,y4,wq _ q3,Sem.run_pure];rw [qe.idx i _ ju]
    ·rw [Option.getD_some,wm hf,List.length_set];have nY:(en.modify i fun e=>{ e with key:=u })=(en.modify i fun e=>{ e with key:=u,val:=en[i].val }):=by
      apply Array.ext_getElem?;intro j;rw [Array.getElem?_modify,Array.getElem?_modify];by_cases hj:i=j
      ·subst hj; simp [hi]
      ·simp [hj]
     rw [nY];exact qe.modify i u _
    ·intro j k v mm hj dL;rw [Option.getD_some,wm hf] at hj;by_cases lv:j=i
     ·subst lv;rw [List.getElem?_set_self (by omega)] at hj;cases hj;rw [Array.getElem?_modify,if_pos rfl,ju] at dL;cases dL;exact ⟨cx,fc.2⟩
     ·rw [List.getElem?_set_ne (Ne.symm lv)] at hj;rw [Array.getElem?_modify,if_neg (Ne.symm lv)] at dL;exact q4.2 j k v mm hj (by simpa using dL)
  obtain ⟨gW,lu,v0,cn,hlen,lJ,fc⟩:=main;generalize bO x ((findD x es).getD z) es=db at hlen fc ⊢
  let c':Cx:={ c with heap:=c.heap.set b (.map db),w:={ c.w with heap:=c.w.heap.setIfInBounds blk (.map gW lu) } }
  have wx:c'.w.heap[blk]? = some (.map gW lu):=by simp [c',hblk]
  have qk:∀ b',b'≠blk→c'.w.heap[b']? = c.w.heap[b']? := fun b' bZ=>by simp [c',Array.getElem?_setIfInBounds,Ne.symm bZ]
  have oZ:c'.heap[b]? = some (.map db):=by show (c.heap.set b _)[b]? = _; rw [List.getElem?_set_self eu]
  have iQ:∀ i,i≠b→c'.heap[i]? = c.heap[i]? := fun i hi=>by show (c.heap.set b _)[i]? = _; rw [List.getElem?_set_ne (Ne.symm hi)]
  have bc:Step c c':=⟨rfl,h3.bN,rfl,rfl,rfl,by simp [c'],fun b' _ bL=>qk b' (fun nf=>bL b cap (nf ▸ q2)),fun i b' n hi _=>⟨n,hi⟩,fun i bx hi=>by
   by_cases bz:i=b
   ·subst bz;rw [hb] at hi;cases hi;exact .inl ⟨_,oZ,rfl⟩
   ·exact lb hi (iQ i bz) rfl⟩
  have aO:aK E.G c':=by
   refine h3.next bc (fun i b' n hi=>?_) h3.inj (fun i bx hi=>?_)
   ·have:=h3.br i b' n hi;refine ⟨by simpa [c'] using this.1,?_⟩;show i<(c.heap.set b _).length;rw [List.length_set];exact this.2
   ·by_cases bz:i=b
    ·subst bz;rw [oZ] at hi;cases hi;right;exact ⟨blk,cap,gW,lu,q2,wx,hlen,fun j k v mm hj dL=>⟨bc.vd (fc j k v mm hj dL).1,bc.vd (fc j k v mm hj dL).2⟩⟩
    ·rw [iQ i bz] at hi;exact .inl ⟨hi,rfl,fun b' n hn=>qk b' (fun nf=>bz (h3.inj i b blk n cap (nf ▸ hn) q2))⟩
  refine ⟨c',.tuple #[v0,goInt ((eh x es).getD es.length:Nat)],.inl ?_,rfl,aO,.d _ _ (.aD _ _ rfl fun j y v hy hv=>?_),bc⟩
  ·simp only [execOp,e1,q1,hu,Sem.run_bind,cn,Result.andThen_ok,Sem.run_pure];rfl
  ·match j with
   | 0=>simp at hy hv; subst hy; subst hv; exact bc.vd lJ
   | 1=>simp at hy hv; subst hy; subst hv; exact .int _ _
   |j+2=>simp at hy
theorem PC (hE:E.OK) {t:Nat} {m st vo:Operand} {b:Nat} {es:List (DV × DV)} (hb:h[b]? = some (.map es)) (hm:aY E.G s m (.map b)) {n:Nat} {k0 x0 y:DV} (hn:es[n]? = some (k0,x0)) (PD:aY E.G s st (.d (.int .i64 n))) (hy:aY E.G s vo (.d y)) :
  bC E (.entryStore t m st vo) s h (.d .undef) (h.set b (.map (es.set n (k0,y)))):=fun o c ac e1 e2 h3 h4=>by
 subst e2;have eu:=aR hb;obtain ⟨blk,cap,en,ck,q1,q2,q3,qe,q4⟩:=tU h3 hb (hm c ac h3 h4);have zX:=PD c ac h3 h4;have mo:=hy c ac h3 h4;generalize hu:ac.eval st=u at zX;generalize hw:ac.eval vo=w at mo;cases zX with
 |d _ _ zX=>cases zX; cases mo with
  |d _ _ mo =>
   have hblk:blk<c.w.heap.size:=(h3.br b blk cap q2).1;have hl:en.size=es.length:=by simpa using q4.1
   have hi:n<en.size:=by rw [hl]; exact aR hn
   have ju:en[n]? = some en[n]:=by simp [hi]
   have PE:=q4.2 n k0 x0 en[n] hn (by simp [hi]);have nu:en.findIdx? (fun e=>(e.born:Int)==(n:Int))=some n:=by
    rw [Array.findIdx?_eq_some_iff_getElem];refine ⟨hi,?_,fun j hj=>?_⟩
    ·have:=qe.idx n _ ju; simp [this]
    ·have:=qe.idx j en[j] (by rw [Array.getElem?_eq_getElem]);simp [this]; omega
   have cn:(Instr.entryStore t (.map (some blk)) (.int .i64 n) w).run E.P c.w = .ok () { c.w with heap:=c.w.heap.setIfInBounds blk (.map (en.modify n fun e=>{ e with val:=w }) ck) }:=by
    have ha:(asInt (.int .i64 (n:Int))).run E.P c.w = .ok (n:Int) c.w:=rfl;simp only [Instr.entryStore,Sem.run_bind,Sem.run_pure,Result.andThen_ok,oY q3,ha,nu,wq _ q3]
   have hlen:ma (en.modify n fun e=>{ e with val:=w }) ck (es.set n (k0,y)).length:=by
    have nY:(en.modify n fun e=>{ e with val:=w })=(en.modify n fun e=>{ e with key:=en[n].key,val:=w }):=by
     apply Array.ext_getElem?;intro j;rw [Array.getElem?_modify,Array.getElem?_modify];by_cases hj:n=j
     ·subst hj; simp [hi]
     ·simp [hj]
    rw [nY,List.length_set];exact qe.modify n _ w
   have fc:∀ (j:Nat) (k v:DV) (mm:MapEntry),(es.set n (k0,y))[j]? = some (k,v)→(en.modify n fun e=>{ e with val:=w })[j]? = some mm→VD c.bad c.w k mm.key∧VD c.bad c.w v mm.val:=by
    intro j k v mm hj dL;by_cases lv:j=n
    ·subst lv;rw [List.getElem?_set_self (by omega)] at hj;cases hj;rw [Array.getElem?_modify,if_pos rfl,ju] at dL;cases dL;exact ⟨PE.1,mo⟩
    ·rw [List.getElem?_set_ne (Ne.symm lv)] at hj;rw [Array.getElem?_modify,if_neg (Ne.symm lv)] at dL;exact q4.2 j k v mm hj (by simpa using dL)
   generalize en.modify n (fun e=>{ e with val:=w })=gW at cn hlen fc;generalize es.set n (k0,y)=db at hlen fc ⊢
   let c':Cx:={ c with heap:=c.heap.set b (.map db),w:={ c.w with heap:=c.w.heap.setIfInBounds blk (.map gW ck) } }
   have wx:c'.w.heap[blk]? = some (.map gW ck):=by simp [c',hblk]
   have qk:∀ b',b'≠blk→c'.w.heap[b']? = c.w.heap[b']? := fun b' bZ=>by simp [c',Array.getElem?_setIfInBounds,Ne.symm bZ]
   have oZ:c'.heap[b]? = some (.map db):=by show (c.heap.set b _)[b]? = _; rw [List.getElem?_set_self eu]
   have iQ:∀ i,i≠b→c'.heap[i]? = c.heap[i]? := fun i hi=>by show (c.heap.set b _)[i]? = _; rw [List.getElem?_set_ne (Ne.symm hi)]
   have bc:Step c c':=⟨rfl,h3.bN,rfl,rfl,rfl,by simp [c'],fun b' _ bL=>qk b' (fun nf=>bL b cap (nf ▸ q2)),fun i b' n hi _=>⟨n,hi⟩,fun i bx hi=>by
    by_cases bz:i=b
    ·subst bz;rw [hb] at hi;cases hi;exact .inl ⟨_,oZ,rfl⟩
    ·exact lb hi (iQ i bz) rfl⟩
   have aO:aK E.G c':=by
    refine h3.next bc (fun i b' n hi=>?_) h3.inj (fun i bx hi=>?_)
    ·have:=h3.br i b' n hi;refine ⟨by simpa [c'] using this.1,?_⟩;show i<(c.heap.set b _).length;rw [List.length_set];exact this.2
    ·by_cases bz:i=b
     ·subst bz;rw [oZ] at hi;cases hi;right;exact ⟨blk,cap,gW,ck,q2,wx,hlen,fun j k v mm hj dL=>⟨bc.vd (fc j k v mm hj dL).1,bc.vd (fc j k v mm hj dL).2⟩⟩
     ·rw [iQ i bz] at hi;exact .inl ⟨hi,rfl,fun b' n hn=>qk b' (fun nf=>bz (h3.inj i b blk n cap (nf ▸ hn) q2))⟩
   refine ⟨c',undef,.inr ⟨?_,rfl⟩,rfl,aO,.d _ _ .undef,bc⟩;simp only [execOp,e1,q1,hu,hw,Sem.run_bind,cn,Result.andThen_ok,Sem.run_pure];rfl
end
section
variable {E:Env} {ag:FuncId} {R:cw} {td:List aN} {s:List AV} {h:List ae} {lits:List Nat} {ops:Array Oper} {o:Oper} {l:List Oper} {k:List aN}
theorem I.mapEntry (hE:E.OK) (z:DV) (zv:Value) (v:DV) (i:Nat) (db:List (DV × DV)) {t:Nat} {m x:Operand} (hg:o.guard=none) (ca:o.op = .mapEntry t m x) (jq:∀ bad w,VD bad w z zv)
  (H:aM E.T t False fun ti=>match ti.k with
   | .map kt e=>bW E.G s m False fun
    | .map b=>aM h b False fun
     | .map es=>bW E.G s x False fun
      | .d y=>tV E kt False fun kd=>(cW E.T kd y∧∀ p∈es,cW E.T kd p.1)∧(∀ w,(zeroValue e).run E.P w = .ok zv w)∧((findD y es).getD z=v∧(eh y es).getD es.length=i∧bO y v es=db) ∧
       fy h b (.map db) fun h'=>cb s o.dst (.d (.aD [v,.int .i64 i])) fun s'=>I E ag R lits (.bq ops l::k) s' h'
      |_=>False
     |_=>False
    |_=>False
   |_=>False):I E ag R lits (.bq ops (o::l)::k) s h:=by
 rcases a7 H with H | ⟨ti,bP,H⟩
 ·exact H.elim
 split at H
 ·rename_i kt e hk;rcases b8 H with H | ⟨a,ha,H⟩
  ·exact H.elim
  split at H
  ·rename_i b;rcases a7 H with H | ⟨bx,hb,H⟩
   ·exact H.elim
   split at H
   ·rename_i es;rcases b8 H with H | ⟨y,hy,H⟩
    ·exact H.elim
    split at H
    ·rename_i y;rcases y5 H with H | ⟨kd,hT,H⟩
     ·exact H.elim
     obtain ⟨⟨f1,f2⟩,f3,⟨g1,g2,g3⟩,H⟩:=H;have ho:=PB hE bP hk hT hb ha hy f1 f2 f3 jq;rw [g1,g2,g3] at ho;rw [fY,dR] at H;rw [← ca] at ho;exact .of (.op (fZ hg) ho H.to)
    ·exact H.elim
   ·exact H.elim
  ·exact H.elim
 ·exact H.elim
theorem I.entryStore (hE:E.OK) {t:Nat} {m st vo:Operand} (n:Nat) {k0 x0:DV} (hg:o.guard=none) (ca:o.op = .entryStore t m st vo)
  (H:bW E.G s m False fun
    | .map b=>aM h b False fun
     | .map es=>es[n]? = some (k0,x0)∧bW E.G s st False fun u=>u = .d (.int .i64 n)∧bW E.G s vo False fun
      | .d y=>fy h b (.map (es.set n (k0,y))) fun h'=>cb s o.dst (.d .undef) fun s'=>I E ag R lits (.bq ops l::k) s' h'
      |_=>False
     |_=>False
    |_=>False):I E ag R lits (.bq ops (o::l)::k) s h:=by
 rcases b8 H with H | ⟨a,ha,H⟩
 ·exact H.elim
 split at H
 ·rename_i b;rcases a7 H with H | ⟨bx,hb,H⟩
  ·exact H.elim
  split at H
  ·rename_i es;obtain ⟨hn,H⟩:=H;rcases b8 H with H | ⟨u,hu,H⟩
   ·exact H.elim
   obtain ⟨rfl,H⟩:=H;rcases b8 H with H | ⟨y,hy,H⟩
   ·exact H.elim
   split at H
   ·rename_i y;have ho:=PC hE (t:=t) hb ha hn hu hy;rw [fY,dR] at H;rw [← ca] at ho;exact .of (.op (fZ hg) ho H.to)
   ·exact H.elim
  ·exact H.elim
 ·exact H.elim
theorem I.entry {x:Operand} {it:Iter} {g1 g2:List bk} {pre:List Nat} {j:Nat} {kk y:DV} (hg:o.guard=none) (ca:o.op = .entry x) (sB:R.rows=g1 ++ .iter it::g2) (Dy:it.seen=pre++[j]) (hj:it.es[j]? = some (kk,y)) (hx:aY E.G s x (.d (.raw (.pointer (some ⟨it.r,0,none⟩)))))
  (H:I E ag R lits (.bq ops l::k) (b9 s o.dst (.d (.aD [kk,y]))) h):I E ag R lits (.bq ops (o::l)::k) s h:=by
 refine .of ?_;unfold AW;intro c0 c t' dJ h0 h1 h2 h3 hr bF h4 h5 cs;subst h2;obtain ⟨i,hi,dA,aO⟩:=lh (h1 _ (List.mem_cons_self ..));have cx:(⟨t',marks R.fx.aI⟩:Act).eval x = .pointer (some ⟨it.r,0,none⟩):=by
  have:=hx c ⟨t',marks R.fx.aI⟩ h3 h4;generalize (⟨t',marks R.fx.aI⟩:Act).eval x=u at this;cases this with
  |d _ _ hq=>cases hq; rfl
 have r2:kA c0.w.heap.size c it:=bF.all.each (.iter it) (by rw [sB]; simp);obtain ⟨z0,z1,z3,z2⟩:=r2.iter;obtain rfl:=z3 (by rw [Dy]; simp);have iO:j<it.en.size:=r2.lt j (by rw [Dy]; simp);have fc:it.en[j]? = some it.en[j]:=by simp [iO]
 have bK:=r2.val j kk y it.en[j] hj fc;have PF:((it.seen.map fun j=>((it.en[j]?).map (·.born)).getD 0).toArray).back? = some j:=by
  rw [Dy];simp [fc,r2.dy.idx j _ fc]
 have nu:it.en.find? (fun e=>e.born==j)=some it.en[j]:=by
  rw [Array.find?_eq_some_iff_getElem];refine ⟨by simp [r2.dy.idx j _ fc],j,iO,rfl,fun q hq=>?_⟩;have:=r2.dy.idx q it.en[q] (by rw [Array.getElem?_eq_getElem]);simp [this]; omega
 have dX:(getObj it.r).run E.P c.w = .ok (.mapIter (some it.bm) it.since ((it.seen.map fun j=>((it.en[j]?).map (·.born)).getD 0).toArray) it.ck) c.w:=by simp [getObj,Sem.run,z2]
 have cn:(execOp (⟨t',marks R.fx.aI⟩:Act).eval o).run E.P c.w = .ok (.value (.tuple #[it.en[j].key,it.en[j].val])) c.w:=by
  simp only [execOp,ca,cx,Instr.entry,Sem.run_bind,Sem.run_pure,Result.andThen_ok,dX,PF,oY r2.map,bne_self_eq_false,Bool.false_eq_true,if_false,nu]
 have eF:VS c (b9 s o.dst (.d (.aD [kk,y]))) ((⟨t',marks R.fx.aI⟩:Act).put o.dst (.tuple #[it.en[j].key,it.en[j].val])).tmps :=
  VS.b9 (a:=⟨t',marks R.fx.aI⟩) h4 o.dst (.d _ _ (.aD _ _ rfl fun p z v hz hv=>by
   match p with
   | 0=>simp at hz hv; subst hz; subst hv; exact bK.1
   | 1=>simp at hz hv; subst hz; subst hv; exact bK.2
   |p+2=>simp at hz))
 have H:=H.to;unfold AW at H;obtain ⟨c2,fr,rr,u,e1,e2,e3,e4,e5,e6⟩:=H c0 c _ dJ h0 (fD aO (dK h1)) rfl h3 hr bF eF h5 cs;refine ⟨c2,fr,rr,u,e1,e2,e3,e4,.head ?_ e5,e6⟩;simp only [bU.bB,List.map_cons,dA];rw [tI hi (fZ hg c t' h4) (.inl cn),put_defers];rfl
theorem I.PG (d:Nat) (ts:Nat × Nat) (gU:0<ts.2) (hd:s[d]? = some (.d (.raw (.slice none 0 0)))) (H:I E ag R lits td (s.set d (.own h.length 0)) (h++[.arr 0 ts []])):I E ag R lits td s h:=by
 replace H:=H.to;refine .of (.js (fun c t dJ h1 h2 h3 h4 h5=>?_) H);subst h2
 let c':Cx:={ c with heap:=c.heap++[.arr 0 ts []] }
 have bL:c.own c.heap.length=none:=by
  cases ho:c.own c.heap.length with
  |none=>rfl
  |some p=>have:=(h3.br _ p.1 p.2 ho).2; omega
 have bc:Step c c':=⟨rfl,h3.bN,rfl,rfl,rfl,Nat.le_refl _,fun _ _ _=>rfl,fun i b n hi _=>⟨n,hi⟩,fun i bx hi=>lb hi (List.getElem?_append_left (aR hi)) rfl⟩;have gV:c'.heap[c.heap.length]? = some (.arr 0 ts []):=by show (c.heap++_)[_]? = _; simp
 have aO:aK E.G c':=h3.next bc (fun i b n hi=>⟨(h3.br i b n hi).1,by have:=(h3.br i b n hi).2; show i<(c.heap++_).length; simp; omega⟩) h3.inj (fun i bx hi=>by
  by_cases fL:i=c.heap.length
  ·subst fL;rw [gV] at hi;cases hi;exact .inr ⟨gU,fun i e he=>by simp at he,.inl ⟨bL,rfl⟩⟩
  ·have aj : i < c.heap.length := by have := aR hi; have h2 : c'.heap.length = c.heap.length + 1 := by show (c.heap ++ _).length = _; simp
                                     omega
   have bY:(c.heap++[.arr 0 ts []])[i]? = some bx:=hi;rw [List.getElem?_append_left aj] at bY
   exact .inl ⟨bY,rfl,fun _ _ _=>rfl⟩)
 refine ⟨c',t,dJ,h1,rfl,aO,?_,bc.cr h5,bc,fun _ => .refl _ _⟩;have gS:d<t.size:=by rw [← h4.1]; exact aR hd
 have hv:t[d] = .slice none 0 0:=by
  have:=h4.2 d _ t[d] hd (by simp [gS]);generalize t[d]=u at this;cases this with
  |d _ _ hv=>cases hv; rfl
 have:=VS.put (bc.vs h4) d (x := .own c.heap.length 0) (v:=t[d]) (by rw [hv]; exact .gy _ _ ts gV bL)
 simpa [Array.setIfInBounds,gS] using this
theorem I.Dz {b:Code} {κ:Type} (fh:List Nat) (vars:κ→List (Nat × AV)) (boxes:κ→List (Nat × ae)) (rows:κ→List bk) (Φ:κ→Prop) (μ:κ→Nat) (x0:κ) (h0:Φ x0) (hR:R.rows=rows x0)
  (nk:sk fh (lC (boxes x0)) (vars x0) (boxes x0) s h fun s' h'=>um h h' R.fx (uj R.n h s h' s'))
  (qC:∀ x,Φ x→(∀ y,Φ y→μ y<μ x→I E ag ⟨R.n,R.Q,rows y,R.fx⟩ [] (.inLoop b::k) (jU (vars y) (anyS fh (jW (lC (boxes x0)) s))) (jV (boxes y) h))→I E ag ⟨R.n,R.Q,rows x,R.fx⟩ [] (.code b :: .inLoop b::k) (jU (vars x) (anyS fh (jW (lC (boxes x0)) s))) (jV (boxes x) h)) :
  I E ag R lits (.code (.loop b)::k) s h:=by
 have e:R=⟨R.n,R.Q,rows x0,R.fx⟩:=by cases R; simp only at hR; subst hR; rfl
 have main:∀ n x,μ x<n→Φ x→I E ag ⟨R.n,R.Q,rows x,R.fx⟩ [] (.inLoop b::k) (jU (vars x) (anyS fh (jW (lC (boxes x0)) s))) (jV (boxes x) h):=by
  intro n
  induction n with
  |zero=>intro x hx; omega
  |succ n ih=>intro x hx hP; exact .of (.inLoop (qC x hP fun y hy hm=>ih y (by omega) hy).to)
 rw [w0] at nk;rw [e];exact .of (.loop (.weaken nk (qC x0 h0 fun y hy _=>main (μ y+1) y (by omega) hy).to))
end
end Go.aw
end
section
namespace Go.aw
open Go Go.RowKit
section
variable {E:Env} {ag:FuncId} {R:cw} {s:List AV} {h:List ae} {ops:Array Oper} {o:Oper} {l:List Oper} {k:List aN}
theorem I.PH {lits:List Nat} {x y:Operand} {ts:Array TypeId} {a b:Int} (hg:o.guard=none) (ca:o.op = .call { callee := .builtin .min,args := #[x,y],argTypes:=ts }) (hx:aY E.G s x (.d (.int .i64 a))) (hy:aY E.G s y (.d (.int .i64 b)))
  (H:I E ag R lits (.bq ops l::k) (b9 s o.dst (.d (.int .i64 (min a b)))) h):I E ag R lits (.bq ops (o::l)::k) s h:=by
 refine .of (.op (fZ hg) ?_ H.to);rw [ca];refine .quiet fun o c ac e1 e2 h3 h4=>⟨.int .i64 (min a b),?_,.d _ _ (.int _ _)⟩;have q1:=dQ (hx c ac h3 h4);have q2:=dQ (hy c ac h3 h4);have q3:(if b<a then b else a)=min a b:=by
  rcases Int.lt_or_le b a with q | q
  ·rw [if_pos q,Int.min_eq_right (Int.le_of_lt q)]
  ·rw [if_neg (Int.not_lt.2 q),Int.min_eq_left q]
 simp only [execOp,e1,resolve,invoke,builtin,Builtin.min_,Builtin.min2,List.map_toArray,List.map_cons,List.map_nil,q1,q2,List.foldlM_cons,List.foldlM_nil,Sem.run_bind,Sem.run_pure,Result.andThen_ok,pure_bind,bind_pure,q3]
end
end Go.aw
end
