/- Several texts of mine, one behind the other. Conditions: as each says. -/
import Derived.Test.YtfmdaiojokniiaaGreatDoorW6
import Derived.Lib.BufferMore
import Derived.Lib.LazyBuf
import Derived.Laws.CopyRow
set_option linter.unusedVariables false
set_option linter.unusedSimpArgs false
section
namespace Go.aw
open Go Go.RowKit
section
variable {E:Env} {af:FuncId} {R:cu} {s:List AV} {h:List ab} {lits:List Nat} {ops:Array Oper} {o:Oper} {l:List Oper} {k:List aH}
theorem N2 (op:BinOp) (t:TypeId) (x y:Operand) (p q:Option Addr) (a b c d:Nat):eqGuard op t x y (.slice p a b) (.slice q c d)=pure ():=by
 unfold eqGuard; cases op <;> rfl
theorem I.jZ (hE:E.OK) {t e:Nat} {x:Operand} {yt:Nat} {m:List DV} {ti:bh} (hg:o.guard=none) (bZ:o.op = .binOp .eql t x (.const (.slice none 0 0)) yt) (bJ:E.T[t]? = some ti) (hk:ti.k = .slice e) (hx:aQ E.G s x (.d (.sl m)))
  (H:∀ b,(b=true→m=[])→I E af R lits (.a8 ops l::k) (bX s o.dst (.d (.bool b))) h):I E af R lits (.a8 ops (o::l)::k) s h:=by
 refine .of ?_;unfold AW;intro c0 c t' dD h0 h1 h2 h3 hr bE h4 h5 cs;subst h2;obtain ⟨i,hi,eB,aJ⟩:=ku (h1 _ (List.mem_cons_self ..));obtain ⟨kB,d,g1,g2,g3,-⟩:=cg (hE.types t ti bJ);obtain rfl:=jO (hk.symm.trans g3);have hv:=hx c ⟨t',marks R.fx.aA⟩ h3 h4;have fin:∀ (p:Option Addr) (n cp:Nat) (b:Bool),(⟨t',marks R.fx.aA⟩:Act).eval x = .slice p n cp→(binOp .eql t (.slice p n cp) (.slice none 0 0)).run E.P c.w = .ok (.bool b) c.w→(execOp (⟨t',marks R.fx.aA⟩:Act).eval o).run E.P c.w = .ok (.value (.bool b)) c.w:=fun p n cp b e1 e2=>by
  have mi:(⟨t',marks R.fx.aA⟩:Act).eval (.const (.slice none 0 0)) = .slice none 0 0:=rfl;simp only [execOp,bZ,e1,mi,N2,Sem.run_bind,Sem.run_pure,Result.andThen_ok,e2]
 have key:∃ b,(b=true→m=[])∧(execOp (⟨t',marks R.fx.aA⟩:Act).eval o).run E.P c.w = .ok (.value (.bool b)) c.w:=by
  generalize hu:(⟨t',marks R.fx.aA⟩:Act).eval x=u at hv;cases hv with
  |d _ _ hv=>cases hv with
   |slnil=>exact ⟨true,fun _=>rfl,fin _ _ _ _ hu (Lib.run_eql_slice_nil_nil c.w 0 0 g2)⟩
   |ji a=>exact ⟨false,fun _=>rfl,fin _ _ _ _ hu (Lib.run_eql_slice_some_nil c.w a 0 0 g2)⟩
   |sl _ blk off cap sz f=>exact ⟨false,fun q=>(by cases q),fin _ _ _ _ hu (Lib.run_eql_slice_some_nil c.w _ _ _ g2)⟩
 obtain ⟨b,hb,cn⟩:=key;have H:=(H b hb).to;unfold AW at H;have eu:VS c (bX s o.dst (.d (.bool b))) ((⟨t',marks R.fx.aA⟩:Act).put o.dst (.bool b)).tmps:=VS.bX (a:=⟨t',marks R.fx.aA⟩) h4 o.dst (.d _ _ (.bool b));obtain ⟨c2,fr,rr,u,e1,e2,e3,e4,e5,e6⟩:=H c0 c _ dD h0 (fm aJ (dE h1)) rfl h3 hr bE eu h5 cs;refine ⟨c2,fr,rr,u,e1,e2,e3,e4,.head ?_ e5,e6⟩;simp only [bP.bA,List.map_cons,eB];rw [sJ hi (fA hg c t' h4) (.inl cn),put_defers];rfl
end
end Go.aw
end
section
namespace Go.aw
open Go Go.RowKit
section
variable {G:List (Nat × DV)} {c:Cx}
theorem aC.rewrite (ho:aC G c) {b g blk cap:Nat} {ts:Nat × Nat} {l l':List DV} {vs vs':Array Value} {w':World} (hb:c.heap[b]? = some (.arr g ts l)) (bz:c.own b=some (blk,cap)) (hblk:c.w.heap[blk]? = some (.cells vs ts.1 (0,0)))
  (hl:l'.length=l.length) (dB:∀ (i:Nat) (e:DV),l'[i]? = some e→e.cells.length=ts.2) (bK:vs'.size=vs.size) (AQ:w'.os=c.w.os) (ht:w'.tape=c.w.tape) (N3:w'.output=c.w.output) (hs:w'.heap.size=c.w.heap.size)
  (wq:∀ x,x≠blk→w'.heap[x]? = c.w.heap[x]?) (gu:w'.heap[blk]? = some (.cells vs' ts.1 (0,0)))
  (hv:∀ (i j:Nat) (e x:DV),l'[i]? = some e→e.cells[j]? = some x→∃ v,vs'[i*ts.2+j]? = some v∧v.oneCell'=true∧VD c.bad c.w x v) :
  aC G { c with heap:=c.heap.set b (.arr g ts l'),w:=w' }∧Step c { c with heap:=c.heap.set b (.arr g ts l'),w:=w' }:=by
 have eo:=aP hb
 have aV:Step c { c with heap:=c.heap.set b (.arr g ts l'),w:=w' }:=⟨rfl,ho.bG,AQ,ht,N3,by show _≤w'.heap.size; rw [hs]; exact Nat.le_refl _,fun x _ hn=>wq x (fun e=>by subst e; exact hn b cap bz),fun i x n hi _=>⟨n,hi⟩,fun i bx hi=>by
  by_cases bq:i=b
  ·subst bq;rw [hb] at hi;cases hi;exact .inl ⟨g,l',List.getElem?_set_self eo,.inr ⟨rfl,hl,rfl⟩⟩
  ·exact kq hi (List.getElem?_set_ne (Ne.symm bq)) rfl⟩
 refine ⟨ho.next aV (fun i x n hi=>?_) ho.inj (fun i bx hi=>?_),aV⟩
 ·have:=ho.bk i x n hi;refine ⟨by show x<w'.heap.size; rw [hs]; exact this.1,?_⟩;show i<(c.heap.set b _).length;rw [List.length_set]; exact this.2
 ·by_cases bq:i=b
  ·subst bq;have bS:(c.heap.set i (.arr g ts l'))[i]? = some bx:=hi;rw [List.getElem?_set_self eo] at bS;cases bS;right;obtain ⟨q0,q1,q2⟩:=ho.box i _ hb;rcases q2 with ⟨q2,-⟩ | ⟨ib,gR,Vy,q2,q3,q4,q5,q6,q7⟩
   ·rw [bz] at q2; cases q2
   rw [bz] at q2;cases q2;rw [hblk] at q3;cases q3;refine ⟨q0,dB,.inr ⟨blk,cap,vs',bz,gu,by rw [bK]; exact q4,by rw [hl]; exact q5,q6,fun i j e x he hx=>?_⟩⟩;obtain ⟨v,k1,k2,k3⟩:=hv i j e x he hx;exact ⟨v,k1,k2,aV.vd k3⟩
  ·have bS:(c.heap.set b (.arr g ts l'))[i]? = some bx:=hi;rw [List.getElem?_set_ne (Ne.symm bq)] at bS;exact .inl ⟨bS,rfl,fun x n hn=>wq x (fun e=>by subst e; exact bq (ho.inj i b _ n cap hn bz))⟩
theorem G7 {P:Program} (w:World) (dT sT ty elem:TypeId) (g Cv N4:Nat) (a:Addr) (Cw N5 sz:Nat) (cur:Array Value) (t:TypeId) (cs:List Value)
  (hu:P.underlying dT=some (.slice elem)) (hs:(P.info? elem).map (·.size)=some sz)
  (hg:w.heap[g]? = some (.cells cur t (0,0))) (hn:cs.length=Nat.min Cw Cv*sz)
  (sP:∀ j v,cs[j]? = some v→w.cell? (a.add j)=some v) (fV:cs.length≤cur.size) (h1:∀ v∈cs,v.oneCell'=true) :
  (Builtin.copy_ #[dT,sT] ty #[.slice (some ⟨g,0,none⟩) Cv N4,.slice (some a) Cw N5]).run P w =
   .ok (goInt (Nat.min Cw Cv)) (w.setRow g (cs++cur.toList.drop cs.length).toArray):=by
 have hl:=run_loadCells_list (P:=P) w a cs sP;have aV:=run_storeCells_at P g 0 t cs 0 cur w hg (by simpa using fV) h1;simp only [Nat.add_zero,List.take_zero,List.nil_append,Nat.zero_add] at aV;cases hq:P.info? elem with
 |none=>simp [hq] at hs
 |some i =>
  have hi:i.size=sz:=by simpa [hq] using hs
  simp [Builtin.copy_,run_underlying hu,Builtin.lenOf,Builtin.firstCells,sizeOf,typeInfo,hq,hi,← hn,hl,aV]
end
section
variable {E:Env} {af:FuncId} {R:cu} {s:List AV} {h:List ab} {lits:List Nat} {ops:Array Oper} {o:Oper} {l:List Oper} {k:List aH}
theorem G8 (hE:E.OK) {dT sT e b g:Nat} {x y:Operand} {i ei:bh} {ts:Nat × Nat} {l m:List DV} (hi:E.T[dT]? = some i) (hk:i.k = .slice e) (bL:E.T[e]? = some ei) (gr:ts.2=ei.size) (hb:h[b]? = some (.arr g ts l)) (aE:l≠[])
  (hx:aQ E.G s x (.own b g)) (hy:aQ E.G s y (.d (.sl m))) (hm:∀ z∈m,z.cells.length=ts.2) :
  bw E (.call { callee := .builtin .copy,args := #[x,y],argTypes := #[dT,sT] }) s h (.d (.int .i64 (min m.length l.length:Nat))) (h.set b (.arr g ts (m.take l.length++l.drop m.length))):=by
 intro o c a e1 e2 e3 e4;subst e2;obtain ⟨uN,d,q1,q2,q3,-⟩:=cg (hE.types dT i hi);obtain rfl:=jO (hk.symm.trans q3);obtain ⟨tie,de,p1,p2,p3,p4,-⟩:=cg (hE.types e ei bL);obtain ⟨b0,b1,b2⟩:=e3.box b _ hb;rcases kz hb (hx c a e3 e4) with ⟨blk,cap,r1,r2⟩ | ⟨r,-,-⟩
 case inr=>exact absurd r aE
 rcases b2 with ⟨b2,-⟩ | ⟨ib,gR,vs,b2,b3,b4,b5,b6,b7⟩
 ·rw [r1] at b2; cases b2
 rw [r1] at b2;cases b2;have eM:=hy c a e3 e4;have key:∃ (cs:List Value) (sv:Value),a.eval y=sv∧cs.length=min m.length l.length*ts.2∧(∀ v∈cs,v.oneCell'=true) ∧
   (∀ (i j:Nat) (e z:DV),i<l.length→m[i]? = some e→e.cells[j]? = some z→∃ v,cs[i*ts.2+j]? = some v∧v.oneCell'=true∧VD c.bad c.w z v) ∧
   (Builtin.copy_ #[dT,sT] o.type #[.slice (some ⟨blk,0,none⟩) l.length cap,sv]).run E.P c.w = .ok (goInt ((min m.length l.length:Nat):Int)) (c.w.setRow blk (cs++vs.toList.drop cs.length).toArray):=by
  have N6:c.w.setRow blk (([]:List Value)++vs.toList.drop ([]:List Value).length).toArray=c.w:=by
   simp only [List.nil_append,List.length_nil,List.drop_zero,Array.toArray_toList];exact setRow_self c.w blk vs ts.1 (0,0) b3
  have bK:(E.P.info? e).map (·.size)=some ts.2:=by rw [p1,Option.map_some,gr,← p4]
  generalize hu:a.eval y=u at eM;cases eM with
  |d _ _ hv=>cases hv with
   |slnil =>
    refine ⟨[],_,rfl,by simp,fun v hv=>by simp at hv,fun i j e z _ he=>by simp at he,?_⟩;rw [N6];have Cy:min ([]:List DV).length l.length=0:=by simp
    rw [Cy];have:=run_copy_nil (P:=E.P) c.w dT sT o.type e ⟨blk,0,none⟩ l.length cap q2 (by rw [p1]; rfl)
    simpa using this
   |ji a' =>
    refine ⟨[],_,rfl,by simp,fun v hv=>by simp at hv,fun i j e z _ he=>by simp at he,?_⟩;have Cy:min ([]:List DV).length l.length=0:=by simp
    rw [Cy];have:=G7 (P:=E.P) c.w dT sT o.type e blk l.length cap a' 0 0 ts.2 vs ts.1 [] q2 bK b3 (by simp) (fun j v hj=>by simp at hj) (by simp) (fun v hv=>by simp at hv)
    simpa using this
   |sl _ Cz off N7 sz f h1 h2 h3 h4 h5 h6 h7 =>
    have facts:∀ q,q<min m.length l.length*ts.2→∃ e z,m[q / ts.2]? = some e∧e.cells[q % ts.2]? = some z∧sz=ts.2:=fun q hq=>by
     have hi:q / ts.2<min m.length l.length:=Nat.div_lt_of_lt_mul (by rw [Nat.mul_comm]; exact hq);have hj:q % ts.2<ts.2:=Nat.mod_lt _ b0;obtain ⟨z,hz⟩:∃ z,m[q / ts.2]? = some z:=⟨m[q / ts.2]'(by omega),by rw [List.getElem?_eq_getElem]⟩;have qk:=hm z (List.mem_of_getElem? hz);have mL:=h4 _ z hz;exact ⟨z,z.cells[q % ts.2]'(by omega),hz,by rw [List.getElem?_eq_getElem],by omega⟩
    have hlen:((List.range (min m.length l.length*ts.2)).map fun q=>f (q / ts.2) (q % ts.2)).length=min m.length l.length*ts.2:=by simp
    have dQ:∀ q v,((List.range (min m.length l.length*ts.2)).map fun q=>f (q / ts.2) (q % ts.2))[q]? = some v→q<min m.length l.length*ts.2∧v=f (q / ts.2) (q % ts.2):=fun q v hq=>by
     have ah:=aP hq;rw [hlen] at ah;refine ⟨ah,?_⟩;simp [ah] at hq;exact hq.symm
    refine ⟨_,_,rfl,hlen,fun v hv=>?_,fun i j e z hi he hz=>?_,?_⟩
    ·obtain ⟨q,hq⟩:=List.getElem?_of_mem hv;obtain ⟨iY,rfl⟩:=dQ q v hq;obtain ⟨e,z,g1,g2,g3⟩:=facts q iY;exact h7 _ _ e z g1 g2
    ·have hj:j<ts.2:=by rw [← hm e (List.mem_of_getElem? he)]; exact aP hz
     have Vz:=aP he;have hq:i*ts.2+j<min m.length l.length*ts.2:=by
      have h1:(i+1)*ts.2≤min m.length l.length*ts.2:=Nat.mul_le_mul_right _ (by omega);rw [Nat.add_mul] at h1;omega
     have ed:(i*ts.2+j) / ts.2=i:=by rw [Nat.mul_comm,Nat.mul_add_div b0,Nat.div_eq_of_lt hj]; omega
     have em:(i*ts.2+j) % ts.2=j:=by rw [Nat.mul_comm,Nat.mul_add_mod,Nat.mod_eq_of_lt hj]
     exact ⟨f i j,by simp [hq,ed,em],h7 i j e z he hz,h6 i j e z he hz⟩
    ·have fV:((List.range (min m.length l.length*ts.2)).map fun q=>f (q / ts.2) (q % ts.2)).length≤vs.size:=by
      rw [hlen,b4];exact Nat.mul_le_mul_right _ (by omega)
     exact G7 (P:=E.P) c.w dT sT o.type e blk l.length cap ⟨Cz,off,none⟩ m.length N7 ts.2 vs ts.1 _ q2 bK b3 hlen (fun q v hq=>by
      obtain ⟨iY,rfl⟩:=dQ q v hq;obtain ⟨e,z,g1,g2,g3⟩:=facts q iY;have:=h5 _ _ e z g1 g2;subst g3;rw [Nat.mul_comm,Nat.div_add_mod] at this;have yi:(⟨Cz,off,none⟩:Addr).add q=⟨Cz,off+q,none⟩:=by unfold Addr.add; split <;> simp_all
      rw [yi];exact this) fV (fun v hv=>by
      obtain ⟨q,hq⟩:=List.getElem?_of_mem hv;obtain ⟨iY,rfl⟩:=dQ q v hq;obtain ⟨e,z,g1,g2,g3⟩:=facts q iY
      exact h7 _ _ e z g1 g2)
 obtain ⟨cs,sv,k1,k2,k3,k4,k5⟩:=key;have VA:cs.length≤vs.size:=by rw [k2,b4]; exact Nat.mul_le_mul_right _ (by omega)
 have VB:blk<c.w.heap.size:=(e3.bk b blk cap r1).1;have N8:=e3.rewrite (l':=m.take l.length++l.drop m.length) (vs':=(cs++vs.toList.drop cs.length).toArray) (w':=c.w.setRow blk (cs++vs.toList.drop cs.length).toArray) hb r1 b3 (by simp; omega) (fun i e he=>?_) (by simp; omega) rfl rfl rfl (by simp [World.setRow]) (fun x hx=>by simp [World.setRow,Array.getElem?_modify,Ne.symm hx]) (by simp [World.setRow,Array.getElem?_modify,b3]) (fun i j e z he hz=>?_)
 ·obtain ⟨aJ,aV⟩:=N8;refine ⟨_,.int .i64 (min m.length l.length:Nat),.inl ?_,rfl,aJ,.d _ _ (.int _ _),aV⟩;simp only [execOp,e1,resolve,invoke,builtin,List.map_toArray,List.map_cons,List.map_nil,r2,k1,Sem.run_bind,Sem.run_pure,Result.andThen_ok,k5];rfl
 ·rcases Nat.lt_or_ge i (m.take l.length).length with h | h
  ·rw [List.getElem?_append_left h] at he;exact hm e (List.mem_of_mem_take (List.mem_of_getElem? he))
  ·rw [List.getElem?_append_right h] at he;exact b1 _ e (by rw [List.getElem?_drop] at he; exact he)
 ·have hj:∀ z:DV,z.cells.length=ts.2→∀ w,z.cells[j]? = some w→j<ts.2:=fun z hz w hw=>by rw [← hz]; exact aP hw
  rcases Nat.lt_or_ge i (m.take l.length).length with h | h
  ·rw [List.getElem?_append_left h,List.getElem?_take] at he;have fy:i<l.length:=by simp at h; omega
   rw [if_pos fy] at he;obtain ⟨v,v1,v2,v3⟩:=k4 i j e z fy he hz;refine ⟨v,?_,v2,v3⟩;rw [List.getElem?_toArray,List.getElem?_append_left (aP v1)];exact v1
  ·rw [List.getElem?_append_right h] at he;rw [List.getElem?_drop] at he;have hlen:(m.take l.length).length=min m.length l.length:=by simp; omega
   rw [hlen] at he h;have G9:m.length<l.length:=by
    have:=aP he;omega
   have G':min m.length l.length=m.length:=by omega
   rw [G'] at he h;rw [show m.length+(i - m.length)=i by omega] at he;obtain ⟨v,v1,v2,v3⟩:=b7 i j e z he hz;refine ⟨v,?_,v2,v3⟩;have mV:cs.length≤i*ts.2+j:=by
    rw [k2,G'];have:=Nat.mul_le_mul_right ts.2 h;omega
   rw [List.getElem?_toArray,List.getElem?_append_right mV,List.getElem?_drop,show cs.length+(i*ts.2+j - cs.length)=i*ts.2+j by omega]
   simpa using v1
theorem I.Ha (hE:E.OK) {dT sT:Nat} {x y:Operand} (hg:o.guard=none) (bZ:o.op = .call { callee := .builtin .copy,args := #[x,y],argTypes := #[dT,sT] })
  (H:aI E.T dT False fun i=>match i.k with
   | .slice e=>aI E.T e False fun ei=>bR E.G s x False fun
    | .own b g=>aI h b False fun
     | .arr g' ts l'=>match Nat.beq g g' with
      |true=>bR E.G s y False fun
       | .d (.sl m)=>need (l'≠[]∧ts.2=ei.size∧∀ z∈m,z.cells.length=ts.2) (fe h b (.arr g ts (m.take l'.length++l'.drop m.length)) fun h'=>bY s o.dst (.d (.int .i64 (min m.length l'.length:Nat))) fun s'=>I E af R lits (.a8 ops l::k) s' h')
       |_=>False
      |false=>False
     |_=>False
    |_=>False
   |_=>False):I E af R lits (.a8 ops (o::l)::k) s h:=by
 rcases aS H with H | ⟨i,hi,H⟩
 ·exact H.elim
 split at H
 case h_2=>exact H.elim
 rename_i e hk;rcases aS H with H | ⟨ei,bL,H⟩
 ·exact H.elim
 rcases bW H with H | ⟨v,hv,H⟩
 ·exact H.elim
 split at H
 case h_2=>exact H.elim
 rename_i b g;rcases aS H with H | ⟨bx,hb,H⟩
 ·exact H.elim
 split at H
 case h_2=>exact H.elim
 rename_i g' ts l';split at H
 case h_2=>exact H.elim
 rename_i q;have q:=Nat.eq_of_beq_eq_true q;subst q;rcases bW H with H | ⟨u,hu,H⟩
 ·exact H.elim
 split at H
 case h_2=>exact H.elim
 rename_i m;obtain ⟨⟨n1,n2,n3⟩,H⟩:=kx H;rw [fK,dF] at H;refine .of (.op (fA hg) ?_ H.to);rw [bZ];exact G8 hE hi hk bL n2 hb n1 hv hu n3
end
end Go.aw
end
section
namespace Go.aw
open Go Go.RowKit
theorem ff.mid {lim:Nat} {c:Cx} {g1 g2:List bc} {g:bc} (h:ff lim c (g1++g2)) (hg:gn lim c g) (hn:g.ca.Nodup) (hd:∀ x∈g.ca,x ∉ (g1++g2).flatMap bc.ca):ff lim c (g1++g::g2):=by
 refine ⟨fun r hr=>?_,?_⟩
 ·rcases List.mem_append.1 hr with hr | hr
  ·exact h.each r (List.mem_append_left _ hr)
  ·rcases List.mem_cons.1 hr with rfl | hr
   ·exact hg
   ·exact h.each r (List.mem_append_right _ hr)
 ·have hp:((g1++g::g2).flatMap bc.ca).Perm (g.ca++(g1++g2).flatMap bc.ca):=by
   have:=(List.perm_middle (a:=g) (l₁ := g1) (l₂ := g2)).flatMap_right bc.ca
   simpa using this
  rw [hp.nodup_iff,List.nodup_append];exact ⟨hn,h.nodup,fun x hx y hy e=>by subst e; exact hd x hx hy⟩
section
variable {lim:Nat} {c:Cx} {rows L:List bc}
theorem dw.push {g:bc} (h:dw lim c rows L) (hg:gn lim c g) (hn:g.ca.Nodup) (hd:∀ x∈g.ca,x ∉ (rows++L).flatMap bc.ca):dw lim c rows (g::L):=⟨h.all.mid hg hn hd,h.flat⟩
theorem dw.pop {g:bc} (h:dw lim c rows (g::L)):dw lim c rows L∧gn lim c g∧∀ x∈g.ca,x ∉ (rows++L).flatMap bc.ca:=by
 obtain ⟨h1,h2,h3⟩:=h.all.tK;exact ⟨⟨h1,h.flat⟩,h2,h3⟩
theorem dw.old {G:List (Nat × DV)} (h:dw lim c rows L) (ho:aC G c) {b:Nat} (hb:b∈(rows++L).flatMap bc.ca):b<c.w.heap.size:=by
 obtain ⟨g,hg,hx⟩:=List.mem_flatMap.1 hb;exact ho.bG _ ((h.all.each g hg).ax _ hx)
theorem Touch.putObj {l:Nat} {o:Obj} (hb:c.ax l):Touch c l (c.w.putObj l o):=⟨hb,rfl,rfl,rfl,World.putObj_size,fun _ h=>World.putObj_heap_other h⟩
theorem dw.Hb {n r:Nat} {g g':bc} {w':World} (h:dw lim c rows L) (hl:L[n]? = some g) (hb:g.ca=[r]) (bT:g'.ca=[r]) (ht:Touch c r w') (hg:gn lim (c.dL w') g'):dw lim (c.dL w') rows (L.set n g'):=by
 have ah:=aP hl;have e1:L=L.take n++g::L.drop (n+1):=by
  have vS:L[n]=g:=(List.getElem?_eq_some_iff.1 hl).2;rw [← vS,List.getElem_cons_drop,List.take_append_drop]
 have e2:L.set n g'=L.take n++g'::L.drop (n+1):=by
  rw [List.set_eq_take_append_cons_drop,if_pos ah]
 have h1:=h.all;rw [e1,← List.append_assoc] at h1;obtain ⟨k1,k2,k3⟩:=h1.tK;rw [e2];refine ⟨?_,h.flat⟩;rw [← List.append_assoc];refine (ht.rows k1 (k3 r (by rw [hb]; simp))).mid hg (by rw [bT]; simp) (fun x hx=>?_);rw [bT] at hx;exact k3 x (by rw [hb]; exact hx)
end
def rE:List Nat→List AV→List AV→List AV
 |p::ps,a::l,s=>rE ps l (s.set p a)
 |_,_,s=>s
theorem CA {c:Cx}:∀ {ps:List Nat} {l:List AV} {vs:List Value} {s:List AV} {t:Array Value},VS c s t→VL c l vs→VS c (rE ps l s) ((ps.zip vs).foldl (fun t (p,v)=>t.setIfInBounds p v) t)
 | [],_,_,_,_,h,_=>by simpa [rE] using h
 |_::_,[],[],_,_,h,_=>by simpa [rE] using h
 |_::_,_::_,[],_,_,_,hl=>by have:=hl.1; simp at this
 |_::_,[],_::_,_,_,_,hl=>by have:=hl.1; simp at this
 |p::ps,a::l,v::vs,s,t,h,hl=>by
  simp only [rE,List.zip_cons_cons,List.foldl_cons];exact CA (h.put p hl.head.1) hl.head.2
theorem N9 {P : Program} {f : FuncId} {fn : Func} {b : Code} (hf : P.funcs[f]? = some fn) (hb : fn.body = some b) (hn : (fn.name == "runtime.NumGoroutine") = false) (args : Array Value) (w : World) : (callFunc f args).run P w = .ok (.enter f args) w := by
 simp only [callFunc,Sem.run_bind,Sem.run_pure,Result.andThen_ok,program,Sem.run,hf,hn,hb,Option.isNone_some,Bool.false_eq_true,if_false]
theorem Hc {P:Program} {f:FuncId} {fn:Func} {b:Code} (hf:P.funcs[f]? = some fn) (hb:fn.body=some b) (vs:List Value) (s:List AV):Frame.enter P f vs.toArray .normal=(⟨⟨f,none,[]⟩,[.code b],s⟩:bP).bA (vs.toArray++Array.replicate (fn.ntmps - vs.toArray.size) undef):=by
 simp [Frame.enter,bP.bA,Frame.atR,hf,hb,bf,aH.bA,marks]
theorem Hd {P:Program} {b:Frame} {a:Act} {k:List Item} {cs:List Frame} {w:World} {ops:Array Oper} {i:Nat} {rest:List Nat} {o:Oper} {l:Nat} {f:FuncId} {tmps:Array Value} {assign body:Code} (ho:ops[i]? = some o) (hw:Region.wanted o (yielded ops a.tmps)=true)
  (hr:(execOp a.eval o).run P w = .ok (.round l f tmps assign body) w) :
  step P (lone (b.atR a (.inRegion ops (i::rest)::k)) cs w) = .next (lone (Frame.round l f tmps assign body .normal) (b.atR a (.inRegion ops (i::rest)::k)::cs) w):=by
 have hg:=stepGR_op (P:=P) (b:=b) (k:=k) (cs:=cs) (w:=w) (rest:=rest) ho hw;have qH:=pb (ro:=b.roundOf) hr (by simp);exact step_lone_go (by rw [hg]; simp [stepG.apply,qH])
theorem He {P:Program} {G:List (Nat × DV)} {c0:Cx} {rows L:List bc} {cs:List Frame}:∀ (D:List Nat) (c:Cx) (fr:Frame),aC G c→dY c0 c→dw c0.w.heap.size c rows (D.map .mark++L)→fr.mode = .returning→fr.defers=marks D →
  ∃ c':Cx,c'.heap=c.heap∧aC G c'∧dY c0 c'∧dw c0.w.heap.size c' rows L∧(∀ x v,VR c x v→VR c' x v)∧Steps P (lone fr cs c.w) (lone { fr with defers:=[] } cs c'.w)
 | [],c,fr,h1,h2,h3,_,h5=>by
  refine ⟨c,rfl,h1,h2,h3,fun _ _ h=>h,?_⟩;have:{ fr with defers:=[] }=fr:=by cases fr; simp only at h5; subst h5; rfl
  rw [this];exact .refl _ _
 |d::D,c,fr,h1,h2,h3,h4,h5=>by
  obtain ⟨k1,k2,k3⟩:=h3.pop;have k2:pa c0.w.heap.size c d:=k2;have ht:Touch c d (c.w.putObj d (.deferred none)) := .putObj k2.ax;have N':=ht.rows k1.all (k3 d (by simp [bc.ca]));obtain ⟨c',q1,q2,q3,q4,q5,q6⟩:=He D (c.dL (c.w.putObj d (.deferred none))) { fr with defers:=marks D } (ht.aJ h1) (ht.rel h2 k2.new) ⟨N',k1.flat⟩ h4 rfl;refine ⟨c',q1,q2,q3,q4,fun x v hv=>q5 x v (ht.vr hv),.head ?_ q6⟩;exact step_collected (calls:=[]) (by rw [h4]; simp) h5 rfl (run_takeDeferred k2.mem)
theorem CB {E:Env} (hE:E.OK) {fn:Func} {s:List AV} {h:List ab} {K:AV→List ab→Prop} (H:lx E.T s h fn.results.toList False K) :
  ∃ r,K r h∧∀ (c:Cx) (t:Array Value),c.heap=h→aC E.G c→VS c s t→∃ v,VR c r v∧(results fn t).run E.P c.w = .ok v c.w:=by
 unfold lx at H;rcases xR hE H with h' | ⟨l,H,hl⟩
 ·cases h'
 split at H
 ·rename_i x;refine ⟨x,H,fun c t e1 e2 e3=>?_⟩;obtain ⟨vs,g1,g2⟩:=hl c t e1 e2 e3;cases vs with
  |nil=>have:=g1.1; simp at this
  |cons v vs=>cases vs with
   |cons u vs=>have:=g1.1; simp at this
   |nil=>exact ⟨v,g1.head.1,AP g2⟩
 ·rename_i aE;refine ⟨_,H,fun c t e1 e2 e3=>?_⟩;obtain ⟨vs,g1,g2⟩:=hl c t e1 e2 e3;refine ⟨.tuple vs.toArray,.az _ _ (by simpa using g1.1) fun j x v hx hu=>g1.2 j x v hx (by simpa using hu),?_⟩;have:=AP g2;cases vs with
  |nil=>exact this
  |cons v vs=>cases vs with
   |nil =>
    have:=g1.1;cases l with
    |nil=>simp at this
    |cons x l=>cases l with
     |nil=>exact absurd rfl (aE x)
     |cons y l=>simp at this
   |cons u vs=>exact this
section
variable {E:Env} {af:FuncId} {R:cu} {s:List AV} {h:List ab} {lits:List Nat} {ops:Array Oper} {o:Oper} {l:List Oper} {k:List aH}
theorem I.rangeFunc {g : Operand} {ps : Array Tmp} {assign body Hf : Code} {gf : FuncId} {a1 a2 : List AV} {fn : Func} (hg : aQ E.G s g (.fn (.func gf) a1 a2)) (hf : E.P.funcs[gf]? = some fn) (hb : fn.body = some Hf) (hn : (fn.name == "runtime.NumGoroutine") = false) (iB : R.fx.cy = none)
  (H:∀ (ll d:Nat) (t:Array Value),I E gf ⟨R.n,R.Q,R.rows,⟨R.fx.f0,none,[],⟨⟨af,none,d::R.fx.aA⟩,.mR ll::k,s⟩::R.fx.cls,.loop ⟨ll,d,.ready,none,af,t,ps,assign,body,s⟩ :: .mark d::R.fx.loops,R.fx.inl⟩⟩ [] [.code Hf] (lu (a1++[.fn (.yield ll) [] []]++a2) fn.ntmps) h) :
  I E af R lits (.code (.rangeFunc g ps assign body)::k) s h:=by
 have e:(⟨af,R.fx.cy,R.fx.aA⟩:gm)=⟨af,none,R.fx.aA⟩:=by rw [iB]
 refine .of ?_;rw [e];unfold AW;intro c0 c t ts h0 h1 h2 h3 hr bE h4 h5 cs;subst h2;obtain ⟨v1,v2,e1,e2,e3⟩:=jn (hg c ⟨t,marks R.fx.aA⟩ h3 h4);obtain ⟨i,hi⟩:∃ i:iP,i=⟨c.w.heap.size+1,c.w.heap.size,.ready,none,af,t,ps,assign,body,s⟩:=⟨_,rfl⟩;have bK:(c.cw (.deferred (some []))).w.heap.size=c.w.heap.size+1:=by simp [Cx.cw]
 have dx:aC E.G (c.cw (.deferred (some []))):=h3.cw;have wo:aC E.G ((c.cw (.deferred (some []))).cw (.loop i.dZ)):=dx.cw;have Cm:dY c0 ((c.cw (.deferred (some []))).cw (.loop i.dZ)):=hr.cw.cw;have jR:∀ x v,VR c x v→VR ((c.cw (.deferred (some []))).cw (.loop i.dZ)) x v:=fun x v hv=>rC (rC hv);have fy:i.l=c.w.heap.size+1:=by rw [hi]
 have wv:dw c0.w.heap.size ((c.cw (.deferred (some []))).cw (.loop i.dZ)) R.rows (.loop i :: .mark c.w.heap.size::R.fx.loops):=by
  have b0:dw c0.w.heap.size ((c.cw (.deferred (some []))).cw (.loop i.dZ)) R.rows R.fx.loops:=⟨(bE.all.cw h3).cw dx,bE.flat⟩;have b1:dw c0.w.heap.size ((c.cw (.deferred (some []))).cw (.loop i.dZ)) R.rows (.mark c.w.heap.size::R.fx.loops):=by
   refine b0.push (g := .mark c.w.heap.size) (show pa _ _ _ from ⟨.inl (.inr rfl),hr.size,?_⟩) (by simp [bc.ca]) (fun x hx hm=>?_)
   ·show ((c.w.alloc (.deferred (some []))).alloc (.loop i.dZ)).heap[c.w.heap.size]? = _;rw [Below.heap_alloc _ _ _ (by simp)];exact heap_alloc_new _ _
   ·simp [bc.ca] at hx;subst hx;have:=bE.old h3 hm;omega
  refine b1.push (g := .loop i) (show lr _ _ _ from ⟨.inr (by rw [fy,bK]),by rw [fy]; have:=hr.size; omega,?_,?_⟩) (by simp [bc.ca]) (fun x hx hm=>?_)
  ·show ((c.w.alloc (.deferred (some []))).alloc (.loop i.dZ)).heap[i.l]? = _;rw [fy,show c.w.heap.size+1=(c.w.alloc (.deferred (some []))).heap.size by simp];exact heap_alloc_new _ _
  ·have es:i.fY=s:=by rw [hi]
   have et:i.tm=t:=by rw [hi]
   rw [es,et];exact ⟨h4.1,fun j x v hx hv=>jR x v (h4.2 j x v hx hv)⟩
  ·simp [bc.ca] at hx;subst hx;rw [List.flatMap_append,List.mem_append,List.flatMap_cons,List.mem_append] at hm;rcases hm with hm | hm | hm
   ·have:=bE.old h3 (b:=i.l) (by rw [List.flatMap_append]; exact List.mem_append_left _ hm);omega
   ·simp [bc.ca] at hm;omega
   ·have:=bE.old h3 (b:=i.l) (by rw [List.flatMap_append]; exact List.mem_append_right _ hm);omega
 have H:=(H (c.w.heap.size+1) c.w.heap.size t).to;rw [← hi] at H;unfold AW at H;have gq:VL ((c.cw (.deferred (some []))).cw (.loop i.dZ)) (a1++[.fn (.yield (c.w.heap.size+1)) [] []]++a2) (v1++[.func (.yield (c.w.heap.size+1)) #[] #[]]++v2):=by
  have lift:∀ {x:List AV} {u:List Value},VL c x u→VL ((c.cw (.deferred (some []))).cw (.loop i.dZ)) x u:=fun hx=>⟨hx.1,fun j x v h1 h2=>jR x v (hx.2 j x v h1 h2)⟩;exact ((lift e2).append (.cons (.fn _ _ _ _ _ rfl rfl (fun j x v hx=>by simp at hx) (fun j x v hx=>by simp at hx)) .nil)).append (lift e3)
 obtain ⟨c2,fr,r,v,q1,q2,q3,q4,q5,q6⟩:=H c0 ((c.cw (.deferred (some []))).cw (.loop i.dZ)) _ (t::ts) h0 (fun x hx=>by simp at hx; subst hx; trivial) rfl wo Cm wv (AI fn.ntmps gq) ⟨⟨h4.1,fun j x v hx hv=>jR x v (h4.2 j x v hx hv)⟩,fm trivial (dE h1),mS jR h5⟩ cs;refine ⟨c2,fr,r,v,q1,q2,q3,q4,.head ?_ q5,q6⟩;have eN:=run_enterLoop_outer (P:=E.P) (w:=c.w) af t ps assign body;have Oa:(Loop.mk .ready none af t ps assign body c.w.heap.size)=i.dZ:=by rw [hi]; rfl
 rw [Oa] at eN;have CC:(resolve (⟨t,marks R.fx.aA⟩:Act).eval (rangeCall g (c.w.heap.size+1)) 0).run E.P ((c.w.alloc (.deferred (some []))).alloc (.loop i.dZ)) = .ok { target := .fn (.func gf) v2.toArray,args:=v1.toArray ++ #[.func (.yield (c.w.heap.size+1)) #[] #[]] } ((c.w.alloc (.deferred (some []))).alloc (.loop i.dZ)):=by
  have hy:∀ l:Nat,#[Operand.const (Value.func (Fn.yield l) #[] #[])].map (⟨t,marks R.fx.aA⟩:Act).eval = #[.func (.yield l) #[] #[]]:=fun _=>by simp [Act.eval]
  simp only [resolve,rangeCall,e1,Deferred.ofValue,Sem.run_pure,hy]
 have hinv:(invoke (Target.fn (.func gf) v2.toArray) (v1.toArray ++ #[.func (.yield (c.w.heap.size+1)) #[] #[]])).run E.P ((c.w.alloc (.deferred (some []))).alloc (.loop i.dZ)) = .ok (.enter gf (v1++[Value.func (.yield (c.w.heap.size+1)) #[] #[]]++v2).toArray) ((c.w.alloc (.deferred (some []))).alloc (.loop i.dZ)):=by
  simp only [invoke];rw [N9 hf hb hn]
  congr 2
  apply Array.ext';simp
 have hs:=stepR_rangeFunc (P:=E.P) (b:=bf ⟨af,none,R.fx.aA⟩) (a:=⟨t,marks R.fx.aA⟩) (k:=k.map aH.bA) (cs:=ev R.fx.cls ts++cs) eN CC hinv;rw [Hc hf hb _ (lu (a1++[.fn (.yield (c.w.heap.size+1)) [] []]++a2) fn.ntmps)] at hs;exact hs
theorem I.yield (n:Nat) {i:iP} {fx:Operand} {args:Array Operand} {ts:Array TypeId} {av:List AV} (hl:R.fx.loops[n]? = some (.loop i)) (hg:o.guard=none) (bZ:o.op = .call { callee := .value fx,args:=args,argTypes:=ts }) (hf:aQ E.G s fx (.fn (.yield i.l) [] [])) (ha:gS E.G s args.toList av) (hlen:av.length=i.ps.size)
  (H:I E i.fn ⟨R.n,R.Q,R.rows,⟨R.fx.f0,some i.l,[],⟨⟨af,R.fx.cy,R.fx.aA⟩,.a8 ops (o::l)::k,s⟩::R.fx.cls,R.fx.loops,R.fx.inl⟩⟩ [] [.code i.assign,.nX,.code i.body] (rE i.ps.toList av i.fY) h):I E af R lits (.a8 ops (o::l)::k) s h:=by
 refine .of ?_;unfold AW;intro c0 c t tt h0 h1 h2 h3 hr bE h4 h5 cs;subst h2;obtain ⟨j,hj,eB,aJ⟩:=ku (h1 _ (List.mem_cons_self ..));have hi:lr c0.w.heap.size c i:=bE.all.each _ (List.mem_append_right _ (List.mem_of_getElem? hl));obtain ⟨v1,v2,e1,e2,e3⟩:=jn (hf c ⟨t,marks R.fx.aA⟩ h3 h4);obtain rfl:v1=[]:=List.eq_nil_of_length_eq_zero (by simpa using e2.1.symm);obtain rfl:v2=[]:=List.eq_nil_of_length_eq_zero (by simpa using e3.1.symm);have e4:=ha c ⟨t,marks R.fx.aA⟩ h3 h4;have H:=H.to;unfold AW at H;have fg:(#[]++args.map (⟨t,marks R.fx.aA⟩:Act).eval).size=i.dZ.params.size:=by
  have:=e4.1;simp at this ⊢;rw [← this,hlen];rfl
 have eu:=CA (ps:=i.ps.toList) hi.fY e4;obtain ⟨c2,fr,r,v,q1,q2,q3,q4,q5,q6⟩:=H c0 c _ (t::tt) h0 (fun x hx=>by simp at hx; rcases hx with rfl | rfl | rfl <;> trivial) rfl h3 hr bE eu ⟨h4,h1,h5⟩ cs;refine ⟨c2,fr,r,v,q1,q2,q3,q4,.head ?_ q5,q6⟩;have cn:(execOp (⟨t,marks R.fx.aA⟩:Act).eval o).run E.P c.w = .ok (.round i.l i.fn ((i.ps.toList.zip (args.toList.map (⟨t,marks R.fx.aA⟩:Act).eval)).foldl (fun t (p,v)=>t.setIfInBounds p v) i.tm) i.assign i.body) c.w:=by
  have hy:=run_yield (P:=E.P) hi.mem fg;simp only [execOp,bZ,resolve,e1,Deferred.ofValue,invoke,Sem.run_bind,Sem.run_pure,Result.andThen_ok,hy]
  congr 2
  rw [← Array.foldl_toList,Array.toList_zip];simp [iP.dZ]
 have hs:=Hd (P:=E.P) (b:=bf ⟨af,R.fx.cy,R.fx.aA⟩) (a:=⟨t,marks R.fx.aA⟩) (k:=k.map aH.bA) (cs:=ev R.fx.cls tt++cs) (rest:=(List.range ops.size).drop (ops.size - l.length)) hj (fA hg c t h4) cn;simp only [bP.bA,List.map_cons,ev,eB,List.cons_append];exact hs
theorem I.begin (n:Nat) {i:iP} (hl:R.fx.loops[n]? = some (.loop i)) (iB:R.fx.cy=some i.l) (aV:i.st = .ready)
  (H:I E af ⟨R.n,R.Q,R.rows,⟨R.fx.f0,some i.l,R.fx.aA,R.fx.cls,R.fx.loops.set n (.loop { i with st := .busy }),R.fx.inl⟩⟩ lits k s h):I E af R lits (.nX::k) s h:=by
 have e:(⟨af,R.fx.cy,R.fx.aA⟩:gm)=⟨af,some i.l,R.fx.aA⟩:=by rw [iB]
 refine .of ?_;rw [e];unfold AW;intro c0 c t tt h0 h1 h2 h3 hr bE h4 h5 cs;subst h2;have hi:lr c0.w.heap.size c i:=bE.all.each _ (List.mem_append_right _ (List.mem_of_getElem? hl));have ht:Touch c i.l (c.w.putObj i.l (.loop { i with st := .busy }.dZ)) := .putObj hi.ax;have ah:=h3.bG _ hi.ax;have wv:dw c0.w.heap.size (c.dL (c.w.putObj i.l (.loop { i with st := .busy }.dZ))) R.rows (R.fx.loops.set n (.loop { i with st := .busy })) :=
  bE.Hb hl rfl rfl ht (show lr _ _ _ from ⟨hi.ax,hi.new,World.putObj_heap_same ah,⟨hi.fY.1,fun j x v hx hv=>ht.vr (hi.fY.2 j x v hx hv)⟩⟩)
 have H:=H.to;unfold AW at H;obtain ⟨c2,fr,r,v,q1,q2,q3,q4,q5,q6⟩:=H c0 (c.dL (c.w.putObj i.l (.loop { i with st := .busy }.dZ))) t tt h0 (dE h1) rfl (ht.aJ h3) (ht.rel hr hi.new) wv ⟨h4.1,fun j x v hx hv=>ht.vr (h4.2 j x v hx hv)⟩ (mS (fun _ _=>ht.vr) h5) cs;refine ⟨c2,fr,r,v,q1,q2,q3,q4,.head ?_ q5,q6⟩;exact stepR_beginRound (b:=bf ⟨af,some i.l,R.fx.aA⟩) (a:=⟨t,marks R.fx.aA⟩) (k:=k.map aH.bA) rfl (run_beginRound hi.mem aV)
theorem I.CD (n:Nat) {i:iP} (jump:Option Code) {td:List aH} {fd:gm} {fO:Array Oper} {o1:Oper} {l1:List Oper} {k1:List aH} {s1:List AV} {fE:List bP}
  (hj:∀ (b:Frame) (a:Act) (cf:Frame) (cs:List Frame) (w w':World) (v:Value),b.roundOf=some i.l→b.kind = .normal→(Instr.endRound i.l jump).run E.P w = .ok v w'→step E.P (lone (b.atR a (td.map aH.bA)) (cf::cs) w) = .next (lone (cf.finish v) cs w'))
  (hl:R.fx.loops[n]? = some (.loop i)) (iB:R.fx.cy=some i.l) (hc:R.fx.cls=⟨fd,.a8 fO (o1::l1)::k1,s1⟩::fE)
  (H:I E fd.f ⟨R.n,R.Q,R.rows,⟨R.fx.f0,fd.cy,fd.aA,fE,R.fx.loops.set n (.loop { i with st:=if jump.isNone then .ready else .done,pe:=jump }),R.fx.inl⟩⟩ [] (.a8 fO l1::k1) (bX s1 o1.dst (.d (.bool jump.isNone))) h):I E af R lits td s h:=by
 have e:(⟨af,R.fx.cy,R.fx.aA⟩:gm)=⟨af,some i.l,R.fx.aA⟩:=by rw [iB]
 refine .of ?_;rw [e,hc];unfold AW;intro c0 c t tt h0 h1 h2 h3 hr bE h4 h5 cs;subst h2;obtain ⟨t1,gF,rfl⟩:∃ t1 gF,tt=t1::gF:=by
  cases tt with
  |nil=>exact h5.elim
  |cons t1 gF=>exact ⟨_,_,rfl⟩
 obtain ⟨c4,c5,c6⟩:=h5;obtain ⟨j,CE,eB,aJ⟩:=ku (c5 _ (List.mem_cons_self ..));have hi:lr c0.w.heap.size c i:=bE.all.each _ (List.mem_append_right _ (List.mem_of_getElem? hl));obtain ⟨i2,pQ⟩:∃ i2:iP,i2={ i with st:=if jump.isNone then .ready else .done,pe:=jump }:=⟨_,rfl⟩;rw [← pQ] at H;have yP:i2.l=i.l:=by rw [pQ]
 have es:i2.fY=i.fY:=by rw [pQ]
 have et:i2.tm=i.tm:=by rw [pQ]
 have ht:Touch c i.l (c.w.putObj i.l (.loop i2.dZ)) := .putObj hi.ax;have ah:=h3.bG _ hi.ax;have wv:dw c0.w.heap.size (c.dL (c.w.putObj i.l (.loop i2.dZ))) R.rows (R.fx.loops.set n (.loop i2)) :=
  bE.Hb hl rfl (by simp [bc.ca,yP]) ht (show lr _ _ _ from ⟨by rw [yP]; exact hi.ax,by rw [yP]; exact hi.new,by rw [yP]; exact World.putObj_heap_same ah,by rw [es,et]; exact ⟨hi.fY.1,fun j x v hx hv=>ht.vr (hi.fY.2 j x v hx hv)⟩⟩)
 have H:=H.to;unfold AW at H;have l5:VS (c.dL (c.w.putObj i.l (.loop i2.dZ))) (bX s1 o1.dst (.d (.bool jump.isNone))) ((⟨t1,marks fd.aA⟩:Act).put o1.dst (.bool jump.isNone)).tmps :=
  VS.bX (a:=⟨t1,marks fd.aA⟩) ⟨c4.1,fun j x v hx hv=>ht.vr (c4.2 j x v hx hv)⟩ o1.dst (.d _ _ (.bool _))
 obtain ⟨c2,fr,r,v,q1,q2,q3,q4,q5,q6⟩:=H c0 (c.dL (c.w.putObj i.l (.loop i2.dZ))) _ gF h0 (fm aJ (dE c5)) rfl (ht.aJ h3) (ht.rel hr hi.new) wv l5 (mS (fun _ _=>ht.vr) c6) cs;refine ⟨c2,fr,r,v,q1,q2,q3,q4,.head ?_ q5,q6⟩;have cn:(Instr.endRound i.l jump).run E.P c.w = .ok (.bool jump.isNone) (c.w.putObj i.l (.loop i2.dZ)):=by
  have:=run_endRound (P:=E.P) jump hi.mem;rw [pQ];exact this
 have hs:=hj (bf ⟨af,some i.l,R.fx.aA⟩) ⟨t,marks R.fx.aA⟩ ((⟨fd,.a8 fO (o1::l1)::k1,s1⟩:bP).bA t1) (ev fE gF++cs) c.w _ _ rfl rfl cn;have kv:((⟨fd,.a8 fO (o1::l1)::k1,s1⟩:bP).bA t1).finish (.bool jump.isNone)=(⟨⟨fd.f,fd.cy,fd.aA⟩,.a8 fO l1::k1,bX s1 o1.dst (.d (.bool jump.isNone))⟩:bP).bA ((⟨t1,marks fd.aA⟩:Act).put o1.dst (.bool jump.isNone)).tmps:=by
  simp only [bP.bA,List.map_cons,eB];rw [Frame.finish_atR,CE];simp only [Option.bind_some];rw [put_defers];rfl
 rw [kv] at hs;exact hs
theorem I.mj (n:Nat) {i:iP} {fd:gm} {fO:Array Oper} {o1:Oper} {l1:List Oper} {k1:List aH} {s1:List AV} {fE:List bP} (hl:R.fx.loops[n]? = some (.loop i)) (iB:R.fx.cy=some i.l) (hc:R.fx.cls=⟨fd,.a8 fO (o1::l1)::k1,s1⟩::fE)
  (H:I E fd.f ⟨R.n,R.Q,R.rows,⟨R.fx.f0,fd.cy,fd.aA,fE,R.fx.loops.set n (.loop { i with st := .ready,pe:=none }),R.fx.inl⟩⟩ [] (.a8 fO l1::k1) (bX s1 o1.dst (.d (.bool true))) h):I E af R lits [] s h :=
 .CD n none (fun b a cf cs w w' v h1 h2 h3=>stepR_round_end h1 h2 h3) hl iB hc H
theorem I.yQ (n:Nat) {i:iP} {fd:gm} {fO:Array Oper} {o1:Oper} {l1:List Oper} {k1:List aH} {s1:List AV} {fE:List bP} (hl:R.fx.loops[n]? = some (.loop i)) (iB:R.fx.cy=some i.l) (hc:R.fx.cls=⟨fd,.a8 fO (o1::l1)::k1,s1⟩::fE)
  (H:I E fd.f ⟨R.n,R.Q,R.rows,⟨R.fx.f0,fd.cy,fd.aA,fE,R.fx.loops.set n (.loop { i with st := .done,pe:=some .ret }),R.fx.inl⟩⟩ [] (.a8 fO l1::k1) (bX s1 o1.dst (.d (.bool false))) h):I E af R lits (.code .ret::k) s h :=
 .CD n (some .ret) (fun b a cf cs w w' v h1 h2 h3=>stepR_round_ret h1 h2 h3) hl iB hc H
theorem rF {id:Nat}:∀ {l:List aH},kr id l=none→exitTo id (l.map aH.bA)=none
 | [],_=>rfl
 | .inBlock i::l,hl=>by
  simp only [kr] at hl;simp only [List.map_cons,aH.bA,exitTo];split at hl
  ·cases hl
  ·rename_i q
   rw [if_neg (by intro hh; have : i = id := by simpa using hh
                  rw [this, Nat.beq_refl] at q; cases q)]
   exact rF hl
 | .code c::l,hl=>rF (l:=l) hl
 | .inLoop c::l,hl=>rF (l:=l) hl
 | .a8 ops q::l,hl=>rF (l:=l) hl
 | .mR c::l,hl=>rF (l:=l) hl
 | .nX::l,hl=>rF (l:=l) hl
theorem I.Ob (n:Nat) {i:iP} {id:Nat} {fd:gm} {fO:Array Oper} {o1:Oper} {l1:List Oper} {k1:List aH} {s1:List AV} {fE:List bP} (hx:kr id k=none) (hl:R.fx.loops[n]? = some (.loop i)) (iB:R.fx.cy=some i.l) (hc:R.fx.cls=⟨fd,.a8 fO (o1::l1)::k1,s1⟩::fE)
  (H:I E fd.f ⟨R.n,R.Q,R.rows,⟨R.fx.f0,fd.cy,fd.aA,fE,R.fx.loops.set n (.loop { i with st := .done,pe:=some (.exit id) }),R.fx.inl⟩⟩ [] (.a8 fO l1::k1) (bX s1 o1.dst (.d (.bool false))) h):I E af R lits (.code (.exit id)::k) s h :=
 .CD n (some (.exit id)) (fun b a cf cs w w' v h1 h2 h3=>stepR_round_exit h1 h2 (rF hx) h3) hl iB hc H
theorem I.lL {fx : Operand} {args : Array Operand} {ts : Array TypeId} {f : FuncId} {fn : Func} {b : Code} {a1 a2 av : List AV} (hg : o.guard = none) (bZ : o.op = .call { callee := .value fx, args := args, argTypes := ts }) (yR : aQ E.G s fx (.fn (.func f) a1 a2)) (ha : gS E.G s args.toList av) (hf : E.P.funcs[f]? = some fn) (hb : fn.body = some b) (hn : (fn.name == "runtime.NumGoroutine") = false)
  (H:I E f ⟨R.n,R.Q,R.rows,⟨R.fx.f0,none,[],⟨⟨af,R.fx.cy,R.fx.aA⟩,.a8 ops (o::l)::k,s⟩::R.fx.cls,R.fx.loops,R.fx.inl⟩⟩ [] [.code b] (lu (a1++av++a2) fn.ntmps) h):I E af R lits (.a8 ops (o::l)::k) s h:=by
 refine .of ?_;unfold AW;intro c0 c t tt h0 h1 h2 h3 hr bE h4 h5 cs;subst h2;obtain ⟨j,hj,eB,aJ⟩:=ku (h1 _ (List.mem_cons_self ..));obtain ⟨v1,v2,e1,e2,e3⟩:=jn (yR c ⟨t,marks R.fx.aA⟩ h3 h4);have e4:=ha c ⟨t,marks R.fx.aA⟩ h3 h4;have e5:=(e2.append e4).append e3;have H:=H.to;unfold AW at H;obtain ⟨c2,fr,r,v,q1,q2,q3,q4,q5,q6⟩:=H c0 c _ (t::tt) h0 (fun x hx=>by simp at hx; subst hx; trivial) rfl h3 hr bE (AI fn.ntmps e5) ⟨h4,h1,h5⟩ cs;refine ⟨c2,fr,r,v,q1,q2,q3,q4,.head ?_ q5,q6⟩;have cn:=uQ (P:=E.P) (w:=c.w) (a:=⟨t,marks R.fx.aA⟩) bZ e1 ⟨fn,hf,by rw [hb]; rfl,hn⟩;have gq:(v1.toArray++args.map (⟨t,marks R.fx.aA⟩:Act).eval++v2.toArray)=(v1++args.toList.map (⟨t,marks R.fx.aA⟩:Act).eval++v2).toArray:=by
  apply Array.ext';simp
 rw [gq] at cn;have hs:=AJ (P:=E.P) (b:=bf ⟨af,R.fx.cy,R.fx.aA⟩) (a:=⟨t,marks R.fx.aA⟩) (k:=k.map aH.bA) (cs:=ev R.fx.cls tt++cs) (rest:=(List.range ops.size).drop (ops.size - l.length)) hj (fA hg c t h4) cn;rw [Hc hf hb _ (lu (a1++av++a2) fn.ntmps)] at hs;simp only [bP.bA,List.map_cons,ev,eB,List.cons_append] at hs ⊢;exact hs
def tL:List aH→Bool
 | []=>true
 | .code .ret::_=>true
 |_=>false
theorem Oc {P:Program} {fd:gm} (hr:fd.cy=none) {td:List aH} (h:tL td=true) (a:Act) (cs:List Frame) (w:World):step P (lone ((bf fd).atR a (td.map aH.bA)) cs w) = .next (lone { (bf fd).atR a (td.map aH.bA) with mode := .returning } cs w):=by
 unfold tL at h;split at h
 ·exact stepR_end hr
 ·exact stepR_ret hr
 ·cases h
theorem CF {P:Program} {G:List (Nat × DV)} {c0 c:Cx} {af:FuncId} {fn:Func} {aA:List Nat} {rows L:List bc} {td:List aH} {s:List AV} {t:Array Value} {r:AV} (hf:P.funcs[af]? = some fn) (l6:tL td=true) (ho:aC G c) (hr:dY c0 c) (bE:dw c0.w.heap.size c rows (aA.map .mark++L)) (hs:VS c s t)
  (CC:∀ (c':Cx) (t:Array Value),c'.heap=c.heap→aC G c'→VS c' s t→∃ v,VR c' r v∧(results fn t).run P c'.w = .ok v c'.w) (cs:List Frame) :
  ∃ (c':Cx) (fr:Frame) (v:Value),c'.heap=c.heap∧aC G c'∧dY c0 c'∧dw c0.w.heap.size c' rows L∧(∀ x u,VR c x u→VR c' x u)∧VR c' r v∧Steps P (lone ((⟨⟨af,none,aA⟩,td,s⟩:bP).bA t) cs c.w) (lone fr cs c'.w)∧fr.fn=af∧fr.leaving P c'.w (.returned v):=by
 obtain ⟨c',q1,q2,q3,q4,q5,q6⟩:=He (P:=P) (cs:=cs) aA c { (bf ⟨af,none,aA⟩).atR ⟨t,marks aA⟩ (td.map aH.bA) with mode := .returning } ho hr bE rfl rfl;obtain ⟨v,p1,p2⟩:=CC c' t q1 q2 ⟨hs.1,fun j x v hx hv=>q5 x v (hs.2 j x v hx hv)⟩;exact ⟨c',_,v,q1,q2,q3,q4,q5,p1,.head (Oc rfl l6 _ _ _) q6,rfl,rfl,rfl,rfl,fn,hf,p2⟩
theorem I.fP (hE:E.OK) {fn:Func} {L:List bc} {td:List aH} (hf:E.P.funcs[af]? = some fn) (l6:tL td=true) (iB:R.fx.cy=none) (hc:R.fx.cls=[]) (h0:R.fx.f0=af) (hL:R.fx.loops=R.fx.aA.map .mark++L) (H:lx E.T s h fn.results.toList False R.Q):I E af R lits td s h:=by
 have e:(⟨af,R.fx.cy,R.fx.aA⟩:gm)=⟨af,none,R.fx.aA⟩:=by rw [iB]
 refine .of ?_;rw [e,hc,h0];unfold AW;intro c0 c t tt h0 h1 h2 h3 hr bE h4 h5 cs;obtain ⟨r,k1,k2⟩:=CB hE H;subst h2;rw [hL] at bE;obtain ⟨c',fr,v,q1,q2,q3,q4,q5,q6,q7,q8,q9⟩:=CF hf l6 h3 hr bE h4 k2 (ev [] tt++cs);have gr:ev [] tt=[]:=by cases tt <;> rfl
 rw [gr] at q7 ⊢;exact ⟨c',fr,r,v,by rw [q1]; exact k1,q6,q2,q3,q7,q8,q9⟩
theorem I.lM (hE:E.OK) {fn:Func} {L:List bc} {td:List aH} {fd:gm} {fO:Array Oper} {o1:Oper} {l1:List Oper} {k1:List aH} {s1:List AV} {fE:List bP} (hf:E.P.funcs[af]? = some fn) (l6:tL td=true) (iB:R.fx.cy=none) (hc:R.fx.cls=⟨fd,.a8 fO (o1::l1)::k1,s1⟩::fE) (hL:R.fx.loops=R.fx.aA.map .mark++L)
  (H:lx E.T s h fn.results.toList False fun r h'=>bY s1 o1.dst r fun s'=>I E fd.f ⟨R.n,R.Q,R.rows,⟨R.fx.f0,fd.cy,fd.aA,fE,L,R.fx.inl⟩⟩ [] (.a8 fO l1::k1) s' h'):I E af R lits td s h:=by
 have e:(⟨af,R.fx.cy,R.fx.aA⟩:gm)=⟨af,none,R.fx.aA⟩:=by rw [iB]
 refine .of ?_;rw [e,hc];unfold AW;intro c0 c t tt h0 h1 h2 h3 hr bE h4 h5 cs;obtain ⟨r,H,k2⟩:=CB hE H;subst h2;rw [hL] at bE;obtain ⟨t1,gF,rfl⟩:∃ t1 gF,tt=t1::gF:=by
  cases tt with
  |nil=>exact h5.elim
  |cons t1 gF=>exact ⟨_,_,rfl⟩
 obtain ⟨c4,c5,c6⟩:=h5;obtain ⟨j,CE,eB,aJ⟩:=ku (c5 _ (List.mem_cons_self ..));obtain ⟨c',fr,v,q1,q2,q3,q4,q5,q6,q7,q8,q9⟩:=CF hf l6 h3 hr bE h4 k2 (ev (⟨fd,.a8 fO (o1::l1)::k1,s1⟩::fE) (t1::gF)++cs);rw [dF] at H;have H:=H.to;unfold AW at H;have l5:VS c' (bX s1 o1.dst r) ((⟨t1,marks fd.aA⟩:Act).put o1.dst v).tmps:=VS.bX (a:=⟨t1,marks fd.aA⟩) ⟨c4.1,fun j x v hx hv=>q5 x v (c4.2 j x v hx hv)⟩ o1.dst q6;obtain ⟨c2,qJ,r2,v2,p1,p2,p3,p4,p5,p6⟩:=H c0 c' _ gF h0 (fm aJ (dE c5)) q1 q2 q3 q4 l5 (mS q5 c6) cs;refine ⟨c2,qJ,r2,v2,p1,p2,p3,p4,q7.trans (.head ?_ p5),p6⟩;have hs:=step_leave_returned (c:=(⟨fd,.a8 fO (o1::l1)::k1,s1⟩:bP).bA t1) (cs:=ev fE gF++cs) q9;have kv:((⟨fd,.a8 fO (o1::l1)::k1,s1⟩:bP).bA t1).finish v=(⟨⟨fd.f,fd.cy,fd.aA⟩,.a8 fO l1::k1,bX s1 o1.dst r⟩:bP).bA ((⟨t1,marks fd.aA⟩:Act).put o1.dst v).tmps:=by
  simp only [bP.bA,List.map_cons,eB];rw [Frame.finish_atR,CE];simp only [Option.bind_some];rw [put_defers];rfl
 rw [kv] at hs;exact hs
def CG:Option Code→List aH→List aH
 |some c,k => .code c::k
 |none,k=>k
theorem I.iC (hE:E.OK) {fn:Func} {L:List bc} {td:List aH} {i:iP} {fd:gm} {k1:List aH} {s1:List AV} {fE:List bP} (hf:E.P.funcs[af]? = some fn) (l6:tL td=true) (iB:R.fx.cy=none) (hc:R.fx.cls=⟨fd,.mR i.l::k1,s1⟩::fE) (hL:R.fx.loops=R.fx.aA.map .mark ++ .loop i::L) (aV:i.st ≠ .busy)
  (H:lx E.T s h fn.results.toList False fun _ _=>I E fd.f ⟨R.n,R.Q,R.rows,⟨R.fx.f0,fd.cy,fd.aA,fE,L,R.fx.inl⟩⟩ [] (CG i.pe k1) s1 h):I E af R lits td s h:=by
 have e:(⟨af,R.fx.cy,R.fx.aA⟩:gm)=⟨af,none,R.fx.aA⟩:=by rw [iB]
 refine .of ?_;rw [e,hc];unfold AW;intro c0 c t tt h0 h1 h2 h3 hr bE h4 h5 cs;obtain ⟨r,H,k2⟩:=CB hE H;subst h2;rw [hL] at bE;obtain ⟨t1,gF,rfl⟩:∃ t1 gF,tt=t1::gF:=by
  cases tt with
  |nil=>exact h5.elim
  |cons t1 gF=>exact ⟨_,_,rfl⟩
 obtain ⟨c4,c5,c6⟩:=h5;obtain ⟨c',fr,v,q1,q2,q3,q4,q5,q6,q7,q8,q9⟩:=CF hf l6 h3 hr bE h4 k2 (ev (⟨fd,.mR i.l::k1,s1⟩::fE) (t1::gF)++cs);obtain ⟨g1,g2,g3⟩:=q4.pop;have g2:lr c0.w.heap.size c' i:=g2;obtain ⟨o2,vA⟩:∃ o2:Obj,o2 = .loop { i.dZ with state := .exhausted }:=⟨_,rfl⟩;have ht:Touch c' i.l (c'.w.putObj i.l o2) := .putObj g2.ax;have H:=H.to;unfold AW at H;have Od:(∀ x∈CG i.pe k1,x.ok):=by
  cases i.pe with
  |none=>exact dE c5
  |some c=>exact fm trivial (dE c5)
 obtain ⟨c2,qJ,r2,v2,p1,p2,p3,p4,p5,p6⟩:=H c0 (c'.dL (c'.w.putObj i.l o2)) t1 gF h0 Od q1 (ht.aJ q2) (ht.rel q3 g2.new) ⟨ht.rows g1.all (g3 i.l (by simp [bc.ca])),g1.flat⟩ ⟨c4.1,fun j x v hx hv=>ht.vr (q5 x v (c4.2 j x v hx hv))⟩ (mS (fun x v hv=>ht.vr (q5 x v hv)) c6) cs;refine ⟨c2,qJ,r2,v2,p1,p2,p3,p4,q7.trans (.head (step_leave_returned q9) (.head ?_ p5)),p6⟩;have kv:((⟨fd,.mR i.l::k1,s1⟩:bP).bA t1).finish v=(bf fd).atR ⟨t1,marks fd.aA⟩ (.endRangeFunc i.l::k1.map aH.bA):=by
  simp only [bP.bA,List.map_cons,aH.bA];exact finish_atR_inRangeFunc _ _
 have Oe:(Instr.endLoop i.l).run E.P c'.w = .ok i.pe (c'.w.putObj i.l o2):=by
  have:=run_endLoop (P:=E.P) g2.mem aV;rw [vA];exact this
 have hs:=stepR_endRangeFunc (P:=E.P) (b:=bf fd) (a:=⟨t1,marks fd.aA⟩) (k:=k1.map aH.bA) (cs:=ev fE gF++cs) Oe;rw [← kv] at hs;have vp:(i.pe.map Item.code).toList++k1.map aH.bA=(CG i.pe k1).map aH.bA:=by cases i.pe <;> rfl
 rw [vp] at hs;exact hs
end
end Go.aw
end
section
namespace Go.aw
open Go Go.RowKit
section
variable {E:Env} {s:List AV} {h:List ab}
theorem Of (hE:E.OK) {t kt e:Nat} {m ko:Operand} {ti:bh} (bJ:E.T[t]? = some ti) (hk:ti.k = .map kt e) {kd:TK} (hT:po E kt kd) {b:Nat} {es:List (DV × DV)} (hb:h[b]? = some (.map es)) (hm:aQ E.G s m (.map b)) {x:DV} (hx:aQ E.G s ko (.d x))
  (h1:cS E.T kd x) (h2:∀ p∈es,cS E.T kd p.1) {z:DV} {zv:Value} (jl:∀ w,(zeroValue e).run E.P w = .ok zv w) (jN:∀ bad w,VD bad w z zv) :
  bw E (.mapEntry t m ko) s h (.d (.az [(findD x es).getD z,.int .i64 ((eb x es).getD es.length)])) (h.set b (.map (bI x ((findD x es).getD z) es))):=fun o c ac e1 e2 h3 h4=>by
 subst e2;obtain ⟨kB,d,g1,g2,g3,-⟩:=cg (hE.types t ti bJ);have hd:d = .map kt e:=by rw [hk] at g3; cases d <;> first | (cases g3; rfl) | cases g3
 subst hd;have eo:=aP hb;obtain ⟨blk,cap,en,ck,q1,q2,q3,qe,q4⟩:=sW h3 hb (hm c ac h3 h4);have cC:=hx c ac h3 h4;generalize hu:ac.eval ko=u at cC;cases cC with
 |d _ _ cC =>
  have r1:=Bg hE hT h1 cC false;have r2:=Bf hE hT h1 cC h2 q4;have hblk:blk<c.w.heap.size:=(h3.bk b blk cap q2).1;have hl:en.size=es.length:=by simpa using q4.1
  have main:∃ (gy:Array MapEntry) (kC:Nat) (v:Value),(Instr.mapEntry t (.map (some blk)) u).run E.P c.w = .ok (.tuple #[v,goInt ((eb x es).getD es.length:Nat)]) { c.w with heap:=c.w.heap.setIfInBounds blk (.map gy kC) }∧lh gy kC (bI x ((findD x es).getD z) es).length∧VD c.bad c.w ((findD x es).getD z) v ∧
    ∀ (j:Nat) (k v:DV) (mm:MapEntry),(bI x ((findD x es).getD z) es)[j]? = some (k,v)→gy[j]? = some mm→VD c.bad c.w k mm.key∧VD c.bad c.w v mm.val:=by
   cases hf:eb x es with
   |none =>
    rw [Bc hf];refine ⟨en.push { key:=u,val:=zv,born:=ck },ck+1,zv,?_,?_,jN _ _,?_⟩
    ·simp only [Instr.mapEntry,Sem.run_bind,run_underlying g2,Result.andThen_ok,oc q3,r1,r2,jr,hf,Option.bind_none,jl,vk _ q3,Sem.run_pure,Option.getD_none];rw [qe.tick]
    ·rw [Option.getD_none,vj hf,List.length_append];exact qe.push u zv
    ·intro j k v mm hj dG;rw [Option.getD_none,vj hf] at hj;rcases Nat.lt_or_ge j es.length with ah | aK
     ·rw [List.getElem?_append_left ah] at hj;rw [Array.getElem?_push,if_neg (by omega)] at dG;exact q4.2 j k v mm hj (by simpa using dG)
     ·have ik:j=es.length:=by
       have:=aP hj;simp at this;omega
      subst ik;rw [List.getElem?_append_right (Nat.le_refl _)] at hj;simp at hj;obtain ⟨rfl,rfl⟩:=hj;rw [Array.getElem?_push,if_pos hl.symm] at dG;cases dG;exact ⟨cC,jN _ _⟩
   |some i =>
    obtain ⟨p,p1,p2,p3⟩:=x4 hf;rw [p3];have hi:i<en.size:=by rw [hl]; exact aP p1
    have lC:en[i]? = some en[i]:=by simp [hi]
    have eN:=q4.2 i p.1 p.2 en[i] p1 (by simp [hi]);have vp:=Fi p2;have e3:=qS h1 cC;have e4:=qS (h2 p (List.mem_of_getElem? p1)) eN.1;have Bi:Instr.sameBits 10000 en[i].key u=true:=by
     rw [e3,e4,← vp];exact Fj h1
    refine ⟨en.modify i fun e=>{ e with key:=u },ck,en[i].val,?_,?_,eN.2,?_⟩
    ·have Bj:jr x es en.toList 0=some (i,en[i].val):=by
      simp [jr,hf,hi]
     have x5:(Instr.keyThatStays en[i].key u).run E.P c.w = .ok u c.w:=by
      simp only [Instr.keyThatStays,Bi,if_true,Sem.run_pure]
     simp only [Instr.mapEntry,Sem.run_bind,run_underlying g2,Result.andThen_ok,oc q3,r1,r2,Bj,lC,Option.map_some,Option.getD_some,x5,vk _ q3,Sem.run_pure];rw [qe.idx i _ lC]
    ·rw [Option.getD_some,vi hf,List.length_set];have mW:(en.modify i fun e=>{ e with key:=u })=(en.modify i fun e=>{ e with key:=u,val:=en[i].val }):=by
      apply Array.ext_getElem?;intro j;rw [Array.getElem?_modify,Array.getElem?_modify];by_cases hj:i=j
      ·subst hj; simp [hi]
      ·simp [hj]
     rw [mW];exact qe.modify i u _
    ·intro j k v mm hj dG;rw [Option.getD_some,vi hf] at hj;by_cases kD:j=i
     ·subst kD;rw [List.getElem?_set_self (by omega)] at hj;cases hj;rw [Array.getElem?_modify,if_pos rfl,lC] at dG;cases dG;exact ⟨cC,eN.2⟩
     ·rw [List.getElem?_set_ne (Ne.symm kD)] at hj;rw [Array.getElem?_modify,if_neg (Ne.symm kD)] at dG;exact q4.2 j k v mm hj (by simpa using dG)
  obtain ⟨gy,kC,v0,cn,hlen,tM,eN⟩:=main;generalize bI x ((findD x es).getD z) es=cX at hlen eN ⊢
  let c':Cx:={ c with heap:=c.heap.set b (.map cX),w:={ c.w with heap:=c.w.heap.setIfInBounds blk (.map gy kC) } }
  have vq:c'.w.heap[blk]? = some (.map gy kC):=by simp [c',hblk]
  have pr:∀ b',b'≠blk→c'.w.heap[b']? = c.w.heap[b']? := fun b' bT=>by simp [c',Array.getElem?_setIfInBounds,Ne.symm bT]
  have od:c'.heap[b]? = some (.map cX):=by show (c.heap.set b _)[b]? = _; rw [List.getElem?_set_self eo]
  have im:∀ i,i≠b→c'.heap[i]? = c.heap[i]? := fun i hi=>by show (c.heap.set b _)[i]? = _; rw [List.getElem?_set_ne (Ne.symm hi)]
  have aV:Step c c':=⟨rfl,h3.bG,rfl,rfl,rfl,by simp [c'],fun b' _ cj=>pr b' (fun l9=>cj b cap (l9 ▸ q2)),fun i b' n hi _=>⟨n,hi⟩,fun i bx hi=>by
   by_cases bq:i=b
   ·subst bq;rw [hb] at hi;cases hi;exact .inl ⟨_,od,rfl⟩
   ·exact kq hi (im i bq) rfl⟩
  have aJ:aC E.G c':=by
   refine h3.next aV (fun i b' n hi=>?_) h3.inj (fun i bx hi=>?_)
   ·have:=h3.bk i b' n hi;refine ⟨by simpa [c'] using this.1,?_⟩;show i<(c.heap.set b _).length;rw [List.length_set];exact this.2
   ·by_cases bq:i=b
    ·subst bq;rw [od] at hi;cases hi;right;exact ⟨blk,cap,gy,kC,q2,vq,hlen,fun j k v mm hj dG=>⟨aV.vd (eN j k v mm hj dG).1,aV.vd (eN j k v mm hj dG).2⟩⟩
    ·rw [im i bq] at hi;exact .inl ⟨hi,rfl,fun b' n hn=>pr b' (fun l9=>bq (h3.inj i b blk n cap (l9 ▸ hn) q2))⟩
  refine ⟨c',.tuple #[v0,goInt ((eb x es).getD es.length:Nat)],.inl ?_,rfl,aJ,.d _ _ (.az _ _ rfl fun j y v hy hv=>?_),aV⟩
  ·simp only [execOp,e1,q1,hu,Sem.run_bind,cn,Result.andThen_ok,Sem.run_pure];rfl
  ·match j with
   | 0=>simp at hy hv; subst hy; subst hv; exact aV.vd tM
   | 1=>simp at hy hv; subst hy; subst hv; exact .int _ _
   |j+2=>simp at hy
theorem Og (hE:E.OK) {t:Nat} {m st vo:Operand} {b:Nat} {es:List (DV × DV)} (hb:h[b]? = some (.map es)) (hm:aQ E.G s m (.map b)) {n:Nat} {k0 x0 y:DV} (hn:es[n]? = some (k0,x0)) (Oh:aQ E.G s st (.d (.int .i64 n))) (hy:aQ E.G s vo (.d y)) :
  bw E (.entryStore t m st vo) s h (.d .undef) (h.set b (.map (es.set n (k0,y)))):=fun o c ac e1 e2 h3 h4=>by
 subst e2;have eo:=aP hb;obtain ⟨blk,cap,en,ck,q1,q2,q3,qe,q4⟩:=sW h3 hb (hm c ac h3 h4);have tN:=Oh c ac h3 h4;have lz:=hy c ac h3 h4;generalize hu:ac.eval st=u at tN;generalize hw:ac.eval vo=w at lz;cases tN with
 |d _ _ tN=>cases tN; cases lz with
  |d _ _ lz =>
   have hblk:blk<c.w.heap.size:=(h3.bk b blk cap q2).1;have hl:en.size=es.length:=by simpa using q4.1
   have hi:n<en.size:=by rw [hl]; exact aP hn
   have lC:en[n]? = some en[n]:=by simp [hi]
   have Oi:=q4.2 n k0 x0 en[n] hn (by simp [hi]);have ml:en.findIdx? (fun e=>(e.born:Int)==(n:Int))=some n:=by
    rw [Array.findIdx?_eq_some_iff_getElem];refine ⟨hi,?_,fun j hj=>?_⟩
    ·have:=qe.idx n _ lC; simp [this]
    ·have:=qe.idx j en[j] (by rw [Array.getElem?_eq_getElem]);simp [this]; omega
   have cn:(Instr.entryStore t (.map (some blk)) (.int .i64 n) w).run E.P c.w = .ok () { c.w with heap:=c.w.heap.setIfInBounds blk (.map (en.modify n fun e=>{ e with val:=w }) ck) }:=by
    have ha:(asInt (.int .i64 (n:Int))).run E.P c.w = .ok (n:Int) c.w:=rfl;simp only [Instr.entryStore,Sem.run_bind,Sem.run_pure,Result.andThen_ok,oc q3,ha,ml,vk _ q3]
   have hlen:lh (en.modify n fun e=>{ e with val:=w }) ck (es.set n (k0,y)).length:=by
    have mW:(en.modify n fun e=>{ e with val:=w })=(en.modify n fun e=>{ e with key:=en[n].key,val:=w }):=by
     apply Array.ext_getElem?;intro j;rw [Array.getElem?_modify,Array.getElem?_modify];by_cases hj:n=j
     ·subst hj; simp [hi]
     ·simp [hj]
    rw [mW,List.length_set];exact qe.modify n _ w
   have eN:∀ (j:Nat) (k v:DV) (mm:MapEntry),(es.set n (k0,y))[j]? = some (k,v)→(en.modify n fun e=>{ e with val:=w })[j]? = some mm→VD c.bad c.w k mm.key∧VD c.bad c.w v mm.val:=by
    intro j k v mm hj dG;by_cases kD:j=n
    ·subst kD;rw [List.getElem?_set_self (by omega)] at hj;cases hj;rw [Array.getElem?_modify,if_pos rfl,lC] at dG;cases dG;exact ⟨Oi.1,lz⟩
    ·rw [List.getElem?_set_ne (Ne.symm kD)] at hj;rw [Array.getElem?_modify,if_neg (Ne.symm kD)] at dG;exact q4.2 j k v mm hj (by simpa using dG)
   generalize en.modify n (fun e=>{ e with val:=w })=gy at cn hlen eN;generalize es.set n (k0,y)=cX at hlen eN ⊢
   let c':Cx:={ c with heap:=c.heap.set b (.map cX),w:={ c.w with heap:=c.w.heap.setIfInBounds blk (.map gy ck) } }
   have vq:c'.w.heap[blk]? = some (.map gy ck):=by simp [c',hblk]
   have pr:∀ b',b'≠blk→c'.w.heap[b']? = c.w.heap[b']? := fun b' bT=>by simp [c',Array.getElem?_setIfInBounds,Ne.symm bT]
   have od:c'.heap[b]? = some (.map cX):=by show (c.heap.set b _)[b]? = _; rw [List.getElem?_set_self eo]
   have im:∀ i,i≠b→c'.heap[i]? = c.heap[i]? := fun i hi=>by show (c.heap.set b _)[i]? = _; rw [List.getElem?_set_ne (Ne.symm hi)]
   have aV:Step c c':=⟨rfl,h3.bG,rfl,rfl,rfl,by simp [c'],fun b' _ cj=>pr b' (fun l9=>cj b cap (l9 ▸ q2)),fun i b' n hi _=>⟨n,hi⟩,fun i bx hi=>by
    by_cases bq:i=b
    ·subst bq;rw [hb] at hi;cases hi;exact .inl ⟨_,od,rfl⟩
    ·exact kq hi (im i bq) rfl⟩
   have aJ:aC E.G c':=by
    refine h3.next aV (fun i b' n hi=>?_) h3.inj (fun i bx hi=>?_)
    ·have:=h3.bk i b' n hi;refine ⟨by simpa [c'] using this.1,?_⟩;show i<(c.heap.set b _).length;rw [List.length_set];exact this.2
    ·by_cases bq:i=b
     ·subst bq;rw [od] at hi;cases hi;right;exact ⟨blk,cap,gy,ck,q2,vq,hlen,fun j k v mm hj dG=>⟨aV.vd (eN j k v mm hj dG).1,aV.vd (eN j k v mm hj dG).2⟩⟩
     ·rw [im i bq] at hi;exact .inl ⟨hi,rfl,fun b' n hn=>pr b' (fun l9=>bq (h3.inj i b blk n cap (l9 ▸ hn) q2))⟩
   refine ⟨c',undef,.inr ⟨?_,rfl⟩,rfl,aJ,.d _ _ .undef,aV⟩;simp only [execOp,e1,q1,hu,hw,Sem.run_bind,cn,Result.andThen_ok,Sem.run_pure];rfl
end
section
variable {E:Env} {af:FuncId} {R:cu} {td:List aH} {s:List AV} {h:List ab} {lits:List Nat} {ops:Array Oper} {o:Oper} {l:List Oper} {k:List aH}
theorem I.mapEntry (hE:E.OK) (z:DV) (zv:Value) (v:DV) (i:Nat) (cX:List (DV × DV)) {t:Nat} {m x:Operand} (hg:o.guard=none) (bZ:o.op = .mapEntry t m x) (jN:∀ bad w,VD bad w z zv)
  (H:aI E.T t False fun ti=>match ti.k with
   | .map kt e=>bR E.G s m False fun
    | .map b=>aI h b False fun
     | .map es=>bR E.G s x False fun
      | .d y=>sX E kt False fun kd=>(cS E.T kd y∧∀ p∈es,cS E.T kd p.1)∧(∀ w,(zeroValue e).run E.P w = .ok zv w)∧((findD y es).getD z=v∧(eb y es).getD es.length=i∧bI y v es=cX) ∧
       fe h b (.map cX) fun h'=>bY s o.dst (.d (.az [v,.int .i64 i])) fun s'=>I E af R lits (.a8 ops l::k) s' h'
      |_=>False
     |_=>False
    |_=>False
   |_=>False):I E af R lits (.a8 ops (o::l)::k) s h:=by
 rcases aS H with H | ⟨ti,bJ,H⟩
 ·exact H.elim
 split at H
 ·rename_i kt e hk;rcases bW H with H | ⟨a,ha,H⟩
  ·exact H.elim
  split at H
  ·rename_i b;rcases aS H with H | ⟨bx,hb,H⟩
   ·exact H.elim
   split at H
   ·rename_i es;rcases bW H with H | ⟨y,hy,H⟩
    ·exact H.elim
    split at H
    ·rename_i y;rcases x6 H with H | ⟨kd,hT,H⟩
     ·exact H.elim
     obtain ⟨⟨f1,f2⟩,f3,⟨g1,g2,g3⟩,H⟩:=H;have ho:=Of hE bJ hk hT hb ha hy f1 f2 f3 jN;rw [g1,g2,g3] at ho;rw [fK,dF] at H;rw [← bZ] at ho;exact .of (.op (fA hg) ho H.to)
    ·exact H.elim
   ·exact H.elim
  ·exact H.elim
 ·exact H.elim
theorem I.entryStore (hE:E.OK) {t:Nat} {m st vo:Operand} (n:Nat) {k0 x0:DV} (hg:o.guard=none) (bZ:o.op = .entryStore t m st vo)
  (H:bR E.G s m False fun
    | .map b=>aI h b False fun
     | .map es=>es[n]? = some (k0,x0)∧bR E.G s st False fun u=>u = .d (.int .i64 n)∧bR E.G s vo False fun
      | .d y=>fe h b (.map (es.set n (k0,y))) fun h'=>bY s o.dst (.d .undef) fun s'=>I E af R lits (.a8 ops l::k) s' h'
      |_=>False
     |_=>False
    |_=>False):I E af R lits (.a8 ops (o::l)::k) s h:=by
 rcases bW H with H | ⟨a,ha,H⟩
 ·exact H.elim
 split at H
 ·rename_i b;rcases aS H with H | ⟨bx,hb,H⟩
  ·exact H.elim
  split at H
  ·rename_i es;obtain ⟨hn,H⟩:=H;rcases bW H with H | ⟨u,hu,H⟩
   ·exact H.elim
   obtain ⟨rfl,H⟩:=H;rcases bW H with H | ⟨y,hy,H⟩
   ·exact H.elim
   split at H
   ·rename_i y;have ho:=Og hE (t:=t) hb ha hn hu hy;rw [fK,dF] at H;rw [← bZ] at ho;exact .of (.op (fA hg) ho H.to)
   ·exact H.elim
  ·exact H.elim
 ·exact H.elim
theorem I.entry {x:Operand} {it:Iter} {g1 g2:List bc} {pre:List Nat} {j:Nat} {kk y:DV} (hg:o.guard=none) (bZ:o.op = .entry x) (rB:R.rows=g1 ++ .iter it::g2) (CH:it.seen=pre++[j]) (hj:it.es[j]? = some (kk,y)) (hx:aQ E.G s x (.d (.raw (.pointer (some ⟨it.r,0,none⟩)))))
  (H:I E af R lits (.a8 ops l::k) (bX s o.dst (.d (.az [kk,y]))) h):I E af R lits (.a8 ops (o::l)::k) s h:=by
 refine .of ?_;unfold AW;intro c0 c t' dD h0 h1 h2 h3 hr bE h4 h5 cs;subst h2;obtain ⟨i,hi,eB,aJ⟩:=ku (h1 _ (List.mem_cons_self ..));have cC:(⟨t',marks R.fx.aA⟩:Act).eval x = .pointer (some ⟨it.r,0,none⟩):=by
  have:=hx c ⟨t',marks R.fx.aA⟩ h3 h4;generalize (⟨t',marks R.fx.aA⟩:Act).eval x=u at this;cases this with
  |d _ _ hq=>cases hq; rfl
 have r2:jS c0.w.heap.size c it:=bE.all.each (.iter it) (by rw [rB]; simp);obtain ⟨z0,z1,z3,z2⟩:=r2.iter;obtain rfl:=z3 (by rw [CH]; simp);have ik:j<it.en.size:=r2.lt j (by rw [CH]; simp);have eN:it.en[j]? = some it.en[j]:=by simp [ik]
 have bH:=r2.val j kk y it.en[j] hj eN;have Oj:((it.seen.map fun j=>((it.en[j]?).map (·.born)).getD 0).toArray).back? = some j:=by
  rw [CH];simp [eN,r2.dv.idx j _ eN]
 have ml:it.en.find? (fun e=>e.born==j)=some it.en[j]:=by
  rw [Array.find?_eq_some_iff_getElem];refine ⟨by simp [r2.dv.idx j _ eN],j,ik,rfl,fun q hq=>?_⟩;have:=r2.dv.idx q it.en[q] (by rw [Array.getElem?_eq_getElem]);simp [this]; omega
 have dQ:(getObj it.r).run E.P c.w = .ok (.mapIter (some it.bm) it.since ((it.seen.map fun j=>((it.en[j]?).map (·.born)).getD 0).toArray) it.ck) c.w:=by simp [getObj,Sem.run,z2]
 have cn:(execOp (⟨t',marks R.fx.aA⟩:Act).eval o).run E.P c.w = .ok (.value (.tuple #[it.en[j].key,it.en[j].val])) c.w:=by
  simp only [execOp,bZ,cC,Instr.entry,Sem.run_bind,Sem.run_pure,Result.andThen_ok,dQ,Oj,oc r2.map,bne_self_eq_false,Bool.false_eq_true,if_false,ml]
 have eu:VS c (bX s o.dst (.d (.az [kk,y]))) ((⟨t',marks R.fx.aA⟩:Act).put o.dst (.tuple #[it.en[j].key,it.en[j].val])).tmps :=
  VS.bX (a:=⟨t',marks R.fx.aA⟩) h4 o.dst (.d _ _ (.az _ _ rfl fun p z v hz hv=>by
   match p with
   | 0=>simp at hz hv; subst hz; subst hv; exact bH.1
   | 1=>simp at hz hv; subst hz; subst hv; exact bH.2
   |p+2=>simp at hz))
 have H:=H.to;unfold AW at H;obtain ⟨c2,fr,rr,u,e1,e2,e3,e4,e5,e6⟩:=H c0 c _ dD h0 (fm aJ (dE h1)) rfl h3 hr bE eu h5 cs;refine ⟨c2,fr,rr,u,e1,e2,e3,e4,.head ?_ e5,e6⟩;simp only [bP.bA,List.map_cons,eB];rw [sJ hi (fA hg c t' h4) (.inl cn),put_defers];rfl
theorem I.Ol (d:Nat) (ts:Nat × Nat) (gr:0<ts.2) (hd:s[d]? = some (.d (.raw (.slice none 0 0)))) (H:I E af R lits td (s.set d (.own h.length 0)) (h++[.arr 0 ts []])):I E af R lits td s h:=by
 replace H:=H.to;refine .of (.iQ (fun c t dD h1 h2 h3 h4 h5=>?_) H);subst h2
 let c':Cx:={ c with heap:=c.heap++[.arr 0 ts []] }
 have cj:c.own c.heap.length=none:=by
  cases ho:c.own c.heap.length with
  |none=>rfl
  |some p=>have:=(h3.bk _ p.1 p.2 ho).2; omega
 have aV:Step c c':=⟨rfl,h3.bG,rfl,rfl,rfl,Nat.le_refl _,fun _ _ _=>rfl,fun i b n hi _=>⟨n,hi⟩,fun i bx hi=>kq hi (List.getElem?_append_left (aP hi)) rfl⟩;have gu:c'.heap[c.heap.length]? = some (.arr 0 ts []):=by show (c.heap++_)[_]? = _; simp
 have aJ:aC E.G c':=h3.next aV (fun i b n hi=>⟨(h3.bk i b n hi).1,by have:=(h3.bk i b n hi).2; show i<(c.heap++_).length; simp; omega⟩) h3.inj (fun i bx hi=>by
  by_cases fy:i=c.heap.length
  ·subst fy;rw [gu] at hi;cases hi;exact .inr ⟨gr,fun i e he=>by simp at he,.inl ⟨cj,rfl⟩⟩
  ·have ah : i < c.heap.length := by have := aP hi; have h2 : c'.heap.length = c.heap.length + 1 := by show (c.heap ++ _).length = _; simp
                                     omega
   have bS:(c.heap++[.arr 0 ts []])[i]? = some bx:=hi;rw [List.getElem?_append_left ah] at bS
   exact .inl ⟨bS,rfl,fun _ _ _=>rfl⟩)
 refine ⟨c',t,dD,h1,rfl,aJ,?_,aV.cr h5,aV,fun _ => .refl _ _⟩;have gp:d<t.size:=by rw [← h4.1]; exact aP hd
 have hv:t[d] = .slice none 0 0:=by
  have:=h4.2 d _ t[d] hd (by simp [gp]);generalize t[d]=u at this;cases this with
  |d _ _ hv=>cases hv; rfl
 have:=VS.put (aV.vs h4) d (x := .own c.heap.length 0) (v:=t[d]) (by rw [hv]; exact .fU _ _ ts gu cj)
 simpa [Array.setIfInBounds,gp] using this
theorem I.CI {b:Code} {κ:Type} (eT:List Nat) (vars:κ→List (Nat × AV)) (boxes:κ→List (Nat × ab)) (rows:κ→List bc) (Φ:κ→Prop) (μ:κ→Nat) (x0:κ) (h0:Φ x0) (hR:R.rows=rows x0)
  (me:rm eT (kJ (boxes x0)) (vars x0) (boxes x0) s h fun s' h'=>tp h h' R.fx (tj R.n h s h' s'))
  (pH:∀ x,Φ x→(∀ y,Φ y→μ y<μ x→I E af ⟨R.n,R.Q,rows y,R.fx⟩ [] (.inLoop b::k) (ju (vars y) (anyS eT (jw (kJ (boxes x0)) s))) (jv (boxes y) h))→I E af ⟨R.n,R.Q,rows x,R.fx⟩ [] (.code b :: .inLoop b::k) (ju (vars x) (anyS eT (jw (kJ (boxes x0)) s))) (jv (boxes x) h)) :
  I E af R lits (.code (.loop b)::k) s h:=by
 have e:R=⟨R.n,R.Q,rows x0,R.fx⟩:=by cases R; simp only at hR; subst hR; rfl
 have main:∀ n x,μ x<n→Φ x→I E af ⟨R.n,R.Q,rows x,R.fx⟩ [] (.inLoop b::k) (ju (vars x) (anyS eT (jw (kJ (boxes x0)) s))) (jv (boxes x) h):=by
  intro n
  induction n with
  |zero=>intro x hx; omega
  |succ n ih=>intro x hx hP; exact .of (.inLoop (pH x hP fun y hy hm=>ih y (by omega) hy).to)
 rw [vV] at me;rw [e];exact .of (.loop (.weaken me (pH x0 h0 fun y hy _=>main (μ y+1) y (by omega) hy).to))
end
end Go.aw
end
section
namespace Go.aw
open Go Go.RowKit
section
variable {E:Env} {af:FuncId} {R:cu} {s:List AV} {h:List ab} {ops:Array Oper} {o:Oper} {l:List Oper} {k:List aH}
theorem I.Om {lits:List Nat} {x y:Operand} {ts:Array TypeId} {a b:Int} (hg:o.guard=none) (bZ:o.op = .call { callee := .builtin .min,args := #[x,y],argTypes:=ts }) (hx:aQ E.G s x (.d (.int .i64 a))) (hy:aQ E.G s y (.d (.int .i64 b)))
  (H:I E af R lits (.a8 ops l::k) (bX s o.dst (.d (.int .i64 (min a b)))) h):I E af R lits (.a8 ops (o::l)::k) s h:=by
 refine .of (.op (fA hg) ?_ H.to);rw [bZ];refine .quiet fun o c ac e1 e2 h3 h4=>⟨.int .i64 (min a b),?_,.d _ _ (.int _ _)⟩;have q1:=dM (hx c ac h3 h4);have q2:=dM (hy c ac h3 h4);have q3:(if b<a then b else a)=min a b:=by
  rcases Int.lt_or_le b a with q | q
  ·rw [if_pos q,Int.min_eq_right (Int.le_of_lt q)]
  ·rw [if_neg (Int.not_lt.2 q),Int.min_eq_left q]
 simp only [execOp,e1,resolve,invoke,builtin,Builtin.min_,Builtin.min2,List.map_toArray,List.map_cons,List.map_nil,q1,q2,List.foldlM_cons,List.foldlM_nil,Sem.run_bind,Sem.run_pure,Result.andThen_ok,pure_bind,bind_pure,q3]
end
end Go.aw
end
