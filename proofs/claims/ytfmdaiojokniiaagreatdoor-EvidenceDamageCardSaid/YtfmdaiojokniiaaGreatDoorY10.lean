/- Several texts of mine, one behind the other. Conditions: as each says. -/
import Derived.Test.YtfmdaiojokniiaaGreatDoorY5
import Derived.Lib.BufferMore
import Derived.Lib.LazyBuf
import Derived.Laws.CopyRow
set_option linter.unusedVariables false
set_option linter.unusedSimpArgs false
section
namespace Go.ax
open Go Go.RowKit
section
variable {E:Env} {ag:FuncId} {R:cx} {s:List AV} {h:List ae} {lits:List Nat} {ops:Array Oper} {o:Oper} {l:List Oper} {k:List aP}
theorem Ov (op:BinOp) (t:TypeId) (x y:Operand) (p q:Option Addr) (a b c d:Nat):eqGuard op t x y (.slice p a b) (.slice q c d)=pure ():=by
 unfold eqGuard; cases op <;> rfl
theorem I.kv (hE:E.OK) {t e:Nat} {x:Operand} {yt:Nat} {m:List DV} {ti:bk} (hg:o.guard=none) (b9:o.op = .binOp .eql t x (.const (.slice none 0 0)) yt) (bO:E.T[t]? = some ti) (hk:ti.k = .slice e) (hx:aZ E.G s x (.d (.sl m)))
  (H:∀ b,(b=true→m=[])→I E ag R lits (.bo ops l::k) (bX s o.dst (.d (.bool b))) h):I E ag R lits (.bo ops (o::l)::k) s h:=by
 refine .of ?_;unfold AW;intro c0 c t' dD h0 h1 h2 h3 hr bE h4 h5 cs;subst h2;obtain ⟨i,hi,dy,aM⟩:=kO (h1 _ (List.mem_cons_self ..));obtain ⟨kS,d,g1,g2,g3,-⟩:=cm (hE.types t ti bO);obtain rfl:=kg (hk.symm.trans g3);have hv:=hx c ⟨t',marks R.fx.aG⟩ h3 h4;have fin:∀ (p:Option Addr) (n cp:Nat) (b:Bool),(⟨t',marks R.fx.aG⟩:Act).eval x = .slice p n cp→(binOp .eql t (.slice p n cp) (.slice none 0 0)).run E.P c.w = .ok (.bool b) c.w→(execOp (⟨t',marks R.fx.aG⟩:Act).eval o).run E.P c.w = .ok (.value (.bool b)) c.w:=fun p n cp b e1 e2=>by
  have oQ:(⟨t',marks R.fx.aG⟩:Act).eval (.const (.slice none 0 0)) = .slice none 0 0:=rfl;simp only [execOp,b9,e1,oQ,Ov,Sem.run_bind,Sem.run_pure,Result.andThen_ok,e2]
 have key:∃ b,(b=true→m=[])∧(execOp (⟨t',marks R.fx.aG⟩:Act).eval o).run E.P c.w = .ok (.value (.bool b)) c.w:=by
  generalize hu:(⟨t',marks R.fx.aG⟩:Act).eval x=u at hv;cases hv with
  |d _ _ hv=>cases hv with
   |slnil=>exact ⟨true,fun _=>rfl,fin _ _ _ _ hu (Lib.run_eql_slice_nil_nil c.w 0 0 g2)⟩
   |jB a=>exact ⟨false,fun _=>rfl,fin _ _ _ _ hu (Lib.run_eql_slice_some_nil c.w a 0 0 g2)⟩
   |sl _ blk off cap sz f=>exact ⟨false,fun q=>(by cases q),fin _ _ _ _ hu (Lib.run_eql_slice_some_nil c.w _ _ _ g2)⟩
 obtain ⟨b,hb,cq⟩:=key;have H:=(H b hb).to;unfold AW at H;have eG:VS c (bX s o.dst (.d (.bool b))) ((⟨t',marks R.fx.aG⟩:Act).put o.dst (.bool b)).tmps:=VS.bX (a:=⟨t',marks R.fx.aG⟩) h4 o.dst (.d _ _ (.bool b));obtain ⟨c2,fr,rr,u,e1,e2,e3,e4,e5,e6⟩:=H c0 c _ dD h0 (fy aM (dE h1)) rfl h3 hr bE eG h5 cs;refine ⟨c2,fr,rr,u,e1,e2,e3,e4,.head ?_ e5,e6⟩;simp only [bQ.bB,List.map_cons,dy];rw [s9 hi (fR hg c t' h4) (.inl cq),put_defers];rfl
end
end Go.ax
end
section
namespace Go.ax
open Go Go.RowKit
section
variable {G:List (Nat × DV)} {c:Cx}
theorem aK.rewrite (ho:aK G c) {b g blk cap:Nat} {ts:Nat × Nat} {l l':List DV} {vs vs':Array Value} {w':World} (hb:c.heap[b]? = some (.arr g ts l)) (bA:c.own b=some (blk,cap)) (hblk:c.w.heap[blk]? = some (.cells vs ts.1 (0,0)))
  (hl:l'.length=l.length) (dv:∀ (i:Nat) (e:DV),l'[i]? = some e→e.cells.length=ts.2) (bY:vs'.size=vs.size) (Bo:w'.os=c.w.os) (ht:w'.tape=c.w.tape) (Ow:w'.output=c.w.output) (hs:w'.heap.size=c.w.heap.size)
  (wW:∀ x,x≠blk→w'.heap[x]? = c.w.heap[x]?) (gF:w'.heap[blk]? = some (.cells vs' ts.1 (0,0)))
  (hv:∀ (i j:Nat) (e x:DV),l'[i]? = some e→e.cells[j]? = some x→∃ v,vs'[i*ts.2+j]? = some v∧v.oneCell'=true∧VD c.bad c.w x v) :
  aK G { c with heap:=c.heap.set b (.arr g ts l'),w:=w' }∧Step c { c with heap:=c.heap.set b (.arr g ts l'),w:=w' }:=by
 have er:=aT hb
 have aX:Step c { c with heap:=c.heap.set b (.arr g ts l'),w:=w' }:=⟨rfl,ho.bN,Bo,ht,Ow,by show _≤w'.heap.size; rw [hs]; exact Nat.le_refl _,fun x _ hn=>wW x (fun e=>by subst e; exact hn b cap bA),fun i x n hi _=>⟨n,hi⟩,fun i bx hi=>by
  by_cases bu:i=b
  ·subst bu;rw [hb] at hi;cases hi;exact .inl ⟨g,l',List.getElem?_set_self er,.inr ⟨rfl,hl,rfl⟩⟩
  ·exact kM hi (List.getElem?_set_ne (Ne.symm bu)) rfl⟩
 refine ⟨ho.next aX (fun i x n hi=>?_) ho.inj (fun i bx hi=>?_),aX⟩
 ·have:=ho.br i x n hi;refine ⟨by show x<w'.heap.size; rw [hs]; exact this.1,?_⟩;show i<(c.heap.set b _).length;rw [List.length_set]; exact this.2
 ·by_cases bu:i=b
  ·subst bu;have bV:(c.heap.set i (.arr g ts l'))[i]? = some bx:=hi;rw [List.getElem?_set_self er] at bV;cases bV;right;obtain ⟨q0,q1,q2⟩:=ho.box i _ hb;rcases q2 with ⟨q2,-⟩ | ⟨je,iz,V5,q2,q3,q4,q5,q6,q7⟩
   ·rw [bA] at q2; cases q2
   rw [bA] at q2;cases q2;rw [hblk] at q3;cases q3;refine ⟨q0,dv,.inr ⟨blk,cap,vs',bA,gF,by rw [bY]; exact q4,by rw [hl]; exact q5,q6,fun i j e x he hx=>?_⟩⟩;obtain ⟨v,k1,k2,k3⟩:=hv i j e x he hx;exact ⟨v,k1,k2,aX.vd k3⟩
  ·have bV:(c.heap.set b (.arr g ts l'))[i]? = some bx:=hi;rw [List.getElem?_set_ne (Ne.symm bu)] at bV;exact .inl ⟨bV,rfl,fun x n hn=>wW x (fun e=>by subst e; exact bu (ho.inj i b _ n cap hn bA))⟩
theorem Hv {P:Program} (w:World) (dT sT ty elem:TypeId) (g CX Ox:Nat) (a:Addr) (CY Oy sz:Nat) (cur:Array Value) (t:TypeId) (cs:List Value)
  (hu:P.underlying dT=some (.slice elem)) (hs:(P.info? elem).map (·.size)=some sz)
  (hg:w.heap[g]? = some (.cells cur t (0,0))) (hn:cs.length=Nat.min CY CX*sz)
  (tp:∀ j v,cs[j]? = some v→w.cell? (a.add j)=some v) (fE:cs.length≤cur.size) (h1:∀ v∈cs,v.oneCell'=true) :
  (Builtin.copy_ #[dT,sT] ty #[.slice (some ⟨g,0,none⟩) CX Ox,.slice (some a) CY Oy]).run P w =
   .ok (goInt (Nat.min CY CX)) (w.setRow g (cs++cur.toList.drop cs.length).toArray):=by
 have hl:=run_loadCells_list (P:=P) w a cs tp;have aX:=run_storeCells_at P g 0 t cs 0 cur w hg (by simpa using fE) h1;simp only [Nat.add_zero,List.take_zero,List.nil_append,Nat.zero_add] at aX;cases hq:P.info? elem with
 |none=>simp [hq] at hs
 |some i =>
  have hi:i.size=sz:=by simpa [hq] using hs
  simp [Builtin.copy_,run_underlying hu,Builtin.lenOf,Builtin.firstCells,sizeOf,typeInfo,hq,hi,← hn,hl,aX]
end
section
variable {E:Env} {ag:FuncId} {R:cx} {s:List AV} {h:List ae} {lits:List Nat} {ops:Array Oper} {o:Oper} {l:List Oper} {k:List aP}
theorem Hw (hE:E.OK) {dT sT e b g:Nat} {x y:Operand} {i ei:bk} {ts:Nat × Nat} {l m:List DV} (hi:E.T[dT]? = some i) (hk:i.k = .slice e) (bP:E.T[e]? = some ei) (gE:ts.2=ei.size) (hb:h[b]? = some (.arr g ts l)) (aJ:l≠[])
  (hx:aZ E.G s x (.own b g)) (hy:aZ E.G s y (.d (.sl m))) (hm:∀ z∈m,z.cells.length=ts.2) :
  bC E (.call { callee := .builtin .copy,args := #[x,y],argTypes := #[dT,sT] }) s h (.d (.int .i64 (min m.length l.length:Nat))) (h.set b (.arr g ts (m.take l.length++l.drop m.length))):=by
 intro o c a e1 e2 e3 e4;subst e2;obtain ⟨vv,d,q1,q2,q3,-⟩:=cm (hE.types dT i hi);obtain rfl:=kg (hk.symm.trans q3);obtain ⟨tie,de,p1,p2,p3,p4,-⟩:=cm (hE.types e ei bP);obtain ⟨b0,b1,b2⟩:=e3.box b _ hb;rcases lU hb (hx c a e3 e4) with ⟨blk,cap,r1,r2⟩ | ⟨r,-,-⟩
 case inr=>exact absurd r aJ
 rcases b2 with ⟨b2,-⟩ | ⟨je,iz,vs,b2,b3,b4,b5,b6,b7⟩
 ·rw [r1] at b2; cases b2
 rw [r1] at b2;cases b2;have eS:=hy c a e3 e4;have key:∃ (cs:List Value) (sv:Value),a.eval y=sv∧cs.length=min m.length l.length*ts.2∧(∀ v∈cs,v.oneCell'=true) ∧
   (∀ (i j:Nat) (e z:DV),i<l.length→m[i]? = some e→e.cells[j]? = some z→∃ v,cs[i*ts.2+j]? = some v∧v.oneCell'=true∧VD c.bad c.w z v) ∧
   (Builtin.copy_ #[dT,sT] o.type #[.slice (some ⟨blk,0,none⟩) l.length cap,sv]).run E.P c.w = .ok (goInt ((min m.length l.length:Nat):Int)) (c.w.setRow blk (cs++vs.toList.drop cs.length).toArray):=by
  have Oz:c.w.setRow blk (([]:List Value)++vs.toList.drop ([]:List Value).length).toArray=c.w:=by
   simp only [List.nil_append,List.length_nil,List.drop_zero,Array.toArray_toList];exact setRow_self c.w blk vs ts.1 (0,0) b3
  have bY:(E.P.info? e).map (·.size)=some ts.2:=by rw [p1,Option.map_some,gE,← p4]
  generalize hu:a.eval y=u at eS;cases eS with
  |d _ _ hv=>cases hv with
   |slnil =>
    refine ⟨[],_,rfl,by simp,fun v hv=>by simp at hv,fun i j e z _ he=>by simp at he,?_⟩;rw [Oz];have CZ:min ([]:List DV).length l.length=0:=by simp
    rw [CZ];have:=run_copy_nil (P:=E.P) c.w dT sT o.type e ⟨blk,0,none⟩ l.length cap q2 (by rw [p1]; rfl)
    simpa using this
   |jB a' =>
    refine ⟨[],_,rfl,by simp,fun v hv=>by simp at hv,fun i j e z _ he=>by simp at he,?_⟩;have CZ:min ([]:List DV).length l.length=0:=by simp
    rw [CZ];have:=Hv (P:=E.P) c.w dT sT o.type e blk l.length cap a' 0 0 ts.2 vs ts.1 [] q2 bY b3 (by simp) (fun j v hj=>by simp at hj) (by simp) (fun v hv=>by simp at hv)
    simpa using this
   |sl _ C0 off OA sz f h1 h2 h3 h4 h5 h6 h7 =>
    have facts:∀ q,q<min m.length l.length*ts.2→∃ e z,m[q / ts.2]? = some e∧e.cells[q % ts.2]? = some z∧sz=ts.2:=fun q hq=>by
     have hi:q / ts.2<min m.length l.length:=Nat.div_lt_of_lt_mul (by rw [Nat.mul_comm]; exact hq);have hj:q % ts.2<ts.2:=Nat.mod_lt _ b0;obtain ⟨z,hz⟩:∃ z,m[q / ts.2]? = some z:=⟨m[q / ts.2]'(by omega),by rw [List.getElem?_eq_getElem]⟩;have qD:=hm z (List.mem_of_getElem? hz);have nh:=h4 _ z hz;exact ⟨z,z.cells[q % ts.2]'(by omega),hz,by rw [List.getElem?_eq_getElem],by omega⟩
    have hlen:((List.range (min m.length l.length*ts.2)).map fun q=>f (q / ts.2) (q % ts.2)).length=min m.length l.length*ts.2:=by simp
    have dX:∀ q v,((List.range (min m.length l.length*ts.2)).map fun q=>f (q / ts.2) (q % ts.2))[q]? = some v→q<min m.length l.length*ts.2∧v=f (q / ts.2) (q % ts.2):=fun q v hq=>by
     have ai:=aT hq;rw [hlen] at ai;refine ⟨ai,?_⟩;simp [ai] at hq;exact hq.symm
    refine ⟨_,_,rfl,hlen,fun v hv=>?_,fun i j e z hi he hz=>?_,?_⟩
    ·obtain ⟨q,hq⟩:=List.getElem?_of_mem hv;obtain ⟨ma,rfl⟩:=dX q v hq;obtain ⟨e,z,g1,g2,g3⟩:=facts q ma;exact h7 _ _ e z g1 g2
    ·have hj:j<ts.2:=by rw [← hm e (List.mem_of_getElem? he)]; exact aT hz
     have V6:=aT he;have hq:i*ts.2+j<min m.length l.length*ts.2:=by
      have h1:(i+1)*ts.2≤min m.length l.length*ts.2:=Nat.mul_le_mul_right _ (by omega);rw [Nat.add_mul] at h1;omega
     have ed:(i*ts.2+j) / ts.2=i:=by rw [Nat.mul_comm,Nat.mul_add_div b0,Nat.div_eq_of_lt hj]; omega
     have em:(i*ts.2+j) % ts.2=j:=by rw [Nat.mul_comm,Nat.mul_add_mod,Nat.mod_eq_of_lt hj]
     exact ⟨f i j,by simp [hq,ed,em],h7 i j e z he hz,h6 i j e z he hz⟩
    ·have fE:((List.range (min m.length l.length*ts.2)).map fun q=>f (q / ts.2) (q % ts.2)).length≤vs.size:=by
      rw [hlen,b4];exact Nat.mul_le_mul_right _ (by omega)
     exact Hv (P:=E.P) c.w dT sT o.type e blk l.length cap ⟨C0,off,none⟩ m.length OA ts.2 vs ts.1 _ q2 bY b3 hlen (fun q v hq=>by
      obtain ⟨ma,rfl⟩:=dX q v hq;obtain ⟨e,z,g1,g2,g3⟩:=facts q ma;have:=h5 _ _ e z g1 g2;subst g3;rw [Nat.mul_comm,Nat.div_add_mod] at this;have yM:(⟨C0,off,none⟩:Addr).add q=⟨C0,off+q,none⟩:=by unfold Addr.add; split <;> simp_all
      rw [yM];exact this) fE (fun v hv=>by
      obtain ⟨q,hq⟩:=List.getElem?_of_mem hv;obtain ⟨ma,rfl⟩:=dX q v hq;obtain ⟨e,z,g1,g2,g3⟩:=facts q ma
      exact h7 _ _ e z g1 g2)
 obtain ⟨cs,sv,k1,k2,k3,k4,k5⟩:=key;have V7:cs.length≤vs.size:=by rw [k2,b4]; exact Nat.mul_le_mul_right _ (by omega)
 have V8:blk<c.w.heap.size:=(e3.br b blk cap r1).1;have OB:=e3.rewrite (l':=m.take l.length++l.drop m.length) (vs':=(cs++vs.toList.drop cs.length).toArray) (w':=c.w.setRow blk (cs++vs.toList.drop cs.length).toArray) hb r1 b3 (by simp; omega) (fun i e he=>?_) (by simp; omega) rfl rfl rfl (by simp [World.setRow]) (fun x hx=>by simp [World.setRow,Array.getElem?_modify,Ne.symm hx]) (by simp [World.setRow,Array.getElem?_modify,b3]) (fun i j e z he hz=>?_)
 ·obtain ⟨aM,aX⟩:=OB;refine ⟨_,.int .i64 (min m.length l.length:Nat),.inl ?_,rfl,aM,.d _ _ (.int _ _),aX⟩;simp only [execOp,e1,resolve,invoke,builtin,List.map_toArray,List.map_cons,List.map_nil,r2,k1,Sem.run_bind,Sem.run_pure,Result.andThen_ok,k5];rfl
 ·rcases Nat.lt_or_ge i (m.take l.length).length with h | h
  ·rw [List.getElem?_append_left h] at he;exact hm e (List.mem_of_mem_take (List.mem_of_getElem? he))
  ·rw [List.getElem?_append_right h] at he;exact b1 _ e (by rw [List.getElem?_drop] at he; exact he)
 ·have hj:∀ z:DV,z.cells.length=ts.2→∀ w,z.cells[j]? = some w→j<ts.2:=fun z hz w hw=>by rw [← hz]; exact aT hw
  rcases Nat.lt_or_ge i (m.take l.length).length with h | h
  ·rw [List.getElem?_append_left h,List.getElem?_take] at he;have fF:i<l.length:=by simp at h; omega
   rw [if_pos fF] at he;obtain ⟨v,v1,v2,v3⟩:=k4 i j e z fF he hz;refine ⟨v,?_,v2,v3⟩;rw [List.getElem?_toArray,List.getElem?_append_left (aT v1)];exact v1
  ·rw [List.getElem?_append_right h] at he;rw [List.getElem?_drop] at he;have hlen:(m.take l.length).length=min m.length l.length:=by simp; omega
   rw [hlen] at he h;have Hy:m.length<l.length:=by
    have:=aT he;omega
   have Hz:min m.length l.length=m.length:=by omega
   rw [Hz] at he h;rw [show m.length+(i - m.length)=i by omega] at he;obtain ⟨v,v1,v2,v3⟩:=b7 i j e z he hz;refine ⟨v,?_,v2,v3⟩;have nw:cs.length≤i*ts.2+j:=by
    rw [k2,Hz];have:=Nat.mul_le_mul_right ts.2 h;omega
   rw [List.getElem?_toArray,List.getElem?_append_right nw,List.getElem?_drop,show cs.length+(i*ts.2+j - cs.length)=i*ts.2+j by omega]
   simpa using v1
theorem I.HA (hE:E.OK) {dT sT:Nat} {x y:Operand} (hg:o.guard=none) (b9:o.op = .call { callee := .builtin .copy,args := #[x,y],argTypes := #[dT,sT] })
  (H:aO E.T dT False fun i=>match i.k with
   | .slice e=>aO E.T e False fun ei=>bS E.G s x False fun
    | .own b g=>aO h b False fun
     | .arr g' ts l'=>match Nat.beq g g' with
      |true=>bS E.G s y False fun
       | .d (.sl m)=>need (l'≠[]∧ts.2=ei.size∧∀ z∈m,z.cells.length=ts.2) (fk h b (.arr g ts (m.take l'.length++l'.drop m.length)) fun h'=>cb s o.dst (.d (.int .i64 (min m.length l'.length:Nat))) fun s'=>I E ag R lits (.bo ops l::k) s' h')
       |_=>False
      |false=>False
     |_=>False
    |_=>False
   |_=>False):I E ag R lits (.bo ops (o::l)::k) s h:=by
 rcases a8 H with H | ⟨i,hi,H⟩
 ·exact H.elim
 split at H
 case h_2=>exact H.elim
 rename_i e hk;rcases a8 H with H | ⟨ei,bP,H⟩
 ·exact H.elim
 rcases bW H with H | ⟨v,hv,H⟩
 ·exact H.elim
 split at H
 case h_2=>exact H.elim
 rename_i b g;rcases a8 H with H | ⟨bx,hb,H⟩
 ·exact H.elim
 split at H
 case h_2=>exact H.elim
 rename_i g' ts l';split at H
 case h_2=>exact H.elim
 rename_i q;have q:=Nat.eq_of_beq_eq_true q;subst q;rcases bW H with H | ⟨u,hu,H⟩
 ·exact H.elim
 split at H
 case h_2=>exact H.elim
 rename_i m;obtain ⟨⟨n1,n2,n3⟩,H⟩:=kP H;rw [fQ,dN] at H;refine .of (.op (fR hg) ?_ H.to);rw [b9];exact Hw hE hi hk bP n2 hb n1 hv hu n3
end
end Go.ax
end
section
namespace Go.ax
open Go Go.RowKit
theorem fo.mid {lim:Nat} {c:Cx} {g1 g2:List bj} {g:bj} (h:fo lim c (g1++g2)) (hg:gz lim c g) (hn:g.cd.Nodup) (hd:∀ x∈g.cd,x ∉ (g1++g2).flatMap bj.cd):fo lim c (g1++g::g2):=by
 refine ⟨fun r hr=>?_,?_⟩
 ·rcases List.mem_append.1 hr with hr | hr
  ·exact h.each r (List.mem_append_left _ hr)
  ·rcases List.mem_cons.1 hr with rfl | hr
   ·exact hg
   ·exact h.each r (List.mem_append_right _ hr)
 ·have hp:((g1++g::g2).flatMap bj.cd).Perm (g.cd++(g1++g2).flatMap bj.cd):=by
   have:=(List.perm_middle (a:=g) (l₁ := g1) (l₂ := g2)).flatMap_right bj.cd
   simpa using this
  rw [hp.nodup_iff,List.nodup_append];exact ⟨hn,h.nodup,fun x hx y hy e=>by subst e; exact hd x hx hy⟩
section
variable {lim:Nat} {c:Cx} {rows L:List bj}
theorem dx.push {g:bj} (h:dx lim c rows L) (hg:gz lim c g) (hn:g.cd.Nodup) (hd:∀ x∈g.cd,x ∉ (rows++L).flatMap bj.cd):dx lim c rows (g::L):=⟨h.all.mid hg hn hd,h.flat⟩
theorem dx.pop {g:bj} (h:dx lim c rows (g::L)):dx lim c rows L∧gz lim c g∧∀ x∈g.cd,x ∉ (rows++L).flatMap bj.cd:=by
 obtain ⟨h1,h2,h3⟩:=h.all.uf;exact ⟨⟨h1,h.flat⟩,h2,h3⟩
theorem dx.old {G:List (Nat × DV)} (h:dx lim c rows L) (ho:aK G c) {b:Nat} (hb:b∈(rows++L).flatMap bj.cd):b<c.w.heap.size:=by
 obtain ⟨g,hg,hx⟩:=List.mem_flatMap.1 hb;exact ho.bN _ ((h.all.each g hg).ay _ hx)
theorem Touch.putObj {l:Nat} {o:Obj} (hb:c.ay l):Touch c l (c.w.putObj l o):=⟨hb,rfl,rfl,rfl,World.putObj_size,fun _ h=>World.putObj_heap_other h⟩
theorem dx.HB {n r:Nat} {g g':bj} {w':World} (h:dx lim c rows L) (hl:L[n]? = some g) (hb:g.cd=[r]) (b8:g'.cd=[r]) (ht:Touch c r w') (hg:gz lim (c.dL w') g'):dx lim (c.dL w') rows (L.set n g'):=by
 have ai:=aT hl;have e1:L=L.take n++g::L.drop (n+1):=by
  have wD:L[n]=g:=(List.getElem?_eq_some_iff.1 hl).2;rw [← wD,List.getElem_cons_drop,List.take_append_drop]
 have e2:L.set n g'=L.take n++g'::L.drop (n+1):=by
  rw [List.set_eq_take_append_cons_drop,if_pos ai]
 have h1:=h.all;rw [e1,← List.append_assoc] at h1;obtain ⟨k1,k2,k3⟩:=h1.uf;rw [e2];refine ⟨?_,h.flat⟩;rw [← List.append_assoc];refine (ht.rows k1 (k3 r (by rw [hb]; simp))).mid hg (by rw [b8]; simp) (fun x hx=>?_);rw [b8] at hx;exact k3 x (by rw [hb]; exact hx)
end
def rX:List Nat→List AV→List AV→List AV
 |p::ps,a::l,s=>rX ps l (s.set p a)
 |_,_,s=>s
theorem C1 {c:Cx}:∀ {ps:List Nat} {l:List AV} {vs:List Value} {s:List AV} {t:Array Value},VS c s t→VL c l vs→VS c (rX ps l s) ((ps.zip vs).foldl (fun t (p,v)=>t.setIfInBounds p v) t)
 | [],_,_,_,_,h,_=>by simpa [rX] using h
 |_::_,[],[],_,_,h,_=>by simpa [rX] using h
 |_::_,_::_,[],_,_,_,hl=>by have:=hl.1; simp at this
 |_::_,[],_::_,_,_,_,hl=>by have:=hl.1; simp at this
 |p::ps,a::l,v::vs,s,t,h,hl=>by
  simp only [rX,List.zip_cons_cons,List.foldl_cons];exact C1 (h.put p hl.head.1) hl.head.2
theorem OC {P : Program} {f : FuncId} {fn : Func} {b : Code} (hf : P.funcs[f]? = some fn) (hb : fn.body = some b) (hn : (fn.name == "runtime.NumGoroutine") = false) (args : Array Value) (w : World) : (callFunc f args).run P w = .ok (.enter f args) w := by
 simp only [callFunc,Sem.run_bind,Sem.run_pure,Result.andThen_ok,program,Sem.run,hf,hn,hb,Option.isNone_some,Bool.false_eq_true,if_false]
theorem HC {P:Program} {f:FuncId} {fn:Func} {b:Code} (hf:P.funcs[f]? = some fn) (hb:fn.body=some b) (vs:List Value) (s:List AV):Frame.enter P f vs.toArray .normal=(⟨⟨f,none,[]⟩,[.code b],s⟩:bQ).bB (vs.toArray++Array.replicate (fn.ntmps - vs.toArray.size) undef):=by
 simp [Frame.enter,bQ.bB,Frame.atR,hf,hb,bf,aP.bB,marks]
theorem HD {P:Program} {b:Frame} {a:Act} {k:List Item} {cs:List Frame} {w:World} {ops:Array Oper} {i:Nat} {rest:List Nat} {o:Oper} {l:Nat} {f:FuncId} {tmps:Array Value} {assign body:Code} (ho:ops[i]? = some o) (hw:Region.wanted o (yielded ops a.tmps)=true)
  (hr:(execOp a.eval o).run P w = .ok (.round l f tmps assign body) w) :
  step P (lone (b.atR a (.inRegion ops (i::rest)::k)) cs w) = .next (lone (Frame.round l f tmps assign body .normal) (b.atR a (.inRegion ops (i::rest)::k)::cs) w):=by
 have hg:=stepGR_op (P:=P) (b:=b) (k:=k) (cs:=cs) (w:=w) (rest:=rest) ho hw;have qW:=pD (ro:=b.roundOf) hr (by simp);exact step_lone_go (by rw [hg]; simp [stepG.apply,qW])
theorem HE {P:Program} {G:List (Nat × DV)} {c0:Cx} {rows L:List bj} {cs:List Frame}:∀ (D:List Nat) (c:Cx) (fr:Frame),aK G c→ee c0 c→dx c0.w.heap.size c rows (D.map .mark++L)→fr.mode = .returning→fr.defers=marks D →
  ∃ c':Cx,c'.heap=c.heap∧aK G c'∧ee c0 c'∧dx c0.w.heap.size c' rows L∧(∀ x v,VR c x v→VR c' x v)∧Steps P (lone fr cs c.w) (lone { fr with defers:=[] } cs c'.w)
 | [],c,fr,h1,h2,h3,_,h5=>by
  refine ⟨c,rfl,h1,h2,h3,fun _ _ h=>h,?_⟩;have:{ fr with defers:=[] }=fr:=by cases fr; simp only at h5; subst h5; rfl
  rw [this];exact .refl _ _
 |d::D,c,fr,h1,h2,h3,h4,h5=>by
  obtain ⟨k1,k2,k3⟩:=h3.pop;have k2:pC c0.w.heap.size c d:=k2;have ht:Touch c d (c.w.putObj d (.deferred none)) := .putObj k2.ay;have OD:=ht.rows k1.all (k3 d (by simp [bj.cd]));obtain ⟨c',q1,q2,q3,q4,q5,q6⟩:=HE D (c.dL (c.w.putObj d (.deferred none))) { fr with defers:=marks D } (ht.aM h1) (ht.rel h2 k2.new) ⟨OD,k1.flat⟩ h4 rfl;refine ⟨c',q1,q2,q3,q4,fun x v hv=>q5 x v (ht.vr hv),.head ?_ q6⟩;exact step_collected (calls:=[]) (by rw [h4]; simp) h5 rfl (run_takeDeferred k2.mem)
theorem C2 {E:Env} (hE:E.OK) {fn:Func} {s:List AV} {h:List ae} {K:AV→List ae→Prop} (H:lS E.T s h fn.results.toList False K) :
  ∃ r,K r h∧∀ (c:Cx) (t:Array Value),c.heap=h→aK E.G c→VS c s t→∃ v,VR c r v∧(results fn t).run E.P c.w = .ok v c.w:=by
 unfold lS at H;rcases yn hE H with h' | ⟨l,H,hl⟩
 ·cases h'
 split at H
 ·rename_i x;refine ⟨x,H,fun c t e1 e2 e3=>?_⟩;obtain ⟨vs,g1,g2⟩:=hl c t e1 e2 e3;cases vs with
  |nil=>have:=g1.1; simp at this
  |cons v vs=>cases vs with
   |cons u vs=>have:=g1.1; simp at this
   |nil=>exact ⟨v,g1.head.1,Bn g2⟩
 ·rename_i aJ;refine ⟨_,H,fun c t e1 e2 e3=>?_⟩;obtain ⟨vs,g1,g2⟩:=hl c t e1 e2 e3;refine ⟨.tuple vs.toArray,.aF _ _ (by simpa using g1.1) fun j x v hx hu=>g1.2 j x v hx (by simpa using hu),?_⟩;have:=Bn g2;cases vs with
  |nil=>exact this
  |cons v vs=>cases vs with
   |nil =>
    have:=g1.1;cases l with
    |nil=>simp at this
    |cons x l=>cases l with
     |nil=>exact absurd rfl (aJ x)
     |cons y l=>simp at this
   |cons u vs=>exact this
section
variable {E:Env} {ag:FuncId} {R:cx} {s:List AV} {h:List ae} {lits:List Nat} {ops:Array Oper} {o:Oper} {l:List Oper} {k:List aP}
theorem I.rangeFunc {g : Operand} {ps : Array Tmp} {assign body HF : Code} {gf : FuncId} {a1 a2 : List AV} {fn : Func} (hg : aZ E.G s g (.fn (.func gf) a1 a2)) (hf : E.P.funcs[gf]? = some fn) (hb : fn.body = some HF) (hn : (fn.name == "runtime.NumGoroutine") = false) (iR : R.fx.cB = none)
  (H:∀ (ll d:Nat) (t:Array Value),I E gf ⟨R.n,R.Q,R.rows,⟨R.fx.f0,none,[],⟨⟨ag,none,d::R.fx.aG⟩,.nr ll::k,s⟩::R.fx.cls,.loop ⟨ll,d,.ready,none,ag,t,ps,assign,body,s⟩ :: .mark d::R.fx.loops,R.fx.inl⟩⟩ [] [.code HF] (lQ (a1++[.fn (.yield ll) [] []]++a2) fn.ntmps) h) :
  I E ag R lits (.code (.rangeFunc g ps assign body)::k) s h:=by
 have e:(⟨ag,R.fx.cB,R.fx.aG⟩:gy)=⟨ag,none,R.fx.aG⟩:=by rw [iR]
 refine .of ?_;rw [e];unfold AW;intro c0 c t ts h0 h1 h2 h3 hr bE h4 h5 cs;subst h2;obtain ⟨v1,v2,e1,e2,e3⟩:=km (hg c ⟨t,marks R.fx.aG⟩ h3 h4);obtain ⟨i,hi⟩:∃ i:jh,i=⟨c.w.heap.size+1,c.w.heap.size,.ready,none,ag,t,ps,assign,body,s⟩:=⟨_,rfl⟩;have bY:(c.cz (.deferred (some []))).w.heap.size=c.w.heap.size+1:=by simp [Cx.cz]
 have cZ:aK E.G (c.cz (.deferred (some []))):=h3.cz;have fp:aK E.G ((c.cz (.deferred (some []))).cz (.loop i.ef)):=cZ.cz;have CO:ee c0 ((c.cz (.deferred (some []))).cz (.loop i.ef)):=hr.cz.cz;have kj:∀ x v,VR c x v→VR ((c.cz (.deferred (some []))).cz (.loop i.ef)) x v:=fun x v hv=>rW (rW hv);have fF:i.l=c.w.heap.size+1:=by rw [hi]
 have w8:dx c0.w.heap.size ((c.cz (.deferred (some []))).cz (.loop i.ef)) R.rows (.loop i :: .mark c.w.heap.size::R.fx.loops):=by
  have b0:dx c0.w.heap.size ((c.cz (.deferred (some []))).cz (.loop i.ef)) R.rows R.fx.loops:=⟨(bE.all.cz h3).cz cZ,bE.flat⟩;have b1:dx c0.w.heap.size ((c.cz (.deferred (some []))).cz (.loop i.ef)) R.rows (.mark c.w.heap.size::R.fx.loops):=by
   refine b0.push (g := .mark c.w.heap.size) (show pC _ _ _ from ⟨.inl (.inr rfl),hr.size,?_⟩) (by simp [bj.cd]) (fun x hx hm=>?_)
   ·show ((c.w.alloc (.deferred (some []))).alloc (.loop i.ef)).heap[c.w.heap.size]? = _;rw [Below.heap_alloc _ _ _ (by simp)];exact heap_alloc_new _ _
   ·simp [bj.cd] at hx;subst hx;have:=bE.old h3 hm;omega
  refine b1.push (g := .loop i) (show lP _ _ _ from ⟨.inr (by rw [fF,bY]),by rw [fF]; have:=hr.size; omega,?_,?_⟩) (by simp [bj.cd]) (fun x hx hm=>?_)
  ·show ((c.w.alloc (.deferred (some []))).alloc (.loop i.ef)).heap[i.l]? = _;rw [fF,show c.w.heap.size+1=(c.w.alloc (.deferred (some []))).heap.size by simp];exact heap_alloc_new _ _
  ·have es:i.gr=s:=by rw [hi]
   have et:i.tm=t:=by rw [hi]
   rw [es,et];exact ⟨h4.1,fun j x v hx hv=>kj x v (h4.2 j x v hx hv)⟩
  ·simp [bj.cd] at hx;subst hx;rw [List.flatMap_append,List.mem_append,List.flatMap_cons,List.mem_append] at hm;rcases hm with hm | hm | hm
   ·have:=bE.old h3 (b:=i.l) (by rw [List.flatMap_append]; exact List.mem_append_left _ hm);omega
   ·simp [bj.cd] at hm;omega
   ·have:=bE.old h3 (b:=i.l) (by rw [List.flatMap_append]; exact List.mem_append_right _ hm);omega
 have H:=(H (c.w.heap.size+1) c.w.heap.size t).to;rw [← hi] at H;unfold AW at H;have iE:VL ((c.cz (.deferred (some []))).cz (.loop i.ef)) (a1++[.fn (.yield (c.w.heap.size+1)) [] []]++a2) (v1++[.func (.yield (c.w.heap.size+1)) #[] #[]]++v2):=by
  have lift:∀ {x:List AV} {u:List Value},VL c x u→VL ((c.cz (.deferred (some []))).cz (.loop i.ef)) x u:=fun hx=>⟨hx.1,fun j x v h1 h2=>kj x v (hx.2 j x v h1 h2)⟩;exact ((lift e2).append (.cons (.fn _ _ _ _ _ rfl rfl (fun j x v hx=>by simp at hx) (fun j x v hx=>by simp at hx)) .nil)).append (lift e3)
 obtain ⟨c2,fr,r,v,q1,q2,q3,q4,q5,q6⟩:=H c0 ((c.cz (.deferred (some []))).cz (.loop i.ef)) _ (t::ts) h0 (fun x hx=>by simp at hx; subst hx; trivial) rfl fp CO w8 (Bf fn.ntmps iE) ⟨⟨h4.1,fun j x v hx hv=>kj x v (h4.2 j x v hx hv)⟩,fy trivial (dE h1),nt kj h5⟩ cs;refine ⟨c2,fr,r,v,q1,q2,q3,q4,.head ?_ q5,q6⟩;have eT:=run_enterLoop_outer (P:=E.P) (w:=c.w) ag t ps assign body;have OE:(Loop.mk .ready none ag t ps assign body c.w.heap.size)=i.ef:=by rw [hi]; rfl
 rw [OE] at eT;have C3:(resolve (⟨t,marks R.fx.aG⟩:Act).eval (rangeCall g (c.w.heap.size+1)) 0).run E.P ((c.w.alloc (.deferred (some []))).alloc (.loop i.ef)) = .ok { target := .fn (.func gf) v2.toArray,args:=v1.toArray ++ #[.func (.yield (c.w.heap.size+1)) #[] #[]] } ((c.w.alloc (.deferred (some []))).alloc (.loop i.ef)):=by
  have hy:∀ l:Nat,#[Operand.const (Value.func (Fn.yield l) #[] #[])].map (⟨t,marks R.fx.aG⟩:Act).eval = #[.func (.yield l) #[] #[]]:=fun _=>by simp [Act.eval]
  simp only [resolve,rangeCall,e1,Deferred.ofValue,Sem.run_pure,hy]
 have hinv:(invoke (Target.fn (.func gf) v2.toArray) (v1.toArray ++ #[.func (.yield (c.w.heap.size+1)) #[] #[]])).run E.P ((c.w.alloc (.deferred (some []))).alloc (.loop i.ef)) = .ok (.enter gf (v1++[Value.func (.yield (c.w.heap.size+1)) #[] #[]]++v2).toArray) ((c.w.alloc (.deferred (some []))).alloc (.loop i.ef)):=by
  simp only [invoke];rw [OC hf hb hn]
  congr 2
  apply Array.ext';simp
 have hs:=stepR_rangeFunc (P:=E.P) (b:=bf ⟨ag,none,R.fx.aG⟩) (a:=⟨t,marks R.fx.aG⟩) (k:=k.map aP.bB) (cs:=ez R.fx.cls ts++cs) eT C3 hinv;rw [HC hf hb _ (lQ (a1++[.fn (.yield (c.w.heap.size+1)) [] []]++a2) fn.ntmps)] at hs;exact hs
theorem I.yield (n:Nat) {i:jh} {fx:Operand} {args:Array Operand} {ts:Array TypeId} {av:List AV} (hl:R.fx.loops[n]? = some (.loop i)) (hg:o.guard=none) (b9:o.op = .call { callee := .value fx,args:=args,argTypes:=ts }) (hf:aZ E.G s fx (.fn (.yield i.l) [] [])) (ha:hY E.G s args.toList av) (hlen:av.length=i.ps.size)
  (H:I E i.fn ⟨R.n,R.Q,R.rows,⟨R.fx.f0,some i.l,[],⟨⟨ag,R.fx.cB,R.fx.aG⟩,.bo ops (o::l)::k,s⟩::R.fx.cls,R.fx.loops,R.fx.inl⟩⟩ [] [.code i.assign,.oo,.code i.body] (rX i.ps.toList av i.gr) h):I E ag R lits (.bo ops (o::l)::k) s h:=by
 refine .of ?_;unfold AW;intro c0 c t tt h0 h1 h2 h3 hr bE h4 h5 cs;subst h2;obtain ⟨j,hj,dy,aM⟩:=kO (h1 _ (List.mem_cons_self ..));have hi:lP c0.w.heap.size c i:=bE.all.each _ (List.mem_append_right _ (List.mem_of_getElem? hl));obtain ⟨v1,v2,e1,e2,e3⟩:=km (hf c ⟨t,marks R.fx.aG⟩ h3 h4);obtain rfl:v1=[]:=List.eq_nil_of_length_eq_zero (by simpa using e2.1.symm);obtain rfl:v2=[]:=List.eq_nil_of_length_eq_zero (by simpa using e3.1.symm);have e4:=ha c ⟨t,marks R.fx.aG⟩ h3 h4;have H:=H.to;unfold AW at H;have ie:(#[]++args.map (⟨t,marks R.fx.aG⟩:Act).eval).size=i.ef.params.size:=by
  have:=e4.1;simp at this ⊢;rw [← this,hlen];rfl
 have eG:=C1 (ps:=i.ps.toList) hi.gr e4;obtain ⟨c2,fr,r,v,q1,q2,q3,q4,q5,q6⟩:=H c0 c _ (t::tt) h0 (fun x hx=>by simp at hx; rcases hx with rfl | rfl | rfl <;> trivial) rfl h3 hr bE eG ⟨h4,h1,h5⟩ cs;refine ⟨c2,fr,r,v,q1,q2,q3,q4,.head ?_ q5,q6⟩;have cq:(execOp (⟨t,marks R.fx.aG⟩:Act).eval o).run E.P c.w = .ok (.round i.l i.fn ((i.ps.toList.zip (args.toList.map (⟨t,marks R.fx.aG⟩:Act).eval)).foldl (fun t (p,v)=>t.setIfInBounds p v) i.tm) i.assign i.body) c.w:=by
  have hy:=run_yield (P:=E.P) hi.mem ie;simp only [execOp,b9,resolve,e1,Deferred.ofValue,invoke,Sem.run_bind,Sem.run_pure,Result.andThen_ok,hy]
  congr 2
  rw [← Array.foldl_toList,Array.toList_zip];simp [jh.ef]
 have hs:=HD (P:=E.P) (b:=bf ⟨ag,R.fx.cB,R.fx.aG⟩) (a:=⟨t,marks R.fx.aG⟩) (k:=k.map aP.bB) (cs:=ez R.fx.cls tt++cs) (rest:=(List.range ops.size).drop (ops.size - l.length)) hj (fR hg c t h4) cq;simp only [bQ.bB,List.map_cons,ez,dy,List.cons_append];exact hs
theorem I.begin (n:Nat) {i:jh} (hl:R.fx.loops[n]? = some (.loop i)) (iR:R.fx.cB=some i.l) (aX:i.st = .ready)
  (H:I E ag ⟨R.n,R.Q,R.rows,⟨R.fx.f0,some i.l,R.fx.aG,R.fx.cls,R.fx.loops.set n (.loop { i with st := .busy }),R.fx.inl⟩⟩ lits k s h):I E ag R lits (.oo::k) s h:=by
 have e:(⟨ag,R.fx.cB,R.fx.aG⟩:gy)=⟨ag,some i.l,R.fx.aG⟩:=by rw [iR]
 refine .of ?_;rw [e];unfold AW;intro c0 c t tt h0 h1 h2 h3 hr bE h4 h5 cs;subst h2;have hi:lP c0.w.heap.size c i:=bE.all.each _ (List.mem_append_right _ (List.mem_of_getElem? hl));have ht:Touch c i.l (c.w.putObj i.l (.loop { i with st := .busy }.ef)) := .putObj hi.ay;have ai:=h3.bN _ hi.ay;have w8:dx c0.w.heap.size (c.dL (c.w.putObj i.l (.loop { i with st := .busy }.ef))) R.rows (R.fx.loops.set n (.loop { i with st := .busy })) :=
  bE.HB hl rfl rfl ht (show lP _ _ _ from ⟨hi.ay,hi.new,World.putObj_heap_same ai,⟨hi.gr.1,fun j x v hx hv=>ht.vr (hi.gr.2 j x v hx hv)⟩⟩)
 have H:=H.to;unfold AW at H;obtain ⟨c2,fr,r,v,q1,q2,q3,q4,q5,q6⟩:=H c0 (c.dL (c.w.putObj i.l (.loop { i with st := .busy }.ef))) t tt h0 (dE h1) rfl (ht.aM h3) (ht.rel hr hi.new) w8 ⟨h4.1,fun j x v hx hv=>ht.vr (h4.2 j x v hx hv)⟩ (nt (fun _ _=>ht.vr) h5) cs;refine ⟨c2,fr,r,v,q1,q2,q3,q4,.head ?_ q5,q6⟩;exact stepR_beginRound (b:=bf ⟨ag,some i.l,R.fx.aG⟩) (a:=⟨t,marks R.fx.aG⟩) (k:=k.map aP.bB) rfl (run_beginRound hi.mem aX)
theorem I.C4 (n:Nat) {i:jh} (jump:Option Code) {td:List aP} {fd:gy} {fY:Array Oper} {o1:Oper} {l1:List Oper} {k1:List aP} {s1:List AV} {fJ:List bQ}
  (hj:∀ (b:Frame) (a:Act) (cf:Frame) (cs:List Frame) (w w':World) (v:Value),b.roundOf=some i.l→b.kind = .normal→(Instr.endRound i.l jump).run E.P w = .ok v w'→step E.P (lone (b.atR a (td.map aP.bB)) (cf::cs) w) = .next (lone (cf.finish v) cs w'))
  (hl:R.fx.loops[n]? = some (.loop i)) (iR:R.fx.cB=some i.l) (hc:R.fx.cls=⟨fd,.bo fY (o1::l1)::k1,s1⟩::fJ)
  (H:I E fd.f ⟨R.n,R.Q,R.rows,⟨R.fx.f0,fd.cB,fd.aG,fJ,R.fx.loops.set n (.loop { i with st:=if jump.isNone then .ready else .done,pe:=jump }),R.fx.inl⟩⟩ [] (.bo fY l1::k1) (bX s1 o1.dst (.d (.bool jump.isNone))) h):I E ag R lits td s h:=by
 have e:(⟨ag,R.fx.cB,R.fx.aG⟩:gy)=⟨ag,some i.l,R.fx.aG⟩:=by rw [iR]
 refine .of ?_;rw [e,hc];unfold AW;intro c0 c t tt h0 h1 h2 h3 hr bE h4 h5 cs;subst h2;obtain ⟨t1,gN,rfl⟩:∃ t1 gN,tt=t1::gN:=by
  cases tt with
  |nil=>exact h5.elim
  |cons t1 gN=>exact ⟨_,_,rfl⟩
 obtain ⟨c4,c5,c6⟩:=h5;obtain ⟨j,zq,dy,aM⟩:=kO (c5 _ (List.mem_cons_self ..));have hi:lP c0.w.heap.size c i:=bE.all.each _ (List.mem_append_right _ (List.mem_of_getElem? hl));obtain ⟨i2,uh⟩:∃ i2:jh,i2={ i with st:=if jump.isNone then .ready else .done,pe:=jump }:=⟨_,rfl⟩;rw [← uh] at H;have zr:i2.l=i.l:=by rw [uh]
 have es:i2.gr=i.gr:=by rw [uh]
 have et:i2.tm=i.tm:=by rw [uh]
 have ht:Touch c i.l (c.w.putObj i.l (.loop i2.ef)) := .putObj hi.ay;have ai:=h3.bN _ hi.ay;have w8:dx c0.w.heap.size (c.dL (c.w.putObj i.l (.loop i2.ef))) R.rows (R.fx.loops.set n (.loop i2)) :=
  bE.HB hl rfl (by simp [bj.cd,zr]) ht (show lP _ _ _ from ⟨by rw [zr]; exact hi.ay,by rw [zr]; exact hi.new,by rw [zr]; exact World.putObj_heap_same ai,by rw [es,et]; exact ⟨hi.gr.1,fun j x v hx hv=>ht.vr (hi.gr.2 j x v hx hv)⟩⟩)
 have H:=H.to;unfold AW at H;have iD:VS (c.dL (c.w.putObj i.l (.loop i2.ef))) (bX s1 o1.dst (.d (.bool jump.isNone))) ((⟨t1,marks fd.aG⟩:Act).put o1.dst (.bool jump.isNone)).tmps :=
  VS.bX (a:=⟨t1,marks fd.aG⟩) ⟨c4.1,fun j x v hx hv=>ht.vr (c4.2 j x v hx hv)⟩ o1.dst (.d _ _ (.bool _))
 obtain ⟨c2,fr,r,v,q1,q2,q3,q4,q5,q6⟩:=H c0 (c.dL (c.w.putObj i.l (.loop i2.ef))) _ gN h0 (fy aM (dE c5)) rfl (ht.aM h3) (ht.rel hr hi.new) w8 iD (nt (fun _ _=>ht.vr) c6) cs;refine ⟨c2,fr,r,v,q1,q2,q3,q4,.head ?_ q5,q6⟩;have cq:(Instr.endRound i.l jump).run E.P c.w = .ok (.bool jump.isNone) (c.w.putObj i.l (.loop i2.ef)):=by
  have:=run_endRound (P:=E.P) jump hi.mem;rw [uh];exact this
 have hs:=hj (bf ⟨ag,some i.l,R.fx.aG⟩) ⟨t,marks R.fx.aG⟩ ((⟨fd,.bo fY (o1::l1)::k1,s1⟩:bQ).bB t1) (ez fJ gN++cs) c.w _ _ rfl rfl cq;have jk:((⟨fd,.bo fY (o1::l1)::k1,s1⟩:bQ).bB t1).finish (.bool jump.isNone)=(⟨⟨fd.f,fd.cB,fd.aG⟩,.bo fY l1::k1,bX s1 o1.dst (.d (.bool jump.isNone))⟩:bQ).bB ((⟨t1,marks fd.aG⟩:Act).put o1.dst (.bool jump.isNone)).tmps:=by
  simp only [bQ.bB,List.map_cons,dy];rw [Frame.finish_atR,zq];simp only [Option.bind_some];rw [put_defers];rfl
 rw [jk] at hs;exact hs
theorem I.nN (n:Nat) {i:jh} {fd:gy} {fY:Array Oper} {o1:Oper} {l1:List Oper} {k1:List aP} {s1:List AV} {fJ:List bQ} (hl:R.fx.loops[n]? = some (.loop i)) (iR:R.fx.cB=some i.l) (hc:R.fx.cls=⟨fd,.bo fY (o1::l1)::k1,s1⟩::fJ)
  (H:I E fd.f ⟨R.n,R.Q,R.rows,⟨R.fx.f0,fd.cB,fd.aG,fJ,R.fx.loops.set n (.loop { i with st := .ready,pe:=none }),R.fx.inl⟩⟩ [] (.bo fY l1::k1) (bX s1 o1.dst (.d (.bool true))) h):I E ag R lits [] s h :=
 .C4 n none (fun b a cf cs w w' v h1 h2 h3=>stepR_round_end h1 h2 h3) hl iR hc H
theorem I.zt (n:Nat) {i:jh} {fd:gy} {fY:Array Oper} {o1:Oper} {l1:List Oper} {k1:List aP} {s1:List AV} {fJ:List bQ} (hl:R.fx.loops[n]? = some (.loop i)) (iR:R.fx.cB=some i.l) (hc:R.fx.cls=⟨fd,.bo fY (o1::l1)::k1,s1⟩::fJ)
  (H:I E fd.f ⟨R.n,R.Q,R.rows,⟨R.fx.f0,fd.cB,fd.aG,fJ,R.fx.loops.set n (.loop { i with st := .done,pe:=some .ret }),R.fx.inl⟩⟩ [] (.bo fY l1::k1) (bX s1 o1.dst (.d (.bool false))) h):I E ag R lits (.code .ret::k) s h :=
 .C4 n (some .ret) (fun b a cf cs w w' v h1 h2 h3=>stepR_round_ret h1 h2 h3) hl iR hc H
theorem rY {id:Nat}:∀ {l:List aP},kN id l=none→exitTo id (l.map aP.bB)=none
 | [],_=>rfl
 | .inBlock i::l,hl=>by
  simp only [kN] at hl;simp only [List.map_cons,aP.bB,exitTo];split at hl
  ·cases hl
  ·rename_i q
   rw [if_neg (by intro hh; have : i = id := by simpa using hh
                  rw [this, Nat.beq_refl] at q; cases q)]
   exact rY hl
 | .code c::l,hl=>rY (l:=l) hl
 | .inLoop c::l,hl=>rY (l:=l) hl
 | .bo ops q::l,hl=>rY (l:=l) hl
 | .nr c::l,hl=>rY (l:=l) hl
 | .oo::l,hl=>rY (l:=l) hl
theorem I.OF (n:Nat) {i:jh} {id:Nat} {fd:gy} {fY:Array Oper} {o1:Oper} {l1:List Oper} {k1:List aP} {s1:List AV} {fJ:List bQ} (hx:kN id k=none) (hl:R.fx.loops[n]? = some (.loop i)) (iR:R.fx.cB=some i.l) (hc:R.fx.cls=⟨fd,.bo fY (o1::l1)::k1,s1⟩::fJ)
  (H:I E fd.f ⟨R.n,R.Q,R.rows,⟨R.fx.f0,fd.cB,fd.aG,fJ,R.fx.loops.set n (.loop { i with st := .done,pe:=some (.exit id) }),R.fx.inl⟩⟩ [] (.bo fY l1::k1) (bX s1 o1.dst (.d (.bool false))) h):I E ag R lits (.code (.exit id)::k) s h :=
 .C4 n (some (.exit id)) (fun b a cf cs w w' v h1 h2 h3=>stepR_round_exit h1 h2 (rY hx) h3) hl iR hc H
theorem I.nO {fx : Operand} {args : Array Operand} {ts : Array TypeId} {f : FuncId} {fn : Func} {b : Code} {a1 a2 av : List AV} (hg : o.guard = none) (b9 : o.op = .call { callee := .value fx, args := args, argTypes := ts }) (lh : aZ E.G s fx (.fn (.func f) a1 a2)) (ha : hY E.G s args.toList av) (hf : E.P.funcs[f]? = some fn) (hb : fn.body = some b) (hn : (fn.name == "runtime.NumGoroutine") = false)
  (H:I E f ⟨R.n,R.Q,R.rows,⟨R.fx.f0,none,[],⟨⟨ag,R.fx.cB,R.fx.aG⟩,.bo ops (o::l)::k,s⟩::R.fx.cls,R.fx.loops,R.fx.inl⟩⟩ [] [.code b] (lQ (a1++av++a2) fn.ntmps) h):I E ag R lits (.bo ops (o::l)::k) s h:=by
 refine .of ?_;unfold AW;intro c0 c t tt h0 h1 h2 h3 hr bE h4 h5 cs;subst h2;obtain ⟨j,hj,dy,aM⟩:=kO (h1 _ (List.mem_cons_self ..));obtain ⟨v1,v2,e1,e2,e3⟩:=km (lh c ⟨t,marks R.fx.aG⟩ h3 h4);have e4:=ha c ⟨t,marks R.fx.aG⟩ h3 h4;have e5:=(e2.append e4).append e3;have H:=H.to;unfold AW at H;obtain ⟨c2,fr,r,v,q1,q2,q3,q4,q5,q6⟩:=H c0 c _ (t::tt) h0 (fun x hx=>by simp at hx; subst hx; trivial) rfl h3 hr bE (Bf fn.ntmps e5) ⟨h4,h1,h5⟩ cs;refine ⟨c2,fr,r,v,q1,q2,q3,q4,.head ?_ q5,q6⟩;have cq:=vy (P:=E.P) (w:=c.w) (a:=⟨t,marks R.fx.aG⟩) b9 e1 ⟨fn,hf,by rw [hb]; rfl,hn⟩;have iE:(v1.toArray++args.map (⟨t,marks R.fx.aG⟩:Act).eval++v2.toArray)=(v1++args.toList.map (⟨t,marks R.fx.aG⟩:Act).eval++v2).toArray:=by
  apply Array.ext';simp
 rw [iE] at cq;have hs:=Bg (P:=E.P) (b:=bf ⟨ag,R.fx.cB,R.fx.aG⟩) (a:=⟨t,marks R.fx.aG⟩) (k:=k.map aP.bB) (cs:=ez R.fx.cls tt++cs) (rest:=(List.range ops.size).drop (ops.size - l.length)) hj (fR hg c t h4) cq;rw [HC hf hb _ (lQ (a1++av++a2) fn.ntmps)] at hs;simp only [bQ.bB,List.map_cons,ez,dy,List.cons_append] at hs ⊢;exact hs
def ui:List aP→Bool
 | []=>true
 | .code .ret::_=>true
 |_=>false
theorem OG {P:Program} {fd:gy} (hr:fd.cB=none) {td:List aP} (h:ui td=true) (a:Act) (cs:List Frame) (w:World):step P (lone ((bf fd).atR a (td.map aP.bB)) cs w) = .next (lone { (bf fd).atR a (td.map aP.bB) with mode := .returning } cs w):=by
 unfold ui at h;split at h
 ·exact stepR_end hr
 ·exact stepR_ret hr
 ·cases h
theorem C5 {P:Program} {G:List (Nat × DV)} {c0 c:Cx} {ag:FuncId} {fn:Func} {aG:List Nat} {rows L:List bj} {td:List aP} {s:List AV} {t:Array Value} {r:AV} (hf:P.funcs[ag]? = some fn) (mD:ui td=true) (ho:aK G c) (hr:ee c0 c) (bE:dx c0.w.heap.size c rows (aG.map .mark++L)) (hs:VS c s t)
  (C3:∀ (c':Cx) (t:Array Value),c'.heap=c.heap→aK G c'→VS c' s t→∃ v,VR c' r v∧(results fn t).run P c'.w = .ok v c'.w) (cs:List Frame) :
  ∃ (c':Cx) (fr:Frame) (v:Value),c'.heap=c.heap∧aK G c'∧ee c0 c'∧dx c0.w.heap.size c' rows L∧(∀ x u,VR c x u→VR c' x u)∧VR c' r v∧Steps P (lone ((⟨⟨ag,none,aG⟩,td,s⟩:bQ).bB t) cs c.w) (lone fr cs c'.w)∧fr.fn=ag∧fr.leaving P c'.w (.returned v):=by
 obtain ⟨c',q1,q2,q3,q4,q5,q6⟩:=HE (P:=P) (cs:=cs) aG c { (bf ⟨ag,none,aG⟩).atR ⟨t,marks aG⟩ (td.map aP.bB) with mode := .returning } ho hr bE rfl rfl;obtain ⟨v,p1,p2⟩:=C3 c' t q1 q2 ⟨hs.1,fun j x v hx hv=>q5 x v (hs.2 j x v hx hv)⟩;exact ⟨c',_,v,q1,q2,q3,q4,q5,p1,.head (OG rfl mD _ _ _) q6,rfl,rfl,rfl,rfl,fn,hf,p2⟩
theorem I.kx (hE:E.OK) {fn:Func} {L:List bj} {td:List aP} (hf:E.P.funcs[ag]? = some fn) (mD:ui td=true) (iR:R.fx.cB=none) (hc:R.fx.cls=[]) (h0:R.fx.f0=ag) (hL:R.fx.loops=R.fx.aG.map .mark++L) (H:lS E.T s h fn.results.toList False R.Q):I E ag R lits td s h:=by
 have e:(⟨ag,R.fx.cB,R.fx.aG⟩:gy)=⟨ag,none,R.fx.aG⟩:=by rw [iR]
 refine .of ?_;rw [e,hc,h0];unfold AW;intro c0 c t tt h0 h1 h2 h3 hr bE h4 h5 cs;obtain ⟨r,k1,k2⟩:=C2 hE H;subst h2;rw [hL] at bE;obtain ⟨c',fr,v,q1,q2,q3,q4,q5,q6,q7,q8,q9⟩:=C5 hf mD h3 hr bE h4 k2 (ez [] tt++cs);have gE:ez [] tt=[]:=by cases tt <;> rfl
 rw [gE] at q7 ⊢;exact ⟨c',fr,r,v,by rw [q1]; exact k1,q6,q2,q3,q7,q8,q9⟩
theorem I.nP (hE:E.OK) {fn:Func} {L:List bj} {td:List aP} {fd:gy} {fY:Array Oper} {o1:Oper} {l1:List Oper} {k1:List aP} {s1:List AV} {fJ:List bQ} (hf:E.P.funcs[ag]? = some fn) (mD:ui td=true) (iR:R.fx.cB=none) (hc:R.fx.cls=⟨fd,.bo fY (o1::l1)::k1,s1⟩::fJ) (hL:R.fx.loops=R.fx.aG.map .mark++L)
  (H:lS E.T s h fn.results.toList False fun r h'=>cb s1 o1.dst r fun s'=>I E fd.f ⟨R.n,R.Q,R.rows,⟨R.fx.f0,fd.cB,fd.aG,fJ,L,R.fx.inl⟩⟩ [] (.bo fY l1::k1) s' h'):I E ag R lits td s h:=by
 have e:(⟨ag,R.fx.cB,R.fx.aG⟩:gy)=⟨ag,none,R.fx.aG⟩:=by rw [iR]
 refine .of ?_;rw [e,hc];unfold AW;intro c0 c t tt h0 h1 h2 h3 hr bE h4 h5 cs;obtain ⟨r,H,k2⟩:=C2 hE H;subst h2;rw [hL] at bE;obtain ⟨t1,gN,rfl⟩:∃ t1 gN,tt=t1::gN:=by
  cases tt with
  |nil=>exact h5.elim
  |cons t1 gN=>exact ⟨_,_,rfl⟩
 obtain ⟨c4,c5,c6⟩:=h5;obtain ⟨j,zq,dy,aM⟩:=kO (c5 _ (List.mem_cons_self ..));obtain ⟨c',fr,v,q1,q2,q3,q4,q5,q6,q7,q8,q9⟩:=C5 hf mD h3 hr bE h4 k2 (ez (⟨fd,.bo fY (o1::l1)::k1,s1⟩::fJ) (t1::gN)++cs);rw [dN] at H;have H:=H.to;unfold AW at H;have iD:VS c' (bX s1 o1.dst r) ((⟨t1,marks fd.aG⟩:Act).put o1.dst v).tmps:=VS.bX (a:=⟨t1,marks fd.aG⟩) ⟨c4.1,fun j x v hx hv=>q5 x v (c4.2 j x v hx hv)⟩ o1.dst q6;obtain ⟨c2,qX,r2,v2,p1,p2,p3,p4,p5,p6⟩:=H c0 c' _ gN h0 (fy aM (dE c5)) q1 q2 q3 q4 iD (nt q5 c6) cs;refine ⟨c2,qX,r2,v2,p1,p2,p3,p4,q7.trans (.head ?_ p5),p6⟩;have hs:=step_leave_returned (c:=(⟨fd,.bo fY (o1::l1)::k1,s1⟩:bQ).bB t1) (cs:=ez fJ gN++cs) q9;have jk:((⟨fd,.bo fY (o1::l1)::k1,s1⟩:bQ).bB t1).finish v=(⟨⟨fd.f,fd.cB,fd.aG⟩,.bo fY l1::k1,bX s1 o1.dst r⟩:bQ).bB ((⟨t1,marks fd.aG⟩:Act).put o1.dst v).tmps:=by
  simp only [bQ.bB,List.map_cons,dy];rw [Frame.finish_atR,zq];simp only [Option.bind_some];rw [put_defers];rfl
 rw [jk] at hs;exact hs
def C6:Option Code→List aP→List aP
 |some c,k => .code c::k
 |none,k=>k
theorem I.jr (hE:E.OK) {fn:Func} {L:List bj} {td:List aP} {i:jh} {fd:gy} {k1:List aP} {s1:List AV} {fJ:List bQ} (hf:E.P.funcs[ag]? = some fn) (mD:ui td=true) (iR:R.fx.cB=none) (hc:R.fx.cls=⟨fd,.nr i.l::k1,s1⟩::fJ) (hL:R.fx.loops=R.fx.aG.map .mark ++ .loop i::L) (aX:i.st ≠ .busy)
  (H:lS E.T s h fn.results.toList False fun _ _=>I E fd.f ⟨R.n,R.Q,R.rows,⟨R.fx.f0,fd.cB,fd.aG,fJ,L,R.fx.inl⟩⟩ [] (C6 i.pe k1) s1 h):I E ag R lits td s h:=by
 have e:(⟨ag,R.fx.cB,R.fx.aG⟩:gy)=⟨ag,none,R.fx.aG⟩:=by rw [iR]
 refine .of ?_;rw [e,hc];unfold AW;intro c0 c t tt h0 h1 h2 h3 hr bE h4 h5 cs;obtain ⟨r,H,k2⟩:=C2 hE H;subst h2;rw [hL] at bE;obtain ⟨t1,gN,rfl⟩:∃ t1 gN,tt=t1::gN:=by
  cases tt with
  |nil=>exact h5.elim
  |cons t1 gN=>exact ⟨_,_,rfl⟩
 obtain ⟨c4,c5,c6⟩:=h5;obtain ⟨c',fr,v,q1,q2,q3,q4,q5,q6,q7,q8,q9⟩:=C5 hf mD h3 hr bE h4 k2 (ez (⟨fd,.nr i.l::k1,s1⟩::fJ) (t1::gN)++cs);obtain ⟨g1,g2,g3⟩:=q4.pop;have g2:lP c0.w.heap.size c' i:=g2;obtain ⟨o2,wb⟩:∃ o2:Obj,o2 = .loop { i.ef with state := .exhausted }:=⟨_,rfl⟩;have ht:Touch c' i.l (c'.w.putObj i.l o2) := .putObj g2.ay;have H:=H.to;unfold AW at H;have OH:(∀ x∈C6 i.pe k1,x.ok):=by
  cases i.pe with
  |none=>exact dE c5
  |some c=>exact fy trivial (dE c5)
 obtain ⟨c2,qX,r2,v2,p1,p2,p3,p4,p5,p6⟩:=H c0 (c'.dL (c'.w.putObj i.l o2)) t1 gN h0 OH q1 (ht.aM q2) (ht.rel q3 g2.new) ⟨ht.rows g1.all (g3 i.l (by simp [bj.cd])),g1.flat⟩ ⟨c4.1,fun j x v hx hv=>ht.vr (q5 x v (c4.2 j x v hx hv))⟩ (nt (fun x v hv=>ht.vr (q5 x v hv)) c6) cs;refine ⟨c2,qX,r2,v2,p1,p2,p3,p4,q7.trans (.head (step_leave_returned q9) (.head ?_ p5)),p6⟩;have jk:((⟨fd,.nr i.l::k1,s1⟩:bQ).bB t1).finish v=(bf fd).atR ⟨t1,marks fd.aG⟩ (.endRangeFunc i.l::k1.map aP.bB):=by
  simp only [bQ.bB,List.map_cons,aP.bB];exact finish_atR_inRangeFunc _ _
 have oR:(Instr.endLoop i.l).run E.P c'.w = .ok i.pe (c'.w.putObj i.l o2):=by
  have:=run_endLoop (P:=E.P) g2.mem aX;rw [wb];exact this
 have hs:=stepR_endRangeFunc (P:=E.P) (b:=bf fd) (a:=⟨t1,marks fd.aG⟩) (k:=k1.map aP.bB) (cs:=ez fJ gN++cs) oR;rw [← jk] at hs;have vU:(i.pe.map Item.code).toList++k1.map aP.bB=(C6 i.pe k1).map aP.bB:=by cases i.pe <;> rfl
 rw [vU] at hs;exact hs
end
end Go.ax
end
section
namespace Go.ax
open Go Go.RowKit
section
variable {E:Env} {s:List AV} {h:List ae}
theorem OI (hE:E.OK) {t kt e:Nat} {m ko:Operand} {ti:bk} (bO:E.T[t]? = some ti) (hk:ti.k = .map kt e) {kd:TK} (hT:pH E kt kd) {b:Nat} {es:List (DV × DV)} (hb:h[b]? = some (.map es)) (hm:aZ E.G s m (.map b)) {x:DV} (hx:aZ E.G s ko (.d x))
  (h1:cW E.T kd x) (h2:∀ p∈es,cW E.T kd p.1) {z:DV} {zv:Value} (jD:∀ w,(zeroValue e).run E.P w = .ok zv w) (hX:∀ bad w,VD bad w z zv) :
  bC E (.mapEntry t m ko) s h (.d (.aF [(findD x es).getD z,.int .i64 ((ek x es).getD es.length)])) (h.set b (.map (bM x ((findD x es).getD z) es))):=fun o c ac e1 e2 h3 h4=>by
 subst e2;obtain ⟨kS,d,g1,g2,g3,-⟩:=cm (hE.types t ti bO);have hd:d = .map kt e:=by rw [hk] at g3; cases d <;> first | (cases g3; rfl) | cases g3
 subst hd;have er:=aT hb;obtain ⟨blk,cap,en,ck,q1,q2,q3,qe,q4⟩:=tx h3 hb (hm c ac h3 h4);have cy:=hx c ac h3 h4;generalize hu:ac.eval ko=u at cy;cases cy with
 |d _ _ cy =>
  have r1:=BJ hE hT h1 cy false;have r2:=BI hE hT h1 cy h2 q4;have hblk:blk<c.w.heap.size:=(h3.br b blk cap q2).1;have hl:en.size=es.length:=by simpa using q4.1
  have main:∃ (gH:Array MapEntry) (kT:Nat) (v:Value),(Instr.mapEntry t (.map (some blk)) u).run E.P c.w = .ok (.tuple #[v,goInt ((ek x es).getD es.length:Nat)]) { c.w with heap:=c.w.heap.setIfInBounds blk (.map gH kT) }∧lJ gH kT (bM x ((findD x es).getD z) es).length∧VD c.bad c.w ((findD x es).getD z) v ∧
    ∀ (j:Nat) (k v:DV) (mm:MapEntry),(bM x ((findD x es).getD z) es)[j]? = some (k,v)→gH[j]? = some mm→VD c.bad c.w k mm.key∧VD c.bad c.w v mm.val:=by
   cases hf:ek x es with
   |none =>
    rw [BF hf];refine ⟨en.push { key:=u,val:=zv,born:=ck },ck+1,zv,?_,?_,hX _ _,?_⟩
    ·simp only [Instr.mapEntry,Sem.run_bind,run_underlying g2,Result.andThen_ok,oA q3,r1,r2,jH,hf,Option.bind_none,jD,vS _ q3,Sem.run_pure,Option.getD_none];rw [qe.tick]
    ·rw [Option.getD_none,vR hf,List.length_append];exact qe.push u zv
    ·intro j k v mm hj dF;rw [Option.getD_none,vR hf] at hj;rcases Nat.lt_or_ge j es.length with ai | aC
     ·rw [List.getElem?_append_left ai] at hj;rw [Array.getElem?_push,if_neg (by omega)] at dF;exact q4.2 j k v mm hj (by simpa using dF)
     ·have iF:j=es.length:=by
       have:=aT hj;simp at this;omega
      subst iF;rw [List.getElem?_append_right (Nat.le_refl _)] at hj;simp at hj;obtain ⟨rfl,rfl⟩:=hj;rw [Array.getElem?_push,if_pos hl.symm] at dF;cases dF;exact ⟨cy,hX _ _⟩
   |some i =>
    obtain ⟨p,p1,p2,p3⟩:=yx hf;rw [p3];have hi:i<en.size:=by rw [hl]; exact aT p1
    have jm:en[i]? = some en[i]:=by simp [hi]
    have eT:=q4.2 i p.1 p.2 en[i] p1 (by simp [hi]);have vU:=FO p2;have e3:=ru h1 cy;have e4:=ru (h2 p (List.mem_of_getElem? p1)) eT.1;have BK:Instr.sameBits 10000 en[i].key u=true:=by
     rw [e3,e4,← vU];exact FP h1
    refine ⟨en.modify i fun e=>{ e with key:=u },ck,en[i].val,?_,?_,eT.2,?_⟩
    ·have BL:jH x es en.toList 0=some (i,en[i].val):=by
      simp [jH,hf,hi]
     have yz:(Instr.keyThatStays en[i].key u).run E.P c.w = .ok u c.w:=by
      simp only [Instr.keyThatStays,BK,if_true,Sem.run_pure]
     simp only [Instr.mapEntry,Sem.run_bind,run_underlying g2,Result.andThen_ok,oA q3,r1,r2,BL,jm,Option.map_some,Option.getD_some,yz,vS _ q3,Sem.run_pure];rw [qe.idx i _ jm]
    ·rw [Option.getD_some,vQ hf,List.length_set];have nx:(en.modify i fun e=>{ e with key:=u })=(en.modify i fun e=>{ e with key:=u,val:=en[i].val }):=by
      apply Array.ext_getElem?;intro j;rw [Array.getElem?_modify,Array.getElem?_modify];by_cases hj:i=j
      ·subst hj; simp [hi]
      ·simp [hj]
     rw [nx];exact qe.modify i u _
    ·intro j k v mm hj dF;rw [Option.getD_some,vQ hf] at hj;by_cases jI:j=i
     ·subst jI;rw [List.getElem?_set_self (by omega)] at hj;cases hj;rw [Array.getElem?_modify,if_pos rfl,jm] at dF;cases dF;exact ⟨cy,eT.2⟩
     ·rw [List.getElem?_set_ne (Ne.symm jI)] at hj;rw [Array.getElem?_modify,if_neg (Ne.symm jI)] at dF;exact q4.2 j k v mm hj (by simpa using dF)
  obtain ⟨gH,kT,v0,cq,hlen,uj,eT⟩:=main;generalize bM x ((findD x es).getD z) es=du at hlen eT ⊢
  let c':Cx:={ c with heap:=c.heap.set b (.map du),w:={ c.w with heap:=c.w.heap.setIfInBounds blk (.map gH kT) } }
  have vV:c'.w.heap[blk]? = some (.map gH kT):=by simp [c',hblk]
  have kp:∀ b',b'≠blk→c'.w.heap[b']? = c.w.heap[b']? := fun b' b8=>by simp [c',Array.getElem?_setIfInBounds,Ne.symm b8]
  have oB:c'.heap[b]? = some (.map du):=by show (c.heap.set b _)[b]? = _; rw [List.getElem?_set_self er]
  have iH:∀ i,i≠b→c'.heap[i]? = c.heap[i]? := fun i hi=>by show (c.heap.set b _)[i]? = _; rw [List.getElem?_set_ne (Ne.symm hi)]
  have aX:Step c c':=⟨rfl,h3.bN,rfl,rfl,rfl,by simp [c'],fun b' _ bL=>kp b' (fun mH=>bL b cap (mH ▸ q2)),fun i b' n hi _=>⟨n,hi⟩,fun i bx hi=>by
   by_cases bu:i=b
   ·subst bu;rw [hb] at hi;cases hi;exact .inl ⟨_,oB,rfl⟩
   ·exact kM hi (iH i bu) rfl⟩
  have aM:aK E.G c':=by
   refine h3.next aX (fun i b' n hi=>?_) h3.inj (fun i bx hi=>?_)
   ·have:=h3.br i b' n hi;refine ⟨by simpa [c'] using this.1,?_⟩;show i<(c.heap.set b _).length;rw [List.length_set];exact this.2
   ·by_cases bu:i=b
    ·subst bu;rw [oB] at hi;cases hi;right;exact ⟨blk,cap,gH,kT,q2,vV,hlen,fun j k v mm hj dF=>⟨aX.vd (eT j k v mm hj dF).1,aX.vd (eT j k v mm hj dF).2⟩⟩
    ·rw [iH i bu] at hi;exact .inl ⟨hi,rfl,fun b' n hn=>kp b' (fun mH=>bu (h3.inj i b blk n cap (mH ▸ hn) q2))⟩
  refine ⟨c',.tuple #[v0,goInt ((ek x es).getD es.length:Nat)],.inl ?_,rfl,aM,.d _ _ (.aF _ _ rfl fun j y v hy hv=>?_),aX⟩
  ·simp only [execOp,e1,q1,hu,Sem.run_bind,cq,Result.andThen_ok,Sem.run_pure];rfl
  ·match j with
   | 0=>simp at hy hv; subst hy; subst hv; exact aX.vd uj
   | 1=>simp at hy hv; subst hy; subst hv; exact .int _ _
   |j+2=>simp at hy
theorem OJ (hE:E.OK) {t:Nat} {m st vo:Operand} {b:Nat} {es:List (DV × DV)} (hb:h[b]? = some (.map es)) (hm:aZ E.G s m (.map b)) {n:Nat} {k0 x0 y:DV} (hn:es[n]? = some (k0,x0)) (OL:aZ E.G s st (.d (.int .i64 n))) (hy:aZ E.G s vo (.d y)) :
  bC E (.entryStore t m st vo) s h (.d .undef) (h.set b (.map (es.set n (k0,y)))):=fun o c ac e1 e2 h3 h4=>by
 subst e2;have er:=aT hb;obtain ⟨blk,cap,en,ck,q1,q2,q3,qe,q4⟩:=tx h3 hb (hm c ac h3 h4);have zu:=OL c ac h3 h4;have lV:=hy c ac h3 h4;generalize hu:ac.eval st=u at zu;generalize hw:ac.eval vo=w at lV;cases zu with
 |d _ _ zu=>cases zu; cases lV with
  |d _ _ lV =>
   have hblk:blk<c.w.heap.size:=(h3.br b blk cap q2).1;have hl:en.size=es.length:=by simpa using q4.1
   have hi:n<en.size:=by rw [hl]; exact aT hn
   have jm:en[n]? = some en[n]:=by simp [hi]
   have OM:=q4.2 n k0 x0 en[n] hn (by simp [hi]);have mO:en.findIdx? (fun e=>(e.born:Int)==(n:Int))=some n:=by
    rw [Array.findIdx?_eq_some_iff_getElem];refine ⟨hi,?_,fun j hj=>?_⟩
    ·have:=qe.idx n _ jm; simp [this]
    ·have:=qe.idx j en[j] (by rw [Array.getElem?_eq_getElem]);simp [this]; omega
   have cq:(Instr.entryStore t (.map (some blk)) (.int .i64 n) w).run E.P c.w = .ok () { c.w with heap:=c.w.heap.setIfInBounds blk (.map (en.modify n fun e=>{ e with val:=w }) ck) }:=by
    have ha:(asInt (.int .i64 (n:Int))).run E.P c.w = .ok (n:Int) c.w:=rfl;simp only [Instr.entryStore,Sem.run_bind,Sem.run_pure,Result.andThen_ok,oA q3,ha,mO,vS _ q3]
   have hlen:lJ (en.modify n fun e=>{ e with val:=w }) ck (es.set n (k0,y)).length:=by
    have nx:(en.modify n fun e=>{ e with val:=w })=(en.modify n fun e=>{ e with key:=en[n].key,val:=w }):=by
     apply Array.ext_getElem?;intro j;rw [Array.getElem?_modify,Array.getElem?_modify];by_cases hj:n=j
     ·subst hj; simp [hi]
     ·simp [hj]
    rw [nx,List.length_set];exact qe.modify n _ w
   have eT:∀ (j:Nat) (k v:DV) (mm:MapEntry),(es.set n (k0,y))[j]? = some (k,v)→(en.modify n fun e=>{ e with val:=w })[j]? = some mm→VD c.bad c.w k mm.key∧VD c.bad c.w v mm.val:=by
    intro j k v mm hj dF;by_cases jI:j=n
    ·subst jI;rw [List.getElem?_set_self (by omega)] at hj;cases hj;rw [Array.getElem?_modify,if_pos rfl,jm] at dF;cases dF;exact ⟨OM.1,lV⟩
    ·rw [List.getElem?_set_ne (Ne.symm jI)] at hj;rw [Array.getElem?_modify,if_neg (Ne.symm jI)] at dF;exact q4.2 j k v mm hj (by simpa using dF)
   generalize en.modify n (fun e=>{ e with val:=w })=gH at cq hlen eT;generalize es.set n (k0,y)=du at hlen eT ⊢
   let c':Cx:={ c with heap:=c.heap.set b (.map du),w:={ c.w with heap:=c.w.heap.setIfInBounds blk (.map gH ck) } }
   have vV:c'.w.heap[blk]? = some (.map gH ck):=by simp [c',hblk]
   have kp:∀ b',b'≠blk→c'.w.heap[b']? = c.w.heap[b']? := fun b' b8=>by simp [c',Array.getElem?_setIfInBounds,Ne.symm b8]
   have oB:c'.heap[b]? = some (.map du):=by show (c.heap.set b _)[b]? = _; rw [List.getElem?_set_self er]
   have iH:∀ i,i≠b→c'.heap[i]? = c.heap[i]? := fun i hi=>by show (c.heap.set b _)[i]? = _; rw [List.getElem?_set_ne (Ne.symm hi)]
   have aX:Step c c':=⟨rfl,h3.bN,rfl,rfl,rfl,by simp [c'],fun b' _ bL=>kp b' (fun mH=>bL b cap (mH ▸ q2)),fun i b' n hi _=>⟨n,hi⟩,fun i bx hi=>by
    by_cases bu:i=b
    ·subst bu;rw [hb] at hi;cases hi;exact .inl ⟨_,oB,rfl⟩
    ·exact kM hi (iH i bu) rfl⟩
   have aM:aK E.G c':=by
    refine h3.next aX (fun i b' n hi=>?_) h3.inj (fun i bx hi=>?_)
    ·have:=h3.br i b' n hi;refine ⟨by simpa [c'] using this.1,?_⟩;show i<(c.heap.set b _).length;rw [List.length_set];exact this.2
    ·by_cases bu:i=b
     ·subst bu;rw [oB] at hi;cases hi;right;exact ⟨blk,cap,gH,ck,q2,vV,hlen,fun j k v mm hj dF=>⟨aX.vd (eT j k v mm hj dF).1,aX.vd (eT j k v mm hj dF).2⟩⟩
     ·rw [iH i bu] at hi;exact .inl ⟨hi,rfl,fun b' n hn=>kp b' (fun mH=>bu (h3.inj i b blk n cap (mH ▸ hn) q2))⟩
   refine ⟨c',undef,.inr ⟨?_,rfl⟩,rfl,aM,.d _ _ .undef,aX⟩;simp only [execOp,e1,q1,hu,hw,Sem.run_bind,cq,Result.andThen_ok,Sem.run_pure];rfl
end
section
variable {E:Env} {ag:FuncId} {R:cx} {td:List aP} {s:List AV} {h:List ae} {lits:List Nat} {ops:Array Oper} {o:Oper} {l:List Oper} {k:List aP}
theorem I.mapEntry (hE:E.OK) (z:DV) (zv:Value) (v:DV) (i:Nat) (du:List (DV × DV)) {t:Nat} {m x:Operand} (hg:o.guard=none) (b9:o.op = .mapEntry t m x) (hX:∀ bad w,VD bad w z zv)
  (H:aO E.T t False fun ti=>match ti.k with
   | .map kt e=>bS E.G s m False fun
    | .map b=>aO h b False fun
     | .map es=>bS E.G s x False fun
      | .d y=>tz E kt False fun kd=>(cW E.T kd y∧∀ p∈es,cW E.T kd p.1)∧(∀ w,(zeroValue e).run E.P w = .ok zv w)∧((findD y es).getD z=v∧(ek y es).getD es.length=i∧bM y v es=du) ∧
       fk h b (.map du) fun h'=>cb s o.dst (.d (.aF [v,.int .i64 i])) fun s'=>I E ag R lits (.bo ops l::k) s' h'
      |_=>False
     |_=>False
    |_=>False
   |_=>False):I E ag R lits (.bo ops (o::l)::k) s h:=by
 rcases a8 H with H | ⟨ti,bO,H⟩
 ·exact H.elim
 split at H
 ·rename_i kt e hk;rcases bW H with H | ⟨a,ha,H⟩
  ·exact H.elim
  split at H
  ·rename_i b;rcases a8 H with H | ⟨bx,hb,H⟩
   ·exact H.elim
   split at H
   ·rename_i es;rcases bW H with H | ⟨y,hy,H⟩
    ·exact H.elim
    split at H
    ·rename_i y;rcases yA H with H | ⟨kd,hT,H⟩
     ·exact H.elim
     obtain ⟨⟨f1,f2⟩,f3,⟨g1,g2,g3⟩,H⟩:=H;have ho:=OI hE bO hk hT hb ha hy f1 f2 f3 hX;rw [g1,g2,g3] at ho;rw [fQ,dN] at H;rw [← b9] at ho;exact .of (.op (fR hg) ho H.to)
    ·exact H.elim
   ·exact H.elim
  ·exact H.elim
 ·exact H.elim
theorem I.entryStore (hE:E.OK) {t:Nat} {m st vo:Operand} (n:Nat) {k0 x0:DV} (hg:o.guard=none) (b9:o.op = .entryStore t m st vo)
  (H:bS E.G s m False fun
    | .map b=>aO h b False fun
     | .map es=>es[n]? = some (k0,x0)∧bS E.G s st False fun u=>u = .d (.int .i64 n)∧bS E.G s vo False fun
      | .d y=>fk h b (.map (es.set n (k0,y))) fun h'=>cb s o.dst (.d .undef) fun s'=>I E ag R lits (.bo ops l::k) s' h'
      |_=>False
     |_=>False
    |_=>False):I E ag R lits (.bo ops (o::l)::k) s h:=by
 rcases bW H with H | ⟨a,ha,H⟩
 ·exact H.elim
 split at H
 ·rename_i b;rcases a8 H with H | ⟨bx,hb,H⟩
  ·exact H.elim
  split at H
  ·rename_i es;obtain ⟨hn,H⟩:=H;rcases bW H with H | ⟨u,hu,H⟩
   ·exact H.elim
   obtain ⟨rfl,H⟩:=H;rcases bW H with H | ⟨y,hy,H⟩
   ·exact H.elim
   split at H
   ·rename_i y;have ho:=OJ hE (t:=t) hb ha hn hu hy;rw [fQ,dN] at H;rw [← b9] at ho;exact .of (.op (fR hg) ho H.to)
   ·exact H.elim
  ·exact H.elim
 ·exact H.elim
theorem I.entry {x:Operand} {it:Iter} {g1 g2:List bj} {pre:List Nat} {j:Nat} {kk y:DV} (hg:o.guard=none) (b9:o.op = .entry x) (rV:R.rows=g1 ++ .iter it::g2) (C7:it.seen=pre++[j]) (hj:it.es[j]? = some (kk,y)) (hx:aZ E.G s x (.d (.raw (.pointer (some ⟨it.r,0,none⟩)))))
  (H:I E ag R lits (.bo ops l::k) (bX s o.dst (.d (.aF [kk,y]))) h):I E ag R lits (.bo ops (o::l)::k) s h:=by
 refine .of ?_;unfold AW;intro c0 c t' dD h0 h1 h2 h3 hr bE h4 h5 cs;subst h2;obtain ⟨i,hi,dy,aM⟩:=kO (h1 _ (List.mem_cons_self ..));have cy:(⟨t',marks R.fx.aG⟩:Act).eval x = .pointer (some ⟨it.r,0,none⟩):=by
  have:=hx c ⟨t',marks R.fx.aG⟩ h3 h4;generalize (⟨t',marks R.fx.aG⟩:Act).eval x=u at this;cases this with
  |d _ _ hq=>cases hq; rfl
 have r2:kl c0.w.heap.size c it:=bE.all.each (.iter it) (by rw [rV]; simp);obtain ⟨z0,z1,z3,z2⟩:=r2.iter;obtain rfl:=z3 (by rw [C7]; simp);have iF:j<it.en.size:=r2.lt j (by rw [C7]; simp);have eT:it.en[j]? = some it.en[j]:=by simp [iF]
 have bD:=r2.val j kk y it.en[j] hj eT;have ON:((it.seen.map fun j=>((it.en[j]?).map (·.born)).getD 0).toArray).back? = some j:=by
  rw [C7];simp [eT,r2.dw.idx j _ eT]
 have mO:it.en.find? (fun e=>e.born==j)=some it.en[j]:=by
  rw [Array.find?_eq_some_iff_getElem];refine ⟨by simp [r2.dw.idx j _ eT],j,iF,rfl,fun q hq=>?_⟩;have:=r2.dw.idx q it.en[q] (by rw [Array.getElem?_eq_getElem]);simp [this]; omega
 have dX:(getObj it.r).run E.P c.w = .ok (.mapIter (some it.bm) it.since ((it.seen.map fun j=>((it.en[j]?).map (·.born)).getD 0).toArray) it.ck) c.w:=by simp [getObj,Sem.run,z2]
 have cq:(execOp (⟨t',marks R.fx.aG⟩:Act).eval o).run E.P c.w = .ok (.value (.tuple #[it.en[j].key,it.en[j].val])) c.w:=by
  simp only [execOp,b9,cy,Instr.entry,Sem.run_bind,Sem.run_pure,Result.andThen_ok,dX,ON,oA r2.map,bne_self_eq_false,Bool.false_eq_true,if_false,mO]
 have eG:VS c (bX s o.dst (.d (.aF [kk,y]))) ((⟨t',marks R.fx.aG⟩:Act).put o.dst (.tuple #[it.en[j].key,it.en[j].val])).tmps :=
  VS.bX (a:=⟨t',marks R.fx.aG⟩) h4 o.dst (.d _ _ (.aF _ _ rfl fun p z v hz hv=>by
   match p with
   | 0=>simp at hz hv; subst hz; subst hv; exact bD.1
   | 1=>simp at hz hv; subst hz; subst hv; exact bD.2
   |p+2=>simp at hz))
 have H:=H.to;unfold AW at H;obtain ⟨c2,fr,rr,u,e1,e2,e3,e4,e5,e6⟩:=H c0 c _ dD h0 (fy aM (dE h1)) rfl h3 hr bE eG h5 cs;refine ⟨c2,fr,rr,u,e1,e2,e3,e4,.head ?_ e5,e6⟩;simp only [bQ.bB,List.map_cons,dy];rw [s9 hi (fR hg c t' h4) (.inl cq),put_defers];rfl
theorem I.OO (d:Nat) (ts:Nat × Nat) (gE:0<ts.2) (hd:s[d]? = some (.d (.raw (.slice none 0 0)))) (H:I E ag R lits td (s.set d (.own h.length 0)) (h++[.arr 0 ts []])):I E ag R lits td s h:=by
 replace H:=H.to;refine .of (.ji (fun c t dD h1 h2 h3 h4 h5=>?_) H);subst h2
 let c':Cx:={ c with heap:=c.heap++[.arr 0 ts []] }
 have bL:c.own c.heap.length=none:=by
  cases ho:c.own c.heap.length with
  |none=>rfl
  |some p=>have:=(h3.br _ p.1 p.2 ho).2; omega
 have aX:Step c c':=⟨rfl,h3.bN,rfl,rfl,rfl,Nat.le_refl _,fun _ _ _=>rfl,fun i b n hi _=>⟨n,hi⟩,fun i bx hi=>kM hi (List.getElem?_append_left (aT hi)) rfl⟩;have gF:c'.heap[c.heap.length]? = some (.arr 0 ts []):=by show (c.heap++_)[_]? = _; simp
 have aM:aK E.G c':=h3.next aX (fun i b n hi=>⟨(h3.br i b n hi).1,by have:=(h3.br i b n hi).2; show i<(c.heap++_).length; simp; omega⟩) h3.inj (fun i bx hi=>by
  by_cases fF:i=c.heap.length
  ·subst fF;rw [gF] at hi;cases hi;exact .inr ⟨gE,fun i e he=>by simp at he,.inl ⟨bL,rfl⟩⟩
  ·have ai : i < c.heap.length := by have := aT hi; have h2 : c'.heap.length = c.heap.length + 1 := by show (c.heap ++ _).length = _; simp
                                     omega
   have bV:(c.heap++[.arr 0 ts []])[i]? = some bx:=hi;rw [List.getElem?_append_left ai] at bV
   exact .inl ⟨bV,rfl,fun _ _ _=>rfl⟩)
 refine ⟨c',t,dD,h1,rfl,aM,?_,aX.cr h5,aX,fun _ => .refl _ _⟩;have gC:d<t.size:=by rw [← h4.1]; exact aT hd
 have hv:t[d] = .slice none 0 0:=by
  have:=h4.2 d _ t[d] hd (by simp [gC]);generalize t[d]=u at this;cases this with
  |d _ _ hv=>cases hv; rfl
 have:=VS.put (aX.vs h4) d (x := .own c.heap.length 0) (v:=t[d]) (by rw [hv]; exact .gj _ _ ts gF bL)
 simpa [Array.setIfInBounds,gC] using this
theorem I.C8 {b:Code} {κ:Type} (eX:List Nat) (vars:κ→List (Nat × AV)) (boxes:κ→List (Nat × ae)) (rows:κ→List bj) (Φ:κ→Prop) (μ:κ→Nat) (x0:κ) (h0:Φ x0) (hR:R.rows=rows x0)
  (mM:rK eX (kY (boxes x0)) (vars x0) (boxes x0) s h fun s' h'=>tP h h' R.fx (tN R.n h s h' s'))
  (pV:∀ x,Φ x→(∀ y,Φ y→μ y<μ x→I E ag ⟨R.n,R.Q,rows y,R.fx⟩ [] (.inLoop b::k) (jM (vars y) (anyS eX (jO (kY (boxes x0)) s))) (jN (boxes y) h))→I E ag ⟨R.n,R.Q,rows x,R.fx⟩ [] (.code b :: .inLoop b::k) (jM (vars x) (anyS eX (jO (kY (boxes x0)) s))) (jN (boxes x) h)) :
  I E ag R lits (.code (.loop b)::k) s h:=by
 have e:R=⟨R.n,R.Q,rows x0,R.fx⟩:=by cases R; simp only at hR; subst hR; rfl
 have main:∀ n x,μ x<n→Φ x→I E ag ⟨R.n,R.Q,rows x,R.fx⟩ [] (.inLoop b::k) (jM (vars x) (anyS eX (jO (kY (boxes x0)) s))) (jN (boxes x) h):=by
  intro n
  induction n with
  |zero=>intro x hx; omega
  |succ n ih=>intro x hx hP; exact .of (.inLoop (pV x hP fun y hy hm=>ih y (by omega) hy).to)
 rw [wG] at mM;rw [e];exact .of (.loop (.weaken mM (pV x0 h0 fun y hy _=>main (μ y+1) y (by omega) hy).to))
end
end Go.ax
end
section
namespace Go.ax
open Go Go.RowKit
section
variable {E:Env} {ag:FuncId} {R:cx} {s:List AV} {h:List ae} {ops:Array Oper} {o:Oper} {l:List Oper} {k:List aP}
theorem I.OP {lits:List Nat} {x y:Operand} {ts:Array TypeId} {a b:Int} (hg:o.guard=none) (b9:o.op = .call { callee := .builtin .min,args := #[x,y],argTypes:=ts }) (hx:aZ E.G s x (.d (.int .i64 a))) (hy:aZ E.G s y (.d (.int .i64 b)))
  (H:I E ag R lits (.bo ops l::k) (bX s o.dst (.d (.int .i64 (min a b)))) h):I E ag R lits (.bo ops (o::l)::k) s h:=by
 refine .of (.op (fR hg) ?_ H.to);rw [b9];refine .quiet fun o c ac e1 e2 h3 h4=>⟨.int .i64 (min a b),?_,.d _ _ (.int _ _)⟩;have q1:=dM (hx c ac h3 h4);have q2:=dM (hy c ac h3 h4);have q3:(if b<a then b else a)=min a b:=by
  rcases Int.lt_or_le b a with q | q
  ·rw [if_pos q,Int.min_eq_right (Int.le_of_lt q)]
  ·rw [if_neg (Int.not_lt.2 q),Int.min_eq_left q]
 simp only [execOp,e1,resolve,invoke,builtin,Builtin.min_,Builtin.min2,List.map_toArray,List.map_cons,List.map_nil,q1,q2,List.foldlM_cons,List.foldlM_nil,Sem.run_bind,Sem.run_pure,Result.andThen_ok,pure_bind,bind_pure,q3]
end
end Go.ax
end
