/- The engine, part EE: regions that draw their order: first m operations that stand anywhere, then two variables that are made at any time, then operations in order. No conditions. -/
import Derived.Test.YtajnanldmhpeaaaGreatDoorZEngBB
import Derived.Test.YtajnanldmhpeaaaGreatDoorZM9
set_option linter.unusedVariables false
set_option linter.unusedSimpArgs false
namespace Go.Eng
open Go Go.RowKit
section
variable {E:Env} {ops:Array Oper} {n:Nat} {B:List Nat} {X:List Box}
def chkGB (ops:Array Oper) (m:Nat):Bool :=
 let bs:=bits ops.toList []
 (List.range ops.size).all fun j=>match ops[j]? with
  |none=>true
  |some oj=>(oj.after.toList.all fun e => !Region.binds .any e||decide (e.on<j))&&(List.range j).all fun i=>match ops[i]? with
   |none=>true
   |some oi=>(bs.getD j 0).testBit i||(!confB ops oi oj&&(Nat.blt i m||(Nat.beq i m&&Nat.beq j (m+1))))
theorem memB_range {m i:Nat}:memB i (List.range m)=true↔i<m:=by
 rw [memB_iff];simp
theorem memB_range_no {m i:Nat}:memB i (List.range m)=false↔m≤i:=by
 have:=memB_range (m:=m) (i:=i);cases h:memB i (List.range m)
 ·rw [h] at this; simp at this; simp; omega
 ·rw [h] at this; simp at this; simp; omega
theorem chkGB_spec {m:Nat} (h:chkGB ops m=true):ChkG ops (List.range m) (m+2)∧∀ i j oi oj,m≤i→i<j→m+2≤j→ops[i]? = some oi→ops[j]? = some oj→DepT ops i j:=by
 have hb:=bits_spec ops ops.toList [] rfl (fun j i h=>by simp at h);have hall:∀ j oj,ops[j]? = some oj→(oj.after.toList.all fun e => !Region.binds .any e||decide (e.on<j))=true∧∀ i oi,i<j→ops[i]? = some oi→((bits ops.toList []).getD j 0).testBit i=true∨(confB ops oi oj=false∧(i<m∨(i=m∧j=m+1))):=fun j oj hj=>by
  have hlt:j<ops.size:=(Array.getElem?_eq_some_iff.1 hj).1;have h1:=List.all_eq_true.1 h j (List.mem_range.2 hlt);simp only [hj,Bool.and_eq_true] at h1;refine ⟨h1.1,fun i oi hi hoi=>?_⟩;have h2:=List.all_eq_true.1 h1.2 i (List.mem_range.2 hi);simp only [hoi,Bool.or_eq_true,Bool.and_eq_true,Bool.not_eq_true'] at h2;rcases h2 with h2 | ⟨h2,h3⟩
  ·exact .inl h2
  ·refine .inr ⟨h2,?_⟩;rcases h3 with h3 | ⟨h3,h4⟩
   ·exact .inl (blt_lt h3)
   ·exact .inr ⟨Nat.eq_of_beq_eq_true h3,Nat.eq_of_beq_eq_true h4⟩
 refine ⟨⟨fun j o e hj he hbd=>?_,fun i j oi oj hij hi hj hc=>?_,fun i j oi oj hm hij hi hj h1 h2=>?_⟩,fun i j oi oj hm hij hmj hi hj=>?_⟩
 ·have:=List.all_eq_true.1 (hall j o hj).1 e (by simpa using he)
  simpa [hbd] using this
 ·rcases (hall j oj hj).2 i oi hij hi with h | ⟨h,-⟩
  ·exact hb j i h
  ·rw [hc] at h; cases h
 ·rcases (hall j oj hj).2 i oi hij hi with h | ⟨-,h | h⟩
  ·exact hb j i h
  ·omega
  ·omega
 ·rcases (hall j oj hj).2 i oi hij hi with h | ⟨-,h | h⟩
  ·exact hb j i h
  ·omega
  ·omega
theorem phaseGB (hE:E.OK) {m:Nat} (hc:ChkG ops (List.range m) (m+2)) (hsp:∀ i j oi oj,m≤i→i<j→m+2≤j→ops[i]? = some oi→ops[j]? = some oj→DepT ops i j) (hmn:m+2≤ops.size) {ox oy:Oper} (hox:ops[m]? = some ox) (hoy:ops[m+1]? = some oy) {tx ty:TypeId} (hopx:ox.op = .alloc tx) (hopy:oy.op = .alloc ty) (hgx:ox.guard=none) (hgy:oy.guard=none)
  {dx dy:Nat} (hdx:ox.dst=some dx) (hdy:oy.dst=some dy) (hne:dx≠dy) {ix iy:TInfo} (hix:E.T[tx]? = some ix) (hiy:E.T[ty]? = some iy) (hzx:ix.zero.length=ix.size) (hzy:iy.zero.length=iy.size) (hpx:0<ix.size) (hpy:0<iy.size)
  {s0:List AV} {h:List Box} {pl:List (Oper × AV)} {hp:Nat→List Box} (hpl:pl.map (·.1)=ops.toList) (hx:GP E ops (List.range m) n B X 0 s0 pl hp) (hX:hideH n B 0 h=X) (hpmx:pl[m]? = some (ox,.ptr h.length 0)) (hpmy:pl[m+1]? = some (oy,.ptr (h.length+1) 0)) (hhp:hp (m+2)=h++[.cells (ix.zero.map .d)]++[.cells (iy.zero.map .d)])
  {Q:Exit→Act→World→Prop} {Kf:List AV→List Box→Prop} {c0:Cx} (h0:HOk E.G c0) (hfin:Kf (cur pl (fun k=>decide (k<pl.length)) 0 s0) (hp ops.size))
  (hQ:∀ (a:Act) (c:Cx) (s:List AV) (h:List Box),Kf s h→HOk E.G c→c.heap=h→a.defers=[]→VS c s a.tmps→Step c0 c→Q .normal a c.w) :
  ∃ ux uy:List Value,∀ (f:Nat) (listed:Array Bool) (a:Act) (c:Cx),HOk E.G c→c.heap=h→a.defers=[]→VS c (cur (openAt (openAt pl m ox) (m+1) oy) (Lst listed) 0 s0) a.tmps→Mid2 c0 dx dy ux uy tx ty (Lst listed m) (Lst listed (m+1)) a c→DC ops listed →
   (∀ i,m+2≤i→Lst listed i=false)→cnt (Lst listed) ops.size≤f→wpAny E.P .any ops Q f listed a c.w:=by
 have zero:∀ {t:TypeId} {ti:TInfo},E.T[t]? = some ti→ti.zero.length=ti.size→0<ti.size→∃ us:List Value,(∀ c:Cx,VL c (ti.zero.map .d) us)∧∀ (o:Oper),o.op = .alloc t→∀ (a:Act) (c:Cx),(execOp a.eval o).run E.P c.w = .ok (.value (.pointer (some ⟨c.w.heap.size,0,none⟩))) (c.w.alloc (.cells us.toArray t)):=by
  intro t ti h1 h2 h3;obtain ⟨z,hz1,hz2⟩:=run_zero (hE.types t ti h1) h2 h3;obtain ⟨us,hus,-⟩:=hz2 c0;refine ⟨us,fun c=>?_,fun o ho a c=>?_⟩
  ·obtain ⟨us',e,hv⟩:=hz2 c;rw [hus] at e;have:us=us':=by simpa using e
   rw [this]; exact hv
  ·simp only [execOp,ho,Instr.alloc,newVar,newRow,newObj,Sem.run_bind,Sem.run,Result.andThen_ok,Sem.run_pure,hz1,hus];rfl
 obtain ⟨ux,hulx,hrunx⟩:=zero hix hzx hpx;obtain ⟨uy,huly,hruny⟩:=zero hiy hzy hpy;refine ⟨ux,uy,?_⟩;obtain ⟨hlen,hat⟩:=plan_at hpl;have hgetx:(openAt (openAt pl m ox) (m+1) oy)[m]? = some (ox,.any):=by
  rw [openAt,List.getElem?_set_ne (by omega)];exact List.getElem?_set_self (by omega)
 have hgety:(openAt (openAt pl m ox) (m+1) oy)[m+1]? = some (oy,.any):=List.getElem?_set_self (by simp [openAt]; omega);have hget:∀ k,k≠m→k≠m+1→(openAt (openAt pl m ox) (m+1) oy)[k]? = pl[k]? := fun k hk hk2=>by
  rw [openAt,List.getElem?_set_ne (Ne.symm hk2),openAt,List.getElem?_set_ne (Ne.symm hk)]
 have hat1:∀ k o v,(openAt (openAt pl m ox) (m+1) oy)[k]? = some (o,v)→ops[k]? = some o:=fun k o v hk=>by
  by_cases hkm:k=m
  ·subst hkm; rw [hgetx] at hk; cases hk; exact hox
  ·by_cases hkm2:k=m+1
   ·subst hkm2; rw [hgety] at hk; cases hk; exact hoy
   ·rw [hget k hkm hkm2] at hk; exact hat k o v hk
 have fin:∀ (f:Nat) (listed:Array Bool) (a:Act) (c:Cx),HOk E.G c→c.heap=h→a.defers=[]→VS c (cur (openAt (openAt pl m ox) (m+1) oy) (Lst listed) 0 s0) a.tmps→Mid2 c0 dx dy ux uy tx ty (Lst listed m) (Lst listed (m+1)) a c→DC ops listed→Lst listed m=true→Lst listed (m+1)=true→(∀ i,m+2≤i→Lst listed i=false)→cnt (Lst listed) ops.size≤f→wpAny E.P .any ops Q f listed a c.w:=by
  intro f listed a c h1 h2 h3 h4 h5 hd hm1 hm2 hs hcnt;rw [hm1,hm2] at h5;obtain ⟨cF,k1,k2,k3,k4,k5,k6,k7⟩:=h5.done h1 h0 hulx huly;rw [← k1];refine phaseG hc hpl hx (Kf:=Kf) (by rw [hlen] at hfin ⊢; exact hfin) hQ f listed a cF (m+2) (Nat.le_refl _) hmn k2 (by rw [hhp,k3,h2]) h3 ?_ k4 hd (fun i _ hi2 hF=>?_) (fun i hi _=>hs i hi) (fun i hi=>hs i (by omega)) hcnt
  case refine_2 =>
   have:=memB_range_no.1 hF;rcases Nat.lt_or_ge i (m+1) with h | h
   ·have:i=m:=by omega
    rw [this]; exact hm1
   ·have:i=m+1:=by omega
    rw [this]; exact hm2
  refine ⟨by have:=h4.1; rw [cur_length] at this ⊢; exact this,fun t x v hxx hv=>?_⟩;by_cases hdt:t=dx
  ·subst hdt;have htl:t<a.tmps.size:=(Array.getElem?_eq_some_iff.1 hv).1;have e1:(cur pl (Lst listed) 0 s0)[t]? = (cur pl (fun k=>decide (k<0+m+1)) 0 s0)[t]? := by
    refine cur_congr _ _ _ 0 s0 s0 rfl rfl (fun k o' v' hk' hd'=>?_);rw [Nat.zero_add,Nat.zero_add];rcases Nat.lt_trichotomy k m with hlt | rfl | hgt
    ·rw [hd.dep (hc.pair k m o' ox hlt (hat k o' v' hk') hox (conf_left hd' (List.mem_append_left _ (by simp [hdx])))) hm1]; simp; omega
    ·rw [hm1]; simp
    ·by_cases hk2:k=m+1
     ·subst hk2;rw [hpmy] at hk';cases hk';rw [hdy] at hd';cases hd';exact absurd rfl hne
     ·rw [hs k (by omega)]; simp; omega
   rw [e1,cur_next _ 0 m s0 ox _ hpmx,hdx] at hxx;have htl':t<(cur pl (fun k=>decide (k<0+m)) 0 s0).length:=by
    have:=lt_of_getElem? hxx
    simpa [putS] using this
   rw [putS,List.getElem?_set_self htl'] at hxx;cases hxx;rw [← h2];exact k6 v htl hv
  ·by_cases hdt2:t=dy
   ·subst hdt2;have htl:t<a.tmps.size:=(Array.getElem?_eq_some_iff.1 hv).1;have e1:(cur pl (Lst listed) 0 s0)[t]? = (cur pl (fun k=>decide (k<0+(m+1)+1)) 0 s0)[t]? := by
     refine cur_congr _ _ _ 0 s0 s0 rfl rfl (fun k o' v' hk' hd'=>?_);rw [Nat.zero_add,Nat.zero_add];rcases Nat.lt_trichotomy k (m+1) with hlt | rfl | hgt
     ·rw [hd.dep (hc.pair k (m+1) o' oy hlt (hat k o' v' hk') hoy (conf_left hd' (List.mem_append_left _ (by simp [hdy])))) hm2]; simp; omega
     ·rw [hm2]; simp
     ·rw [hs k (by omega)]; simp; omega
    rw [e1,cur_next _ 0 (m+1) s0 oy _ hpmy,hdy] at hxx;have htl':t<(cur pl (fun k=>decide (k<0+(m+1))) 0 s0).length:=by
     have:=lt_of_getElem? hxx
     simpa [putS] using this
    rw [putS,List.getElem?_set_self htl'] at hxx;cases hxx;rw [← h2];exact k7 v htl hv
   ·refine k5 x v (h4.2 t x v ?_ hv);rw [← hxx];have ne1:ox.dst≠some t:=fun e=>by rw [hdx] at e; cases e; exact hdt rfl
    have ne2:oy.dst≠some t:=fun e=>by rw [hdy] at e; cases e; exact hdt2 rfl
    rw [openAt,cur_set_ne ne2 (openAt pl m ox) (m+1) 0 s0 s0 rfl rfl (fun o v ho=>by
     rw [openAt,List.getElem?_set_ne (by omega),hpmy] at ho
     cases ho; exact ne2)]
    exact cur_set_ne ne1 pl m 0 s0 s0 rfl rfl (fun o v ho=>by rw [hpmx] at ho; cases ho; exact ne1)
 intro f
 induction f with
 |zero =>
  intro listed a c h1 h2 h3 h4 h5 hd hs hcnt;exact fin 0 listed a c h1 h2 h3 h4 h5 hd (cnt_zero hcnt (by omega)) (cnt_zero hcnt (by omega)) hs hcnt
 |succ f ih =>
  intro listed a c h1 h2 h3 h4 h5 hd hs hcnt;by_cases hall:Lst listed m=true∧Lst listed (m+1)=true
  ·exact fin (f+1) listed a c h1 h2 h3 h4 h5 hd hall.1 hall.2 hs hcnt
  ·have:∃ i0,(i0=m∨i0=m+1)∧Lst listed i0=false:=by
    cases h6:Lst listed m with
    |false=>exact ⟨m,.inl rfl,h6⟩
    |true =>
     cases h7:Lst listed (m+1) with
     |false=>exact ⟨m+1,.inr rfl,h7⟩
     |true=>exact absurd ⟨h6,h7⟩ hall
   obtain ⟨i0,hi0,hl0⟩:=this;refine ⟨fun hr=>?_,fun i hi=>?_⟩
   ·obtain ⟨i,-,hi⟩:=ready_some hc.chk hd (by omega) hl0;rw [hr] at hi;cases hi
   obtain ⟨hli,hin⟩:=ready_lst hd hi;have him:i<m+2:=by
    rcases Nat.lt_or_ge i (m+2) with h | h
    ·exact h
    ·have:=hd.ready hi (hsp i0 i ops[i0] ops[i] (by omega) (by omega) h (by simp) (by simp [hin]));rw [hl0] at this;cases this
   have hsz:i<listed.size:=by rw [hd.1]; exact hin
   have hset:=fun q=>lst_set (i:=q) hsz;have hcnt':cnt (Lst (listed.setIfInBounds i true)) ops.size≤f:=by
    have:=(cnt_set (L:=Lst listed) (L':=Lst (listed.setIfInBounds i true)) (j:=i) (fun q hq=>by rw [hset]; simp [hq]) hli (by rw [hset]; simp) ops.size).1 hin;omega
   have hs':∀ q,m+2≤q→Lst (listed.setIfInBounds i true) q=false:=fun q hq=>by rw [hset,hs q hq]; simp; omega
   rcases Nat.lt_or_ge i m with hlt | hge
   ·obtain ⟨⟨o,v⟩,hov⟩:∃ p,pl[i]? = some p:=⟨pl[i]'(by omega),by rw [List.getElem?_eq_getElem]⟩;have hoi:=hat i o v hov;have hov1:(openAt (openAt pl m ox) (m+1) oy)[i]? = some (o,v):=by rw [hget i (by omega) (by omega)]; exact hov
    obtain ⟨hslots,hmask⟩:=slots_ok hc.pair hat1 hd hi hov1 h4;rw [cur_openAt (by omega),cur_openAt (by omega)] at hmask;have hdef:∀ u:Value,(a.put o.dst u).defers=[]:=fun u=>by cases hdst:o.dst <;> simp [Act.put,h3]
    have hfact:OpFact E ops o (cur pl (fun k=>decide (k<i)) 0 s0) h v:=(hx.flo i o v (by rw [Nat.zero_add]; exact memB_range.2 hlt) hov).1 h hX;refine hfact c a h1 h2 h3 hmask i hoi _ _ (fun c' u k1 k2 k3 k4=>?_);have hmx:Lst (listed.setIfInBounds i true) m=Lst listed m:=by rw [hset]; simp; omega
    have hmy:Lst (listed.setIfInBounds i true) (m+1)=Lst listed (m+1):=by rw [hset]; simp; omega
    refine ih _ _ c' k1 k2 (hdef u) (hslots c' u (fun _ _=>k3.vr) k4) ?_ (hd.set hi) hs' hcnt';rw [hmx,hmy];have hsz2:(a.put o.dst u).tmps.size=a.tmps.size:=by cases hdst:o.dst <;> simp [Act.put]
    refine h5.step h1 k3 hsz2 (fun hl=>?_) (fun hl=>?_)
    ·have hnd:o.dst≠some dx:=fun e=>by
      have:=hd.dep (hc.pair i m o ox hlt hoi hox (conf_left e (List.mem_append_left _ (by simp [hdx])))) hl;rw [hli] at this;cases this
     cases hdst:o.dst with
     |none=>rfl
     |some d =>
      have hne':d≠dx:=fun e=>hnd (by rw [hdst,e]);simp only [Act.put,Array.getElem?_setIfInBounds_ne hne']
    ·have hnd:o.dst≠some dy:=fun e=>by
      have:=hd.dep (hc.pair i (m+1) o oy (by omega) hoi hoy (conf_left e (List.mem_append_left _ (by simp [hdy])))) hl;rw [hli] at this;cases this
     cases hdst:o.dst with
     |none=>rfl
     |some d =>
      have hne':d≠dy:=fun e=>hnd (by rw [hdst,e]);simp only [Act.put,Array.getElem?_setIfInBounds_ne hne']
   ·by_cases him2:i=m
    ·subst him2;obtain ⟨hslots,-⟩:=slots_ok hc.pair hat1 hd hi hgetx h4;rw [hli] at h5;unfold wpOp;have hwant:Region.wanted ox (yielded ops a.tmps)=true:=by simp [Region.wanted,hgx]
     simp only [hox,hwant,if_true];left;unfold Oper.wp;rw [hrunx ox hopx a c];refine ih _ _ (c.veil (.cells ux.toArray tx)) h1.veil h2 (by cases hdst:ox.dst <;> simp [Act.put,h3]) (hslots _ _ (fun _ _=>veil_vr) (.any _)) ?_ (hd.set hi) hs' hcnt';have hmx:Lst (listed.setIfInBounds i true) i=true:=by rw [hset]; simp
     have hmy:Lst (listed.setIfInBounds i true) (i+1)=Lst listed (i+1):=by rw [hset]; simp
     rw [hmx,hmy,hdx];exact h5.newX h1 hne
    ·obtain rfl:i=m+1:=by omega
     obtain ⟨hslots,-⟩:=slots_ok hc.pair hat1 hd hi hgety h4;rw [hli] at h5;unfold wpOp;have hwant:Region.wanted oy (yielded ops a.tmps)=true:=by simp [Region.wanted,hgy]
     simp only [hoy,hwant,if_true];left;unfold Oper.wp;rw [hruny oy hopy a c];refine ih _ _ (c.veil (.cells uy.toArray ty)) h1.veil h2 (by cases hdst:oy.dst <;> simp [Act.put,h3]) (hslots _ _ (fun _ _=>veil_vr) (.any _)) ?_ (hd.set hi) hs' hcnt';have hmx:Lst (listed.setIfInBounds (m+1) true) m=Lst listed m:=by rw [hset]; simp
     have hmy:Lst (listed.setIfInBounds (m+1) true) (m+1)=true:=by rw [hset]; simp
     rw [hmx,hmy,hdy];exact h5.newY h1 hne
variable {fid:FuncId} {R:Post} {s:List AV} {h:List Box} {k:List AItem} {lits:List Nat}
theorem AWL.drawGB (hE:E.OK) (hm:E.P.follows .mixedOrders=true) (m:Nat) (F:List Nat) (mm:Nat) {id:Nat} (hchk:(chkGB ops m&&Nat.ble (m+2) ops.size&&twoAllocs ops[m]? ops[m+1]?)=true)
  (H:lenK h 0 fun n=>hideHK n [] 0 h fun X=>match closedB n [] X with
   |true=>GWL E fid R ops k F n [] X [] 0 ops.toList s h
   |false=>False) (hF:F=List.range m:=by rfl) (hx1:R.fx.rnd=none:=by rfl) (hx2:R.fx.dfs=[]:=by rfl):AWL E fid R lits (.code (.region id ops true)::k) s h:=by
 subst hF;rw [lenK_eq,Nat.zero_add,hideHK_eq] at H;split at H
 case h_2=>exact H.elim
 rename_i hcl;rw [Bool.and_eq_true,Bool.and_eq_true] at hchk;obtain ⟨⟨hc1,hc2⟩,hc3⟩:=hchk;have hmn:=Nat.le_of_ble_eq_true hc2;obtain ⟨hcc,hsp⟩:=chkGB_spec hc1;cases hox:ops[m]? with
 |none=>rw [hox] at hc3; cases hc3
 |some ox =>
 cases hoy:ops[m+1]? with
 |none=>rw [hox,hoy] at hc3; cases hc3
 |some oy =>
  rw [hox,hoy] at hc3;simp only [twoAllocs,Bool.and_eq_true] at hc3;obtain ⟨⟨ha1,ha2⟩,ha3⟩:=hc3;obtain ⟨tx,hopx,hgx⟩:=alloc_inv ha1;obtain ⟨ty,hopy,hgy⟩:=alloc_inv ha2;cases hdx:ox.dst with
  |none=>rw [hdx] at ha3; cases ha3
  |some dx =>
  cases hdy:oy.dst with
  |none=>rw [hdx,hdy] at ha3; cases ha3
  |some dy =>
   rw [hdx,hdy] at ha3;have hne:dx≠dy:=by simpa using ha3
   obtain ⟨pl,hp,p1,p2,p3,p4⟩:=GPlan.lay (E:=E) (ops:=ops) (F:=List.range m) (n:=h.length) (B:=[]) rfl (gplan_conv (GWL.to H));obtain ⟨hlen,hat⟩:=plan_at p1;have same:∀ j,j≤m→hp j=h:=by
    intro j
    induction j with
    |zero=>intro _; exact p2
    |succ j ih =>
     intro hj;obtain ⟨⟨o,v⟩,hov⟩:∃ p,pl[j]? = some p:=⟨pl[j]'(by omega),by rw [List.getElem?_eq_getElem]⟩;rw [(p4.flo j o v (by rw [Nat.zero_add]; exact memB_range.2 (by omega)) hov).2];exact ih (by omega)
   obtain ⟨⟨o1,v1⟩,hov1⟩:∃ p,pl[m]? = some p:=⟨pl[m]'(by omega),by rw [List.getElem?_eq_getElem]⟩;obtain ⟨⟨o2,v2⟩,hov2⟩:∃ p,pl[m+1]? = some p:=⟨pl[m+1]'(by omega),by rw [List.getElem?_eq_getElem]⟩;have hoo1:=hat m o1 v1 hov1;have hoo2:=hat (m+1) o2 v2 hov2;rw [hox] at hoo1;rw [hoy] at hoo2;cases hoo1;cases hoo2;obtain ⟨rfl,ix,q1,q2,q3,hhx⟩:=(p4.spi m ox v1 (by rw [Nat.zero_add]; exact memB_range_no.2 (Nat.le_refl _)) hov1).2 tx hopx hgx;obtain ⟨rfl,iy,r1,r2,r3,hhy⟩:=(p4.spi (m+1) oy v2 (by rw [Nat.zero_add]; exact memB_range_no.2 (by omega)) hov2).2 ty hopy hgy;rw [same m (Nat.le_refl _)] at hhx hov1;have hl1:(hp (m+1)).length=h.length+1:=by rw [hhx]; simp
   rw [hl1] at hov2;have hh2:hp (m+2)=h++[.cells (ix.zero.map .d)]++[.cells (iy.zero.map .d)]:=by rw [← hhx]; exact hhy
   refine .of (AW.anyOrder hm hx1 hx2 fun c t Q hQ h1 h2 h4=>?_);rw [hlen] at p3;obtain ⟨ux,uy,hok⟩:=phaseGB hE hcc hsp hmn hox hoy hopx hopy hgx hgy hdx hdy hne q1 r1 q2 r2 q3 r3 p1 p4 rfl hov1 hov2 hh2 (Kf:=fun s2 h2=>AW E R.fx.f0 ⟨⟨fid,R.fx.rnd,R.fx.dfs⟩,k,s2⟩ R.fx.cls h2 R) (c0:=c) (Q:=Q) h1 (by rw [hlen]; exact p3) hQ;refine hok ops.size _ ⟨t,[]⟩ c h1 h2 rfl ?_ (by rw [lst0,lst0]; exact Mid2.start h1.barlt) ⟨by simp,fun j o e _ hl=>by rw [lst0] at hl; cases hl⟩ (fun i _=>lst0 _ i) (cnt0 _ _);rw [cur_none _ 0 s _ (fun i _=>lst0 _ _)];exact h4
end
end Go.Eng
