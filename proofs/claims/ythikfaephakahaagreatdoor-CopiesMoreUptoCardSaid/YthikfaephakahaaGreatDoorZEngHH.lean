/- The engine, part HH: regions that draw their order: operations that stand anywhere, others in order, and one variable that is made at any time. No conditions. -/
import Derived.Test.YthikfaephakahaaGreatDoorZEngEE
set_option linter.unusedVariables false
set_option linter.unusedSimpArgs false
namespace Go.Eng
open Go Go.RowKit
structure Mid1 (c0:Cx) (d:Nat) (us:List Value) (t:TypeId) (l:Bool) (a:Act) (c:Cx):Prop where
 ex:∃ X:Option Nat,X.isSome=l∧(∀ b,c.bar b↔c0.bar b∨X=some b) ∧
  (∀ b,X=some b→c0.w.heap.size≤b∧b<c.w.heap.size∧c.w.heap[b]? = some (.cells us.toArray t (0,0))∧(d<a.tmps.size→a.tmps[d]? = some (.pointer (some ⟨b,0,none⟩)))) ∧
  Step c0 (c.unbar c0.bar)
section
variable {G:List (Nat × DV)} {c0 c c':Cx} {d:Nat} {us:List Value} {t:TypeId} {l:Bool} {a a':Act}
theorem Mid1.start (hb:∀ b,c.bar b→b<c.w.heap.size):Mid1 c d us t false a c :=
 { ex:=⟨none,rfl,fun b=>⟨.inl,fun h=>h.elim id (fun h=>nomatch h)⟩,fun b h=>(nomatch h),Step.refl c hb⟩ }
theorem Mid1.step (h:Mid1 c0 d us t l a c) (ho:HOk G c) (hs:Step c c') (hsz:a'.tmps.size=a.tmps.size) (hx:l=true→a'.tmps[d]? = a.tmps[d]?):Mid1 c0 d us t l a' c':=by
 obtain ⟨X,h1,h4,h5,h7⟩:=h.ex;have hkeep:∀ b,c.bar b→c'.w.heap[b]? = c.w.heap[b]? := fun b hb=>hs.keep b (ho.barlt b hb) (fun i n hi=>ho.sep i b n hi hb);refine ⟨X,h1,fun b=>by rw [hs.bar]; exact h4 b,fun b e=>?_,h7.trans (hs.unbar2 (fun b hb=>ho.barlt b ((h4 b).2 (.inl hb))))⟩;obtain ⟨k1,k2,k3,k4⟩:=h5 b e;refine ⟨k1,Nat.lt_of_lt_of_le k2 hs.size,(hkeep b ((h4 b).2 (.inr e))).trans k3,fun hl=>?_⟩;rw [hx (by rw [← h1,e]; rfl)];exact k4 (by omega)
theorem Mid1.new (h:Mid1 c0 d us t false a c) (ho:HOk G c):Mid1 c0 d us t true (a.put (some d) (.pointer (some ⟨c.w.heap.size,0,none⟩))) (c.veil (.cells us.toArray t)):=by
 obtain ⟨X,h1,h4,h5,h7⟩:=h.ex;obtain rfl:X=none:=by cases X <;> simp_all
 have hsz:(c.veil (.cells us.toArray t)).w.heap.size=c.w.heap.size+1:=by simp [Cx.veil]
 have hc0:c0.w.heap.size≤c.w.heap.size:=h7.size;refine ⟨some c.w.heap.size,rfl,fun b=>?_,fun b e=>?_,h7.trans (Step.veil2 (fun b hb=>ho.barlt b ((h4 b).2 (.inl hb))))⟩
 ·show c.bar b∨b=c.w.heap.size↔_;rw [h4 b];constructor
  ·rintro ((h | h) | rfl)
   ·exact .inl h
   ·cases h
   ·exact .inr rfl
  ·rintro (h | h)
   ·exact .inl (.inl h)
   ·cases h; exact .inr rfl
 ·cases e;refine ⟨hc0,by omega,heap_alloc_new _ _,fun hl=>?_⟩;simp only [Act.put,Array.size_setIfInBounds] at hl ⊢;exact Array.getElem?_setIfInBounds_self_of_lt hl
theorem Mid1.done (h:Mid1 c0 d us t true a c) (ho:HOk G c) (h0:HOk G c0) {z:List AV} (hz:∀ c:Cx,VL c z us) :
  ∃ cF:Cx,cF.w=c.w∧HOk G cF∧cF.heap=c.heap++[.cells z]∧Step c0 cF∧(∀ x v,VR c x v→VR cF x v) ∧
   (∀ v,d<a.tmps.size→a.tmps[d]? = some v→VR cF (.ptr c.heap.length 0) v):=by
 obtain ⟨X,h1,h4,h5,h7⟩:=h.ex;obtain ⟨bx,rfl⟩:∃ b,X=some b:=Option.isSome_iff_exists.1 h1;obtain ⟨x1,x2,x3,x4⟩:=h5 bx rfl;have hx0:¬ c0.bar bx:=fun hb=>by have:=h0.barlt _ hb; omega
 have bar1:∀ b,c.bar b↔c0.bar b∨b=bx:=fun b=>by
  rw [h4 b];constructor
  ·rintro (h | h)
   ·exact .inl h
   ·cases h; exact .inr rfl
  ·rintro (h | rfl)
   ·exact .inl h
   ·exact .inr rfl
 let c1:=c.bare (.cells z) bx c0.bar
 have own1:c1.own c.heap.length=some (bx,0):=by simp [c1,Cx.bare]
 have at1:c1.heap[c.heap.length]? = some (.cells z):=by simp [c1,Cx.bare]
 have ho1:HOk G c1:=ho.bare bar1 hx0 ⟨bx,0,us.toArray,t,own1,x3,by simpa using (hz c1).1.symm,fun j x v hx hu=>(hz _).2 j x v hx (by simpa using hu)⟩;have vr1:∀ x v,VR c x v→VR c1 x v:=fun _ _=>bare_vr ho bar1;refine ⟨c1,rfl,ho1,rfl,?_,vr1,fun v hl hv=>?_⟩
 ·exact {
   bar:=rfl
   barlt:=h0.barlt
   os:=h7.os
   tape:=h7.tape
   output:=h7.output
   size:=h7.size
   keep:=h7.keep
   newown:=fun i b n hi hb=>by
    simp only [c1,Cx.bare] at hi;split at hi
    ·cases hi; omega
    ·exact h7.newown i b n hi hb
   boxes:=fun i bx' hi=>by
    have h8:=h7.boxes i bx' hi;have hlt:i<c.heap.length:=by
     cases bx' with
     |cells cs=>rcases h8 with ⟨_,h8,_⟩ | h8 <;> exact lt_of_getElem? h8
     |arr g sz l=>rcases h8 with ⟨_,_,h8,_⟩ | h8 <;> exact lt_of_getElem? h8
     |map es=>rcases h8 with ⟨_,h8,_⟩ | h8 <;> exact lt_of_getElem? h8
     |gone=>exact lt_of_getElem? h8
    refine boxStep_congr (c1:=c0) rfl ?_ ?_ h8
    ·show (c.heap++[.cells z])[i]? = c.heap[i]?;rw [List.getElem?_append_left hlt]
    ·show (if i=c.heap.length then _ else c.own i)=c.own i
     rw [if_neg (by omega)] }
 ·rw [x4 hl] at hv;cases hv;exact .ptr _ _ z _ 0 at1 own1
end
section
variable {E:Env} {ops:Array Oper} {n:Nat} {F B:List Nat} {X:List Box}
def oneAlloc (a:Option Oper):Bool:=match a with
 |some x=>isAllocB x&&(match x.dst with | some _=>true | _=>false)
 |_=>false
def chkGA (ops:Array Oper) (F:List Nat) (p:Nat):Bool :=
 let bs:=bits ops.toList []
 (F.all fun i=>Nat.blt i p)&&(List.range ops.size).all fun j=>match ops[j]? with
  |none=>true
  |some oj=>(oj.after.toList.all fun e => !Region.binds .any e||decide (e.on<j))&&(List.range j).all fun i=>match ops[i]? with
   |none=>true
   |some oi=>(bs.getD j 0).testBit i||(!confB ops oi oj&&(memB i F||memB j F||Nat.beq j p))
theorem chkGA_spec {p:Nat} (h:chkGA ops F p=true):ChkG ops F (p+1)∧(∀ i,memB i F=true→i<p)∧(∀ i j oi oj,i<j→j≠p→ops[i]? = some oi→ops[j]? = some oj→memB i F=false→memB j F=false→DepT ops i j):=by
 have hb:=bits_spec ops ops.toList [] rfl (fun j i h=>by simp at h);unfold chkGA at h;simp only [Bool.and_eq_true] at h;obtain ⟨hF,h⟩:=h;have hall:∀ j oj,ops[j]? = some oj→(oj.after.toList.all fun e => !Region.binds .any e||decide (e.on<j))=true∧∀ i oi,i<j→ops[i]? = some oi→((bits ops.toList []).getD j 0).testBit i=true∨(confB ops oi oj=false∧(memB i F=true∨memB j F=true∨j=p)):=fun j oj hj=>by
  have hlt:j<ops.size:=(Array.getElem?_eq_some_iff.1 hj).1;have h1:=List.all_eq_true.1 h j (List.mem_range.2 hlt);simp only [hj,Bool.and_eq_true] at h1;refine ⟨h1.1,fun i oi hi hoi=>?_⟩;have h2:=List.all_eq_true.1 h1.2 i (List.mem_range.2 hi);simp only [hoi,Bool.or_eq_true,Bool.and_eq_true,Bool.not_eq_true'] at h2;rcases h2 with h2 | ⟨h2,(h3 | h3) | h3⟩
  ·exact .inl h2
  ·exact .inr ⟨h2,.inl h3⟩
  ·exact .inr ⟨h2,.inr (.inl h3)⟩
  ·exact .inr ⟨h2,.inr (.inr (Nat.eq_of_beq_eq_true h3))⟩
 refine ⟨⟨fun j o e hj he hbd=>?_,fun i j oi oj hij hi hj hc=>?_,fun i j oi oj hm hij hi hj h1 h2=>?_⟩,fun i hi=>?_,fun i j oi oj hij hjp hi hj h1 h2=>?_⟩
 ·have:=List.all_eq_true.1 (hall j o hj).1 e (by simpa using he)
  simpa [hbd] using this
 ·rcases (hall j oj hj).2 i oi hij hi with h | ⟨h,-⟩
  ·exact hb j i h
  ·rw [hc] at h; cases h
 ·rcases (hall j oj hj).2 i oi hij hi with h | ⟨-,h | h | h⟩
  ·exact hb j i h
  ·rw [h1] at h; cases h
  ·rw [h2] at h; cases h
  ·omega
 ·exact blt_lt (List.all_eq_true.1 hF i (memB_iff.1 hi))
 ·rcases (hall j oj hj).2 i oi hij hi with h | ⟨-,h | h | h⟩
  ·exact hb j i h
  ·rw [h1] at h; cases h
  ·rw [h2] at h; cases h
  ·exact absurd h hjp
theorem phaseGA (hE:E.OK) {p:Nat} (hc:ChkG ops F (p+1)) (hF:∀ i,memB i F=true→i<p) (hsp:∀ i j oi oj,i<j→j≠p→ops[i]? = some oi→ops[j]? = some oj→memB i F=false→memB j F=false→DepT ops i j) (hpn:p+1≤ops.size) {ox:Oper} (hox:ops[p]? = some ox) {tx:TypeId} (hopx:ox.op = .alloc tx) (hgx:ox.guard=none)
  {dx:Nat} (hdx:ox.dst=some dx) {ix:TInfo} (hix:E.T[tx]? = some ix) (hzx:ix.zero.length=ix.size) (hpx:0<ix.size)
  {s0:List AV} {pl:List (Oper × AV)} {hp:Nat→List Box} (hpl:pl.map (·.1)=ops.toList) (hx:GP E ops F n B X 0 s0 pl hp) (hpmx:pl[p]? = some (ox,.ptr (hp p).length 0)) (hhp:hp (p+1)=hp p++[.cells (ix.zero.map .d)])
  {Q:Exit→Act→World→Prop} {Kf:List AV→List Box→Prop} {c0:Cx} (h0:HOk E.G c0) (hfin:Kf (cur pl (fun k=>decide (k<pl.length)) 0 s0) (hp ops.size))
  (hQ:∀ (a:Act) (c:Cx) (s:List AV) (h:List Box),Kf s h→HOk E.G c→c.heap=h→a.defers=[]→VS c s a.tmps→Step c0 c→Q .normal a c.w) :
  ∃ ux:List Value,∀ (f:Nat) (listed:Array Bool) (a:Act) (c:Cx) (J:Nat),J≤p→HOk E.G c→c.heap=hp J→a.defers=[]→VS c (cur (openAt pl p ox) (Lst listed) 0 s0) a.tmps→Mid1 c0 dx ux tx (Lst listed p) a c→DC ops listed →
   (∀ i,i<J→memB i F=false→Lst listed i=true)→(∀ i,J≤i→i≠p→memB i F=false→Lst listed i=false)→(∀ i,p<i→Lst listed i=false)→cnt (Lst listed) ops.size≤f→wpAny E.P .any ops Q f listed a c.w:=by
 have zero:∃ us:List Value,(∀ c:Cx,VL c (ix.zero.map .d) us)∧∀ (a:Act) (c:Cx),(execOp a.eval ox).run E.P c.w = .ok (.value (.pointer (some ⟨c.w.heap.size,0,none⟩))) (c.w.alloc (.cells us.toArray tx)):=by
  obtain ⟨z,hz1,hz2⟩:=run_zero (hE.types tx ix hix) hzx hpx;obtain ⟨us,hus,-⟩:=hz2 c0;refine ⟨us,fun c=>?_,fun a c=>?_⟩
  ·obtain ⟨us',e,hv⟩:=hz2 c;rw [hus] at e;have:us=us':=by simpa using e
   rw [this]; exact hv
  ·simp only [execOp,hopx,Instr.alloc,newVar,newRow,newObj,Sem.run_bind,Sem.run,Result.andThen_ok,Sem.run_pure,hz1,hus];rfl
 obtain ⟨ux,hulx,hrunx⟩:=zero;refine ⟨ux,?_⟩;obtain ⟨hlen,hat⟩:=plan_at hpl;have hpF:memB p F=false:=by
  cases h:memB p F with
  |false=>rfl
  |true=>have:=hF p h; omega
 have hgetx:(openAt pl p ox)[p]? = some (ox,.any):=List.getElem?_set_self (by omega);have hget:∀ k,k≠p→(openAt pl p ox)[k]? = pl[k]? := fun k hk=>List.getElem?_set_ne (Ne.symm hk);have hat1:∀ k o v,(openAt pl p ox)[k]? = some (o,v)→ops[k]? = some o:=fun k o v hk=>by
  by_cases hkm:k=p
  ·subst hkm; rw [hgetx] at hk; cases hk; exact hox
  ·rw [hget k hkm] at hk; exact hat k o v hk
 have memcase:∀ i,memB i F=true∨memB i F=false:=fun i=>by cases memB i F <;> simp
 have same:∀ d J,J+d≤ops.size→(∀ i,J≤i→i<J+d→memB i F=true)→hp (J+d)=hp J:=by
  intro d
  induction d with
  |zero=>intro J _ _; rfl
  |succ d ih =>
   intro J hJ hm;have h1:=ih J (by omega) (fun i h1 h2=>hm i h1 (by omega));have hlt:J+d<pl.length:=by omega
   have h2:=(hx.flo (J+d) (pl[J+d]).1 (pl[J+d]).2 (by rw [Nat.zero_add]; exact hm (J+d) (by omega) (by omega)) (by simp [hlt])).2;rw [show J+(d+1)=J+d+1 by omega,h2,h1]
 have fin:∀ (f:Nat) (listed:Array Bool) (a:Act) (c:Cx) (J:Nat),J≤p→HOk E.G c→c.heap=hp J→a.defers=[]→VS c (cur (openAt pl p ox) (Lst listed) 0 s0) a.tmps→Mid1 c0 dx ux tx (Lst listed p) a c→DC ops listed→(∀ i,J≤i→i≠p→memB i F=false→Lst listed i=false)→(∀ i,p<i→Lst listed i=false)→Lst listed p=true→(∀ i,i<p→memB i F=false→Lst listed i=true)→cnt (Lst listed) ops.size≤f→wpAny E.P .any ops Q f listed a c.w:=by
  intro f listed a c J hJ h1 h2 h3 h4 h5 hd hj2 hs hm1 hall hcnt;rw [hm1] at h5
  have hsJ:hp (J+(p - J))=hp J:=same (p - J) J (by omega) (fun i g1 g2=>by
   rcases memcase i with h | h
   ·exact h
   ·have e1:=hall i (by omega) h
    rw [hj2 i g1 (by omega) h] at e1; cases e1)
  rw [show J+(p - J)=p by omega] at hsJ;obtain ⟨cF,k1,k2,k3,k4,k5,k6⟩:=h5.done h1 h0 hulx;rw [← k1];refine phaseG hc hpl hx (Kf:=Kf) (by rw [hlen] at hfin ⊢; exact hfin) hQ f listed a cF (p+1) (Nat.le_refl _) hpn k2 (by rw [hhp,k3,h2,hsJ]) h3 ?_ k4 hd (fun i _ hi2 hF2=>?_) (fun i hi _=>hs i hi) (fun i hi=>hs i (by omega)) hcnt
  case refine_2 =>
   rcases Nat.lt_or_ge i p with h | h
   ·exact hall i h hF2
   ·have:i=p:=by omega
    rw [this]; exact hm1
  refine ⟨by have:=h4.1; rw [cur_length] at this ⊢; exact this,fun t x v hxx hv=>?_⟩;by_cases hdt:t=dx
  ·subst hdt;have htl:t<a.tmps.size:=(Array.getElem?_eq_some_iff.1 hv).1;have e1:(cur pl (Lst listed) 0 s0)[t]? = (cur pl (fun k=>decide (k<0+p+1)) 0 s0)[t]? := by
    refine cur_congr _ _ _ 0 s0 s0 rfl rfl (fun k o' v' hk' hd'=>?_);rw [Nat.zero_add,Nat.zero_add];rcases Nat.lt_trichotomy k p with hlt | rfl | hgt
    ·rw [hd.dep (hc.pair k p o' ox hlt (hat k o' v' hk') hox (conf_left hd' (List.mem_append_left _ (by simp [hdx])))) hm1]; simp; omega
    ·rw [hm1]; simp
    ·rw [hs k hgt]; simp; omega
   rw [e1,cur_next _ 0 p s0 ox _ hpmx,hdx] at hxx;have htl':t<(cur pl (fun k=>decide (k<0+p)) 0 s0).length:=by
    have:=lt_of_getElem? hxx
    simpa [putS] using this
   rw [putS,List.getElem?_set_self htl'] at hxx;cases hxx;rw [hsJ,← h2];exact k6 v htl hv
  ·refine k5 x v (h4.2 t x v ?_ hv);rw [← hxx];have ne1:ox.dst≠some t:=fun e=>by rw [hdx] at e; cases e; exact hdt rfl
   exact cur_set_ne ne1 pl p 0 s0 s0 rfl rfl (fun o v ho=>by rw [hpmx] at ho; cases ho; exact ne1)
 intro f
 induction f with
 |zero =>
  intro listed a c J hJ h1 h2 h3 h4 h5 hd hj1 hj2 hs hcnt;exact fin 0 listed a c J hJ h1 h2 h3 h4 h5 hd hj2 hs (cnt_zero hcnt (by omega)) (fun i hi _=>cnt_zero hcnt (by omega)) hcnt
 |succ f ih =>
  intro listed a c J hJ h1 h2 h3 h4 h5 hd hj1 hj2 hs hcnt;by_cases hall:Lst listed p=true∧∀ i,i<p→memB i F=false→Lst listed i=true
  ·exact fin (f+1) listed a c J hJ h1 h2 h3 h4 h5 hd hj2 hs hall.1 hall.2 hcnt
  ·have:∃ i0,i0≤p∧memB i0 F=false∧Lst listed i0=false:=by
    apply Classical.byContradiction;intro hne;apply hall;refine ⟨?_,fun i hi hm=>?_⟩
    ·cases h6:Lst listed p with
     |true=>rfl
     |false=>exact absurd ⟨p,Nat.le_refl _,hpF,h6⟩ hne
    ·cases h6:Lst listed i with
     |true=>rfl
     |false=>exact absurd ⟨i,Nat.le_of_lt hi,hm,h6⟩ hne
   obtain ⟨i0,hi0,hm0,hl0⟩:=this;refine ⟨fun hr=>?_,fun i hi=>?_⟩
   ·obtain ⟨i,-,hi⟩:=ready_some hc.chk hd (by omega) hl0;rw [hr] at hi;cases hi
   obtain ⟨hli,hin⟩:=ready_lst hd hi;have him:i≤p:=by
    rcases Nat.lt_or_ge p i with h | h
    ·have hiF:memB i F=false:=by
      rcases memcase i with h6 | h6
      ·have:=hF i h6; omega
      ·exact h6
     have:=hd.ready hi (hsp i0 i ops[i0] ops[i] (by omega) (by omega) (by simp) (by simp [hin]) hm0 hiF);rw [hl0] at this;cases this
    ·exact h
   have hsz:i<listed.size:=by rw [hd.1]; exact hin
   have hset:=fun q=>lst_set (i:=q) hsz;have hcnt':cnt (Lst (listed.setIfInBounds i true)) ops.size≤f:=by
    have:=(cnt_set (L:=Lst listed) (L':=Lst (listed.setIfInBounds i true)) (j:=i) (fun q hq=>by rw [hset]; simp [hq]) hli (by rw [hset]; simp) ops.size).1 hin;omega
   have hs':∀ q,p<q→Lst (listed.setIfInBounds i true) q=false:=fun q hq=>by rw [hset,hs q hq]; simp; omega
   rcases Nat.lt_or_ge i p with hlt | hge
   ·obtain ⟨⟨o,v⟩,hov⟩:∃ q,pl[i]? = some q:=⟨pl[i]'(by omega),by rw [List.getElem?_eq_getElem]⟩;have hoi:=hat i o v hov;have hov1:(openAt pl p ox)[i]? = some (o,v):=by rw [hget i (by omega)]; exact hov
    obtain ⟨hslots,hmask⟩:=slots_ok hc.pair hat1 hd hi hov1 h4;rw [cur_openAt (by omega)] at hmask;have hdef:∀ u:Value,(a.put o.dst u).defers=[]:=fun u=>by cases hdst:o.dst <;> simp [Act.put,h3]
    have hmx:Lst (listed.setIfInBounds i true) p=Lst listed p:=by rw [hset]; simp; omega
    have mid:∀ (c':Cx) (u:Value),Step c c'→Mid1 c0 dx ux tx (Lst (listed.setIfInBounds i true) p) (a.put o.dst u) c':=fun c' u k3=>by
     rw [hmx];have hsz2:(a.put o.dst u).tmps.size=a.tmps.size:=by cases hdst:o.dst <;> simp [Act.put]
     refine h5.step h1 k3 hsz2 (fun hl=>?_);have hnd:o.dst≠some dx:=fun e=>by
      have:=hd.dep (hc.pair i p o ox hlt hoi hox (conf_left e (List.mem_append_left _ (by simp [hdx])))) hl;rw [hli] at this;cases this
     cases hdst:o.dst with
     |none=>rfl
     |some d =>
      have hne':d≠dx:=fun e=>hnd (by rw [hdst,e]);simp only [Act.put,Array.getElem?_setIfInBounds_ne hne']
    rcases memcase i with hm | hm
    ·have hfact:=(hx.flo i o v (by rw [Nat.zero_add]; exact hm) hov).1 (hp J) (hx.hid J (by omega));refine hfact c a h1 h2 h3 hmask i hoi _ _ (fun c' u k1 k2 k3 k4=>?_);refine ih _ _ c' J hJ k1 k2 (hdef u) (hslots c' u (fun _ _=>k3.vr) k4) (mid c' u k3) (hd.set hi) (fun q hqJ hqm=>by rw [hset,hj1 q hqJ hqm]; simp) (fun q hq hqp hqm=>?_) hs' hcnt';rw [hset,hj2 q hq hqp hqm];have:q≠i:=fun e=>by subst e; rw [hm] at hqm; cases hqm
     simp [this]
    ·have hgeJ:J≤i:=by
      rcases Nat.lt_or_ge i J with h | h
      ·have:=hj1 i h hm; rw [hli] at this; cases this
      ·exact h
     have hbet:∀ q,J≤q→q<i→memB q F=true:=fun q g1 g2=>by
      rcases memcase q with h | h
      ·exact h
      ·have h6:=hd.ready hi (hsp q i ops[q] o g2 (by omega) (by simp) hoi h hm);rw [hj2 q g1 (by omega) h] at h6;cases h6
     have hsame:hp (J+(i - J))=hp J:=same (i - J) J (by omega) (fun q g1 g2=>hbet q g1 (by omega));rw [show J+(i - J)=i by omega] at hsame;refine (hx.spi i o v (by rw [Nat.zero_add]; exact hm) hov).1 c a h1 (h2.trans hsame.symm) h3 hmask i hoi _ _ (fun c' u k1 k2 k3 k4=>?_);refine ih _ _ c' (i+1) (by omega) k1 k2 (hdef u) (hslots c' u (fun _ _=>k3.vr) k4) (mid c' u k3) (hd.set hi) (fun q hqJ hqm=>?_) (fun q hq hqp hqm=>by rw [hset,hj2 q (by omega) hqp hqm]; simp; omega) hs' hcnt';by_cases hqi:q=i
     ·subst hqi; rw [hset]; simp
     ·rcases Nat.lt_or_ge q J with h | h
      ·rw [hset,hj1 q h hqm]; simp
      ·have:=hbet q h (by omega); rw [hqm] at this; cases this
   ·obtain rfl:i=p:=by omega
    obtain ⟨hslots,-⟩:=slots_ok hc.pair hat1 hd hi hgetx h4;rw [hli] at h5;unfold wpOp;have hwant:Region.wanted ox (yielded ops a.tmps)=true:=by simp [Region.wanted,hgx]
    simp only [hox,hwant,if_true];left;unfold Oper.wp;rw [hrunx a c];refine ih _ _ (c.veil (.cells ux.toArray tx)) J hJ h1.veil h2 (by cases hdst:ox.dst <;> simp [Act.put,h3]) (hslots _ _ (fun _ _=>veil_vr) (.any _)) ?_ (hd.set hi) (fun q hqJ hqm=>by rw [hset,hj1 q hqJ hqm]; simp) (fun q hq hqp hqm=>by rw [hset,hj2 q hq hqp hqm]; simp [hqp]) hs' hcnt';have hmx:Lst (listed.setIfInBounds i true) i=true:=by rw [hset]; simp
    rw [hmx,hdx];exact h5.new h1
variable {fid:FuncId} {R:Post} {s:List AV} {h:List Box} {k:List AItem} {lits:List Nat}
theorem AWL.drawGA (hE:E.OK) (hm:E.P.follows .mixedOrders=true) (F:List Nat) (p:Nat) (mm:Nat) {id:Nat} (hchk:(chkGA ops F p&&Nat.ble (p+1) ops.size&&oneAlloc ops[p]?)=true)
  (H:lenK h 0 fun n=>hideHK n [] 0 h fun X=>match closedB n [] X with
   |true=>GWL E fid R ops k F n [] X [] 0 ops.toList s h
   |false=>False) (hx1:R.fx.rnd=none:=by rfl) (hx2:R.fx.dfs=[]:=by rfl):AWL E fid R lits (.code (.region id ops true)::k) s h:=by
 rw [lenK_eq,Nat.zero_add,hideHK_eq] at H;split at H
 case h_2=>exact H.elim
 rename_i hcl;rw [Bool.and_eq_true,Bool.and_eq_true] at hchk;obtain ⟨⟨hc1,hc2⟩,hc3⟩:=hchk;have hpn:=Nat.le_of_ble_eq_true hc2;obtain ⟨hcc,hFp,hsp⟩:=chkGA_spec hc1;cases hox:ops[p]? with
 |none=>rw [hox] at hc3; cases hc3
 |some ox =>
  rw [hox] at hc3;simp only [oneAlloc,Bool.and_eq_true] at hc3;obtain ⟨ha1,ha3⟩:=hc3;obtain ⟨tx,hopx,hgx⟩:=alloc_inv ha1;cases hdx:ox.dst with
  |none=>rw [hdx] at ha3; cases ha3
  |some dx =>
   obtain ⟨pl,hp,p1,p2,p3,p4⟩:=GPlan.lay (E:=E) (ops:=ops) (F:=F) (n:=h.length) (B:=[]) rfl (gplan_conv (GWL.to H));obtain ⟨hlen,hat⟩:=plan_at p1;have hpF:memB p F=false:=by
    cases h6:memB p F with
    |false=>rfl
    |true=>have:=hFp p h6; omega
   obtain ⟨⟨o1,v1⟩,hov1⟩:∃ q,pl[p]? = some q:=⟨pl[p]'(by omega),by rw [List.getElem?_eq_getElem]⟩;have hoo1:=hat p o1 v1 hov1;rw [hox] at hoo1;cases hoo1;obtain ⟨rfl,ix,q1,q2,q3,hhx⟩:=(p4.spi p ox v1 (by rw [Nat.zero_add]; exact hpF) hov1).2 tx hopx hgx;refine .of (AW.anyOrder hm hx1 hx2 fun c t Q hQ h1 h2 h4=>?_);rw [hlen] at p3;obtain ⟨ux,hok⟩:=phaseGA hE hcc hFp hsp hpn hox hopx hgx hdx q1 q2 q3 p1 p4 hov1 hhx (Kf:=fun s2 h2=>AW E R.fx.f0 ⟨⟨fid,R.fx.rnd,R.fx.dfs⟩,k,s2⟩ R.fx.cls h2 R) (c0:=c) (Q:=Q) h1 (by rw [hlen]; exact p3) hQ;refine hok ops.size _ ⟨t,[]⟩ c 0 (Nat.zero_le _) h1 (by rw [p2]; exact h2) rfl ?_ (by rw [lst0]; exact Mid1.start h1.barlt) ⟨by simp,fun j o e _ hl=>by rw [lst0] at hl; cases hl⟩ (fun i hi=>by omega) (fun i _ _ _=>lst0 _ i) (fun i _=>lst0 _ i) (cnt0 _ _);rw [cur_none _ 0 s _ (fun i _=>lst0 _ _)];exact h4
end
end Go.Eng
