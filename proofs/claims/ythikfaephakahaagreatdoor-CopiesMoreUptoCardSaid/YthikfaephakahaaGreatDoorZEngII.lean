/- The engine, part II: regions that draw their order, in which a row is appended to. No conditions. -/
import Derived.Test.YthikfaephakahaaGreatDoorZEngHH
import Derived.Test.YthikfaephakahaaGreatDoorZEngGG
import Derived.Test.YthikfaephakahaaGreatDoorZM9
set_option linter.unusedVariables false
set_option linter.unusedSimpArgs false
namespace Go.Eng
open Go Go.RowKit
section
variable {E:Env} {ops:Array Oper}
theorem phaseQd {m D:Nat} (hc:Chk ops m) (hm:m≤ops.size) (hp:∀ i o,i<m→i≠D→ops[i]? = some o→plainB o=true) {s0:List AV} {h:List Box} {pl:List (Oper × AV)} (hpl:pl.map (·.1)=ops.toList.take m)
  (hx:∀ j o v,j≠D→pl[j]? = some (o,v)→OpFact E ops o (cur pl (fun k=>decide (k<j)) 0 s0) h v) {b:Frame} {k:List Item} {cs:List Frame} :
  ∀ (f tt:Nat) (listed:Array Bool) (a:Act) (c:Cx),HOk E.G c→c.heap=h→a.defers=[]→VS c (cur pl (Lst listed) 0 s0) a.tmps→DC ops listed→Lst listed D=true→(∀ i,m≤i→Lst listed i=false)→cnt (Lst listed) ops.size≤f →
   ∃ (c':Cx) (t':Array Value),Steps E.P (lone (b.atR a (.inRegion ops (Region.linearise.go .any ops f tt listed [])::k)) cs c.w) (lone (b.atR ⟨t',[]⟩ (.inRegion ops ((List.range ops.size).drop m)::k)) cs c'.w)∧HOk E.G c'∧c'.heap=h∧VS c' (cur pl (fun k=>decide (k<pl.length)) 0 s0) t'∧Step c c':=by
 have hlen:pl.length=m:=by
  have:=congrArg List.length hpl
  simpa [Nat.min_eq_left hm] using this
 have hat:∀ (k:Nat) (o:Oper) (v:AV),pl[k]? = some (o,v)→ops[k]? = some o:=fun k o v hk=>by
  have h1:(pl.map (·.1))[k]? = some o:=by rw [List.getElem?_map,hk]; rfl
  have hkm:k<m:=by have:=(List.getElem?_eq_some_iff.1 hk).1; omega
  rw [hpl,List.getElem?_take,if_pos hkm] at h1
  simpa using h1
 have fin:∀ (f tt:Nat) (listed:Array Bool) (a:Act) (c:Cx),HOk E.G c→c.heap=h→a.defers=[]→VS c (cur pl (Lst listed) 0 s0) a.tmps→DC ops listed→(∀ i,m≤i→Lst listed i=false)→cnt (Lst listed) ops.size≤f→(∀ i,i<m→Lst listed i=true) →
   ∃ (c':Cx) (t':Array Value),Steps E.P (lone (b.atR a (.inRegion ops (Region.linearise.go .any ops f tt listed [])::k)) cs c.w) (lone (b.atR ⟨t',[]⟩ (.inRegion ops ((List.range ops.size).drop m)::k)) cs c'.w)∧HOk E.G c'∧c'.heap=h∧VS c' (cur pl (fun k=>decide (k<pl.length)) 0 s0) t'∧Step c c':=by
  intro f tt listed a c h1 h2 h3 h4 hd hs hcnt hall;refine ⟨c,a.tmps,?_,h1,h2,?_,Step.refl c h1.barlt⟩
  ·rw [rest_det hc (ops.size - m) m f tt listed (by omega) (Nat.le_refl _) hd hall hs hcnt];have ha:a=⟨a.tmps,[]⟩:=by cases a; simp only at h3; subst h3; rfl
   rw [← ha];exact .refl _ _
  ·have e:cur pl (Lst listed) 0 s0=cur pl (fun k=>decide (k<pl.length)) 0 s0:=by
    congr 1
    funext i;rcases Nat.lt_or_ge i m with h | h
    ·rw [hall i h]; simp [hlen,h]
    ·rw [hs i h]; simp [hlen]; omega
   rw [← e];exact h4
 intro f
 induction f with
 |zero =>
  intro tt listed a c h1 h2 h3 h4 hd hD hs hcnt;exact fin 0 tt listed a c h1 h2 h3 h4 hd hs hcnt fun i hi=>cnt_zero hcnt (by omega)
 |succ f ih =>
  intro tt listed a c h1 h2 h3 h4 hd hD hs hcnt;by_cases hall:∀ i,i<m→Lst listed i=true
  ·exact fin (f+1) tt listed a c h1 h2 h3 h4 hd hs hcnt hall
  ·obtain ⟨i0,hi0,hl0⟩:∃ i0,i0<m∧Lst listed i0=false:=by
    apply Classical.byContradiction;intro hne;apply hall;intro i hi;cases hl:Lst listed i with
    |true=>rfl
    |false=>exact absurd ⟨i,hi,hl⟩ hne
   obtain ⟨j0,-,hj0⟩:=ready_some hc hd (by omega) hl0;obtain ⟨i,hi,him⟩:=ready_pick (tt:=tt) (fun e=>by rw [e] at hj0; cases hj0);obtain ⟨hli,hin⟩:=ready_lst hd him;have hlt:i<m:=by
    rcases Nat.lt_or_ge i m with h | h
    ·exact h
    ·have:=hd.ready him (hc.suf i0 i ops[i0] ops[i] (by omega) h (by simp) (by simp [hin]));rw [hl0] at this;cases this
   obtain ⟨⟨o,v⟩,hov⟩:∃ p,pl[i]? = some p:=⟨pl[i]'(by omega),by rw [List.getElem?_eq_getElem]⟩;have hoi:=hat i o v hov;have hiD:i≠D:=fun e=>by subst e; rw [hD] at hli; cases hli
   obtain ⟨hslots,hmask⟩:=slots_ok hc.pair hat hd him hov h4;have hsz:i<listed.size:=by rw [hd.1]; exact hin
   have hset:=fun q=>lst_set (i:=q) hsz;have hcnt':cnt (Lst (listed.setIfInBounds i true)) ops.size≤f:=by
    have:=(cnt_set (L:=Lst listed) (L':=Lst (listed.setIfInBounds i true)) (j:=i) (fun q hq=>by rw [hset]; simp [hq]) hli (by rw [hset]; simp) ops.size).1 hin;omega
   have hs':∀ q,m≤q→Lst (listed.setIfInBounds i true) q=false:=fun q hq=>by rw [hset,hs q hq]; simp; omega
   obtain ⟨u0,w',⟨c',u,hu,hw',k1,k2,k3,k4⟩,hstep⟩:=plain_step (hp i o hlt hiD hoi) hoi (hx i o v hiD hov c a h1 h2 h3 hmask i hoi (fun a' w'=>∃ (c':Cx) (u:Value),a'=a.put o.dst u∧w'=c'.w∧HOk E.G c'∧c'.heap=h∧Step c c'∧VR c' v u) (fun _ _ _=>False) fun c' u k1 k2 k3 k4=>⟨c',u,rfl,rfl,k1,k2,k3,k4⟩);obtain ⟨c2,t2,r1,r2,r3,r4,r5⟩:=ih (tt / (Region.ready .any ops listed).length) (listed.setIfInBounds i true) (a.put o.dst u) c' k1 k2 (by cases hdst:o.dst <;> simp [Act.put,h3]) (hslots c' u (fun _ _=>k3.vr) k4) (hd.set him) (by rw [hset,hD]; rfl) hs' hcnt';refine ⟨c2,t2,?_,r2,r3,r4,k3.trans r5⟩;rw [go_some hi];refine Steps.trans (.one (hstep _ _ _ _)) ?_;rw [hu,hw'];exact r1
end
theorem cur_snoc {o:Oper} {v:AV}:∀ (pl:List (Oper × AV)) (L:Nat→Bool) (i:Nat) (s:List AV),cur (pl++[(o,v)]) L i s=if L (i+pl.length) then putS (cur pl L i s) o.dst v else cur pl L i s
 | [],L,i,s=>by simp [cur]
 |(p,u)::pl,L,i,s=>by
  rw [List.cons_append,cur,cur,cur_snoc pl L (i+1)];simp only [List.length_cons];rw [show i+1+pl.length=i+(pl.length+1) by omega]
def BPlan (E:Env) (ops:Array Oper) (h:List Box) (K:List AV→Prop):List Oper→List AV→Prop
 | [],s=>K s
 |o::l,s=>∃ v,OpFact E ops o s h v∧OpFact E ops o s (h++[.gone]) v∧BPlan E ops h K l (putS s o.dst v)
theorem BPlan.lay {E:Env} {ops:Array Oper} {h:List Box} {K:List AV→Prop}:∀ {l:List Oper} {s:List AV},BPlan E ops h K l s→∃ pl:List (Oper × AV),pl.map (·.1)=l∧K (cur pl (fun k=>decide (k<pl.length)) 0 s)∧∀ j o v,pl[j]? = some (o,v)→OpFact E ops o (cur pl (fun k=>decide (k<j)) 0 s) h v∧OpFact E ops o (cur pl (fun k=>decide (k<j)) 0 s) (h++[.gone]) v
 | [],s,H=>⟨[],rfl,H,fun j o v hj=>by simp at hj⟩
 |o::l,s,H=>by
  obtain ⟨v,h1,h1',H⟩:=H;obtain ⟨pl,k1,k2,k3⟩:=BPlan.lay H;have shift:∀ (pl:List (Oper × AV)) (n i:Nat) (s:List AV),cur pl (fun k=>decide (k<n+1)) (i+1) s=cur pl (fun k=>decide (k<n)) i s:=by
   intro pl
   induction pl with
   |nil=>intro n i s; rfl
   |cons p pl ih =>
    intro n i s;obtain ⟨o',v'⟩:=p;rw [cur,cur,ih]
    congr 1
    simp
  refine ⟨(o,v)::pl,by simp [k1],?_,fun j o' v' hj=>?_⟩
  ·rw [cur];simp only [List.length_cons,Nat.zero_lt_succ,decide_true,if_true];rw [shift];exact k2
  ·cases j with
   |zero =>
    simp at hj;obtain ⟨rfl,rfl⟩:=hj;rw [cur_none _ _ _ _ (fun k _=>decide_eq_false (by omega))];exact ⟨h1,h1'⟩
   |succ j =>
    have:=k3 j o' v' (by simpa using hj);rw [cur];simp only [Nat.zero_lt_succ,decide_true,if_true];rw [shift];exact this
theorem BPlan.op {E:Env} (hE:E.OK) {ops:Array Oper} {h:List Box} {K:List AV→Prop} {o:Oper} {l:List Oper} {s:List AV} (hg:o.guard=none) (v:AV) (H1:OpOK E o.op (maskS (keepOf ops o) 0 s) h v h) (H2:OpOK E o.op (maskS (keepOf ops o) 0 s) (h++[.gone]) v (h++[.gone])) (H:BPlan E ops h K l (putS s o.dst v)):BPlan E ops h K (o::l) s :=
 ⟨v,OpFact.of (wanted_none hg) H1,OpFact.of (wanted_none hg) H2,H⟩
theorem opOK_of {E:Env} (hE:E.OK) {o:Op} {s:List AV} {h:List Box} {v:AV} {h':List Box} (H:opK E.T E.G o s h False fun u hh=>u=v∧hh=h'):OpOK E o s h v h':=by
 rcases opK_sound hE H with h | ⟨u,hh,⟨rfl,rfl⟩,h⟩
 ·exact h.elim
 ·exact h
theorem appOK_of {E:Env} (hE:E.OK) {o:Op} {s:List AV} {h:List Box} {v:AV} {h':List Box} (H:appK E.T E.G o s h False fun u hh=>u=v∧hh=h'):OpOK E o s h v h':=by
 rcases appK_sound hE H with h | ⟨u,hh,⟨rfl,rfl⟩,h⟩
 ·exact h.elim
 ·exact h
theorem sideOK_of {E:Env} (hE:E.OK) {o:Op} {s:List AV} {h:List Box} {v:AV} {h':List Box} (H:sideMK E o s h False fun u hh=>u=v∧hh=h'):OpOK E o s h v h':=by
 rcases sideMK_sound hE H with h | ⟨u,hh,⟨rfl,rfl⟩,h⟩
 ·exact h.elim
 ·exact h
structure AppRow (E:Env) (o:Oper) (c0 c:Cx) (a:Act) (ts:Nat × Nat) (l':List DV) (rest loops:List Ghost) (c':Cx) (blk cap:Nat):Prop where
 does:Does E.P o a c.w (.slice (some ⟨blk,0,none⟩) l'.length cap) c'.w
 heap:c'.heap=c.heap++[.gone]
 ok:HOk E.G c'
 vr:∀ x v,VR c x v→VR c' x v
 rel:RelX c0 c'
 rows:RowsX c0.w.heap.size c' (.row ⟨blk,cap,ts,l'⟩::rest) loops
theorem app_new {E:Env} {o:Oper} {c0 c:Cx} {a:Act} {sm:List AV} {ts:Nat × Nat} {l':List DV} {rest loops:List Ghost} (h1:HOk E.G c) (hr:RelX c0 c) (hrow:RowsX c0.w.heap.size c rest loops) (h4:VS c sm a.tmps) {h:List Box} (h2:c.heap=h)
  (hX:OpOK E o.op sm h (.own h.length 1) (h++[.arr 1 ts l'])) (hne:l'≠[]) (hn:c0.heap.length≤h.length):∃ c' blk cap,AppRow E o c0 c a ts l' rest loops c' blk cap:=by
 obtain ⟨c1,v,k1,k2,k3,k4,k5⟩:=hX o c a rfl h2 h1 h4;subst h2;have hb:c1.heap[c.heap.length]? = some (.arr 1 ts l'):=by rw [k2]; simp
 rcases vr_own hb k4 with ⟨blk,cap,r1,rfl⟩ | ⟨rfl,-,-⟩
 case inr=>exact absurd rfl hne
 obtain ⟨q0,q1,q2⟩:=k3.box _ _ hb;rcases q2 with ⟨q2,-⟩ | ⟨blk',cap',vs,q2,q3,q4,q5,q6,q7⟩
 ·rw [r1] at q2; cases q2
 rw [r1] at q2;cases q2;have hr1:=hr.step k5;have hrow1:=hrow.step h1 k5;have hnew:=own_new hr1 r1 hn;refine ⟨c1.bury c.heap.length blk,blk,cap,k1,?_,k3.bury r1,fun x v hv=>bury_vr r1 (k5.vr hv),hr1.bury r1 hn,⟨⟨fun r hmr=>?_,?_⟩,fun g hg=>(List.mem_cons.1 hg).elim (fun e=>by subst e; trivial) (hrow.flat g)⟩⟩
 ·show c1.heap.set c.heap.length .gone=_;rw [k2,List.set_append_right _ _ (Nat.le_refl _),Nat.sub_self,List.set_cons_zero]
 ·rcases List.mem_cons.1 hmr with rfl | hmr
  ·show RowOK c0.w.heap.size (c1.bury c.heap.length blk) ⟨blk,cap,ts,l'⟩
   exact ⟨Or.inr rfl,hnew,q0,q1,vs,q3,q4,q5,q6,fun i j e x he hx=>by
    obtain ⟨v,k1,k2,k3⟩:=q7 i j e x he hx
    exact ⟨v,k1,k2,bury_vd r1 k3⟩⟩
  ·exact (hrow1.all.bury r1).each r hmr
 ·rw [List.cons_append,List.flatMap_cons];refine List.nodup_append.2 ⟨by simp [Ghost.blks],hrow1.all.nodup,fun x hx y hy e=>?_⟩;simp [Ghost.blks] at hx;subst hx; subst e;exact own_notin hrow1.all k3 r1 hy
theorem app_row {E:Env} {o:Oper} {c0 c:Cx} {a:Act} {sm:List AV} {rw_:Row} {l':List DV} {rest loops:List Ghost} (h1:HOk E.G c) (hr:RelX c0 c) (hrow:RowsX c0.w.heap.size c (.row rw_::rest) loops) (h4:VS c sm a.tmps) {h:List Box} (h2:c.heap=h) {d:Nat}
  (hd:sm[d]? = some (.d (.raw (.slice (some ⟨rw_.blk,0,none⟩) rw_.l.length rw_.cap)))) (hX:OpOK E o.op (sm.set d (.own h.length 0)) (h++[.arr 0 rw_.ts rw_.l]) (.own h.length 1) (h++[.arr 1 rw_.ts l'])) (hne:l'≠[]) (hn:c0.heap.length≤h.length):∃ c' blk cap,AppRow E o c0 c a rw_.ts l' rest loops c' blk cap:=by
 subst h2;obtain ⟨r1,r2,r3⟩:=RowsX.without (g1:=[]) hrow;have r2:RowOK c0.w.heap.size c rw_:=r2;have hnot:rw_.blk ∉ (rest++loops).flatMap Ghost.blks:=r3 _ (by simp [Ghost.blks]);have hat:(c.lend (.arr 0 rw_.ts rw_.l) rw_.blk rw_.cap).heap[c.heap.length]? = some (.arr 0 rw_.ts rw_.l):=by simp [Cx.lend]
 have hown:(c.lend (.arr 0 rw_.ts rw_.l) rw_.blk rw_.cap).own c.heap.length=some (rw_.blk,rw_.cap):=by simp [Cx.lend]
 have hok:HOk E.G (c.lend (.arr 0 rw_.ts rw_.l) rw_.blk rw_.cap):=h1.lend r2.bar (by
  obtain ⟨q1,q2,q3,q4,vs,q5,q6,q7,q8,q9⟩:=r2;refine ⟨q3,q4,.inr ⟨rw_.blk,rw_.cap,vs,hown,q5,q6,q7,q8,fun i j e x he hx=>?_⟩⟩;obtain ⟨v,k1,k2,k3⟩:=q9 i j e x he hx
  exact ⟨v,k1,k2,lend_vd h1 q1 k3⟩)
 have hvs:VS (c.lend (.arr 0 rw_.ts rw_.l) rw_.blk rw_.cap) sm a.tmps:=⟨h4.1,fun i x v hx hv=>lend_vr h1 r2.bar (h4.2 i x v hx hv)⟩;have hvs2:VS (c.lend (.arr 0 rw_.ts rw_.l) rw_.blk rw_.cap) (sm.set d (.own c.heap.length 0)) a.tmps:=vs_same hvs fun v hv=>by
  have hv':=h4.2 d _ v hd hv;cases hv' with
  |d _ _ hq =>
   cases hq;exact .own _ 0 rw_.ts rw_.l rw_.blk rw_.cap hat hown
 obtain ⟨c1,v,k1,k2,k3,k4,k5⟩:=hX o _ a rfl rfl hok hvs2;have hb:c1.heap[c.heap.length]? = some (.arr 1 rw_.ts l'):=by rw [k2]; simp
 rcases vr_own hb k4 with ⟨blk,cap,r1',rfl⟩ | ⟨rfl,-,-⟩
 case inr=>exact absurd rfl hne
 obtain ⟨q0,q1,q2⟩:=k3.box _ _ hb;rcases q2 with ⟨q2,-⟩ | ⟨blk',cap',vs,q2,q3,q4,q5,q6,q7⟩
 ·rw [r1'] at q2; cases q2
 rw [r1'] at q2;cases q2;have hrl:RelX c0 (c.lend (.arr 0 rw_.ts rw_.l) rw_.blk rw_.cap):=hr.lend r2.new;have hrowl:RowsX c0.w.heap.size (c.lend (.arr 0 rw_.ts rw_.l) rw_.blk rw_.cap) rest loops:=⟨r1.all.lend h1 r2.bar hnot,r1.flat⟩;have hr1:=hrl.step k5;have hrow1:=hrowl.step hok k5;have hnew:=own_new hr1 r1' hn;refine ⟨c1.bury c.heap.length blk,blk,cap,k1,?_,k3.bury r1',fun x v hv=>bury_vr r1' (k5.vr (lend_vr h1 r2.bar hv)),hr1.bury r1' hn,⟨⟨fun r hmr=>?_,?_⟩,fun g hg=>(List.mem_cons.1 hg).elim (fun e=>by subst e; trivial) (fun hg=>hrow.flat g (List.mem_cons_of_mem _ hg))⟩⟩
 ·show c1.heap.set c.heap.length .gone=_;rw [k2,List.set_append_right _ _ (Nat.le_refl _),Nat.sub_self,List.set_cons_zero]
 ·rcases List.mem_cons.1 hmr with rfl | hmr
  ·show RowOK c0.w.heap.size (c1.bury c.heap.length blk) ⟨blk,cap,rw_.ts,l'⟩
   exact ⟨Or.inr rfl,hnew,q0,q1,vs,q3,q4,q5,q6,fun i j e x he hx=>by
    obtain ⟨v,k1,k2,k3⟩:=q7 i j e x he hx
    exact ⟨v,k1,k2,bury_vd r1' k3⟩⟩
  ·exact (hrow1.all.bury r1').each r hmr
 ·rw [List.cons_append,List.flatMap_cons];refine List.nodup_append.2 ⟨by simp [Ghost.blks],hrow1.all.nodup,fun x hx y hy e=>?_⟩;simp [Ghost.blks] at hx;subst hx; subst e;exact own_notin hrow1.all k3 r1' hy
section
variable {E:Env} {ops:Array Oper}
theorem phaseRow {m:Nat} (hc:Chk ops (m+1)) (hm:m+1≤ops.size) (hp:∀ i o,i<m→ops[i]? = some o→plainB o=true) {ox:Oper} (hox:ops[m]? = some ox) (hgx:ox.guard=none) {s0:List AV} {h:List Box} {pl:List (Oper × AV)} (hpl:pl.map (·.1)=ops.toList.take m)
  (hx:∀ j o v,pl[j]? = some (o,v)→OpFact E ops o (cur pl (fun k=>decide (k<j)) 0 s0) h v∧OpFact E ops o (cur pl (fun k=>decide (k<j)) 0 s0) (h++[.gone]) v) {b:Frame} {k:List Item} {cs:List Frame} {c0:Cx} {rowsA rest loops:List Ghost} {ts:Nat × Nat} {l':List DV} {cls:List AFrame} {tss:List (Array Value)}
  (hX:∀ (c:Cx) (a:Act),HOk E.G c→c.heap=h→RelX c0 c→RowsX c0.w.heap.size c rowsA loops→VS c (maskS (keepOf ops ox) 0 (cur pl (fun k=>decide (k<pl.length)) 0 s0)) a.tmps→∃ c' blk cap,AppRow E ox c0 c a ts l' rest loops c' blk cap) :
  ∀ (f tt:Nat) (listed:Array Bool) (a:Act) (c:Cx),HOk E.G c→c.heap=h→a.defers=[]→VS c (cur pl (Lst listed) 0 s0) a.tmps→DC ops listed→Lst listed m=false→(∀ i,m+1≤i→Lst listed i=false)→RelX c0 c→RowsX c0.w.heap.size c rowsA loops→CR c cls tss→cnt (Lst listed) ops.size≤f →
   ∃ (c':Cx) (t':Array Value) (blk cap:Nat),Steps E.P (lone (b.atR a (.inRegion ops (Region.linearise.go .any ops f tt listed [])::k)) cs c.w) (lone (b.atR ⟨t',[]⟩ (.inRegion ops ((List.range ops.size).drop (m+1))::k)) cs c'.w)∧HOk E.G c'∧c'.heap=h++[.gone]∧VS c' (putS (cur pl (fun k=>decide (k<pl.length)) 0 s0) ox.dst (.d (.raw (.slice (some ⟨blk,0,none⟩) l'.length cap)))) t'∧RelX c0 c'∧RowsX c0.w.heap.size c' (.row ⟨blk,cap,ts,l'⟩::rest) loops∧CR c' cls tss:=by
 have hlen:pl.length=m:=by
  have:=congrArg List.length hpl
  simpa [Nat.min_eq_left (show m≤ops.size by omega)] using this
 have hatP:∀ (k:Nat) (o:Oper) (v:AV),pl[k]? = some (o,v)→ops[k]? = some o∧k<m:=fun k o v hk=>by
  have h1:(pl.map (·.1))[k]? = some o:=by rw [List.getElem?_map,hk]; rfl
  have hkm:k<m:=by have:=(List.getElem?_eq_some_iff.1 hk).1; omega
  rw [hpl,List.getElem?_take,if_pos hkm] at h1;exact ⟨by simpa using h1,hkm⟩
 have hat:∀ (w:AV) (k:Nat) (o:Oper) (v:AV),(pl++[(ox,w)])[k]? = some (o,v)→ops[k]? = some o:=fun w k o v hk=>by
  rcases Nat.lt_or_ge k pl.length with hk2 | hk2
  ·rw [List.getElem?_append_left hk2] at hk;exact (hatP k o v hk).1
  ·rw [List.getElem?_append_right hk2] at hk;have hk0:k - pl.length=0:=by have:=(List.getElem?_eq_some_iff.1 hk).1; simp at this; omega
   rw [hk0] at hk;simp at hk;obtain ⟨rfl,-⟩:=hk;rw [show k=m by omega];exact hox
 have curA:∀ (w:AV) (L:Nat→Bool),L m=false→cur (pl++[(ox,w)]) L 0 s0=cur pl L 0 s0:=fun w L hL=>by
  rw [cur_snoc,Nat.zero_add,hlen,hL,if_neg (by decide)]
 have curK:∀ (w:AV) (j:Nat),j≤m→cur (pl++[(ox,w)]) (fun k=>decide (k<j)) 0 s0=cur pl (fun k=>decide (k<j)) 0 s0:=fun w j hj=>curA w _ (decide_eq_false (by omega));intro f
 induction f with
 |zero =>
  intro tt listed a c h1 h2 h3 h4 hd hX0 hs hr hrow h5 hcnt;have:=cnt_zero hcnt (show m<ops.size by omega);rw [hX0] at this;cases this
 |succ f ih =>
  intro tt listed a c h1 h2 h3 h4 hd hX0 hs hr hrow h5 hcnt;obtain ⟨j0,-,hj0⟩:=ready_some hc hd (show m<ops.size by omega) hX0;obtain ⟨i,hi,him⟩:=ready_pick (tt:=tt) (fun e=>by rw [e] at hj0; cases hj0);obtain ⟨hli,hin⟩:=ready_lst hd him;have hlt:i<m+1:=by
   rcases Nat.lt_or_ge i (m+1) with h | h
   ·exact h
   ·have:=hd.ready him (hc.suf m i ops[m] ops[i] (by omega) h (by simp) (by simp [hin]));rw [hX0] at this;cases this
  have hsz:i<listed.size:=by rw [hd.1]; exact hin
  have hset:=fun q=>lst_set (i:=q) hsz;have hcnt':cnt (Lst (listed.setIfInBounds i true)) ops.size≤f:=by
   have:=(cnt_set (L:=Lst listed) (L':=Lst (listed.setIfInBounds i true)) (j:=i) (fun q hq=>by rw [hset]; simp [hq]) hli (by rw [hset]; simp) ops.size).1 hin;omega
  have hs':∀ q,m+1≤q→Lst (listed.setIfInBounds i true) q=false:=fun q hq=>by rw [hset,hs q hq]; simp; omega
  by_cases him2:i=m
  ·subst him2;have hov:(pl++[(ox,AV.any)])[i]? = some (ox,.any):=by rw [← hlen]; simp
   obtain ⟨-,hmask⟩:=slots_ok hc.pair (hat .any) hd him hov (by rw [curA _ _ hX0]; exact h4);rw [curK _ _ (Nat.le_refl _)] at hmask;obtain ⟨c1,blk,cap,A⟩:=hX c a h1 h2 hr hrow (by rw [hlen]; exact hmask);have hov2:(pl++[(ox,AV.d (.raw (.slice (some ⟨blk,0,none⟩) l'.length cap)))])[i]? = some (ox,.d (.raw (.slice (some ⟨blk,0,none⟩) l'.length cap))):=by rw [← hlen]; simp
   obtain ⟨hslots,-⟩:=slots_ok hc.pair (hat (.d (.raw (.slice (some ⟨blk,0,none⟩) l'.length cap)))) hd him hov2 (by rw [curA _ _ hX0]; exact h4);have hw:Region.wanted ox (yielded ops a.tmps)=true:=by simp [Region.wanted,hgx]
   obtain ⟨c2,t2,r1,r2,r3,r4,r5⟩:=phaseQd (m:=i+1) (D:=i) hc hm (fun j o hj hjD ho=>hp j o (by omega) ho) (s0:=s0) (h:=h++[.gone]) (pl:=pl++[(ox,AV.d (.raw (.slice (some ⟨blk,0,none⟩) l'.length cap)))])
    (by rw [List.map_append,hpl,List.take_add_one,show ops.toList[i]? = some ox by simpa using hox]; rfl)
    (fun j o v hjD hj=>by
     have hjl:j<pl.length:=by have:=(List.getElem?_eq_some_iff.1 hj).1; simp at this; omega
     rw [List.getElem?_append_left hjl] at hj;rw [curK _ _ (by omega)]
     exact (hx j o v hj).2) (b:=b) (k:=k) (cs:=cs)
    f (tt / (Region.ready .any ops listed).length) (listed.setIfInBounds i true) (a.put ox.dst (.slice (some ⟨blk,0,none⟩) l'.length cap)) c1 A.ok (by rw [A.heap,h2]) (by cases hdst:ox.dst <;> simp [Act.put,h3]) (hslots c1 _ A.vr (.d _ _ (.raw _ rfl))) (hd.set him) (by rw [hset]; simp) hs' hcnt'
   refine ⟨c2,t2,blk,cap,?_,r2,r3,?_,A.rel.step r5,A.rows.step A.ok r5,r5.cr (cr_gen A.vr h5)⟩
   ·rw [go_some hi];exact Steps.trans (.one (step_op hox hw A.does)) r1
   ·rw [cur_snoc,Nat.zero_add,if_pos (by simp)] at r4;have e:cur pl (fun k=>decide (k<(pl++[(ox,AV.d (.raw (.slice (some ⟨blk,0,none⟩) l'.length cap)))]).length)) 0 s0=cur pl (fun k=>decide (k<pl.length)) 0 s0:=by
     apply List.ext_getElem?;intro t;refine cur_congr pl _ _ 0 s0 s0 rfl rfl fun k o v hk _=>?_;have:=(List.getElem?_eq_some_iff.1 hk).1;rw [decide_eq_true (show 0+k<(pl++[(ox,AV.d (.raw (.slice (some ⟨blk,0,none⟩) l'.length cap)))]).length by simp; omega),decide_eq_true (by omega)]
    rw [e] at r4;exact r4
  ·have hlt':i<m:=by omega
   obtain ⟨⟨o,v⟩,hov⟩:∃ p,pl[i]? = some p:=⟨pl[i]'(by omega),by rw [List.getElem?_eq_getElem]⟩;have hoi:=(hatP i o v hov).1;obtain ⟨hslots,hmask⟩:=slots_ok hc.pair (fun k o v hk=>(hatP k o v hk).1) hd him hov h4;obtain ⟨u0,w',⟨c',u,hu,hw',k1,k2,k3,k4⟩,hstep⟩:=plain_step (hp i o hlt' hoi) hoi ((hx i o v hov).1 c a h1 h2 h3 hmask i hoi (fun a' w'=>∃ (c':Cx) (u:Value),a'=a.put o.dst u∧w'=c'.w∧HOk E.G c'∧c'.heap=h∧Step c c'∧VR c' v u) (fun _ _ _=>False) fun c' u k1 k2 k3 k4=>⟨c',u,rfl,rfl,k1,k2,k3,k4⟩);obtain ⟨c2,t2,blk,cap,r1,r2,r3,r4,r5,r6,r7⟩:=ih (tt / (Region.ready .any ops listed).length) (listed.setIfInBounds i true) (a.put o.dst u) c' k1 k2 (by cases hdst:o.dst <;> simp [Act.put,h3]) (hslots c' u (fun _ _=>k3.vr) k4) (hd.set him) (by rw [hset,hX0]; simp; omega) hs' (hr.step k3) (hrow.step h1 k3) (k3.cr h5) hcnt';refine ⟨c2,t2,blk,cap,?_,r2,r3,r4,r5,r6,r7⟩;rw [go_some hi];refine Steps.trans (.one (hstep _ _ _ _)) ?_;rw [hu,hw'];exact r1
end
section
variable {E:Env} {fid:FuncId} {R:Post} {ops:Array Oper} {k:List AItem} {lits:List Nat} {s:List AV} {h:List Box}
theorem AWL.drawRow (hE:E.OK) (hm:E.P.follows .mixedOrders=true) (m:Nat) {id:Nat} (hchk:(chk ops (m+1)&&Nat.ble (m+1) ops.size&&(ops.toList.take m).all plainB)=true) {ox:Oper} (hox:ops[m]? = some ox) (hgx:ox.guard=none) {ts:Nat × Nat} {l':List DV} {rest:List Ghost} (s':List AV)
  (H:BPlan E ops h (fun s2=>s2=s') (ops.toList.take m) s)
  (hX:∀ (c0 c:Cx) (a:Act),c0.heap.length=R.n→HOk E.G c→c.heap=h→RelX c0 c→RowsX c0.w.heap.size c R.rows R.fx.loops→VS c (maskS (keepOf ops ox) 0 s') a.tmps→∃ c' blk cap,AppRow E ox c0 c a ts l' rest R.fx.loops c' blk cap)
  (HK:∀ blk cap,AWL E fid ⟨R.n,R.Q,.row ⟨blk,cap,ts,l'⟩::rest,R.fx⟩ [] (.reg ops (ops.toList.drop (m+1))::k) (putS s' ox.dst (.d (.raw (.slice (some ⟨blk,0,none⟩) l'.length cap)))) (h++[.gone]))
  (hx1:R.fx.rnd=none:=by rfl) (hx2:R.fx.dfs=[]:=by rfl):AWL E fid R lits (.code (.region id ops true)::k) s h:=by
 rw [Bool.and_eq_true,Bool.and_eq_true] at hchk;obtain ⟨⟨hc1,hc2⟩,hc3⟩:=hchk;have hmn:=Nat.le_of_ble_eq_true hc2;obtain ⟨pl,p1,p2,p3⟩:=BPlan.lay H;subst p2;have e:(⟨fid,R.fx.rnd,R.fx.dfs⟩:FId)=⟨fid,none,[]⟩:=by rw [hx1,hx2]
 refine .of ?_;rw [e];unfold AW;intro c0 c t tss h0 h1 h2 h3 hr hrow h4 h5 cs;have hx:Proofs.YthikfaephakahaaGreatDoor.Ext c.w { c.w with drawn:=c.w.drawn+1 }:=⟨rfl,rfl,rfl,Nat.le_refl _,fun _ _=>rfl⟩;obtain ⟨g1,g2⟩:=h3.grow hx;have hcon:(AItem.reg ops (ops.toList.drop (m+1))).conc = .inRegion ops ((List.range ops.size).drop (m+1)):=by
  simp only [AItem.conc];rw [List.length_drop,Array.length_toList,show ops.size - (ops.size - (m+1))=m+1 by omega]
 obtain ⟨c',t',blk,cap,q1,q2,q3,q4,q5,q6,q7⟩:=phaseRow (E:=E) (chk_spec hc1) hmn (fun i o hi ho=>List.all_eq_true.1 hc3 o (List.mem_of_getElem? (i:=i) (by rw [List.getElem?_take,if_pos hi]; simpa using ho))) hox hgx p1 p3 (b:=bf ⟨fid,none,[]⟩) (k:=k.map AItem.conc) (cs:=concs R.fx.cls tss++cs) (c0:=c0) (rowsA:=R.rows) (rest:=rest) (loops:=R.fx.loops) (ts:=ts) (l':=l') (cls:=R.fx.cls) (tss:=tss)
  (fun c a a1 a2 a3 a4 a5=>hX c0 c a h0 a1 a2 a3 a4 a5)
  ops.size (c.w.tape c.w.drawn (.order (bf ⟨fid,none,[]⟩).fn id)) (Array.replicate ops.size false) ⟨t,[]⟩ (c.inW { c.w with drawn:=c.w.drawn+1 }) g1 h2 rfl (by rw [cur_none _ 0 s _ (fun i _=>lst0 _ _)]; exact g2.vs h4) ⟨by simp,fun j o e _ hl=>by rw [lst0] at hl; cases hl⟩ (lst0 _ _) (fun i _=>lst0 _ i) (hr.step g2) (hrow.step h3 g2) (g2.cr h5) (cnt0 _ _)
 have hA:=AWL.to (HK blk cap);simp only [hx1,hx2] at hA;unfold AW at hA;obtain ⟨c2,fr,r,v,r1,r2,r3,r4,r5,r6⟩:=hA c0 c' t' tss h0 (ok_cons ⟨m+1,hmn,rfl⟩ (ok_tail h1)) q3 q2 q5 q6 q4 q7 cs;refine ⟨c2,fr,r,v,r1,r2,r3,r4,?_,r6⟩;have s1:Steps E.P (lone ((bf ⟨fid,none,[]⟩).at ⟨t,[]⟩ (.code (.region id ops true)::k.map AItem.conc)) (concs R.fx.cls tss++cs) c.w) _ := .one step_region_draw;simp only [Region.schedule,hm,Bool.true_or,if_true,Region.linearise] at s1;refine Steps.trans s1 (Steps.trans q1 ?_);rw [← hcon];exact r5
end
theorem BPlan.ex {E:Env} {ops:Array Oper} {h:List Box} {K:List AV→Prop}:∀ {l:List Oper} {s:List AV},BPlan E ops h K l s→∃ s',K s'∧BPlan E ops h (fun t=>t=s') l s
 | [],s,H=>⟨s,H,rfl⟩
 |_::_,_,⟨v,a,b,H⟩=>by
  obtain ⟨s',k1,k2⟩:=BPlan.ex H;exact ⟨s',k1,v,a,b,k2⟩
section
variable {E:Env} {fid:FuncId} {R:Post} {ops:Array Oper} {k:List AItem} {lits:List Nat} {s:List AV} {h:List Box}
theorem AWL.drawRowK (hE:E.OK) (hm:E.P.follows .mixedOrders=true) (m:Nat) {id:Nat} (hchk:(chk ops (m+1)&&Nat.ble (m+1) ops.size&&(ops.toList.take m).all plainB)=true) {ox:Oper} (hox:ops[m]? = some ox) (hgx:ox.guard=none) {ts:Nat × Nat} {l':List DV} {rest:List Ghost}
  (H:BPlan E ops h (fun s'=>(∀ (c0 c:Cx) (a:Act),c0.heap.length=R.n→HOk E.G c→c.heap=h→RelX c0 c→RowsX c0.w.heap.size c R.rows R.fx.loops→VS c (maskS (keepOf ops ox) 0 s') a.tmps→∃ c' blk cap,AppRow E ox c0 c a ts l' rest R.fx.loops c' blk cap) ∧
   ∀ blk cap,AWL E fid ⟨R.n,R.Q,.row ⟨blk,cap,ts,l'⟩::rest,R.fx⟩ [] (.reg ops (ops.toList.drop (m+1))::k) (putS s' ox.dst (.d (.raw (.slice (some ⟨blk,0,none⟩) l'.length cap)))) (h++[.gone])) (ops.toList.take m) s)
  (hx1:R.fx.rnd=none:=by rfl) (hx2:R.fx.dfs=[]:=by rfl):AWL E fid R lits (.code (.region id ops true)::k) s h:=by
 obtain ⟨s',⟨hX,HK⟩,H⟩:=BPlan.ex H;exact AWL.drawRow hE hm m hchk hox hgx s' H hX HK hx1 hx2
end
end Go.Eng
