/- The engine, part FF: regions that draw their order, of which the first operations stand in any order, and the rest is gone through one by one. No conditions. -/
import Derived.Test.YthikfaephakahaaGreatDoorZEngEE
set_option linter.unusedVariables false
set_option linter.unusedSimpArgs false
namespace Go.Eng
open Go Go.RowKit
def plainB (o:Oper):Bool:=(match o.guard with | none=>true | some _=>false)&&match o.op with
 | .move _=>true
 | .assign _=>true
 | .buildSlice _ _ _=>true
 | .build _ _=>true
 | .load _ _=>true
 | .fieldAddr _ _ _=>true
 | .field _ _ _=>true
 | .indexAddr _ _ _=>true
 | .lookup _ _ _ _=>true
 | .extract _ _=>true
 | .binOp _ _ _ _ _=>true
 | .unOp _ _ _=>true
 |_=>false
theorem run_v {P:Program} {s:Sem Value} {w w':World} {n:Next} (h:(do pure (Next.value (← s)):Sem Next).run P w = .ok n w'):∃ v,n = .value v:=by
 rw [Sem.run_bind] at h;cases hs:s.run P w with
 |ok v w1=>rw [hs] at h; simp only [Result.andThen_ok,Sem.run_pure] at h; cases h; exact ⟨v,rfl⟩
 |halt a b=>rw [hs] at h; cases h
theorem plain_value {P:Program} {o:Oper} (hp:plainB o=true) {ρ : Operand→Value} {w w':World} {n:Next} (h:(execOp ρ o).run P w = .ok n w'):∃ v,n = .value v:=by
 obtain ⟨dst,op,type,pos,after,guard⟩:=o;cases op;all_goals first
  |exact run_v h
  |(simp only [execOp,Sem.run_pure] at h; cases h; exact ⟨_,rfl⟩)
  |(simp [plainB] at hp; done)
theorem plain_guard {o:Oper} (hp:plainB o=true):o.guard=none:=by
 cases h:o.guard with
 |none=>rfl
 |some x=>simp [plainB,h] at hp
theorem plain_step {P:Program} {ops:Array Oper} {o:Oper} (hp:plainB o=true) {i:Nat} (ho:ops[i]? = some o) {a:Act} {w:World} {K:Act→World→Prop} (H:wpOp P ops (fun _ _ _=>False) i K a w) :
  ∃ v w',K (a.put o.dst v) w'∧∀ (b:Frame) (rest:List Nat) (k:List Item) (cs:List Frame),step P (lone (b.atR a (.inRegion ops (i::rest)::k)) cs w) = .next (lone (b.atR (a.put o.dst v) (.inRegion ops rest::k)) cs w'):=by
 have hw:Region.wanted o (yielded ops a.tmps)=true:=by simp [Region.wanted,plain_guard hp]
 unfold wpOp at H;simp only [ho,hw,if_true] at H;rcases H with H | ⟨-,x,y,h⟩
 ·unfold Oper.wp at H;cases hr:(execOp a.eval o).run P w with
  |ok n w' =>
   obtain ⟨v,rfl⟩:=plain_value hp hr;rw [hr] at H;exact ⟨v,w',H,fun b rest k cs=>step_op ho hw (.inl hr)⟩
  |halt x w' =>
   rw [hr] at H;cases x <;> exact H.elim
 ·exact h.elim
section
variable {E:Env} {ops:Array Oper}
theorem go_some {f tt:Nat} {listed:Array Bool} {i:Nat} (h:(Region.ready .any ops listed)[tt % (Region.ready .any ops listed).length]? = some i):Region.linearise.go .any ops (f+1) tt listed []=i::Region.linearise.go .any ops f (tt / (Region.ready .any ops listed).length) (listed.setIfInBounds i true) []:=by
 simp only [Region.linearise.go]
 change (match (Region.ready .any ops listed)[tt % (Region.ready .any ops listed).length]? with
   |some i=>Region.linearise.go .any ops f (tt / (Region.ready .any ops listed).length) (listed.setIfInBounds i true) [i]
   |none=>[].reverse)=_
 rw [h];simp only;rw [linearise_go_acc];rfl
theorem ready_pick {listed:Array Bool} {tt:Nat} (h:Region.ready .any ops listed≠[]):∃ i,(Region.ready .any ops listed)[tt % (Region.ready .any ops listed).length]? = some i∧i∈Region.ready .any ops listed:=by
 have hl:0<(Region.ready .any ops listed).length:=List.length_pos_iff.2 h;have hlt:=Nat.mod_lt tt hl;exact ⟨_,List.getElem?_eq_getElem hlt,List.getElem_mem hlt⟩
theorem rest_det {m:Nat} (hc:Chk ops m):∀ (d j f tt:Nat) (listed:Array Bool),j+d=ops.size→m≤j→DC ops listed→(∀ i,i<j→Lst listed i=true)→(∀ i,j≤i→Lst listed i=false)→cnt (Lst listed) ops.size≤f→Region.linearise.go .any ops f tt listed []=(List.range ops.size).drop j
 | 0,j,f,tt,listed,hj,hm,hd,h1,h2,hcnt=>by
  rw [List.drop_of_length_le (by simp; omega)];cases f with
  |zero=>rfl
  |succ f =>
   have hr:Region.ready .any ops listed=[]:=by
    apply List.eq_nil_iff_forall_not_mem.2;intro i hi;obtain ⟨k1,k2⟩:=ready_lst hd hi;rw [h1 i (by omega)] at k1;cases k1
   simp only [Region.linearise.go]
   change (match (Region.ready .any ops listed)[tt % (Region.ready .any ops listed).length]? with
    |some i=>Region.linearise.go .any ops f (tt / (Region.ready .any ops listed).length) (listed.setIfInBounds i true) [i]
    |none=>[].reverse)=_
   rw [hr];rfl
 |d+1,j,f,tt,listed,hj,hm,hd,h1,h2,hcnt=>by
  have hjs:j<ops.size:=by omega
  obtain ⟨i0,-,hi0⟩:=ready_some hc hd hjs (h2 j (Nat.le_refl _));obtain ⟨i,hi,him⟩:=ready_pick (tt:=tt) (fun e=>by rw [e] at hi0; cases hi0);obtain ⟨k1,k2⟩:=ready_lst hd him;have hij:i=j:=by
   rcases Nat.lt_trichotomy i j with h | h | h
   ·rw [h1 i h] at k1; cases k1
   ·exact h
   ·have:=hd.ready him (hc.suf j i ops[j] ops[i] h (by omega) (by simp [hjs]) (by simp [k2]));rw [h2 j (Nat.le_refl _)] at this;cases this
  subst hij;cases f with
  |zero=>have:=cnt_zero hcnt hjs; rw [this] at k1; cases k1
  |succ f =>
   have hsz:i<listed.size:=by rw [hd.1]; exact k2
   have hset:=fun q=>lst_set (i:=q) hsz;have hcnt':cnt (Lst (listed.setIfInBounds i true)) ops.size≤f:=by
    have:=(cnt_set (L:=Lst listed) (L':=Lst (listed.setIfInBounds i true)) (j:=i) (fun q hq=>by rw [hset]; simp [hq]) k1 (by rw [hset]; simp) ops.size).1 k2;omega
   rw [go_some hi,rest_det hc d (i+1) f _ _ (by omega) (by omega) (hd.set him) (fun q hq=>by
    rw [hset];by_cases e:q=i
    ·simp [e]
    ·rw [h1 q (by omega)]; simp) (fun q hq=>by rw [hset,h2 q (by omega)]; simp; omega) hcnt']
   have e:=List.drop_eq_getElem_cons (l:=List.range ops.size) (i:=i) (by simpa using k2);rw [e];simp
end
section
variable {E:Env} {fid:FuncId} {R:Post} {ops:Array Oper} {k:List AItem} {lits:List Nat} {s:List AV} {h:List Box}
end
end Go.Eng
