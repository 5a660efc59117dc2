/- Several texts of mine, one behind the other. Conditions: as each says. -/
import Derived.Test.YtfmdaiojokniiaaGreatDoorV24
set_option linter.unusedVariables false
set_option linter.unusedSimpArgs false
section
namespace Go.Proofs.YtfmdaiojokniiaaGreatDoor.P
open Go Go.aw Go.Sort Go.RowKit
structure Span where
 bM:Int
 upto:Int
 deriving DecidableEq
@[reducible] def Span.enc (x : Span) : DV := .agg [.int .i64 x.bM, .int .i64 x.upto]
set_option maxHeartbeats 1000000 in
theorem Sr (x y:Int × Int) (W:World):Calls Tryz.prog 100 #[.agg #[.int .i64 x.1,.int .i64 x.2],.agg #[.int .i64 y.1,.int .i64 y.2]] W fun e w'=>e = .returned (.int .i64 (Lib.compareInt x.1 y.1))∧∃ q pJ,w'=grow (W.drewN q) pJ:=by
 have xW:=fun W'=>AnyG.cmp_Compare_int Tryz.Sk x.1 y.1 W';change ∀ W',Calls Tryz.prog 101 _ _ _ at xW;generalize Lib.compareInt x.1 y.1=r at xW ⊢
 go_enter Tryz.func100,Tryz.ntmps100
 go_wp2_with (go_at_call 101; refine (xW _).mono ?_; rintro e w' ⟨rfl,rfl⟩)
 go_ret
 exact ⟨rfl,0,_,by rw [alloc_eq_grow,alloc_eq_grow,grow_grow]; rfl⟩
theorem Ss:J' Tryz.prog 99 100 (·.1):=fun blk cap d w hH hblk bQ=>by
 have eg:∀ args w,(callFunc 100 args).run Tryz.prog w = .ok (.enter 100 args) w:=enters_of Tryz.func100 (by kernel_rfl) rfl;have xW:=AnyQ.slices_SortFunc Tryz.Sm 2 Tryz.isAgg169 Tryz.sizeOf169 kQ (fun _=>rfl) (fun x v hv=>by simp [kQ] at hv; rcases hv with rfl | rfl <;> rfl) (fun x y=>Lib.compareInt x.1 y.1) (Sg (·.1)) 100 #[] blk 0 cap d w eg (fun _ _ _ _ x y=>Sr x y _) hH hblk bQ;exact xW
theorem St (l:List Span) (hl:l≠[]) (hlen:l.length<4611686018427387904) :
  au E 99 [.arr 0 (169,2) (l.map Span.enc)] [.own 0 0,.fn (.func 100) [] []] (fun a b=>a = .aD []∧∃ l':List Span,l'.Perm l∧l'.Pairwise (fun x y=>x.bM≤y.bM)∧b=[.arr 0 (169,2) (l'.map Span.enc)]):=by
 have h:=Si (E:=E) (t:=169) Ss ⟨_,Tryz.func99,rfl,by decide⟩ (l.map fun k=>(k.bM,k.upto)) (by simpa using hl) (by simpa using hlen);have e1:∀ m:List Span,(m.map fun k=>(k.bM,k.upto)).map jh=m.map Span.enc:=fun m=>by rw [List.map_map]; rfl
 rw [e1] at h;refine h.mono fun a b ⟨ha,l',hp,hs,hb⟩=>⟨ha,l'.map fun p=>⟨p.1,p.2⟩,?_,?_,?_⟩
 ·have:=hp.map fun p:Int × Int=>(⟨p.1,p.2⟩:Span);rw [List.map_map] at this;have e2:((fun p:Int × Int=>(⟨p.1,p.2⟩:Span)) ∘ fun k:Span=>(k.bM,k.upto))=id:=rfl;rw [e2,List.map_id] at this;exact this
 ·exact List.pairwise_map.2 hs
 ·rw [hb,List.map_map];rfl
end Go.Proofs.YtfmdaiojokniiaaGreatDoor.P
end
section
namespace Go.Proofs.YtfmdaiojokniiaaGreatDoor.P
open Go Go.aw Go.Sort Go.RowKit
end Go.Proofs.YtfmdaiojokniiaaGreatDoor.P
end
section
namespace Go.aw
open Go Go.RowKit
section
variable {E:Env} {s:List AV} {h:List ae}
end
end Go.aw
end
section
namespace Go.aw
open Go Go.RowKit
section
variable {E:Env} {s:List AV} {h:List ae}
def KJ (E:Env) (s:List AV) (h:List ae) (o:Oper) (k:List AV→List ae→Prop):Prop:=match o.op with
 | .insert t m x v=>aM E.T t False fun ti=>match ti.k with
  | .map kt _=>bW E.G s m False fun
   | .map b=>aM h b False fun
    | .map es=>bW E.G s x False fun
     | .d y=>bW E.G s v False fun
      | .d z=>tV E kt False fun kd=>need (cW E.T kd y∧∀ p∈es,cW E.T kd p.1) (fy h b (.map (bO y z es)) fun h'=>cb s o.dst (.d .undef) fun s'=>k s' h')
      |_=>False
     |_=>False
    |_=>False
   |_=>False
  |_=>False
 |_=>False
theorem I.insert (hE:E.OK) {ag:FuncId} {R:cw} {ops:Array Oper} {td:List aN} {lits:List Nat} {o:Oper} {r:List Oper} (hg:o.guard=none)
  (H:KJ E s h o fun s' h'=>I E ag R lits (.bq ops r::td) s' h'):I E ag R lits (.bq ops (o::r)::td) s h:=by
 unfold KJ at H;split at H
 case h_2=>exact H.elim
 rename_i t m x v ca;rcases a7 H with H | ⟨ti,bP,H⟩
 ·exact H.elim
 split at H
 case h_2=>exact H.elim
 rename_i kt e hk;rcases b8 H with H | ⟨a,ha,H⟩
 ·exact H.elim
 split at H
 case h_2=>exact H.elim
 rename_i b;rcases a7 H with H | ⟨bx,hb,H⟩
 ·exact H.elim
 split at H
 case h_2=>exact H.elim
 rename_i es;rcases b8 H with H | ⟨y,hy,H⟩
 ·exact H.elim
 split at H
 case h_2=>exact H.elim
 rename_i y;rcases b8 H with H | ⟨z,hz,H⟩
 ·exact H.elim
 split at H
 case h_2=>exact H.elim
 rename_i z;rcases y5 H with H | ⟨kd,hT,H⟩
 ·exact H.elim
 obtain ⟨⟨f1,f2⟩,H⟩:=lj H;rw [fY,dR] at H;exact .of (.op (fZ hg) (Gt hE (.inr ca) bP hk hT hb ha hy hz f1 f2) H.to)
end
end Go.aw
end
section
namespace Go.Proofs.YtfmdaiojokniiaaGreatDoor.P
open Go Go.aw Go.Sort Go.RowKit
theorem fB {α:Type} [Inhabited α] {K:Nat} (enc:α→List Value) (d:Array α) (i k:Nat) (hk:k<K) (x:α) (h:d[i]? = some x):(flatK enc K d)[i*K+k]! = (enc x)[k]! := by
 have hi:i<d.size:=by
  rcases Nat.lt_or_ge i d.size with h' | h'
  ·exact h'
  ·rw [Array.getElem?_eq_none h'] at h; cases h
 have hx:d[i]! = x:=by simp [getElem!_pos d i hi]; rw [Array.getElem?_eq_getElem hi] at h; exact Option.some.inj h
 have aj:i*K+k<d.size*K:=by
  have:(i+1)*K≤d.size*K:=Nat.mul_le_mul_right K hi;rw [Nat.succ_mul] at this;omega
 rw [get_flatK _ _ _ _ aj,show (i*K+k) / K=i by rw [Nat.mul_comm,Nat.mul_add_div (by omega),Nat.div_eq_of_lt hk]; rfl,show (i*K+k) % K=k by rw [Nat.mul_comm,Nat.mul_add_mod,Nat.mod_eq_of_lt hk],hx]
theorem LD {α:Type} [Inhabited α] {enc:α→List Value} {K:Nat} {w:World} {blk n:Nat} {d:Array α} {os:Array Obj} {vs:Array Value} {ty:TypeId} (hb:w.heap[blk]? = some (.cells vs ty (0,0))) :
  let w':=sortWorldK enc K w blk 0 n d os
  w'.os=w.os∧w'.tape=w.tape∧w'.output=w.output∧w.heap.size≤w'.heap.size∧(∀ b,b<w.heap.size→b≠blk→w'.heap[b]? = w.heap[b]?)∧w'.heap[blk]? = some (.cells (putCells id 0 (flatK enc K d) vs) ty (0,0)):=by
 intro w';have aj:blk<w.heap.size:=by
  rcases Nat.lt_or_ge blk w.heap.size with h | h
  ·exact h
  ·rw [Array.getElem?_eq_none h] at hb; cases hb
 have bQ:(putRowK enc K (Sort.ahead w n) blk 0 d).heap.size=w.heap.size:=by simp [putRowK,putRow,mapBlock]
 refine ⟨rfl,rfl,rfl,?_,fun b bZ aJ=>?_,?_⟩
 ·show w.heap.size≤(grow _ os).heap.size;rw [size_grow,bQ]; omega
 ·show (grow _ os).heap[b]? = _;rw [heap_grow_old _ _ (by rw [bQ]; exact bZ)];simp [putRowK,putRow,mapBlock,Array.getElem?_modify,Ne.symm aJ]
 ·show (grow _ os).heap[blk]? = _;rw [heap_grow_old _ _ (by rw [bQ]; exact aj)];simp [putRowK,putRow,mapBlock,Array.getElem?_modify,hb,onCells]
structure VW (cmp:DV→DV→Int) (l:List DV):Prop where
 irrefl:∀ x∈l,¬ cmp x x<0
 trans:∀ x∈l,∀ y∈l,∀ z∈l,cmp x y<0→cmp y z<0→cmp x z<0
 ntrans:∀ x∈l,∀ y∈l,∀ z∈l,¬ cmp x y<0→¬ cmp y z<0→¬ cmp x z<0
end Go.Proofs.YtfmdaiojokniiaaGreatDoor.P
end
