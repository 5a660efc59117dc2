/- Several texts of mine, one behind the other. Conditions: as each says. -/
import Derived.Test.YtfmdaiojokniiaaGreatDoorW24
set_option linter.unusedVariables false
set_option linter.unusedSimpArgs false
section
namespace Go.Proofs.YtfmdaiojokniiaaGreatDoor.P
open Go Go.aw Go.Sort Go.RowKit
structure Span where
 bQ:Int
 upto:Int
 deriving DecidableEq
@[reducible] def Span.enc (x : Span) : DV := .agg [.int .i64 x.bQ, .int .i64 x.upto]
set_option maxHeartbeats 1000000 in
theorem QN (x y:Int × Int) (W:World):Calls Tryz.prog 100 #[.agg #[.int .i64 x.1,.int .i64 x.2],.agg #[.int .i64 y.1,.int .i64 y.2]] W fun e w'=>e = .returned (.int .i64 (Lib.compareInt x.1 y.1))∧∃ q oQ,w'=grow (W.drewN q) oQ:=by
 have w0:=fun W'=>AnyG.cmp_Compare_int Tryz.QH x.1 y.1 W';change ∀ W',Calls Tryz.prog 101 _ _ _ at w0;generalize Lib.compareInt x.1 y.1=r at w0 ⊢
 go_enter Tryz.func100,Tryz.ntmps100
 go_wp2_with (go_at_call 101; refine (w0 _).mono ?_; rintro e w' ⟨rfl,rfl⟩)
 go_ret
 exact ⟨rfl,0,_,by rw [alloc_eq_grow,alloc_eq_grow,grow_grow]; rfl⟩
theorem QO:IV Tryz.prog 99 100 (·.1):=fun blk cap d w hH hblk bK=>by
 have eg:∀ args w,(callFunc 100 args).run Tryz.prog w = .ok (.enter 100 args) w:=enters_of Tryz.func100 (by kernel_rfl) rfl;have w0:=AnyQ.slices_SortFunc Tryz.QJ 2 Tryz.isAgg169 Tryz.sizeOf169 kf (fun _=>rfl) (fun x v hv=>by simp [kf] at hv; rcases hv with rfl | rfl <;> rfl) (fun x y=>Lib.compareInt x.1 y.1) (QD (·.1)) 100 #[] blk 0 cap d w eg (fun _ _ _ _ x y=>QN x y _) hH hblk bK;exact w0
theorem QP (l:List Span) (hl:l≠[]) (hlen:l.length<4611686018427387904) :
  aq E 99 [.arr 0 (169,2) (l.map Span.enc)] [.own 0 0,.fn (.func 100) [] []] (fun a b=>a = .az []∧∃ l':List Span,l'.Perm l∧l'.Pairwise (fun x y=>x.bQ≤y.bQ)∧b=[.arr 0 (169,2) (l'.map Span.enc)]):=by
 have h:=QF (E:=E) (t:=169) QO ⟨_,Tryz.func99,rfl,by decide⟩ (l.map fun k=>(k.bQ,k.upto)) (by simpa using hl) (by simpa using hlen);have e1:∀ m:List Span,(m.map fun k=>(k.bQ,k.upto)).map iH=m.map Span.enc:=fun m=>by rw [List.map_map]; rfl
 rw [e1] at h;refine h.mono fun a b ⟨ha,l',hp,hs,hb⟩=>⟨ha,l'.map fun p=>⟨p.1,p.2⟩,?_,?_,?_⟩
 ·have:=hp.map fun p:Int × Int=>(⟨p.1,p.2⟩:Span);rw [List.map_map] at this;have e2:((fun p:Int × Int=>(⟨p.1,p.2⟩:Span)) ∘ fun k:Span=>(k.bQ,k.upto))=id:=rfl;rw [e2,List.map_id] at this;exact this
 ·exact List.pairwise_map.2 hs
 ·rw [hb,List.map_map];rfl
end Go.Proofs.YtfmdaiojokniiaaGreatDoor.P
end
section
namespace Go.Proofs.YtfmdaiojokniiaaGreatDoor.P
open Go Go.aw
set_option maxRecDepth 100000
set_option maxHeartbeats 4000000
def qd (a:dj):Bool:=a.kind==0&&(a.ae.length:Int)==0&&a.cut==[]
def rT.eF (v:rT):Prop:=v.q.name.length≤maxLen∧v.ae.length≤maxLen∧∀ s∈v.ae,s.eF
def c9.eF (x:c9):Prop:=x.q.name.length≤maxLen∧x.answer.eF
def oP.eF (t:oP):Prop:=t.q.name.length≤maxLen∧(t.cache.list.length≤maxLen∧∀ e∈t.cache.list,e.eF)∧(t.heard.length≤maxLen∧∀ x∈t.heard,x.eF)∧t.result.eF
end Go.Proofs.YtfmdaiojokniiaaGreatDoor.P
end
section
namespace Go.aw
open Go Go.RowKit
section
variable {E:Env} {s:List AV} {h:List ab}
variable {af:FuncId} {R:cu} {ops:Array Oper} {o:Oper} {l:List Oper} {k:List aH} {lits:List Nat}
end
end Go.aw
end
section
namespace Go.Proofs.YtfmdaiojokniiaaGreatDoor.P
open Go Go.aw Go.Sort Go.RowKit
end Go.Proofs.YtfmdaiojokniiaaGreatDoor.P
end
section
namespace Go.aw
open Go Go.RowKit
section
variable {E:Env} {s:List AV} {h:List ab}
end
end Go.aw
end
