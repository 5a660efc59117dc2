/- Several texts of mine, one behind the other. Conditions: as each says. -/
import Derived.Test.YtfmdaiojokniiaaGreatDoorW25
import Derived.Shelf.SortM.SortNone
set_option linter.unusedVariables false
set_option linter.unusedSimpArgs false
section
namespace Go.Proofs.YtfmdaiojokniiaaGreatDoor.P
open Go Go.aw Go.Sort
set_option maxRecDepth 100000
set_option maxHeartbeats 4000000
theorem Sc:Jr Tryz.prog 182:=fun blk cap zs w hH hblk bK=>AnyM.slices_Sort_int Tryz.sortInt blk 0 cap zs w hH hblk bK
theorem Sd (l:List Int) (hl:l≠[]) (hlen:l.length<4611686018427387904) :
  aq E 182 [.arr 0 (3,1) (l.map (DV.int .i64))] [.own 0 0] (fun a b=>a = .az []∧b=[.arr 0 (3,1) ((eY l).map (DV.int .i64))]) :=
 Sb Sc ⟨_,Tryz.func182,rfl,by decide⟩ l hl hlen
end Go.Proofs.YtfmdaiojokniiaaGreatDoor.P
end
section
namespace Go.aw
open Go Go.RowKit
section
variable {E:Env} {s:List AV} {h:List ab}
theorem SJ {t:Nat} {x:Operand} {n:Int} {kt et:TypeId} (hu:E.P.underlying t=some (.map kt et)) (hx:aQ E.G s x (.d (.int .i64 n))):bw E (.makeMap t (some x)) s h (.map h.length) (h++[.map []]):=fun o c ac h1 h2 h3 h4=>by
 subst h2;have hv:=hx c ac h3 h4;obtain ⟨k1,k2⟩:=h3.add (.map []) 0 (.map #[] 0);have bz:(c.add (.map []) 0 (.map #[] 0)).own c.heap.length=some (c.w.heap.size,0):=by simp [Cx.add]
 have kA:(c.add (.map []) 0 (.map #[] 0)).heap[c.heap.length]? = some (.map []):=by simp [Cx.add]
 refine ⟨_,.map (some c.w.heap.size),.inl ?_,rfl,k2 ⟨c.w.heap.size,0,#[],0,bz,heap_alloc_new _ _,⟨rfl,by simp,by simp,by simp,rfl⟩,fun j k x m hj=>by simp at hj⟩,.map c.heap.length [] c.w.heap.size 0 kA bz,k1⟩;generalize yz:ac.eval x=u at hv;cases hv with
 |d _ _ hv =>
  cases hv;simp only [execOp,h1,Option.map_some,yz,Instr.makeMap,Sem.run_bind,Sem.run_pure,run_underlying hu,Result.andThen_ok];rfl
end
section
variable {E:Env} {af:FuncId} {R:cu} {ops:Array Oper} {k:List aH} {F:List Nat} {n:Nat} {B:List Nat} {X:List ab} {lits:List Nat} {j:Nat} {o:Oper} {l:List Oper} {s:List AV} {h:List ab}
end
end Go.aw
end
