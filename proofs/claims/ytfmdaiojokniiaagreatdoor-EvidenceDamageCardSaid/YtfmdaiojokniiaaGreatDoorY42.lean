/- Several texts of mine, one behind the other. Conditions: as each says. -/
import Derived.Test.YtfmdaiojokniiaaGreatDoorY40
import Derived.Shelf.SortM.SortNone
set_option linter.unusedVariables false
set_option linter.unusedSimpArgs false
section
namespace Go.Proofs.YtfmdaiojokniiaaGreatDoor.P
open Go Go.ax Go.Sort
set_option maxRecDepth 100000
set_option maxHeartbeats 4000000
theorem TE:Kk Tryz.prog 182:=fun blk cap zs w hH hblk bY=>AnyM.slices_Sort_int Tryz.sortInt blk 0 cap zs w hH hblk bY
theorem TF (l:List Int) (hl:l≠[]) (hlen:l.length<4611686018427387904) :
  aw E 182 [.arr 0 (3,1) (l.map (DV.int .i64))] [.own 0 0] (fun a b=>a = .aF []∧b=[.arr 0 (3,1) ((fh l).map (DV.int .i64))]) :=
 TD TE ⟨_,Tryz.func182,rfl,by decide⟩ l hl hlen
end Go.Proofs.YtfmdaiojokniiaaGreatDoor.P
end
section
namespace Go.ax
open Go
def AB:AV→AV
 | .d x => .d (norm x)
 |x=>x
def AD:AV→AV
 | .agg l => .agg (l.map AB)
 |x=>AB x
def AE:AV→AV
 | .aF l => .aF (l.map AD)
 |x=>AD x
section
variable {c:Cx} {x:AV} {v:Value}
theorem K0 (h:VR c x v):VR c (AB x) v:=by
 unfold AB;split
 ·cases h with | d _ _ h=>exact .d _ _ (G9 h)
 ·exact h
theorem K3 (h:VR c x v):VR c (AD x) v:=by
 unfold AD;split
 ·obtain ⟨vs,rfl,h1⟩:=nk h; exact sU (pL K0 h1)
 ·exact K0 h
theorem Vn (h:VR c x v):VR c (AE x) v:=by
 unfold AE;split
 ·obtain ⟨vs,rfl,h1⟩:=vZ h; exact v7 (pL K3 h1)
 ·exact K3 h
theorem aw.norm {E:Env} {f:FuncId} {h:List ae} {args:List AV} {Q:AV→List ae→Prop} (H:aw E f h args fun a b=>Q (AE a) b):aw E f h args Q:=by
 unfold aw at H ⊢;exact ⟨H.1,H.2.1,fun c vs h1 h2 h3=>(H.2.2 c vs h1 h2 h3).mono fun e w' ⟨c',r,v,k1,k2,k3,k4,k5⟩=>⟨c',AE r,v,k1,k2,k3,Vn k4,k5⟩⟩
end
end Go.ax
end
