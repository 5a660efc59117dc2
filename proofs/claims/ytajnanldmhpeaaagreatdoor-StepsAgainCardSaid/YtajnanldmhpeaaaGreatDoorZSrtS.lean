/- Spans sorted by their starts. Conditions: a length that Go allows. -/
import Derived.Test.YtajnanldmhpeaaaGreatDoorZN6
import Derived.Test.YtajnanldmhpeaaaGreatDoorZShelf
import Derived.Test.YtajnanldmhpeaaaGreatDoorZM6
set_option linter.unusedVariables false
set_option linter.unusedSimpArgs false
namespace Go.Proofs.YtajnanldmhpeaaaGreatDoor.P
open Go Go.Eng Go.Sort Go.RowKit
structure Span where
 frm:Int
 upto:Int
 deriving DecidableEq
@[reducible] def Span.enc (x : Span) : DV := .agg [.int .i64 x.frm, .int .i64 x.upto]
set_option maxHeartbeats 1000000 in
theorem spanClosure (x y:Int × Int) (W:World):Calls Tryz.prog 90 #[.agg #[.int .i64 x.1,.int .i64 x.2],.agg #[.int .i64 y.1,.int .i64 y.2]] W fun e w'=>e = .returned (.int .i64 (Lib.compareInt x.1 y.1))∧∃ q os',w'=grow (W.drewN q) os':=by
 have hcon:=fun W'=>AnyG.cmp_Compare_int Tryz.cmpInt x.1 y.1 W';change ∀ W',Calls Tryz.prog 91 _ _ _ at hcon;generalize Lib.compareInt x.1 y.1=r at hcon ⊢
 go_enter Tryz.func90,Tryz.ntmps90
 go_wp2_with (go_at_call 91; refine (hcon _).mono ?_; rintro e w' ⟨rfl,rfl⟩)
 go_ret
 exact ⟨rfl,0,_,by rw [alloc_eq_grow,alloc_eq_grow,grow_grow]; rfl⟩
theorem sortsSpan:SortsP Tryz.prog 89 90 (·.1):=fun blk cap d w hH hblk hsz=>by
 have eg:∀ args w,(callFunc 90 args).run Tryz.prog w = .ok (.enter 90 args) w:=enters_of Tryz.func90 (by kernel_rfl) rfl;have hcon:=AnyQ.slices_SortFunc Tryz.sortSpan 2 Tryz.isAgg142 Tryz.sizeOf142 encP (fun _=>rfl) (fun x v hv=>by simp [encP] at hv; rcases hv with rfl | rfl <;> rfl) (fun x y=>Lib.compareInt x.1 y.1) (swoP (·.1)) 90 #[] blk 0 cap d w eg (fun _ _ _ _ x y=>spanClosure x y _) hH hblk hsz;exact hcon
theorem sortSpan_a (l:List Span) (hl:l≠[]) (hlen:l.length<4611686018427387904) :
  ACalls E 89 [.arr 0 (142,2) (l.map Span.enc)] [.own 0 0,.fn (.func 90) [] []] (fun a b=>a = .tup []∧∃ l':List Span,l'.Perm l∧l'.Pairwise (fun x y=>x.frm≤y.frm)∧b=[.arr 0 (142,2) (l'.map Span.enc)]):=by
 have h:=sort_a (E:=E) (t:=142) sortsSpan ⟨_,Tryz.func89,rfl,by decide⟩ (l.map fun k=>(k.frm,k.upto)) (by simpa using hl) (by simpa using hlen);have e1:∀ m:List Span,(m.map fun k=>(k.frm,k.upto)).map dvP=m.map Span.enc:=fun m=>by rw [List.map_map]; rfl
 rw [e1] at h;refine h.mono fun a b ⟨ha,l',hp,hs,hb⟩=>⟨ha,l'.map fun p=>⟨p.1,p.2⟩,?_,?_,?_⟩
 ·have:=hp.map fun p:Int × Int=>(⟨p.1,p.2⟩:Span);rw [List.map_map] at this;have e2:((fun p:Int × Int=>(⟨p.1,p.2⟩:Span)) ∘ fun k:Span=>(k.frm,k.upto))=id:=rfl;rw [e2,List.map_id] at this;exact this
 ·exact List.pairwise_map.2 hs
 ·rw [hb,List.map_map];rfl
end Go.Proofs.YtajnanldmhpeaaaGreatDoor.P
