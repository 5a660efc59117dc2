/- Lists of numbers sorted, and made short: the library's contracts at this seat. Conditions: lengths that Go allows. -/
import Derived.Test.YthikfaephakahaaGreatDoorZSrtC
import Derived.Test.YthikfaephakahaaGreatDoorZShelf
import Derived.Test.YthikfaephakahaaGreatDoorZM6
import Derived.Shelf.SortM.SortNone
set_option linter.unusedVariables false
set_option linter.unusedSimpArgs false
namespace Go.Proofs.YthikfaephakahaaGreatDoor.P
open Go Go.Eng Go.Sort
set_option maxRecDepth 100000
set_option maxHeartbeats 4000000
theorem sortInts:SortsI Tryz.prog 108:=fun blk cap zs w hH hblk hsz=>AnyM.slices_Sort_int Tryz.sortInt blk 0 cap zs w hH hblk hsz
theorem sortInt_a (l:List Int) (hl:l≠[]) (hlen:l.length<4611686018427387904) :
  ACalls E 108 [.arr 0 (3,1) (l.map (DV.int .i64))] [.own 0 0] (fun a b=>a = .tup []∧b=[.arr 0 (3,1) ((sortI l).map (DV.int .i64))]) :=
 sortI_a sortInts ⟨_,Tryz.func108,rfl,by decide⟩ l hl hlen
theorem one_nil {bar:Nat→Prop} {w:World} {vs:List Value} (h:VLD bar w [.nilsl] vs):vs=[.slice none 0 0]:=by
 obtain ⟨hl,hv⟩:=h;obtain ⟨v,rfl⟩:∃ v,vs=[v]:=by
  match vs,hl with
  | [v],_=>exact ⟨v,rfl⟩
 have:=hv 0 .nilsl v rfl rfl;cases this;rfl
theorem sortNil_p:PCalls E 108 [.nilsl] (· = .tup []):=by
 unfold PCalls;refine ⟨⟨_,Tryz.func108,rfl,by decide⟩,fun bar w vs _ _ hv=>?_⟩;obtain rfl:=one_nil hv;exact (AnyM.slices_Sort_int_none Tryz.sortInt none 0 w).mono fun e w' ⟨h1,h2⟩=>⟨_,_,h1,rfl,.tup [] #[] rfl (fun j x v hx=>by simp at hx),by rw [h2]; exact Ext.refl w⟩
end Go.Proofs.YthikfaephakahaaGreatDoor.P
