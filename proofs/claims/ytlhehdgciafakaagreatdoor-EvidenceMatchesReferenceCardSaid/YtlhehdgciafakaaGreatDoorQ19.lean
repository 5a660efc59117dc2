/- Lemmas of mine. Conditions: as stated. -/
import Derived.Test.YtlhehdgciafakaaGreatDoorQ16
import Derived.Test.YtlhehdgciafakaaGreatDoorQ18
import Derived.Shelf.SortM.SortNone
set_option linter.unusedVariables false
set_option linter.unusedSimpArgs false
section
namespace Go.Proofs.YtlhehdgciafakaaGreatDoor.P
open Go Go.az
set_option maxRecDepth 100000
set_option maxHeartbeats 4000000
theorem aaE{l:List aT}{t:Int}{k:Nat}{c:aT}(h:l[k]?=some c):fN (l.take (k+1)) t=fN (l.take k) t++(if c.bQ<=t/\t<c.upto then[⟨c.host,c.ar⟩]else[]):=by
 rw[cj h,aas,aat]
end Go.Proofs.YtlhehdgciafakaaGreatDoor.P
end
section
namespace Go.Proofs.YtlhehdgciafakaaGreatDoor.P
open Go Go.az Go.Sort Go.RowKit
end Go.Proofs.YtlhehdgciafakaaGreatDoor.P
end
section
namespace Go.Proofs.YtlhehdgciafakaaGreatDoor.P
open Go Go.az Go.Sort
set_option maxRecDepth 100000
set_option maxHeartbeats 4000000
theorem abq:Rc Tryz.prog 140:=fun blk cap zs w hH hblk bP=>AnyM.slices_Sort_int Tryz.sortInt blk 0 cap zs w hH hblk bP
theorem abr(l:List Int)(hl:l≠[])(hlen:l.length<4611686018427387904) :
  au E 140 [.arr 0 (3,1) (l.map (DV.int .i64))] [.own 0 0] (fun a b=>a=.aG []/\b=[.arr 0 (3,1) ((iw l).map (DV.int .i64))]) :=
 abp abq ⟨_,Tryz.func140,rfl,by decide⟩ l hl hlen
theorem Re{G:List (Nat × DV)}{s:List AV}:bk G s (.const (.slice none 0 0)) (.d .aF):=fun c a _ _ => .d _ _ .aF
theorem abt:au E 140 [.arr 0 (3,1) []] [.own 0 0] (fun a b=>a=.aG []/\b=[.arr 0 (3,1) []]):=by
 unfold au;refine⟨⟨_,Tryz.func140,rfl,by decide⟩,kR rfl,fun c vs h1 h2 h3=>?_⟩;obtain⟨v1,rfl⟩:∃ v1,vs=[v1]:=by
  have:=h3.1
  match vs,this with
  |[a],_=>exact⟨a,rfl⟩
 have dF:c.heap[0]?=some (.arr 0 (3,1) []):=by rw[h1];rfl
 obtain⟨p,cap,rfl⟩:∃ p cap,v1=.slice p 0 cap:=by
  rcases lu dF (h3.2 0 _ v1 rfl rfl)with⟨blk,cap,_,rfl⟩|⟨_,rfl,_⟩
  ·exact⟨_,cap,rfl⟩
  ·exact⟨_,_,rfl⟩
 refine(AnyM.slices_Sort_int_none Tryz.sortInt p cap c.w).mono fun e w' ⟨a1,a2⟩=>?_;subst a2;exact⟨c,.aG [],.tuple #[],a1,rfl,⟨rfl,h1⟩,.aG [] #[] rfl (fun j x v hx=>by simp at hx),h2,Rel.refl c (by rw[h1];exact kR rfl)⟩
theorem abu(l:List Int)(hlen:l.length<4611686018427387904):au E 140 [.arr 0 (3,1) (l.map (DV.int .i64))] [.own 0 0] (fun a b=>a=.aG []/\b=[.arr 0 (3,1) ((iw l).map (DV.int .i64))]):=by
 by_cases h:l=[]
 ·subst h;have e:iw []=[]:=List.perm_nil.1 (xJ []);rw[e];exact abt
 ·exact abr l h hlen
theorem abv{es:List (DV × DV)}(h:nX (DV.int .i64) es):∀ p∈es,eo E.T (.int .i64) p.1:=fun p hp=>by
 obtain⟨n,e⟩:=h p hp;rw[e];exact⟨_,rfl⟩
theorem abw(es:List (DV × DV)):au E 76 [.map es] [.map 0] (fun a b=>a=.fn (.func 141) [] [.ptr 1 0]/\b=[.map es,.cells [.map 0]]):=by
 refine aE ?_;exact⟨rfl,rfl⟩
end Go.Proofs.YtlhehdgciafakaaGreatDoor.P
end
section
namespace Go.az
open Go Go.RowKit
section
variable {E:Env} {aj:FuncId} {R:cT} {k:List aY} {s:List AV} {h:List ae}
end
section
variable {E:Env} {s:List AV} {h:List ae}
end
end Go.az
end
section
namespace Go.Proofs.YtlhehdgciafakaaGreatDoor.P
open Go Go.az
set_option maxRecDepth 100000
set_option maxHeartbeats 4000000
theorem acS(s z:Text)(hs:s.length<=maxLen)(hz:z.length<=maxLen):aq E 82 [.str s,.str z] (· = .bool (Nm.fZ s z)):=by
 have c1:=xi s z hs hz;refine eP Tryz.func82 ?_;refine ao (c1) ?_;refine gO Tryz.func82 ?_
 with_reducible rfl
theorem R0(s:Text)(hs:s.length<=maxLen)(hv:Nm.valid s=true):aq E 85 [.str s] (· = .int .i64 (Nm.labels s).length):=by
 have c1:=Eg s hs;rw[zm,if_pos hv]at c1;refine eP Tryz.func85 ?_;refine ao (c1) ?_;refine gO Tryz.func85 ?_;simp
end Go.Proofs.YtlhehdgciafakaaGreatDoor.P
end
section
namespace Go.Proofs.YtlhehdgciafakaaGreatDoor.P
open Go Go.az

end Go.Proofs.YtlhehdgciafakaaGreatDoor.P
end
