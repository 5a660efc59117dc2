/- Several texts of mine, one behind the other. Conditions: as each says. -/
import Derived.Test.YtfmdaiojokniiaaGreatDoorY42
import Derived.Test.YtfmdaiojokniiaaGreatDoorY44
set_option linter.unusedVariables false
set_option linter.unusedSimpArgs false
section
namespace Go.Proofs.YtfmdaiojokniiaaGreatDoor.P
open Go Go.ax Go.Sort
set_option maxRecDepth 100000
set_option maxHeartbeats 4000000
theorem Kl {G:List (Nat × DV)} {s:List AV}:aZ G s (.const (.slice none 0 0)) (.d .aL):=fun c a _ _ => .d _ _ .aL
theorem TG:aw E 182 [.arr 0 (3,1) []] [.own 0 0] (fun a b=>a = .aF []∧b=[.arr 0 (3,1) []]):=by
 unfold aw;refine ⟨⟨_,Tryz.func182,rfl,by decide⟩,l3 rfl,fun c vs h1 h2 h3=>?_⟩;obtain ⟨v1,rfl⟩:∃ v1,vs=[v1]:=by
  have:=h3.1
  match vs,this with
  | [a],_=>exact ⟨a,rfl⟩
 have c8:c.heap[0]? = some (.arr 0 (3,1) []):=by rw [h1]; rfl
 obtain ⟨p,cap,rfl⟩:∃ p cap,v1 = .slice p 0 cap:=by
  rcases lU c8 (h3.2 0 _ v1 rfl rfl) with ⟨blk,cap,_,rfl⟩ | ⟨_,rfl,_⟩
  ·exact ⟨_,cap,rfl⟩
  ·exact ⟨_,_,rfl⟩
 refine (AnyM.slices_Sort_int_none Tryz.sortInt p cap c.w).mono fun e w' ⟨a1,a2⟩=>?_;subst a2;exact ⟨c,.aF [],.tuple #[],a1,rfl,⟨rfl,h1⟩,.aF [] #[] rfl (fun j x v hx=>by simp at hx),h2,Rel.refl c (by rw [h1]; exact l3 rfl)⟩
theorem TH (l:List Int) (hlen:l.length<4611686018427387904):aw E 182 [.arr 0 (3,1) (l.map (DV.int .i64))] [.own 0 0] (fun a b=>a = .aF []∧b=[.arr 0 (3,1) ((fh l).map (DV.int .i64))]):=by
 by_cases h:l=[]
 ·subst h;have e:fh []=[]:=List.perm_nil.1 (uQ []);rw [e];exact TG
 ·exact TF l h hlen
theorem TI {es:List (DV × DV)} (h:lr (DV.int .i64) es):∀ p∈es,cW E.T (.int .i64) p.1:=fun p hp=>by
 obtain ⟨n,e⟩:=h p hp;rw [e];exact ⟨_,rfl⟩
theorem TJ (es:List (DV × DV)):aw E 110 [.map es] [.map 0] (fun a b=>a = .fn (.func 183) [] [.ptr 1 0]∧b=[.map es,.cells [.map 0]]):=by
 refine aw.run af (fn:=Tryz.f110) Tryz.func110 (body:=Tryz.f110.body.getD .skip) rfl (by decide) 2000 rfl ?_;(conv=>whnf);exact ⟨rfl,rfl⟩
end Go.Proofs.YtfmdaiojokniiaaGreatDoor.P
end
section
namespace Go.ax
open Go Go.RowKit
section
variable {E:Env} {ag:FuncId} {R:cx} {k:List aP} {s:List AV} {h:List ae}
end
end Go.ax
end
section
namespace Go.ax
open Go Go.RowKit
section
variable {E:Env} {s:List AV} {h:List ae}
end
end Go.ax
end
