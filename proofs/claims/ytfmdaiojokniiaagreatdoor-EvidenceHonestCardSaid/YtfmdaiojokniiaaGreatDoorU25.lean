/- Lemmas of mine. Conditions: as stated. -/
import Derived.Test.YtfmdaiojokniiaaGreatDoorU23
import Derived.Shelf.SortM.SortNone
set_option linter.unusedVariables false
set_option linter.unusedSimpArgs false
section
namespace Go.Proofs.YtfmdaiojokniiaaGreatDoor.P
open Go Go.ay Go.Sort
set_option maxRecDepth 100000
set_option maxHeartbeats 4000000
theorem Y2:Oq Tryz.prog 182:=fun blk cap zs w hH hblk bP=>AnyM.slices_Sort_int Tryz.sortInt blk 0 cap zs w hH hblk bP
theorem Y3(l:List Int)(hl:l≠[])(hlen:l.length<4611686018427387904) :
  ar E 182 [.arr 0 (3,1) (l.map (DV.int .i64))] [.own 0 0] (fun a b=>a=.aD []/\b=[.arr 0 (3,1) ((gm l).map (DV.int .i64))]) :=
 Y1 Y2 ⟨_,Tryz.func182,rfl,by decide⟩ l hl hlen
theorem Ot{G:List (Nat × DV)}{s:List AV}:aZ G s (.const (.slice none 0 0)) (.d .aH):=fun c a _ _ => .d _ _ .aH
theorem Y4:ar E 182 [.arr 0 (3,1) []] [.own 0 0] (fun a b=>a=.aD []/\b=[.arr 0 (3,1) []]):=by
 unfold ar;refine⟨⟨_,Tryz.func182,rfl,by decide⟩,jR rfl,fun c vs h1 h2 h3=>?_⟩;obtain⟨v1,rfl⟩:∃ v1,vs=[v1]:=by
  have:=h3.1
  match vs,this with
  |[a],_=>exact⟨a,rfl⟩
 have dq:c.heap[0]?=some (.arr 0 (3,1) []):=by rw[h1];rfl
 obtain⟨p,cap,rfl⟩:∃ p cap,v1=.slice p 0 cap:=by
  rcases kC dq (h3.2 0 _ v1 rfl rfl)with⟨blk,cap,_,rfl⟩|⟨_,rfl,_⟩
  ·exact⟨_,cap,rfl⟩
  ·exact⟨_,_,rfl⟩
 refine(AnyM.slices_Sort_int_none Tryz.sortInt p cap c.w).mono fun e w' ⟨a1,a2⟩=>?_;subst a2;exact⟨c,.aD [],.tuple #[],a1,rfl,⟨rfl,h1⟩,.aD [] #[] rfl (fun j x v hx=>by simp at hx),h2,Rel.refl c (by rw[h1];exact jR rfl)⟩
theorem Y5(l:List Int)(hlen:l.length<4611686018427387904):ar E 182 [.arr 0 (3,1) (l.map (DV.int .i64))] [.own 0 0] (fun a b=>a=.aD []/\b=[.arr 0 (3,1) ((gm l).map (DV.int .i64))]):=by
 by_cases h:l=[]
 ·subst h;have e:gm []=[]:=List.perm_nil.1 (xZ []);rw[e];exact Y4
 ·exact Y3 l h hlen
theorem Y6{es:List (DV × DV)}(h:mA (DV.int .i64) es):∀ p∈es,dn E.T (.int .i64) p.1:=fun p hp=>by
 obtain⟨n,e⟩:=h p hp;rw[e];exact⟨_,rfl⟩
theorem Y7(es:List (DV × DV)):ar E 110 [.map es] [.map 0] (fun a b=>a=.fn (.func 183) [] [.ptr 1 0]/\b=[.map es,.cells [.map 0]]):=by
 refine ar.run ab (fn:=Tryz.f110) Tryz.func110 (body:=Tryz.f110.body.getD .skip) rfl (by decide) 2000 rfl ?_;(conv=>whnf);exact⟨rfl,rfl⟩
end Go.Proofs.YtfmdaiojokniiaaGreatDoor.P
end
section
namespace Go.ay
open Go Go.RowKit
section
variable {E:Env} {s:List AV} {h:List af}
def Ou(E:Env)(s:List AV)(h:List af)(o:Oper)(k:List AV->List af->Prop):Prop:=match o.op with
 | .insert t m x v=>aT E.T t False fun ti=>match ti.k with
  | .map kt _=>ca E.G s m False fun
   | .map b=>aT h b False fun
    | .map es=>ca E.G s x False fun
     | .d y=>ca E.G s v False fun
      | .d z=>wH E kt False fun kd=>need (dn E.T kd y/\∀ p∈es,dn E.T kd p.1) (fz h b (.map (bU y z es)) fun h'=>cd s o.dst (.d .undef) fun s'=>k s' h')
      |_=>False
     |_=>False
    |_=>False
   |_=>False
  |_=>False
 |_=>False
theorem I.insert(hE:E.OK){ag:FuncId}{R:cF}{ops:Array Oper}{td:List aP}{lits:List Nat}{o:Oper}{r:List Oper}(hg:o.guard=none)
  (H:Ou E s h o fun s' h'=>I E ag R lits (.bu ops r::td) s' h'):I E ag R lits (.bu ops (o::r)::td) s h:=by
 unfold Ou at H;split at H
 case h_2=>exact H.elim
 rename_i t m x v cm;rcases bo H with H|⟨ti,bV,H⟩
 ·exact H.elim
 split at H
 case h_2=>exact H.elim
 rename_i kt e hk;rcases cq H with H|⟨a,ha,H⟩
 ·exact H.elim
 split at H
 case h_2=>exact H.elim
 rename_i b;rcases bo H with H|⟨bx,hb,H⟩
 ·exact H.elim
 split at H
 case h_2=>exact H.elim
 rename_i es;rcases cq H with H|⟨y,hy,H⟩
 ·exact H.elim
 split at H
 case h_2=>exact H.elim
 rename_i y;rcases cq H with H|⟨z,hz,H⟩
 ·exact H.elim
 split at H
 case h_2=>exact H.elim
 rename_i z;rcases Bu H with H|⟨kd,hT,H⟩
 ·exact H.elim
 obtain⟨⟨f1,f2⟩,H⟩:=mR H;rw[gq,dP]at H;exact .of (.op (fS hg) (Jn hE (.inr cm) bV hk hT hb ha hy hz f1 f2) H.to)
end
section
variable {E:Env} {ag:FuncId} {R:cF} {k:List aP} {s:List AV} {h:List af}
end
section
variable {E:Env} {s:List AV} {h:List af}
end
end Go.ay
end
section
namespace Go.Proofs.YtfmdaiojokniiaaGreatDoor.P
open Go Go.ay
set_option maxRecDepth 100000
set_option maxHeartbeats 4000000
theorem aaq(z:aX)(q:bB):(qb z q).kind≠0/\(qb z q).kind≠7:=by
 unfold qb;repeat' split
 all_goals simp
theorem aar{z:aX}{q:bB}(h:(o9 z q).kind=0\/(o9 z q).kind=7):(o9 z q).ae=[]:=by
 have hk:=aaq z q
 revert h
 unfold o9 tF;repeat' split
 all_goals first|(intro h;rcases h with h|h<;>first|exact absurd h hk.1|exact absurd h hk.2)|(intro h;rfl)|(intro h;simp at h)
theorem aas{a:dR}(h:a.kind=0\/a.kind=7->a.ae=[]):norm (Ib a)=a.enc:=by
 unfold Ib;by_cases e:a.kind=0\/a.kind=7
 ·rw[if_pos e];simp[norm,uE,dR.enc,h e]
 ·rw[if_neg e];rfl
theorem aat(z:aX)(q:bB)(hf:z.Fits)(hn:q.name.length<=maxLen):aq E 88 [z.enc,q.enc] (· = .aD [(o9 z q).enc,.int .i64 (rM z q)]):=by
 refine aq.norm ?_;refine(aao z q hf hn).mono fun r h=>?_;subst h;have:=aas (aar (z:=z) (q:=q));simp only[norm,uE,this]
end Go.Proofs.YtfmdaiojokniiaaGreatDoor.P
end
section
namespace Go.ay
open Go
def Dv:AV->AV
 | .d x => .d (norm x)
 |x=>x
def Dw:AV->AV
 | .agg l => .agg (l.map Dv)
 |x=>Dv x
def Dx:AV->AV
 | .aD l => .aD (l.map Dw)
 |x=>Dw x
section
variable {c:Cx} {x:AV} {v:Value}
theorem O8(h:VR c x v):VR c (Dv x) v:=by
 unfold Dv;split
 ·cases h with|d _ _ h=>exact .d _ _ (FF h)
 ·exact h
theorem O9(h:VR c x v):VR c (Dw x) v:=by
 unfold Dw;split
 ·obtain⟨vs,rfl,h1⟩:=ph h;exact v7 (sr O8 h1)
 ·exact O8 h
theorem aaH(h:VR c x v):VR c (Dx x) v:=by
 unfold Dx;split
 ·obtain⟨vs,rfl,h1⟩:=yU h;exact yV (sr O9 h1)
 ·exact O9 h
theorem ar.norm{E:Env}{f:FuncId}{h:List af}{args:List AV}{Q:AV->List af->Prop}(H:ar E f h args fun a b=>Q (Dx a) b):ar E f h args Q:=by
 unfold ar at H ⊢;exact⟨H.1,H.2.1,fun c vs h1 h2 h3=>(H.2.2 c vs h1 h2 h3).mono fun e w' ⟨c',r,v,k1,k2,k3,k4,k5⟩=>⟨c',Dx r,v,k1,k2,k3,aaH k4,k5⟩⟩
end
end Go.ay
end
