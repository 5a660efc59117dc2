/- Lemmas of mine. Conditions: as stated. -/
import Derived.Test.YtfmdaiojokniiaaGreatDoorS22
import Derived.Test.YtfmdaiojokniiaaGreatDoorS26
set_option linter.unusedVariables false
set_option linter.unusedSimpArgs false
open List renaming length_cons->aef,length_replicate->afi,getElem?_set_self->aei,mem_append->aeI,mem_singleton->ah9,length_take->aeu,length_map->aff,mem_map->aer,map_map->agj
open Nat renaming zero_le->afv
section
namespace Go.Proofs.YtfmdaiojokniiaaGreatDoor.P
open Go Go.aA
set_option maxRecDepth 100000
set_option maxHeartbeats 4000000
def jV(gs:List (Int × List aK))(c:Claim):List (Int × List aK):=match gs.getLast? with
 |none=>gs++[(c.time,[⟨c.host,c.au⟩])]
 |some g=>if g.1=c.time then gs.dropLast++[(g.1,g.2++[⟨c.host,c.au⟩])]else gs++[(c.time,[⟨c.host,c.au⟩])]
def sf(l:List Claim):List (Int × List aK):=l.foldl jV []
def cR(l:List Claim):List Step:=(sf l).map fun g=>⟨g.1,⟨g.2⟩⟩
theorem yx(l:List Claim)(c:Claim):sf (l++[c])=jV (sf l) c:=by simp[sf]
theorem abR{gs:List (Int × List aK)}{c:Claim}{n:Nat}(h:gs.length<=n/\∀ g∈gs,g.2.length<=n):(jV gs c).length<=n+1/\∀ g∈jV gs c,g.2.length<=n+1:=by
 have dF:(gs++[(c.time,[(⟨c.host,c.au⟩:aK)])]).length<=n+1/\∀ g∈gs++[(c.time,[(⟨c.host,c.au⟩:aK)])],g.2.length<=n+1:=by
  refine⟨by simp;exact h.1,fun g hg=>?_⟩;rcases aeI.1 hg with hg|hg
  ·have:=h.2 g hg;omega
  ·rw[ah9.1 hg];simp
 unfold jV;split
 ·exact dF
 ·rename_i g hg;split
  ·have hm:=List.mem_of_getLast? hg;refine⟨by simp;have:=h.1;omega,fun y hy=>?_⟩;rcases aeI.1 hy with hy|hy
   ·have:=h.2 y (List.dropLast_subset _ hy);omega
   ·rw[ah9.1 hy];have:=h.2 g hm;simp;exact this
  ·exact dF
theorem I6(l:List Claim):(sf l).length<=l.length/\∀ g∈sf l,g.2.length<=l.length:=by
 suffices h:∀ (l:List Claim) (gs:List (Int × List aK)) (n:Nat),(gs.length<=n/\∀ g∈gs,g.2.length<=n)->(l.foldl jV gs).length<=n+l.length/\∀ g∈l.foldl jV gs,g.2.length<=n+l.length by
  have:=h l [] 0 ⟨Nat.le_refl _,fun g hg=>by cases hg⟩
  rwa [Nat.zero_add]at this
 intro l
 induction l with
 |nil=>intro gs n h;exact h
 |cons c l ih =>
  intro gs n h;have:=ih (jV gs c) (n+1) (abR h);rw[List.foldl_cons,aef,show n+(l.length+1)=n+1+l.length by omega];exact this
theorem I7{gs:List (Int × List aK)}{c:Claim}(h:∀ g,gs.getLast?=some g->g.1≠c.time):jV gs c=gs++[(c.time,[⟨c.host,c.au⟩])]:=by
 unfold jV;split
 ·rfl
 ·rename_i g hg;rw[if_neg (h g hg)]
theorem P6{gs:List (Int × List aK)}{g:Int × List aK}{c:Claim}(h:g.1=c.time):jV (gs++[g]) c=gs++[(g.1,g.2++[⟨c.host,c.au⟩])]:=by
 unfold jV;simp[h]
structure GD where
 t:Int
 ps:List aK
 blk:Nat
 cap:Nat
def GD.slice(d:GD):Value := .slice (some ⟨d.blk,0,none⟩) d.ps.length d.cap
def GD.cB(d:GD):DV := .agg [.int .i64 d.t,.raw d.slice]
def GD.row(d:GD):Row:=⟨d.blk,d.cap,(61,3),d.ps.map aK.enc⟩
def GD.sh(d:GD):Int × List aK:=(d.t,d.ps)
theorem abS(e:eH)(c1:ar E 20 [e.enc] (· = .bool (ju e)))(hn:e.bM.length<=400)(c2:ar E 22 [e.before.enc,.sl ((cR e.bM).map Step.enc)] (· = .aF [(ew e.before (cR e.bM)).enc,.int .i64 (applyN e.before (cR e.bM))])) :
  ar E 13 [e.enc] (· = if ju e then .aF [(ew e.before (cR e.bM)).enc,.int .i64 (applyN e.before (cR e.bM))]else .aF [mV.enc,.int .i64 1]):=by
 cases hv:ju e
 ·rw[hv]at c1;rw[if_neg (by decide)];clear c2 hv hn;obtain⟨⟨ay,aB,anchor,hints,bJ,fin⟩,sl,cl,tl⟩:=e;show ar E _ [DV.agg [.sl (ay.map Host.enc),.sl (aB.map aQ.enc),.str anchor.name,.int .i64 anchor.type,.int .i64 anchor.bY,.sl (anchor.data.map Datum.enc),.sl (hints.map (.int .i64)),.int .i64 bJ,.int .i64 fin,.sl (sl.map Step.enc),.sl (cl.map Claim.enc),.sl (tl.map cO.enc)]] _;refine ar.norm ?_;refine eP F13 ?_;repeat' (first|with_reducible(first|refine aq (c1) ?_|refine ax (c1) ?_|refine cY ?_|refine cN ?_|refine ai (fun _=>?_) (fun _=>?_))|refine gA F13 ?_|refine gB ?_|with_reducible rfl)
  rfl
 rw[if_pos rfl];rw[hv]at c1;obtain⟨⟨ay,aB,anchor,hints,bJ,fin⟩,sl,cl,tl⟩:=e;simp only at c2 hn ⊢;show ar E _ [DV.agg [.sl (ay.map Host.enc),.sl (aB.map aQ.enc),.str anchor.name,.int .i64 anchor.type,.int .i64 anchor.bY,.sl (anchor.data.map Datum.enc),.sl (hints.map (.int .i64)),.int .i64 bJ,.int .i64 fin,.sl (sl.map Step.enc),.sl (cl.map Claim.enc),.sl (tl.map cO.enc)]] _;refine eP F13 ?_;repeat' (first|with_reducible(first|refine aq (c1) ?_|refine ax (c1) ?_|refine cY ?_|refine cN ?_|refine ai (fun _=>?_) (fun _=>?_))|refine gA F13 ?_|refine gB ?_|with_reducible rfl)
 refine gO F13 ?_;refine J.o9 2 0 (57,2) (by decide) rfl rfl ?_;refine J.CK (κ:=Nat × List GD) [8,17,18,19,20,21,22,23,24] (fun x=>[(17,.d (.int .i64 x.1))]) (fun x=>[(2,.cells [.own 4 1]),(3,.cells [.d (.bool false)]),(4,.arr 1 (57,2) (x.2.map GD.cB))]) (fun x=>x.2.reverse.map fun d => .row d.row) (fun x=>x.1<=cl.length/\x.2.map GD.sh=sf (cl.take x.1)) (fun x=>cl.length-x.1) (0,[]) ⟨afv _,rfl⟩ rfl ?_ ?_
 ·(conv=>whnf);repeat (first|exact trivial|(rw[fF];conv=>whnf)|(refine sI ?_;conv=>whnf))
  refine And.intro rfl ?_;(conv=>whnf);repeat (first|exact trivial|(rw[fF];conv=>whnf)|(refine sI ?_;conv=>whnf))
 generalize hQ:(ux fun x:DV=>_)=Q;rintro⟨k,ds⟩ ⟨hk,gz⟩ IH;simp only at hk gz;refine J.head ag F13 2000 ?_;(conv=>whnf);refine ai (fun h5=>?_) (fun h5=>?_)
 ·have ah:k<cl.length:=by simpa using h5
  obtain⟨c,hc⟩:=aH ah;refine gO F13 ?_;refine aD (e:=c.enc) (aO hc) rfl ?_;(conv=>whnf);repeat ((fail_if_success (first|(refine J.mG (fn:=Tryz.f37) rfl rfl (aV rfl) (lT (aV rfl)) Tryz.func37 rfl (by decide) ?_)|fail));(refine J.run ag F13 1 ?_);(conv=>whnf))
  refine J.mG (fn:=Tryz.f37) rfl rfl (aV rfl) (lT (aV rfl)) Tryz.func37 rfl (by decide) ?_;(conv=>whnf);refine fW ?_
  refine gO F37 ?_;have Aj:=I6 (cl.take k);rw[<- gz]at Aj;have hk4:(cl.take k).length<=400:=by rw[aeu];omega
  have hkk:(cl.take k).length<=k:=by rw[aeu];omega
  have iS:ds.length<=k:=by have:=Aj.1;rw[aff]at this;omega
  have kc:∀ d∈ds,d.ps.length<=k:=fun d hd=>by have:=Aj.2 d.sh (aer.2 ⟨d,hd,rfl⟩);exact Nat.le_trans this hkk
  rcases List.eq_nil_or_concat ds with rfl|⟨dD,d,rfl⟩
  ·simp only[List.map_nil,List.length_nil];refine dU ?_;refine a8 ?_;refine gD ?_;refine gO F37 ?_;refine a8 ?_;refine gO F37 ?_;refine aW ⟨by simp,by simp[DV.cells]⟩ ?_;refine gO F37 ?_;have hN:((([]++[DV.agg [.int .i64 c.time,.aI]]).length:Nat):Int)=((0:Nat):Int)+1:=by simp<;>omega
   have fN:IntKind.i64.wrap (((([]++[DV.agg [.int .i64 c.time,.aI]]).length:Nat):Int)-1)=((0:Nat):Int):=by rw[hN,wrap64 (by omega) (by omega)];omega
   have dG:([]++[DV.agg [.int .i64 c.time,.aI]])[0]?=some (DV.agg [.int .i64 c.time,.aI]):=by simp
   refine aW ⟨by rw[fN];omega,by rw[fN,hN];omega⟩ ?_;refine gO F37 ?_;refine J.Iz Ct 11 2 rfl (by kernel_rfl) (by kernel_rfl) rfl rfl rfl (by kernel_rfl) (by simp only[aef,afi];omega) (61,3) ([(⟨c.host,c.au⟩:aK).enc]) ((([]:List GD)).reverse.map fun d => .row d.row) ?_;refine bT.o ag ?_;(conv=>whnf);refine bT.o ag ?_;(conv=>whnf);refine bT.o ag ?_;(conv=>whnf);refine bT.o ag ?_;(conv=>whnf);refine bT.op rfl (.d .aI) (yk ag (by(conv=>whnf);refine aD (e:=DV.agg [.int .i64 c.time,.aI]) ⟨by omega,by first|exact dG|(rw[fN];exact dG)⟩ rfl ⟨rfl,rfl⟩)) (yk ag (by(conv=>whnf);refine aD (e:=DV.agg [.int .i64 c.time,.aI]) ⟨by omega,by first|exact dG|(rw[fN];exact dG)⟩ rfl ⟨rfl,rfl⟩)) ?_;(conv=>whnf);refine bT.o ag ?_;(conv=>whnf);refine bT.o ag ?_;(conv=>whnf);refine bT.o ag ?_;(conv=>whnf);refine bT.o ag ?_;(conv=>whnf);refine bT.o ag ?_;(conv=>whnf);refine bT.o ag ?_;(conv=>whnf);refine bT.nil (And.intro ?_ ?_)
   ·intro c0 cx a q0 q1 q2 q3 q4 q5;refine OY q1 q3 q4 q5 q2 (IA ag ?_) (by simp) (by rw[q0];exact afv _);(conv=>whnf);refine aW ⟨by simp,by simp[DV.cells]⟩ ?_;(conv=>whnf);exact⟨rfl,rfl⟩
   refine bT.from ?_;(conv=>whnf);refine bT.o ag ?_;(conv=>whnf);refine bT.o ag ?_;(conv=>whnf);refine bT.nil fun blk cap=>?_;refine J.last ?_;(conv=>whnf);refine tS.of ag rfl ?_;(conv=>whnf);refine aD (e:=DV.agg [.int .i64 c.time,.aI]) ⟨by omega,by rw[fN];exact dG⟩ rfl ?_;(conv=>whnf);refine And.intro rfl ?_;(conv=>whnf);refine gO F37 ?_;refine aR ?_;refine gO F37 ?_;refine aU (by simp<;>omega) ?_;refine gO F37 ?_;have dR:∀ y:DV,(([]++[DV.agg [.int .i64 c.time,.aI]]).set (0) y)[0]?=some y:=fun y=>aei (aX dG);refine aD (e:=DV.agg [.int .i64 c.time,.raw (.slice (some ⟨blk,0,none⟩) ([(⟨c.host,c.au⟩:aK).enc]).length cap)]) ⟨by omega,by rw[fN];exact dR _⟩ rfl ?_;refine gO F37 ?_;refine J.IB (show ig _ _ _ true from wR (j:=6) (b:=false) (g:=false) rfl rfl rfl rfl) (Iy ag rfl rfl rfl rfl (aV rfl)) ?_;(conv=>whnf);refine gO F37 ?_;(conv=>whnf);repeat ((fail_if_success (first|(refine J.kx ag F37 rfl rfl rfl (L:=[]) rfl ?_)|fail));(refine J.run ag F37 1 ?_);(conv=>whnf))
   refine J.kx ag F37 rfl rfl rfl (L:=[]) rfl ?_;(conv=>whnf);refine fW ?_
   refine gO F13 ?_;refine J.vk (rows:=((([]:List GD))++[(⟨c.time,[(⟨c.host,c.au⟩:aK)],blk,cap⟩:GD)]).reverse.map fun d:GD=>bo.row d.row) (List.Perm.of_eq (by simp[GD.row])) ?_;refine J.back (IH (k+1,(([]:List GD))++[(⟨c.time,[(⟨c.host,c.au⟩:aK)],blk,cap⟩:GD)]) ⟨ah,by simp only;rw[cG hc,yx,<- gz];rw[I7 (fun g hg=>by simp at hg)];simp[GD.sh]⟩ (by simp only;omega)) ?_;(conv=>whnf);repeat (first|exact trivial|(rw[fF];conv=>whnf)|(refine sI ?_;conv=>whnf))
   refine And.intro (congrArg DV.bool (decide_eq_false (by simp<;>omega))) ?_;(conv=>whnf);repeat (first|exact trivial|(rw[fF];conv=>whnf)|(refine sI ?_;conv=>whnf))
   refine And.intro (by rw[fN];simp[GD.cB,GD.slice]) ?_;(conv=>whnf);repeat (first|exact trivial|(rw[fF];conv=>whnf)|(refine sI ?_;conv=>whnf))
  ·simp only[List.concat_eq_append]at gz IH iS kc ⊢;have kF:=kc d (by simp);have adK:dD.length+1<=k:=by simpa using iS
   have abU:((dD++[d]).map GD.cB)[dD.length]?=some d.cB:=by simp
   have hlen:(((dD++[d]).map GD.cB).length:Int)=dD.length+1:=by simp
   have hw:IntKind.i64.wrap (((((dD++[d]).map GD.cB).length:Nat):Int)-1)=(dD.length:Int):=by rw[hlen,wrap64 (by omega) (by omega)];omega
   refine dU ?_;refine aU (by rw[hlen];simp;omega) ?_;refine gD ?_;refine aW ⟨by rw[hw];omega,by rw[hw,hlen];omega⟩ ?_;refine gD ?_;refine aD (e:=d.cB) ⟨by omega,by rw[hw];exact abU⟩ rfl ?_;refine gD ?_;refine gO F37 ?_;by_cases ht:d.t=c.time
   ·refine aU (by simpa using ht) ?_;refine gO F37 ?_;have hN:((((dD++[d]).map GD.cB).length:Nat):Int)=((dD.length:Nat):Int)+1:=by simp<;>omega
    have fN:IntKind.i64.wrap (((((dD++[d]).map GD.cB).length:Nat):Int)-1)=((dD.length:Nat):Int):=by rw[hN,wrap64 (by omega) (by omega)];omega
    have dG:((dD++[d]).map GD.cB)[dD.length]?=some (d.cB):=by simp
    refine aW ⟨by rw[fN];omega,by rw[fN,hN];omega⟩ ?_;refine gO F37 ?_;refine J.vk (rows := .row d.row::dD.reverse.map fun d => .row d.row) (List.Perm.of_eq (by show List.map _ (List.reverse (dD++[d]))=_;simp)) ?_;refine J.Iz Ct 11 2 rfl (by kernel_rfl) (by kernel_rfl) rfl rfl rfl (by kernel_rfl) (by simp only[aef,afi];omega) (61,3) (d.ps.map aK.enc++[(⟨c.host,c.au⟩:aK).enc]) (dD.reverse.map fun d => .row d.row) ?_;refine bT.o ag ?_;(conv=>whnf);refine bT.o ag ?_;(conv=>whnf);refine bT.o ag ?_;(conv=>whnf);refine bT.o ag ?_;(conv=>whnf);refine bT.op rfl (.d (.raw d.slice)) (yk ag (by(conv=>whnf);refine aD (e:=d.cB) ⟨by omega,by first|exact dG|(rw[fN];exact dG)⟩ rfl ⟨rfl,rfl⟩)) (yk ag (by(conv=>whnf);refine aD (e:=d.cB) ⟨by omega,by first|exact dG|(rw[fN];exact dG)⟩ rfl ⟨rfl,rfl⟩)) ?_;(conv=>whnf);refine bT.o ag ?_;(conv=>whnf);refine bT.o ag ?_;(conv=>whnf);refine bT.o ag ?_;(conv=>whnf);refine bT.o ag ?_;(conv=>whnf);refine bT.o ag ?_;(conv=>whnf);refine bT.o ag ?_;(conv=>whnf);refine bT.nil (And.intro ?_ ?_)
    ·intro c0 cx a q0 q1 q2 q3 q4 q5;refine Zq (bA:=d.row) q1 q3 q4 q5 q2 (d:=37) (by simp only[GD.row,aff];rfl) (IA ag ?_) (by simp) (by rw[q0];exact afv _);(conv=>whnf);refine aW ⟨by simp[GD.row];omega,by simp[DV.cells]⟩ ?_;(conv=>whnf);exact⟨rfl,rfl⟩
    refine bT.from ?_;(conv=>whnf);refine bT.o ag ?_;(conv=>whnf);refine bT.o ag ?_;(conv=>whnf);refine bT.nil fun blk cap=>?_;refine J.last ?_;(conv=>whnf);refine tS.of ag rfl ?_;(conv=>whnf);refine aD (e:=d.cB) ⟨by omega,by rw[fN];exact dG⟩ rfl ?_;(conv=>whnf);refine And.intro rfl ?_;(conv=>whnf);refine gO F37 ?_;refine aR ?_;refine gO F37 ?_;refine aU (by simp<;>omega) ?_;refine gO F37 ?_;have dR:∀ y:DV,(((dD++[d]).map GD.cB).set (dD.length) y)[dD.length]?=some y:=fun y=>aei (aX dG);refine aD (e:=DV.agg [.int .i64 d.t,.raw (.slice (some ⟨blk,0,none⟩) (d.ps.map aK.enc++[(⟨c.host,c.au⟩:aK).enc]).length cap)]) ⟨by omega,by rw[fN];exact dR _⟩ rfl ?_;refine gO F37 ?_;refine J.IB (show ig _ _ _ true from wR (j:=6) (b:=false) (g:=false) rfl rfl rfl rfl) (Iy ag rfl rfl rfl rfl (aV rfl)) ?_;(conv=>whnf);refine gO F37 ?_;(conv=>whnf);repeat ((fail_if_success (first|(refine J.kx ag F37 rfl rfl rfl (L:=[]) rfl ?_)|fail));(refine J.run ag F37 1 ?_);(conv=>whnf))
    refine J.kx ag F37 rfl rfl rfl (L:=[]) rfl ?_;(conv=>whnf);refine fW ?_
    refine gO F13 ?_;refine J.vk (rows:=(dD++[(⟨d.t,d.ps++[(⟨c.host,c.au⟩:aK)],blk,cap⟩:GD)]).reverse.map fun d:GD=>bo.row d.row) (List.Perm.of_eq (by simp[GD.row])) ?_;refine J.back (IH (k+1,dD++[(⟨d.t,d.ps++[(⟨c.host,c.au⟩:aK)],blk,cap⟩:GD)]) ⟨ah,by simp only;rw[cG hc,yx,<- gz];rw[show(dD++[d]).map GD.sh=dD.map GD.sh++[d.sh] by simp,P6 (show d.sh.1=c.time from ht)];simp[GD.sh]⟩ (by simp only;omega)) ?_;(conv=>whnf);repeat (first|exact trivial|(rw[fF];conv=>whnf)|(refine sI ?_;conv=>whnf))
    refine And.intro (congrArg DV.bool (decide_eq_false (by simp<;>omega))) ?_;(conv=>whnf);repeat (first|exact trivial|(rw[fF];conv=>whnf)|(refine sI ?_;conv=>whnf))
    refine And.intro (by rw[fN];simp[GD.cB,GD.slice]) ?_;(conv=>whnf);repeat (first|exact trivial|(rw[fF];conv=>whnf)|(refine sI ?_;conv=>whnf))
   refine aY (by simpa using ht) ?_;refine gO F37 ?_;refine aW ⟨by simp;omega,by simp[DV.cells]⟩ ?_;refine gO F37 ?_;have hN:((((dD++[d]).map GD.cB++[DV.agg [.int .i64 c.time,.aI]]).length:Nat):Int)=((dD.length+1:Nat):Int)+1:=by simp<;>omega
   have fN:IntKind.i64.wrap (((((dD++[d]).map GD.cB++[DV.agg [.int .i64 c.time,.aI]]).length:Nat):Int)-1)=((dD.length+1:Nat):Int):=by rw[hN,wrap64 (by omega) (by omega)];omega
   have dG:((dD++[d]).map GD.cB++[DV.agg [.int .i64 c.time,.aI]])[dD.length+1]?=some (DV.agg [.int .i64 c.time,.aI]):=by simp
   refine aW ⟨by rw[fN];omega,by rw[fN,hN];omega⟩ ?_;refine gO F37 ?_;refine J.Iz Ct 11 2 rfl (by kernel_rfl) (by kernel_rfl) rfl rfl rfl (by kernel_rfl) (by simp only[aef,afi];omega) (61,3) ([(⟨c.host,c.au⟩:aK).enc]) ((dD++[d]).reverse.map fun d => .row d.row) ?_;refine bT.o ag ?_;(conv=>whnf);refine bT.o ag ?_;(conv=>whnf);refine bT.o ag ?_;(conv=>whnf);refine bT.o ag ?_;(conv=>whnf);refine bT.op rfl (.d .aI) (yk ag (by(conv=>whnf);refine aD (e:=DV.agg [.int .i64 c.time,.aI]) ⟨by omega,by first|exact dG|(rw[fN];exact dG)⟩ rfl ⟨rfl,rfl⟩)) (yk ag (by(conv=>whnf);refine aD (e:=DV.agg [.int .i64 c.time,.aI]) ⟨by omega,by first|exact dG|(rw[fN];exact dG)⟩ rfl ⟨rfl,rfl⟩)) ?_;(conv=>whnf);refine bT.o ag ?_;(conv=>whnf);refine bT.o ag ?_;(conv=>whnf);refine bT.o ag ?_;(conv=>whnf);refine bT.o ag ?_;(conv=>whnf);refine bT.o ag ?_;(conv=>whnf);refine bT.o ag ?_;(conv=>whnf);refine bT.nil (And.intro ?_ ?_)
   ·intro c0 cx a q0 q1 q2 q3 q4 q5;refine OY q1 q3 q4 q5 q2 (IA ag ?_) (by simp) (by rw[q0];exact afv _);(conv=>whnf);refine aW ⟨by simp,by simp[DV.cells]⟩ ?_;(conv=>whnf);exact⟨rfl,rfl⟩
   refine bT.from ?_;(conv=>whnf);refine bT.o ag ?_;(conv=>whnf);refine bT.o ag ?_;(conv=>whnf);refine bT.nil fun blk cap=>?_;refine J.last ?_;(conv=>whnf);refine tS.of ag rfl ?_;(conv=>whnf);refine aD (e:=DV.agg [.int .i64 c.time,.aI]) ⟨by omega,by rw[fN];exact dG⟩ rfl ?_;(conv=>whnf);refine And.intro rfl ?_;(conv=>whnf);refine gO F37 ?_;refine aR ?_;refine gO F37 ?_;refine aU (by simp<;>omega) ?_;refine gO F37 ?_;have dR:∀ y:DV,(((dD++[d]).map GD.cB++[DV.agg [.int .i64 c.time,.aI]]).set (dD.length+1) y)[dD.length+1]?=some y:=fun y=>aei (aX dG);refine aD (e:=DV.agg [.int .i64 c.time,.raw (.slice (some ⟨blk,0,none⟩) ([(⟨c.host,c.au⟩:aK).enc]).length cap)]) ⟨by omega,by rw[fN];exact dR _⟩ rfl ?_;refine gO F37 ?_;refine J.IB (show ig _ _ _ true from wR (j:=6) (b:=false) (g:=false) rfl rfl rfl rfl) (Iy ag rfl rfl rfl rfl (aV rfl)) ?_;(conv=>whnf);refine gO F37 ?_;(conv=>whnf);repeat ((fail_if_success (first|(refine J.kx ag F37 rfl rfl rfl (L:=[]) rfl ?_)|fail));(refine J.run ag F37 1 ?_);(conv=>whnf))
   refine J.kx ag F37 rfl rfl rfl (L:=[]) rfl ?_;(conv=>whnf);refine fW ?_
   refine gO F13 ?_;refine J.vk (rows:=((dD++[d])++[(⟨c.time,[(⟨c.host,c.au⟩:aK)],blk,cap⟩:GD)]).reverse.map fun d:GD=>bo.row d.row) (List.Perm.of_eq (by simp[GD.row])) ?_;refine J.back (IH (k+1,(dD++[d])++[(⟨c.time,[(⟨c.host,c.au⟩:aK)],blk,cap⟩:GD)]) ⟨ah,by simp only;rw[cG hc,yx,<- gz];rw[I7 (fun g hg=>by rw[List.map_append,List.map_singleton,List.getLast?_concat]at hg;cases hg;exact ht)];simp[GD.sh]⟩ (by simp only;omega)) ?_;(conv=>whnf);repeat (first|exact trivial|(rw[fF];conv=>whnf)|(refine sI ?_;conv=>whnf))
   refine And.intro (congrArg DV.bool (decide_eq_false (by simp<;>omega))) ?_;(conv=>whnf);repeat (first|exact trivial|(rw[fF];conv=>whnf)|(refine sI ?_;conv=>whnf))
   refine And.intro (by rw[fN];simp[GD.cB,GD.slice]) ?_;(conv=>whnf);repeat (first|exact trivial|(rw[fF];conv=>whnf)|(refine sI ?_;conv=>whnf))
 ·have aC:cl.length<=k:=by simpa using h5
  rw[List.take_of_length_le aC]at gz;have bg:(ds.map fun d=>Step.enc ⟨d.t,⟨d.ps⟩⟩)=(cR cl).map Step.enc:=by rw[cR,<- gz,agj,agj];rfl
  refine J.ZF (b:=4) (g:=1) (ts:=(57,2)) (l:=ds.map GD.cB) (l':=ds.map fun d=>Step.enc ⟨d.t,⟨d.ps⟩⟩) (ds.reverse.map GD.row) (by simp[Function.comp_def]) rfl (afv _) (by simp) (fun i e e' he kY=>?_) ?_
  ·rw[List.getElem?_map]at he kY;cases hq:ds[i]? with
   |none=>rw[hq]at he;cases he
   |some d =>
    rw[hq]at he kY;cases he;cases kY;refine⟨rfl,fun j x x' hx eh=>?_⟩
    match j,hx,eh with
    |0,hx,eh=>cases hx;cases eh;exact .inl rfl
    |1,hx,eh =>
     cases hx;cases eh;exact .inr ⟨d.row,aer.2 ⟨d,List.mem_reverse.2 (List.mem_of_getElem? hq),rfl⟩,by simp[GD.slice,GD.row],rfl⟩
  (conv=>whnf);rw[bg];refine J.freeze 4 ?_;(conv=>whnf);rw[<- hQ];refine gO F13 ?_;refine aR ?_;refine gO F13 ?_
  with_reducible refine aq (c2) ?_
  refine gO F13 ?_
  with_reducible rfl
end Go.Proofs.YtfmdaiojokniiaaGreatDoor.P
end
section
namespace Go.Proofs.YtfmdaiojokniiaaGreatDoor.P
open Go Go.aA
theorem D0{n:Nat}{fin:Int}{b:List Claim}:∀ {a:List Claim} {t:Int} {S:List nN},fZ n fin t S (a++b)=(fZ n fin t S a&&fZ n fin (lD t a) (S++a.map Claim.key) b)
 |[],t,S=>by simp[fZ,lD]
 |c::a,t,S=>by
  rw[List.cons_append,fZ,D0 (a:=a),fZ,Bool.and_assoc,List.map_cons,List.append_assoc];rw[show lD t (c::a)=lD c.time a by cases a<;>simp[lD,List.getLast?_cons]];rfl
theorem D1{h:bO}{l:List Step}(h0:applyN h l=0):ew h l={ h with aB:=dN h.fin h.aB l }:=by rw[ew,if_pos h0]
end Go.Proofs.YtfmdaiojokniiaaGreatDoor.P
end
