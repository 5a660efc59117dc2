/- Several texts of mine, one behind the other. Conditions: as each says. -/
import Derived.Test.YtcmnpelmmekdkaaGreatDoorY37
set_option linter.unusedVariables false
set_option linter.unusedSimpArgs false
namespace Go.Proofs.YtcmnpelmmekdkaaGreatDoor.P
open Go Go.ax
set_option maxRecDepth 100000
set_option maxHeartbeats 4000000
theorem ZC {z:aU} {q:aS} (V:gd z) (h4:(bO z q).kind=4):(bO z q).af.length≤10:=by
 obtain ⟨-,c,h1,h2⟩:=Ii h4;obtain ⟨-,g2⟩:=H7 V h1;obtain ⟨s,hs,-⟩:=rA g2;have hd:=(wZ (V.af s (List.mem_of_getElem? hs))).2.1;rw [h2];have e1:=Dd (l:=z.af) (ps:=iJ z.af c);have e2:=Hu (ps:=aO z.af ⟨c,2⟩::oS z.af c::me z.af c);have e3:(me z.af c).length≤8:=by
  have e:me z.af c=fK z.af c s.set.data:=by rw [me,De,hs]; rfl
  rw [e];exact Nat.le_trans (sY ..) hd
 have e4:(iJ z.af c).length≤10:=by
  rw [iJ];simp only [List.length_cons] at e2;omega
 simp only;omega
theorem ta {z:aU} (V:gd z):∀ s∈z.af,s.set.data.length≤8:=fun s hs=>(wZ (V.af s hs)).2.1
@[reducible] def vx (Z : List Text) (F : List cu) : DV := .agg [.sl (Z.map .str), .sl (F.map cu.enc)]
theorem IC {l:List aB} {s ab:Text} {n:Nat} {z:aU} (h:dz l ab=some z) (h4:(bO z ⟨s,1⟩).kind=4):cJ l s (n+1) ab=(ab::(cJ l s n (bO z ⟨s,1⟩).cut).1,dZ ab z.af++(dZ (bO z ⟨s,1⟩).cut (bO z ⟨s,1⟩).af++(cJ l s n (bO z ⟨s,1⟩).cut).2)):=by
 rw [cJ,h];simp only;rw [if_pos h4]
theorem ID {l:List aB} {s ab:Text} {n:Nat} {z:aU} (h:dz l ab=some z) (h4:¬ (bO z ⟨s,1⟩).kind=4):cJ l s (n+1) ab=([ab],dZ ab z.af++rG s (bO z ⟨s,1⟩)):=by
 rw [cJ,h];simp only;rw [if_neg h4]
theorem IE {l:List aB} {s ab:Text} {n:Nat} (h:dz l ab=none):cJ l s (n+1) ab=([ab],[]):=by
 rw [cJ,h]
theorem ZD (l:List aB) (s:Text) (hf:∀ p∈l,p.ay.Fits) (H:dW l) (hs:Nm.valid s=true):aC E 86 [.map (ml l)] [.map 0,.d (.str s)] (fun a b=>a = .d (vx (cJ l s 64 [46]).1 (nW l s))∧b=[.map (ml l)]):=by
 have F:=Ij H;have dD:=s8 (Zw l);have lR:=Zx l;have iU:=fF hs;have hq:fp ⟨s,1⟩=true:=by simp [fp,hs]
 obtain ⟨JR,P2⟩:∃ x,cJ l s 64 [46]=x:=⟨_,rfl⟩;rw [nW,P2];generalize ml l=es at dD lR ⊢;apply aC.kG
 case hk=>rfl
 refine aC.run aj (fn:=Tryz.f86) Tryz.func86 (body:=Tryz.f86.body.getD .skip) rfl (by decide) 2000 rfl ?_;(conv=>whnf);refine aa.rz 2 0 (9,1) (by decide) rfl rfl ?_;(conv=>whnf);refine aa.rz 2 1 (189,3) (by decide) rfl rfl ?_;(conv=>whnf);refine aa.loop (κ:=Nat × Text × List Text × List cu) [7,8,9,10,11,12,14,15,16,17,18,19,20,21,22,23,24,25,26,27,28,29,30,31,32,33,34,35,36,37,38,39,40,41,42,43,44,45,46,47,48,49,50,51,52,53,54,55,56,57,58,59,60,61,62,63,64,65,66,67,68,69,70,71,72,73] (fun x=>[(7,.d (.str x.2.1))]) (fun x=>[(2,.cells [.own 3 1,.own 4 1]),(3,.arr 1 (9,1) (x.2.2.1.map .str)),(4,.arr 1 (189,3) (x.2.2.2.map cu.enc))]) (fun x=>Nm.under s x.2.1=true∧dep s<x.1+dep x.2.1∧x.2.2.1.length+x.1=64∧x.2.2.2.length+16*x.1≤1024∧JR=(x.2.2.1++(cJ l s x.1 x.2.1).1,x.2.2.2++(cJ l s x.1 x.2.1).2)) (fun x=>x.1) (64,[46],[],[]) ⟨AP hs,by have:=DG hs; simp only; omega,rfl,by simp,by simp [P2]⟩ ?_ ?_
 ·(conv=>whnf);repeat (first | exact trivial | (refine sI ?_; conv=>whnf))
  refine And.intro rfl ?_;(conv=>whnf);repeat (first | exact trivial | (refine sI ?_; conv=>whnf))
  refine And.intro rfl ?_;exact sZ
 rintro ⟨n,ab,Z,G⟩ ⟨h1,h2,h3,h4,h5⟩ IH;simp only at h1 h2 h3 h4 h5;obtain ⟨n,rfl⟩:∃ m,n=m+1:=⟨n - 1,by have:=Ig h1; omega⟩;have dr:=lR ab;refine aa.head aj Tryz.func86 2000 ?_;(conv=>whnf);refine bQ ⟨by simp; omega,by simp [DV.cells]⟩ ?_;refine gO Tryz.func86 ?_;cases e:dz l ab with
 |none =>
  rw [e] at dr;rw [IE e] at h5;subst h5;refine iR (.agg [.str [],.a8]) (.agg #[.string ⟨#[]⟩,.slice none 0 0]) (v := .agg [.str [],.a8]) (f:=false) ⟨_,rfl⟩ dD (fun w=>by kernel_rfl) PV (by simp only [dr]; rfl) (by simp only [dr]; rfl) ?_;refine gO Tryz.func86 ?_;refine bq ?_;(conv=>whnf);refine aa.freeze 3 ?_;(conv=>whnf);refine aa.freeze 4 ?_;(conv=>whnf);refine gO Tryz.func86 ?_;exact ⟨by simp [vx],rfl⟩
 |some z =>
  rw [e] at dr;obtain ⟨hz,DI⟩:=H.at_ e;obtain ⟨-,p,hp,rfl⟩:=AE e;have V:=lv hz;refine iR (.agg [.str [],.a8]) (.agg #[.string ⟨#[]⟩,.slice none 0 0]) (v:=p.ay.enc) (f:=true) ⟨_,rfl⟩ dD (fun w=>by kernel_rfl) PV (by simp only [dr]; rfl) (by simp only [dr]; rfl) ?_;refine gO Tryz.func86 ?_;refine ba ?_;refine gO Tryz.func86 ?_;have bP:=V.len;have c1:=PY ab p.ay.af (Z++[ab]) G (ta V) (by omega) (by omega);rw [List.map_append,List.map_singleton] at c1;obtain ⟨a1,a2⟩:=AO (q:=⟨s,1⟩) hz hq;have c2:=Az p.ay ⟨s,1⟩ (hf p hp) (o9 (show s.length≤2147483648 by omega));rw [a1,a2] at c2;have um:(dZ ab p.ay.af).length≤8:=by
   have Ox:p.ay.ab=ab:=DI;by_cases h0:0≤aO p.ay.af ⟨ab,2⟩
   ·obtain ⟨y,hy,-⟩:=rA h0;rw [Pu V.sorted h0 hy];simp [kI];exact ta V y (List.mem_of_getElem? hy)
   ·have:dZ ab p.ay.af=[]:=by
     rw [dZ,List.flatMap_eq_nil_iff];intro y hy;refine if_neg fun ⟨b1,b2⟩=>h0 ?_;obtain ⟨i,hi⟩:=List.getElem?_of_mem hy;have:=Dc V.sorted hi;rw [b1,b2] at this;omega
    rw [this]; simp
  with_reducible refine bR (c1) ?_
  refine gO Tryz.func86 ?_;refine ar (c2) ?_;refine gO Tryz.func86 ?_;by_cases k4:(bO p.ay ⟨s,1⟩).kind=4
  ·have k3:¬ (bO p.ay ⟨s,1⟩).kind=3:=by omega
   obtain ⟨f1,f2⟩:=F ab p.ay ⟨s,1⟩ e k4;obtain ⟨y,m,g1,g2,g3,g4,g5⟩:=Im V k4;have iN:(dZ (bO p.ay ⟨s,1⟩).cut (bO p.ay ⟨s,1⟩).af).length≤8:=by
    rw [g5];simp [kI];exact ta V y g2
   have c3:=PY (bO p.ay ⟨s,1⟩).cut (bO p.ay ⟨s,1⟩).af (Z++[ab]) (G++dZ ab p.ay.af) (fun y hy=>ta V y (Ik hy)) (by have:=ZC V k4; omega) (by simp; omega);rw [List.map_append,List.map_singleton] at c3;rw [IC e k4] at h5;refine aI (by simpa using k3) ?_;refine gO Tryz.func86 ?_;refine aI (by simpa using k4) ?_;refine gO Tryz.func86 ?_
   with_reducible refine bR (c3) ?_
   refine gO Tryz.func86 ?_;refine aa.back (IH (n,(bO p.ay ⟨s,1⟩).cut,Z++[ab],G++dZ ab p.ay.af++dZ (bO p.ay ⟨s,1⟩).cut (bO p.ay ⟨s,1⟩).af) ⟨f1,by simp only; omega,by simp; omega,by simp; omega,by rw [h5]; simp⟩ (by simp)) ?_;(conv=>whnf);repeat (first | exact trivial | (refine sI ?_; conv=>whnf))
   refine And.intro (by simp) ?_;exact sZ
  ·rw [ID e k4] at h5;subst h5;by_cases k3:(bO p.ay ⟨s,1⟩).kind=3
   ·obtain ⟨y,m,d,D,g1,g2,g3,g5,g6,g7⟩:=Ip V k3;refine aM (by simpa using k3) ?_;refine gO Tryz.func86 ?_;refine aa.draw aj bW 14 2000 (by kernel_rfl) ?_;(conv=>whnf);refine aF (e:=y.enc) ⟨by omega,by rw [g1]; rfl⟩ rfl ?_;refine gD ?_;refine aF (e:=d.enc) ⟨by omega,by rw [g5]; rfl⟩ rfl ?_;refine gD ?_;refine gS ?_;refine bQ ⟨by simp; omega,by simp [DV.cells]⟩ ?_;refine gS ?_;refine gO Tryz.func86 ?_;refine aM (by simpa using k4) ?_;(conv=>whnf);refine aa.freeze 3 ?_;(conv=>whnf);refine aa.freeze 4 ?_;(conv=>whnf);refine gO Tryz.func86 ?_;exact ⟨by simp [vx,rG,k3,g6],rfl⟩
   ·refine aI (by simpa using k3) ?_;refine gO Tryz.func86 ?_;refine aM (by simpa using k4) ?_;(conv=>whnf);refine aa.freeze 3 ?_;(conv=>whnf);refine aa.freeze 4 ?_;(conv=>whnf);refine gO Tryz.func86 ?_;exact ⟨by simp [vx,rG,k3],rfl⟩
end Go.Proofs.YtcmnpelmmekdkaaGreatDoor.P
