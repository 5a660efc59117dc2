/- Several texts of mine, one behind the other. Conditions: as each says. -/
import Derived.Test.YtcmnpelmmekdkaaGreatDoorY44
import Derived.Test.YtcmnpelmmekdkaaGreatDoorY45
set_option linter.unusedVariables false
set_option linter.unusedSimpArgs false
section
namespace Go.Proofs.YtcmnpelmmekdkaaGreatDoor.P
open Go Go.ax
set_option maxRecDepth 100000
set_option maxHeartbeats 4000000
@[reducible] def nY (v : bK) : DV := .agg [.str v.name, .sl (v.aq.map .str), .int .i64 v.before, .str v.bH.name, .int .i64 v.bH.type]
theorem QA {b:Int} {dw:List aS} {met:List Text}:∀ (B A:List cu),(dm met b dw A).length≤(dm met b dw (A++B)).length
 | [],A=>by simp
 |x::B,A=>by
  have h:=QA (b:=b) (dw:=dw) (met:=met) B (A++[x]);have e:=Du (b:=b) (dw:=dw) (x:=x) (L:=A) (met:=met);rw [List.append_assoc] at h;have:(dm met b dw A).length≤(dm met b dw (A++[x])).length:=by rw [e]; simp
  exact Nat.le_trans this h
theorem aaL {b:Int} {dw:List aS} {met:List Text} (L:List cu) (i:Nat):(dm met b dw (L.take i)).length≤(dm met b dw L).length:=by
 have:=QA (b:=b) (dw:=dw) (met:=met) (L.drop i) (L.take i)
 rwa [List.take_append_drop] at this
theorem QB {l:List aB} (H:dW l) {s:Text} {done wait:List bK} (B:ev (gz l) s done wait):done.length+wait.length≤(univ l).length+1:=by
 have:=Dn (U:=s::univ l) (List.mem_cons_self ..) (Iq H s) B
 simpa using this
theorem QC (l:List aB) (s:Text) (hf:∀ p∈l,p.ay.Fits) (H:dW l) (hu:(univ l).length≤2000000000) (hs:Nm.valid s=true):aC E 41 [.map (ml l)] [.map 0,.d (.str s)] (fun a b=>a = .d (.sl ((dM l s).map nY))∧b=[.map (ml l)]):=by
 have c1:=fun t ht=>ZD l t hf H ht;have c2:=aaG ⟨s,[],-1,⟨[],0⟩,[]⟩;generalize ml l=es at c1 ⊢;apply aC.kG
 case hk=>rfl
 refine aC.run aj (fn:=Tryz.f41) Tryz.func41 (body:=Tryz.f41.body.getD .skip) rfl (by decide) 2000 rfl ?_;(conv=>whnf);refine gO Tryz.func41 ?_;refine aa.insert aj rfl ?_;(conv=>whnf);refine bQ ⟨⟨_,rfl⟩,fun p hp=>by cases hp⟩ ?_;refine gO Tryz.func41 ?_
 with_reducible refine bR (c2) ?_
 refine gO Tryz.func41 ?_;refine aa.rz 1 0 (96,5) (by decide) rfl rfl ?_;(conv=>whnf);refine aa.Y6 (b:=4) (off:=0) (j:=6) rfl (by simp) rfl rfl ?_;(conv=>whnf);refine aa.aaK (κ:=Nat × List bK × List bK × Nat × Option Nat × List DV) [4,8,9,10,11,12,19,20,21,22,23,24,25,26,27,28,29,30,31,32,33,34,35,36,37,38,41,42,43,44,45,46,47,48,49,50,51,52,53] (fun x=>[]) (fun x=>[(1,.cells [.own 7 1]),(7,.arr 1 (96,5) (x.2.1.map nY)),(2,.map (fq DV.str ((x.2.1++x.2.2.1).map bK.name))),(4,.cells [.cut 6 1 x.2.2.2.1 x.2.2.2.2.1]),(6,.arr 1 (96,5) x.2.2.2.2.2)]) (fun x=>ev (gz l) s x.2.1 x.2.2.1∧x.2.1.length+x.1=rH l∧dM l s=kH (gz l) x.1 x.2.1 x.2.2.1∧x.2.2.2.2.2.drop x.2.2.2.1=x.2.2.1.map fM∧x.2.2.2.2.2.length≤x.2.1.length+x.2.2.1.length) (fun x=>x.1) (rH l,[],[⟨s,[],-1,⟨[],0⟩,[]⟩],0,none,[fM ⟨s,[],-1,⟨[],0⟩,[]⟩]) ⟨ev.init,by simp,rfl,rfl,by simp⟩ rfl ?_ ?_
 ·(conv=>whnf);repeat (first | exact trivial | (refine sI ?_; conv=>whnf))
  refine And.intro rfl ?_;(conv=>whnf);repeat (first | exact trivial | (refine sI ?_; conv=>whnf))
  refine And.intro rfl ?_;exact sZ
 rintro D ⟨n,done,wait,k,q,lq⟩ ⟨B,hn,hv,hq,A0⟩ IH;simp only at B hn hv hq A0;have bT:=ZG H hs B;have hlen:=QB H B;cases wait with
 |nil =>
  have c3:=aC.kG (aaI k q lq hq) rfl;refine aa.head aj Tryz.func41 2000 ?_;conv=>whnf
  with_reducible refine bR (c3) ?_
  refine gO Tryz.func41 ?_;refine aM (by decide) ?_;(conv=>whnf);refine aa.freeze 7 ?_;(conv=>whnf);refine aa.run aj Tryz.func41 5 ?_;(conv=>whnf);have I5:n≠0:=fun e=>by simp [rH] at hn; simp at hlen; omega
  obtain ⟨n,rfl⟩:∃ m,n=m+1:=⟨n - 1,by omega⟩;rw [hv];refine aa.Hp aj Tryz.func41 rfl rfl rfl rfl (List.append_nil _).symm ?_;(conv=>whnf);exact ⟨rfl,rfl⟩
 |cons v w =>
  have QD:=bT v (by simp);have c3:=aC.kG (aaJ k q lq v (w.map fM) hq) rfl;have c4:=c1 v.name QD;refine aa.head aj Tryz.func41 2000 ?_;conv=>whnf
  with_reducible refine bR (c3) ?_
  refine gO Tryz.func41 ?_;refine aI (by decide) ?_;refine gO Tryz.func41 ?_
  with_reducible refine bR (c4) ?_
  refine gO Tryz.func41 ?_;refine bQ ⟨by simp; omega,by simp [DV.cells]⟩ ?_;refine gO Tryz.func41 ?_;have E4:=ZQ H QD;have iF:(nW l v.name).length≤1000000:=Nat.le_trans (P3 H (s:=v.name) (n:=64) (ab:=[46])) (by decide);have QE:lq.drop (k+1)=w.map fM:=by have:=congrArg (List.drop 1) hq; simpa [List.drop_drop,Nat.add_comm] using this
  have B2:=B.next;have yI:=QB H B2
  obtain ⟨n, rfl⟩ : ∃ m, n = m + 1 := ⟨n - 1, by have : n ≠ 0 := fun e => by simp [rH] at hn; simp at hlen; omega
                                                 omega⟩
  rw [kH] at hv;obtain ⟨met,DS⟩:∃ x,(done++v::w).map bK.name=x:=⟨_,rfl⟩;obtain ⟨N,hN⟩:∃ x,dm ((done++v::w).map bK.name) done.length v.list (gz l v.name).2=x:=⟨_,rfl⟩;rw [hN] at hv B2 yI;rw [DS] at hN;rw [DS];have sJ:((done.map nY).length:Int)=done.length:=by simp
  by_cases hF:nW l v.name=[]
  ·have c5:=aaD (cJ l v.name 64 [46]).1;have hN0:N=[]:=by rw [← hN,← Qb (L:=[]) (by rw [hF]) List.Pairwise.nil]; rfl
   subst hN0;rw [hF];refine y7 (c5) rfl ?_;refine gO Tryz.func41 ?_;refine aa.rangeFunc (bh rfl) Tryz.func133 rfl (by decide) rfl (fun ll d t=>?_);refine gO Tryz.func133 ?_;refine aa.zj ?_;refine aa.run aj Tryz.func133 2000 ?_;(conv=>whnf);refine aI (by decide) ?_;refine gO Tryz.func133 ?_;refine aa.xy aj Tryz.func133 rfl rfl rfl rfl (fun e=>nomatch e) ?_;(conv=>whnf);refine gO Tryz.func41 ?_;refine aa.back (IH (_::D) (n,done++[{ v with aq:=(gz l v.name).1 }],w++[],k+1,q,lq) ⟨B2,by simp; omega,hv,by rw [List.append_nil]; exact QE,by simp at A0 ⊢; omega⟩ (by simp)) ?_;(conv=>whnf);repeat (first | exact trivial | (refine sI ?_; conv=>whnf))
   refine xU ?_ _;(conv=>whnf);repeat (first | exact trivial | (refine sI ?_; conv=>whnf))
   refine And.intro (congrArg _ (by rw [← DS]; simp)) ?_;(conv=>whnf);repeat (first | exact trivial | (refine sI ?_; conv=>whnf))
   refine And.intro (by simp; rfl) ?_;exact sZ
  ·have c5:=aaE (cJ l v.name 64 [46]).1 (nW l v.name) hF iF E4;refine wD (ds:=[vx (cJ l v.name 64 [46]).1 (nW l v.name)]) c5 ?_;rintro r h1 ⟨L,⟨p1,p2⟩,e1,e2⟩;subst e1;subst e2;have QF:N=dm met done.length v.list L:=by rw [← hN,Qb p1 p2]
   have hle:∀ i,(dm met done.length v.list (L.take i)).length≤N.length:=fun i=>by rw [QF]; exact aaL L i
   have hLl:L.length≤1000000:=by rw [p1.length_eq]; exact iF
   refine gO Tryz.func41 ?_;refine aa.rangeFunc (bh rfl) Tryz.func133 rfl (by decide) rfl (fun ll d t=>?_);refine gO Tryz.func133 ?_;refine aa.loop (κ:=Nat × Nat × Option Nat × List DV) [4,7,8,9,10,11,12,13,14,15,16,17,18] (fun x=>[(7,.d (.int .i64 x.1))]) (fun x=>[(2,.map (fq DV.str (met++(dm met done.length v.list (L.take x.1)).map bK.name))),(4,.cells [.cut 6 1 x.2.1 x.2.2.1]),(6,.arr 1 (96,5) x.2.2.2)]) (fun x=>x.1≤L.length∧x.2.2.2.drop x.2.1=(w++dm met done.length v.list (L.take x.1)).map fM∧x.2.2.2.length≤lq.length+(dm met done.length v.list (L.take x.1)).length) (fun x=>L.length - x.1) (0,k+1,q,lq) ⟨Nat.zero_le _,by simp [dm,QE],by simp⟩ ?_ ?_
   ·(conv=>whnf);repeat (first | exact trivial | (refine sI ?_; conv=>whnf))
    refine xU ?_ _;(conv=>whnf);repeat (first | exact trivial | (refine sI ?_; conv=>whnf))
    refine And.intro (congrArg _ (by simp [dm])) ?_;exact sZ
   rintro ⟨i,k2,q2,I6⟩ ⟨hi,lX,dF⟩ IL;simp only at hi lX dF;refine aa.head aj Tryz.func133 2000 ?_;(conv=>whnf);refine aw (fun h6=>?_) (fun h6=>?_)
   ·have ai:i<L.length:=by simpa using h6
    obtain ⟨x,hx⟩:=aY ai;have bS:=Du (b:=done.length) (dw:=v.list) (x:=x) (L:=L.take i) (met:=met);rw [← eI hx] at bS;have hMi:=hle i;generalize dm met done.length v.list (L.take i)=M at lX dF bS hMi ⊢;obtain ⟨mG,s9⟩:=Ar rC (met++M.map bK.name) x.other;have dD:=s8 (pR rC (met++M.map bK.name)).1;refine gO Tryz.func133 ?_;refine aF (e:=x.enc) (a7 hx) rfl ?_;refine gO Tryz.func133 ?_;refine aa.yield 0 rfl rfl rfl (bh rfl) (mg (bh rfl) (bh rfl)) rfl ?_;(conv=>whnf);refine gO Tryz.func41 ?_;refine aa.begin 0 rfl rfl rfl ?_;(conv=>whnf);refine gO Tryz.func41 ?_;refine iR (.bool false) (.bool false) ⟨_,rfl⟩ dD (fun w=>by kernel_rfl) (fun _ _ => .bool _) mG s9 ?_;refine gO Tryz.func41 ?_;by_cases hm:x.other∈met++M.map bK.name
    ·rw [if_pos hm,List.append_nil] at bS;refine aI (by simp [hm]) ?_;refine gO Tryz.func41 ?_;refine aa.Al 0 rfl rfl rfl ?_;(conv=>whnf);refine gO Tryz.func133 ?_;refine aI (by decide) ?_;refine gO Tryz.func133 ?_;refine aa.back (IL (i+1,k2,q2,I6) ⟨by simp only; omega,by simp only; rw [bS]; exact lX,by simp only; rw [bS]; exact dF⟩ (by simp only; omega)) ?_;rw [bS];(conv=>whnf);repeat (first | exact trivial | (refine sI ?_; conv=>whnf))
     refine xU ?_ _;exact sZ
    ·rw [if_neg hm] at bS;refine aM (by simp [hm]) ?_;refine gO Tryz.func41 ?_;refine bQ ⟨⟨_,rfl⟩,dD⟩ ?_;refine gO Tryz.func41 ?_;refine uf (aaH ⟨x.other,[],_,x.bH,v.list++[x.bH]⟩ k2 q2 I6 (by simp at A0 hlen yI; omega)) ?_;rintro r h1 ⟨k3,q3,QG,⟨e1,e2,e3⟩,e4,e5⟩;subst e4;subst e5;(conv=>whnf);refine gO Tryz.func41 ?_;refine aa.Al 0 rfl rfl rfl ?_;(conv=>whnf);refine gO Tryz.func133 ?_;refine aI (by decide) ?_;refine gO Tryz.func133 ?_;have mE:QG.drop k3=(w++dm met done.length v.list (L.take (i+1))).map fM:=by
      rw [bS,e1,lX];have hw:IntKind.i64.wrap (((done.map nY++[DV.agg [.str v.name,.sl ((cJ l v.name 64 [46]).1.map .str),.int .i64 v.before,.str v.bH.name,.int .i64 v.bH.type]]).length:Int) - 1)=(done.length:Int):=by
       rw [wrap64 (by simp <;> omega) (by simp at hlen ⊢; omega)]; simp
      show List.map fM (w++M)++[fM ⟨x.other,[],IntKind.i64.wrap (((done.map nY++[DV.agg [.str v.name,.sl ((cJ l v.name 64 [46]).1.map .str),.int .i64 v.before,.str v.bH.name,.int .i64 v.bH.type]]).length:Int) - 1),x.bH,v.list++[x.bH]⟩]=_;rw [hw];simp
     refine aa.back (IL (i+1,k3,q3,QG) ⟨by simp only; omega,mE,by simp only; rw [bS]; simp; omega⟩ (by simp only; omega)) ?_;rw [bS];(conv=>whnf);repeat (first | exact trivial | (refine sI ?_; conv=>whnf))
     refine xU ?_ _;(conv=>whnf);repeat (first | exact trivial | (refine sI ?_; conv=>whnf))
     refine And.intro (by rw [List.map_append,← List.append_assoc]; exact (xC _ _).symm) ?_;exact sZ
   ·have aP:L.length≤i:=by simpa using h6
    rw [List.take_of_length_le aP,← QF] at lX dF ⊢;refine gO Tryz.func133 ?_;refine aa.xy aj Tryz.func133 rfl rfl rfl rfl (fun e=>nomatch e) ?_;(conv=>whnf);refine gO Tryz.func41 ?_;refine aa.back (IH (_::D) (n,done++[{ v with aq:=(gz l v.name).1 }],w++N,k2,q2,I6) ⟨B2,by simp; omega,hv,lX,by simp at A0 dF ⊢; omega⟩ (by simp)) ?_;(conv=>whnf);repeat (first | exact trivial | (refine sI ?_; conv=>whnf))
    refine xU ?_ _;(conv=>whnf);repeat (first | exact trivial | (refine sI ?_; conv=>whnf))
    refine And.intro (congrArg _ (by rw [← DS]; simp)) ?_;(conv=>whnf);repeat (first | exact trivial | (refine sI ?_; conv=>whnf))
    refine And.intro (by simp; rfl) ?_;exact sZ
end Go.Proofs.YtcmnpelmmekdkaaGreatDoor.P
end
section
namespace Go.Proofs.YtcmnpelmmekdkaaGreatDoor.P
open Go Go.ax
set_option maxRecDepth 100000
set_option maxHeartbeats 4000000
theorem QH (w:ca) (s:Text) (hf:∀ p∈w.aq,p.ay.Fits) (H:dW w.aq) (hl:w.aq.length≤4000) (hs:Nm.valid s=true):aC E 33 [] [.d w.enc,.d (.str s)] (fun a b=>a = .map 1∧b=[xQ w,.map (fq DV.str (fL (dM w.aq s))),.cells (rJ w 0).dropLast,.map (iK w.aq (mZ w.aq) w.aq.length),.map (ml w.aq)]):=by
 have c1:=PW w hf H (by omega);have c2:=QC w.aq s hf H (DJ H hl) hs;have gT:=AG H s;have jF:=DJ H hl;have I7:∀ v∈dM w.aq s,_:=fun v hv=>IG H hv;generalize dM w.aq s=V at *;generalize ml w.aq=es at *;generalize iK w.aq (mZ w.aq) w.aq.length=rs at *;obtain ⟨cd,l,anchor,hints⟩:=w;show aC E _ [] [.d (DV.agg [.sl (cd.map Host.enc),.sl (l.map aB.enc),.str anchor.name,.int .i64 anchor.type,.int .i64 anchor.gy,.sl (anchor.data.map Datum.enc),.sl (hints.map (.int .i64))]),.d (.str s)] _;refine aC.run aj (fn:=Tryz.f33) Tryz.func33 (body:=Tryz.f33.body.getD .skip) rfl (by decide) 2000 rfl ?_;(conv=>whnf);refine gO Tryz.func33 ?_;refine y7 (c1) rfl ?_;refine gO Tryz.func33 ?_
 with_reducible refine bR (c2) ?_
 refine gO Tryz.func33 ?_;refine aa.loop (κ:=Nat) ([7,9]++rg 16 15) (fun i=>[(16,.d (.int .i64 i))]) (fun i=>[(1,.map (fq DV.str (fL (V.take i))))]) (fun i=>i≤V.length) (fun i=>V.length - i) 0 (Nat.zero_le _) ?_ ?_
 ·(conv=>whnf);repeat (first | exact trivial | (refine sI ?_; conv=>whnf))
  refine And.intro rfl ?_;exact sZ
 intro i hi IH;refine aa.head aj Tryz.func33 2000 ?_;(conv=>whnf);refine aw (fun h5=>?_) (fun h5=>?_)
 ·have ai:i<V.length:=by simpa using h5
  obtain ⟨v,hv⟩:=aY ai;have bS:=ZI hv;obtain ⟨z1,z2,z3⟩:=I7 v (List.mem_of_getElem? hv);refine gO Tryz.func33 ?_;refine aF (e:=nY v) (a7 hv) rfl ?_;refine gO Tryz.func33 ?_;refine aa.loop (κ:=Nat) ([9]++rg 23 7) (fun k=>[(23,.d (.int .i64 k))]) (fun k=>[(1,.map (fq DV.str (fL (V.take i)++v.aq.take k)))]) (fun k=>k≤v.aq.length) (fun k=>v.aq.length - k) 0 (Nat.zero_le _) ?_ ?_
  ·(conv=>whnf);repeat (first | exact trivial | (refine sI ?_; conv=>whnf))
   refine And.intro (by simp) ?_;exact sZ
  intro k hk IK;refine aa.head aj Tryz.func33 2000 ?_;(conv=>whnf);refine aw (fun h6=>?_) (fun h6=>?_)
  ·have gX:k<v.aq.length:=by simpa using h6
   obtain ⟨z,hz⟩:=aY gX;have dD:=s8 (pR rC (fL (V.take i)++v.aq.take k)).1;have QI:fq DV.str (fL (V.take i)++v.aq.take (k+1))=cD (.str z) (.bool true) (fq DV.str (fL (V.take i)++v.aq.take k)):=by rw [eI hz,← List.append_assoc,xC]
   generalize fq DV.str (fL (V.take i)++v.aq.take k)=KJ at dD QI ⊢;refine gO Tryz.func33 ?_;refine aF (e := .str z) (a7 hz) rfl ?_;refine gO Tryz.func33 ?_;refine bQ ⟨⟨_,rfl⟩,dD⟩ ?_;refine gO Tryz.func33 ?_;refine aa.back (IK (k+1) (by omega) (by omega)) ?_;rw [QI];exact sZ
  ·have aP:v.aq.length≤k:=by simpa using h6
   rw [List.take_of_length_le aP,← bS];refine gO Tryz.func33 ?_;refine aa.back (IH (i+1) (by omega) (by omega)) ?_;exact sZ
 ·have aP:V.length≤i:=by simpa using h5
  rw [List.take_of_length_le aP];refine gO Tryz.func33 ?_;exact ⟨rfl,rfl⟩
end Go.Proofs.YtcmnpelmmekdkaaGreatDoor.P
end
