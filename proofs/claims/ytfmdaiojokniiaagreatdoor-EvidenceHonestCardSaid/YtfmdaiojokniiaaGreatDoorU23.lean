/- Lemmas of mine. Conditions: as stated. -/
import Derived.Test.YtfmdaiojokniiaaGreatDoorU14
import Derived.Test.YtfmdaiojokniiaaGreatDoorU22
set_option linter.unusedVariables false
set_option linter.unusedSimpArgs false
section
namespace Go.ay
open Go Go.RowKit
section
variable {E:Env} {s:List AV} {h:List af}
variable {ag:FuncId} {R:cF} {ops:Array Oper} {o:Oper} {l:List Oper} {k:List aP} {lits:List Nat}
end
end Go.ay
end
section
namespace Go.Proofs.YtfmdaiojokniiaaGreatDoor.P
open Go Go.ay Go.Sort Go.RowKit
end Go.Proofs.YtfmdaiojokniiaaGreatDoor.P
end
section
namespace Go.ay
open Go Go.RowKit
section
variable {E:Env} {s:List AV} {h:List af}
end
end Go.ay
end
section
namespace Go.Proofs.YtfmdaiojokniiaaGreatDoor.P
open Go Go.ay
set_option maxRecDepth 100000
set_option maxHeartbeats 4000000
def Ib(a:dR):DV := .agg [.int .i64 a.kind,if a.kind=0\/a.kind=7 then .aH else .sl (a.ae.map Signed.enc),.str a.cut]
theorem aai{z:aX}{q:bB}{cut:Text}{b:Bool}(hu:Nm.under q.name z.aj=true)(h1:b=true->nG z q.name=some cut)(h0:b=false->nG z q.name=none)(hs:oB q cut b=true):tF z q=qb z q:=by
 rw[tF,if_pos hu];cases b
 ·rw[h0 rfl]
 ·rw[h1 rfl];simp[oB]at hs;simp[hs]
theorem aaj{z:aX}{q:bB}{cut:Text}(hu:Nm.under q.name z.aj=true)(h1:nG z q.name=some cut)(hs:oB q cut true=false):tF z q=⟨4,eH z.ae (lV z.ae cut),cut⟩:=by
 rw[tF,if_pos hu,h1];simp[oB]at hs;have:¬ (q.name=cut/\(q.type=6\/q.type=8)):=fun⟨e1,e2⟩=>by
  have:=hs e1;omega
 simp[this]
theorem aak{z:aX}(V:iJ z){n c:Text}(h:nG z n=some c):Nm.valid c=true/\0<=bh z.ae ⟨c,2⟩:=by
 have hm:=List.mem_of_find?_eq_some h;obtain⟨s,hs,e,hc⟩:=pR hm;have h2:=(H8 hm).1;refine⟨e ▸ V.names s hs,?_⟩;rw[Mn]at h2
 simpa using h2
theorem O1(l:List Signed):∀ (L:List Text),nF l L <:+ L
 |[]=>List.suffix_refl _
 |x::r=>by
  unfold nF;split
  ·exact List.suffix_refl _
  ·exact(O1 l r).trans (List.suffix_cons _ _)
theorem aal{t:Text}:∀ x∈Nm.labels t,(46:UInt8) ∉ x:=fun x hx=>by
 unfold Nm.labels at hx;split at hx
 ·cases hx
 ·exact Nm.Kz t x hx
theorem aam{l:List Signed}{n w:Text}(h:tE l n=some w):Nm.valid w=true:=by
 have hM:∀ x∈[42]::nF l (Nm.labels n),(46:UInt8) ∉ x:=fun x hx=>by
  rcases List.mem_cons.1 hx with rfl|hx
  ·decide
  ·exact aal x ((O1 l _).subset hx)
 unfold tE o8 at h;generalize nF l (Nm.labels n)=r at *;have e:gK ([42]::r)=Nm.glue ([42]::r):=by simp[gK]
 rw[e]at h;split at h
 ·rename_i q;cases h;simp only[Bool.and_eq_true,decide_eq_true_eq]at q;have hs:Nm.split (Nm.glue ([42]::r))=[42]::r:=Nm.KA _ (by simp) hM;simp[Nm.valid,hs,q.1,q.2]
 ·cases h
theorem O2{p:Int}(h:0<=p):c7 [p]=[p]:=by
 simp[c7,lb];omega
theorem aan(a b:Int):c7 [a,b,-1]=c7 [a,b]:=by
 simp[c7,lb]
theorem O3{z:aX}(V:iJ z)(t:Int):¬ 0<=bh z.ae ⟨[],t⟩:=fun h=>by
 obtain⟨s,h1,h2⟩:=HV h;have e:=congrArg bB.name (HW h2);have:=V.names s (List.mem_of_getElem? h1);simp only at e;rw[<- e]at this;exact absurd this (by decide)
theorem aao(z:aX)(q:bB)(hf:z.Fits)(hn:q.name.length<=maxLen):aq E 88 [z.enc,q.enc] (· = .aD [Ib (o9 z q),.int .i64 (rM z q)]):=by
 have c1:=Z8 z q.name hf hn;unfold H9 at c1;by_cases hq:fF q=false\/eB z=false
 ·have h1:rM z q=1:=by
   rw[rM];rcases hq with h|h<;>simp[h]
  rw[o9,h1,if_neg (by decide)];refine eP F88 ?_;by_cases t1:q.type<1
  ·refine aU (decide_eq_true t1) ?_;refine gO F88 ?_;refine bj ?_;refine gO F88 ?_;rfl
  refine aW (decide_eq_false t1) ?_;refine gO F88 ?_;by_cases t2:8<q.type
  ·refine aU (decide_eq_true t2) ?_;refine gO F88 ?_;rfl
  refine aW (decide_eq_false t2) ?_;refine gO F88 ?_;have e:(Nm.valid q.name&&eB z)=false:=by
   rcases hq with h|h
   ·have g1:1<=q.type:=by omega
    have g2:q.type<=8:=by omega
    simp[fF,g1,g2]at h;simp[h]
   ·simp[h]
  rw[e]at c1;refine ao (c1) ?_;refine gO F88 ?_;refine aR ?_;refine gO F88 ?_;refine bj ?_;refine gO F88 ?_;rfl
 have h2:eB z=true:=by simpa using fun h=>hq (.inr h)
 have h3:fF q=true:=by simpa using fun h=>hq (.inl h)
 have hN:rM z q=0:=by simp[rM,h2,h3]
 have V:=OE h2;have hS:=MV h2;simp only[fF,Bool.and_eq_true,decide_eq_true_eq]at h3;obtain⟨h3,h4,h5⟩:=h3;rw[o9,hN,if_pos rfl];rw[h2,h3]at c1;cases hu:Nm.under q.name z.aj
 ·rw[hu]at c1;have e:tF z q=⟨7,[],[]⟩:=by rw[tF,hu];rfl
  rw[e];refine eP F88 ?_;refine aW (decide_eq_false (by omega)) ?_;refine gO F88 ?_;refine aW (decide_eq_false (by omega)) ?_;refine gO F88 ?_;refine ao (c1) ?_;refine gO F88 ?_;refine bj ?_;refine gO F88 ?_;rfl
 rw[hu]at c1;obtain⟨cut,b,k1,k2,k3⟩:∃ cut b,(b=true->nG z q.name=some cut)/\(b=false->nG z q.name=none)/\aq E 155 [z.enc,.str q.name] (· = .aD [.str cut,.bool b,.int .i64 0]):=by
  cases e:nG z q.name with
  |none=>rw[e]at c1;exact⟨[],false,by simp,by simp,c1⟩
  |some c=>rw[e]at c1;exact⟨c,true,by simp,by simp,c1⟩
 clear c1;have hv:=ZC z q (by have:=V.len;omega);refine eP F88 ?_;refine aW (decide_eq_false (by omega)) ?_;refine gO F88 ?_;refine aW (decide_eq_false (by omega)) ?_;refine gO F88 ?_;refine ao (k3) ?_;refine gO F88 ?_;refine aR ?_;refine gO F88 ?_;refine aR ?_;refine gO F88 ?_;refine wV (hv) rfl ?_;refine gO F88 ?_;refine I.YR ab rfl rfl rfl rfl rfl rfl rfl rfl rfl ?_;refine gO F88 ?_;refine I.YS ab rfl rfl rfl rfl rfl rfl (aS rfl) rfl ?_;refine gO F88 ?_;refine I.mg ?_;refine I.run ab F88 2000 ?_;(conv=>whnf);refine aU (by decide) ?_;refine gO F88 ?_;refine I.p9 ab (n:=0) rfl rfl rfl rfl rfl rfl (aS rfl) (aS rfl) rfl (by decide) ?_;refine gO F88 ?_;cases hs:oB q cut b
 ·obtain rfl:b=true:=by
   cases b
   ·simp[oB]at hs
   ·rfl
  obtain⟨v1,v2⟩:=aak V (k1 rfl);have r0:=aah z q cut [] V hS v1 v2 hs;unfold bD bp at r0;rw[aaj hu (k1 rfl) hs]
  with_reducible refine aO (r0) ?_
  refine gO F88 ?_;refine bj ?_;refine gO F88 ?_;rfl
 have r0:=aag z q cut b [] hs;unfold bD bp at r0;rw[aai hu k1 k2 hs];clear k1 k2 k3 hs
 with_reducible refine aO (r0) ?_
 refine gO F88 ?_;refine aR ?_;refine gO F88 ?_;refine I.again ?_;refine I.run ab F88 2000 ?_;(conv=>whnf);refine aU (by decide) ?_;refine gO F88 ?_;refine I.p9 ab (n:=1) rfl rfl rfl rfl rfl rfl (aS rfl) (aS rfl) rfl (by decide) ?_;refine gO F88 ?_;have r1:=ZQ z q cut b [] V hS;unfold bD bp at r1
 with_reducible refine aO (r1) ?_
 refine gO F88 ?_;by_cases d1:0<=bh z.ae q
 ·refine aU (by simpa using d1) ?_;refine gO F88 ?_;rw[qb,if_pos d1,O2 d1];rfl
 refine aW (by simpa using d1) ?_;refine gO F88 ?_;refine I.again ?_;refine I.run ab F88 2000 ?_;(conv=>whnf);refine aU (by decide) ?_;refine gO F88 ?_;refine I.p9 ab (n:=2) rfl rfl rfl rfl rfl rfl (aS rfl) (aS rfl) rfl (by decide) ?_;refine gO F88 ?_;have r2:=ZR z q cut b [] V hS;unfold bD bp at r2
 with_reducible refine aO (r2) ?_
 refine gO F88 ?_;by_cases d2:0<=bh z.ae ⟨q.name,3⟩/\q.type≠8
 ·refine aU (by simpa using d2) ?_;refine gO F88 ?_;rw[qb,if_neg d1,if_pos d2,O2 d2.1];rfl
 refine aW (by simpa using d2) ?_;refine gO F88 ?_;refine I.again ?_;refine I.run ab F88 2000 ?_;(conv=>whnf);refine aU (by decide) ?_;refine gO F88 ?_;refine I.p9 ab (n:=3) rfl rfl rfl rfl rfl rfl (aS rfl) (aS rfl) rfl (by decide) ?_;refine gO F88 ?_;cases he:kr z.ae q.name
 case true =>
  have r3:=aac z q cut b [] V hS h3 he;unfold bD bp at r3
  with_reducible refine aO (r3) ?_
  refine gO F88 ?_;refine bj ?_;refine gO F88 ?_;rw[qb,if_neg d1,if_neg d2,if_pos he];rfl
 have r3:=aad z q cut b [] V h3 hu he;unfold bD bp at r3;rw[qb,if_neg d1,if_neg d2,he,if_neg (by decide)];clear d1 d2 he r0 r1 r2;cases hw:tE z.ae q.name with
 |none =>
  rw[hw]at r3;simp only[Option.getD_none]at r3;have r4:=ON z q cut b [] V hS h3;have r5:=OO z q cut b [] V hS h3;have r6:=O0 z q cut b [] V (.inl rfl);have r7:=OP z q cut b [] V hS h3 (.inl rfl);rw[if_pos rfl,aan]at r7;unfold bD bp at r4 r5 r6 r7
  with_reducible refine aO (r3) ?_
  refine gO F88 ?_;refine aR ?_;refine gO F88 ?_;refine I.again ?_;refine I.run ab F88 2000 ?_;(conv=>whnf);refine aU (by decide) ?_;refine gO F88 ?_;refine I.p9 ab (n:=4) rfl rfl rfl rfl rfl rfl (aS rfl) (aS rfl) rfl (by decide) ?_;refine gO F88 ?_
  with_reducible refine aO (r4) ?_
  refine gO F88 ?_;refine aW (by simpa using O3 V q.type) ?_;refine gO F88 ?_;refine I.again ?_;refine I.run ab F88 2000 ?_;(conv=>whnf);refine aU (by decide) ?_;refine gO F88 ?_;refine I.p9 ab (n:=5) rfl rfl rfl rfl rfl rfl (aS rfl) (aS rfl) rfl (by decide) ?_;refine gO F88 ?_
  with_reducible refine aO (r5) ?_
  refine gO F88 ?_;refine aW (by have:=O3 V 3;simp;omega) ?_;refine gO F88 ?_;refine I.again ?_;refine I.run ab F88 2000 ?_;(conv=>whnf);refine aU (by decide) ?_;refine gO F88 ?_;refine I.p9 ab (n:=6) rfl rfl rfl rfl rfl rfl (aS rfl) (aS rfl) rfl (by decide) ?_;refine gO F88 ?_
  with_reducible refine aO (r6) ?_
  refine gO F88 ?_;refine aR ?_;refine gO F88 ?_;refine I.again ?_;refine I.run ab F88 2000 ?_;(conv=>whnf);refine aW (by decide) ?_;refine gO F88 ?_
  with_reducible refine aO (r7) ?_
  refine gO F88 ?_;rfl
 |some w =>
  rw[hw]at r3;simp only[Option.getD_some]at r3;have AT:=aam hw;have hw0:w≠[]:=fun e=>by rw[e]at AT;exact absurd AT (by decide)
  have r4:=ON z q cut b w V hS h3;have r5:=OO z q cut b w V hS h3;have r7:=OP z q cut b w V hS h3 (.inr AT);rw[if_neg hw0]at r7;unfold bD bp at r4 r5 r7
  with_reducible refine aO (r3) ?_
  refine gO F88 ?_;refine aR ?_;refine gO F88 ?_;refine I.again ?_;refine I.run ab F88 2000 ?_;(conv=>whnf);refine aU (by decide) ?_;refine gO F88 ?_;refine I.p9 ab (n:=4) rfl rfl rfl rfl rfl rfl (aS rfl) (aS rfl) rfl (by decide) ?_;refine gO F88 ?_
  with_reducible refine aO (r4) ?_
  refine gO F88 ?_;by_cases d4:0<=bh z.ae ⟨w,q.type⟩
  ·refine aU (by simpa using d4) ?_;refine gO F88 ?_;simp only[if_pos d4];rfl
  refine aW (by simpa using d4) ?_;refine gO F88 ?_;refine I.again ?_;refine I.run ab F88 2000 ?_;(conv=>whnf);refine aU (by decide) ?_;refine gO F88 ?_;refine I.p9 ab (n:=5) rfl rfl rfl rfl rfl rfl (aS rfl) (aS rfl) rfl (by decide) ?_;refine gO F88 ?_
  with_reducible refine aO (r5) ?_
  refine gO F88 ?_;by_cases d5:0<=bh z.ae ⟨w,3⟩/\q.type≠8
  ·refine aU (by simpa using d5) ?_;refine gO F88 ?_;simp only[if_neg d4,if_pos d5];rfl
  refine aW (by simpa using d5) ?_;refine gO F88 ?_;refine I.again ?_;refine I.run ab F88 2000 ?_;(conv=>whnf);refine aU (by decide) ?_;refine gO F88 ?_;refine I.p9 ab (n:=6) rfl rfl rfl rfl rfl rfl (aS rfl) (aS rfl) rfl (by decide) ?_;refine gO F88 ?_;cases he:kr z.ae w
  case true =>
   have r6:=aae z q cut b w V hS h3 AT he;unfold bD bp at r6
   with_reducible refine aO (r6) ?_
   refine gO F88 ?_;refine bj ?_;refine gO F88 ?_;simp only[if_neg d4,if_neg d5,if_pos he];rfl
  have r6:=O0 z q cut b w V (.inr ⟨AT,he⟩);unfold bD bp at r6
  with_reducible refine aO (r6) ?_
  refine gO F88 ?_;refine aR ?_;refine gO F88 ?_;refine I.again ?_;refine I.run ab F88 2000 ?_;(conv=>whnf);refine aW (by decide) ?_;refine gO F88 ?_
  with_reducible refine aO (r7) ?_
  refine gO F88 ?_;simp only[if_neg d4,if_neg d5,he];rfl



end Go.Proofs.YtfmdaiojokniiaaGreatDoor.P
end
