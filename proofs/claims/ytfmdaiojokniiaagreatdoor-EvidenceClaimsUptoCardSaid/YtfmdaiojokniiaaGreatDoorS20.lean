/- Lemmas of mine. Conditions: as stated. -/
import Derived.Test.YtfmdaiojokniiaaGreatDoorS15
import Derived.Test.YtfmdaiojokniiaaGreatDoorS16
import Derived.Test.YtfmdaiojokniiaaGreatDoorS19
set_option linter.unusedVariables false
set_option linter.unusedSimpArgs false
open Bool renaming and_eq_true->aft
open List renaming suffix_refl->ahQ
section
namespace Go.Proofs.YtfmdaiojokniiaaGreatDoor.P
open Go Go.aA
set_option maxRecDepth 100000
set_option maxHeartbeats 4000000
theorem ZJ(a b:List Datum)(hl:a.length<=2147483648):ar E 113 [.sl (a.map Datum.enc),.sl (b.map Datum.enc)] (· = .bool (decide (a=b))):=by
 refine eP F113 ?_;refine ai (fun h3=>?_) (fun h3=>?_)
 ·have aJ:a≠b:=by rintro rfl;simp at h3
  rw[decide_eq_false aJ];refine gO F113 ?_
  with_reducible rfl
 have oQ:a.length=b.length:=by simp at h3;omega
 refine gO F113 ?_;refine J.loop (κ:=Nat) ([4,5]++rg 13 13) (fun k=>[(13,.d (.int .i64 k))]) (fun _=>[]) (fun k=>k<=a.length/\a.take k=b.take k) (fun k=>a.length-k) 0 ⟨Nat.zero_le _,rfl⟩ ?_ ?_
 ·exact sZ
 intro k hk IH;refine J.head ag F113 2000 ?_;(conv=>whnf);refine ai (fun h7=>?_) (fun h7=>?_)
 ·have ah:k<a.length:=by simpa using h7
  obtain⟨u,hu⟩:=aH ah;obtain⟨w,hw⟩:=aH (l:=b) (k:=k) (by omega);refine gO F113 ?_;refine dU ?_;refine aD (e:=u.enc) (aO hu) rfl ?_;refine gD ?_;refine aD (e:=w.enc) (aO hw) rfl ?_;refine gD ?_;refine gO F113 ?_;refine ai (fun h8=>?_) (fun h8=>?_)
  ·have aJ:u≠w:=by rintro rfl;simp at h8
   refine gO F113 ?_;rw[decide_eq_false (mL hu hw aJ)]
  ·have e1:u=w:=by
    obtain⟨u1,u2,u3⟩:=u;obtain⟨w1,w2,w3⟩:=w;simp at h8;simp[h8]
   refine gO F113 ?_;refine J.back (IH (k+1) ⟨by omega,pg hk.2 hu hw e1⟩ (by omega)) ?_;exact sZ
 ·have aC:k=a.length:=by simp at h7;omega
  have vQ:a=b:=pj hk.2 (by omega) (by omega);refine gO F113 ?_;simp[vQ]
theorem ZK(a b:List c9)(hl:a.length<=2147483648):ar E 114 [.sl (a.map c9.enc),.sl (b.map c9.enc)] (· = .bool (decide (a=b))):=by
 refine eP F114 ?_;refine ai (fun h3=>?_) (fun h3=>?_)
 ·have aJ:a≠b:=by rintro rfl;simp at h3
  rw[decide_eq_false aJ];refine gO F114 ?_
  with_reducible rfl
 have oQ:a.length=b.length:=by simp at h3;omega
 refine gO F114 ?_;refine J.loop (κ:=Nat) ([4,5]++rg 13 13) (fun k=>[(13,.d (.int .i64 k))]) (fun _=>[]) (fun k=>k<=a.length/\a.take k=b.take k) (fun k=>a.length-k) 0 ⟨Nat.zero_le _,rfl⟩ ?_ ?_
 ·exact sZ
 intro k hk IH;refine J.head ag F114 2000 ?_;(conv=>whnf);refine ai (fun h7=>?_) (fun h7=>?_)
 ·have ah:k<a.length:=by simpa using h7
  obtain⟨u,hu⟩:=aH ah;obtain⟨w,hw⟩:=aH (l:=b) (k:=k) (by omega);refine gO F114 ?_;refine dU ?_;refine aD (e:=u.enc) (aO hu) rfl ?_;refine gD ?_;refine aD (e:=w.enc) (aO hw) rfl ?_;refine gD ?_;refine gO F114 ?_;refine ai (fun h8=>?_) (fun h8=>?_)
  ·have aJ:u≠w:=by rintro rfl;simp at h8
   refine gO F114 ?_;rw[decide_eq_false (mL hu hw aJ)]
  ·have e1:u=w:=by
    obtain⟨u1,u2,u3,u4,u5,u6⟩:=u;obtain⟨w1,w2,w3,w4,w5,w6⟩:=w;simp at h8;simp[h8]
   refine gO F114 ?_;refine J.back (IH (k+1) ⟨by omega,pg hk.2 hu hw e1⟩ (by omega)) ?_;exact sZ
 ·have aC:k=a.length:=by simp at h7;omega
  have vQ:a=b:=pj hk.2 (by omega) (by omega);refine gO F114 ?_;simp[vQ]
end Go.Proofs.YtfmdaiojokniiaaGreatDoor.P
end
section
namespace Go.aA
open Go Go.RowKit
section
variable {E:Env} {s:List AV} {h:List af}
variable {aj:FuncId} {R:cF} {ops:Array Oper} {o:Oper} {l:List Oper} {k:List aT} {lits:List Nat}
end
end Go.aA
end
section
namespace Go.Proofs.YtfmdaiojokniiaaGreatDoor.P
open Go Go.aA Go.Sort Go.RowKit
end Go.Proofs.YtfmdaiojokniiaaGreatDoor.P
end
section
namespace Go.aA
open Go Go.RowKit
section
variable {E:Env} {s:List AV} {h:List af}
end
end Go.aA
end
section
namespace Go.Proofs.YtfmdaiojokniiaaGreatDoor.P
open Go Go.aA
set_option maxRecDepth 100000
set_option maxHeartbeats 4000000
def IZ(a:dZ):DV := .agg [.int .i64 a.kind,if a.kind=0\/a.kind=7 then .aI else .sl (a.ae.map Signed.enc),.str a.cut]
theorem abj{z:bc}{q:bC}{cut:Text}{b:Bool}(hu:Nm.under q.name z.ao=true)(h1:b=true->nX z q.name=some cut)(h0:b=false->nX z q.name=none)(hs:oM q cut b=true):tW z q=qy z q:=by
 rw[tW,if_pos hu];cases b
 ·rw[h0 rfl]
 ·rw[h1 rfl];simp[oM]at hs;simp[hs]
theorem abk{z:bc}{q:bC}{cut:Text}(hu:Nm.under q.name z.ao=true)(h1:nX z q.name=some cut)(hs:oM q cut true=false):tW z q=⟨4,eQ z.ae (mb z.ae cut),cut⟩:=by
 rw[tW,if_pos hu,h1];simp[oM]at hs;have:¬ (q.name=cut/\(q.type=6\/q.type=8)):=fun⟨e1,e2⟩=>by
  have:=hs e1;omega
 simp[this]
theorem abl{z:bc}(V:iW z){n c:Text}(h:nX z n=some c):Nm.valid c=true/\0<=bk z.ae ⟨c,2⟩:=by
 have hm:=List.mem_of_find?_eq_some h;obtain⟨s,hs,e,hc⟩:=qi hm;have h2:=(IW hm).1;refine⟨e ▸ V.names s hs,?_⟩;rw[Ni]at h2
 simpa using h2
theorem PR(l:List Signed):∀ (L:List Text),nW l L <:+ L
 |[]=>ahQ _
 |x::r=>by
  unfold nW;split
  ·exact ahQ _
  ·exact(PR l r).trans (List.suffix_cons _ _)
theorem abm{t:Text}:∀ x∈Nm.labels t,(46:UInt8) ∉ x:=fun x hx=>by
 unfold Nm.labels at hx;split at hx
 ·cases hx
 ·exact Nm.Lu t x hx
theorem abn{l:List Signed}{n w:Text}(h:tV l n=some w):Nm.valid w=true:=by
 have hM:∀ x∈[42]::nW l (Nm.labels n),(46:UInt8) ∉ x:=fun x hx=>by
  rcases List.mem_cons.1 hx with rfl|hx
  ·decide
  ·exact abm x ((PR l _).subset hx)
 unfold tV py at h;generalize nW l (Nm.labels n)=r at *;have e:gX ([42]::r)=Nm.glue ([42]::r):=by simp[gX]
 rw[e]at h;split at h
 ·rename_i q;cases h;simp only[aft,decide_eq_true_eq]at q;have hs:Nm.split (Nm.glue ([42]::r))=[42]::r:=Nm.Lv _ (by simp) hM;simp[Nm.valid,hs,q.1,q.2]
 ·cases h
theorem PT{p:Int}(h:0<=p):db [p]=[p]:=by
 simp[db,lC];omega
theorem abo(a b:Int):db [a,b,-1]=db [a,b]:=by
 simp[db,lC]
theorem PU{z:bc}(V:iW z)(t:Int):¬ 0<=bk z.ae ⟨[],t⟩:=fun h=>by
 obtain⟨s,h1,h2⟩:=IK h;have e:=congrArg bC.name (IL h2);have:=V.names s (List.mem_of_getElem? h1);simp only at e;rw[<- e]at this;exact absurd this (by decide)
theorem abp(z:bc)(q:bC)(hf:z.Fits)(hn:q.name.length<=maxLen):ar E 88 [z.enc,q.enc] (· = .aF [IZ (pz z q),.int .i64 (sc z q)]):=by
 have c1:=aa9 z q.name hf hn;unfold IX at c1;by_cases hq:fM q=false\/eu z=false
 ·have h1:sc z q=1:=by
   rw[sc];rcases hq with h|h<;>simp[h]
  rw[pz,h1,if_neg (by decide)];refine eP F88 ?_;by_cases t1:q.type<1
  ·refine aY (decide_eq_true t1) ?_;refine gO F88 ?_;refine a8 ?_;refine gO F88 ?_;rfl
  refine aU (decide_eq_false t1) ?_;refine gO F88 ?_;by_cases t2:8<q.type
  ·refine aY (decide_eq_true t2) ?_;refine gO F88 ?_;rfl
  refine aU (decide_eq_false t2) ?_;refine gO F88 ?_;have e:(Nm.valid q.name&&eu z)=false:=by
   rcases hq with h|h
   ·have g1:1<=q.type:=by omega
    have g2:q.type<=8:=by omega
    simp[fM,g1,g2]at h;simp[h]
   ·simp[h]
  rw[e]at c1;refine aq (c1) ?_;refine gO F88 ?_;refine aR ?_;refine gO F88 ?_;refine a8 ?_;refine gO F88 ?_;rfl
 have h2:eu z=true:=by simpa using fun h=>hq (.inr h)
 have h3:fM q=true:=by simpa using fun h=>hq (.inl h)
 have hN:sc z q=0:=by simp[sc,h2,h3]
 have V:=Pu h2;have hS:=HJ h2;simp only[fM,aft,decide_eq_true_eq]at h3;obtain⟨h3,h4,h5⟩:=h3;rw[pz,hN,if_pos rfl];rw[h2,h3]at c1;cases hu:Nm.under q.name z.ao
 ·rw[hu]at c1;have e:tW z q=⟨7,[],[]⟩:=by rw[tW,hu];rfl
  rw[e];refine eP F88 ?_;refine aU (decide_eq_false (by omega)) ?_;refine gO F88 ?_;refine aU (decide_eq_false (by omega)) ?_;refine gO F88 ?_;refine aq (c1) ?_;refine gO F88 ?_;refine a8 ?_;refine gO F88 ?_;rfl
 rw[hu]at c1;obtain⟨cut,b,k1,k2,k3⟩:∃ cut b,(b=true->nX z q.name=some cut)/\(b=false->nX z q.name=none)/\ar E 155 [z.enc,.str q.name] (· = .aF [.str cut,.bool b,.int .i64 0]):=by
  cases e:nX z q.name with
  |none=>rw[e]at c1;exact⟨[],false,by simp,by simp,c1⟩
  |some c=>rw[e]at c1;exact⟨c,true,by simp,by simp,c1⟩
 clear c1;have hv:=aaD z q (by have:=V.len;omega);refine eP F88 ?_;refine aU (decide_eq_false (by omega)) ?_;refine gO F88 ?_;refine aU (decide_eq_false (by omega)) ?_;refine gO F88 ?_;refine aq (k3) ?_;refine gO F88 ?_;refine aR ?_;refine gO F88 ?_;refine aR ?_;refine gO F88 ?_;refine xn (hv) rfl ?_;refine gO F88 ?_;refine J.ZR ag rfl rfl rfl rfl rfl rfl rfl rfl rfl ?_;refine gO F88 ?_;refine J.ZS ag rfl rfl rfl rfl rfl rfl (aV rfl) rfl ?_;refine gO F88 ?_;refine J.mB ?_;refine J.run ag F88 2000 ?_;(conv=>whnf);refine aY (by decide) ?_;refine gO F88 ?_;refine J.qw ag (n:=0) rfl rfl rfl rfl rfl rfl (aV rfl) (aV rfl) rfl (by decide) ?_;refine gO F88 ?_;cases hs:oM q cut b
 ·obtain rfl:b=true:=by
   cases b
   ·simp[oM]at hs
   ·rfl
  obtain⟨v1,v2⟩:=abl V (k1 rfl);have r0:=abi z q cut [] V hS v1 v2 hs;unfold bE bq at r0;rw[abk hu (k1 rfl) hs]
  with_reducible refine aS (r0) ?_
  refine gO F88 ?_;refine a8 ?_;refine gO F88 ?_;rfl
 have r0:=abh z q cut b [] hs;unfold bE bq at r0;rw[abj hu k1 k2 hs];clear k1 k2 k3 hs
 with_reducible refine aS (r0) ?_
 refine gO F88 ?_;refine aR ?_;refine gO F88 ?_;refine J.again ?_;refine J.run ag F88 2000 ?_;(conv=>whnf);refine aY (by decide) ?_;refine gO F88 ?_;refine J.qw ag (n:=1) rfl rfl rfl rfl rfl rfl (aV rfl) (aV rfl) rfl (by decide) ?_;refine gO F88 ?_;have r1:=aaR z q cut b [] V hS;unfold bE bq at r1
 with_reducible refine aS (r1) ?_
 refine gO F88 ?_;by_cases d1:0<=bk z.ae q
 ·refine aY (by simpa using d1) ?_;refine gO F88 ?_;rw[qy,if_pos d1,PT d1];rfl
 refine aU (by simpa using d1) ?_;refine gO F88 ?_;refine J.again ?_;refine J.run ag F88 2000 ?_;(conv=>whnf);refine aY (by decide) ?_;refine gO F88 ?_;refine J.qw ag (n:=2) rfl rfl rfl rfl rfl rfl (aV rfl) (aV rfl) rfl (by decide) ?_;refine gO F88 ?_;have r2:=aaS z q cut b [] V hS;unfold bE bq at r2
 with_reducible refine aS (r2) ?_
 refine gO F88 ?_;by_cases d2:0<=bk z.ae ⟨q.name,3⟩/\q.type≠8
 ·refine aY (by simpa using d2) ?_;refine gO F88 ?_;rw[qy,if_neg d1,if_pos d2,PT d2.1];rfl
 refine aU (by simpa using d2) ?_;refine gO F88 ?_;refine J.again ?_;refine J.run ag F88 2000 ?_;(conv=>whnf);refine aY (by decide) ?_;refine gO F88 ?_;refine J.qw ag (n:=3) rfl rfl rfl rfl rfl rfl (aV rfl) (aV rfl) rfl (by decide) ?_;refine gO F88 ?_;cases he:kP z.ae q.name
 case true =>
  have r3:=abd z q cut b [] V hS h3 he;unfold bE bq at r3
  with_reducible refine aS (r3) ?_
  refine gO F88 ?_;refine a8 ?_;refine gO F88 ?_;rw[qy,if_neg d1,if_neg d2,if_pos he];rfl
 have r3:=abe z q cut b [] V h3 hu he;unfold bE bq at r3;rw[qy,if_neg d1,if_neg d2,he,if_neg (by decide)];clear d1 d2 he r0 r1 r2;cases hw:tV z.ae q.name with
 |none =>
  rw[hw]at r3;simp only[Option.getD_none]at r3;have r4:=PC z q cut b [] V hS h3;have r5:=PD z q cut b [] V hS h3;have r6:=PQ z q cut b [] V (.inl rfl);have r7:=PE z q cut b [] V hS h3 (.inl rfl);rw[if_pos rfl,abo]at r7;unfold bE bq at r4 r5 r6 r7
  with_reducible refine aS (r3) ?_
  refine gO F88 ?_;refine aR ?_;refine gO F88 ?_;refine J.again ?_;refine J.run ag F88 2000 ?_;(conv=>whnf);refine aY (by decide) ?_;refine gO F88 ?_;refine J.qw ag (n:=4) rfl rfl rfl rfl rfl rfl (aV rfl) (aV rfl) rfl (by decide) ?_;refine gO F88 ?_
  with_reducible refine aS (r4) ?_
  refine gO F88 ?_;refine aU (by simpa using PU V q.type) ?_;refine gO F88 ?_;refine J.again ?_;refine J.run ag F88 2000 ?_;(conv=>whnf);refine aY (by decide) ?_;refine gO F88 ?_;refine J.qw ag (n:=5) rfl rfl rfl rfl rfl rfl (aV rfl) (aV rfl) rfl (by decide) ?_;refine gO F88 ?_
  with_reducible refine aS (r5) ?_
  refine gO F88 ?_;refine aU (by have:=PU V 3;simp;omega) ?_;refine gO F88 ?_;refine J.again ?_;refine J.run ag F88 2000 ?_;(conv=>whnf);refine aY (by decide) ?_;refine gO F88 ?_;refine J.qw ag (n:=6) rfl rfl rfl rfl rfl rfl (aV rfl) (aV rfl) rfl (by decide) ?_;refine gO F88 ?_
  with_reducible refine aS (r6) ?_
  refine gO F88 ?_;refine aR ?_;refine gO F88 ?_;refine J.again ?_;refine J.run ag F88 2000 ?_;(conv=>whnf);refine aU (by decide) ?_;refine gO F88 ?_
  with_reducible refine aS (r7) ?_
  refine gO F88 ?_;rfl
 |some w =>
  rw[hw]at r3;simp only[Option.getD_some]at r3;have Bg:=abn hw;have hw0:w≠[]:=fun e=>by rw[e]at Bg;exact absurd Bg (by decide)
  have r4:=PC z q cut b w V hS h3;have r5:=PD z q cut b w V hS h3;have r7:=PE z q cut b w V hS h3 (.inr Bg);rw[if_neg hw0]at r7;unfold bE bq at r4 r5 r7
  with_reducible refine aS (r3) ?_
  refine gO F88 ?_;refine aR ?_;refine gO F88 ?_;refine J.again ?_;refine J.run ag F88 2000 ?_;(conv=>whnf);refine aY (by decide) ?_;refine gO F88 ?_;refine J.qw ag (n:=4) rfl rfl rfl rfl rfl rfl (aV rfl) (aV rfl) rfl (by decide) ?_;refine gO F88 ?_
  with_reducible refine aS (r4) ?_
  refine gO F88 ?_;by_cases d4:0<=bk z.ae ⟨w,q.type⟩
  ·refine aY (by simpa using d4) ?_;refine gO F88 ?_;simp only[if_pos d4];rfl
  refine aU (by simpa using d4) ?_;refine gO F88 ?_;refine J.again ?_;refine J.run ag F88 2000 ?_;(conv=>whnf);refine aY (by decide) ?_;refine gO F88 ?_;refine J.qw ag (n:=5) rfl rfl rfl rfl rfl rfl (aV rfl) (aV rfl) rfl (by decide) ?_;refine gO F88 ?_
  with_reducible refine aS (r5) ?_
  refine gO F88 ?_;by_cases d5:0<=bk z.ae ⟨w,3⟩/\q.type≠8
  ·refine aY (by simpa using d5) ?_;refine gO F88 ?_;simp only[if_neg d4,if_pos d5];rfl
  refine aU (by simpa using d5) ?_;refine gO F88 ?_;refine J.again ?_;refine J.run ag F88 2000 ?_;(conv=>whnf);refine aY (by decide) ?_;refine gO F88 ?_;refine J.qw ag (n:=6) rfl rfl rfl rfl rfl rfl (aV rfl) (aV rfl) rfl (by decide) ?_;refine gO F88 ?_;cases he:kP z.ae w
  case true =>
   have r6:=abf z q cut b w V hS h3 Bg he;unfold bE bq at r6
   with_reducible refine aS (r6) ?_
   refine gO F88 ?_;refine a8 ?_;refine gO F88 ?_;simp only[if_neg d4,if_neg d5,if_pos he];rfl
  have r6:=PQ z q cut b w V (.inr ⟨Bg,he⟩);unfold bE bq at r6
  with_reducible refine aS (r6) ?_
  refine gO F88 ?_;refine aR ?_;refine gO F88 ?_;refine J.again ?_;refine J.run ag F88 2000 ?_;(conv=>whnf);refine aU (by decide) ?_;refine gO F88 ?_
  with_reducible refine aS (r7) ?_
  refine gO F88 ?_;simp only[if_neg d4,if_neg d5,he];rfl



end Go.Proofs.YtfmdaiojokniiaaGreatDoor.P
end
