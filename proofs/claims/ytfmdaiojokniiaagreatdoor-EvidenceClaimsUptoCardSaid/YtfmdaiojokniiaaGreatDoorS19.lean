/- Lemmas of mine. Conditions: as stated. -/
import Derived.Test.YtfmdaiojokniiaaGreatDoorS14
import Derived.Test.YtfmdaiojokniiaaGreatDoorS18
set_option linter.unusedVariables false
set_option linter.unusedSimpArgs false
open Bool renaming and_eq_true->aft
open List renaming mem_cons->afu,mem_of_getElem?->afh,getElem?_map->ad1,length_take->aeu,append_nil->ags,take_of_length_le->afS,map_cons->ad0,map_nil->agU
open Nat renaming zero_le->afv
section
namespace Go.Proofs.YtfmdaiojokniiaaGreatDoor.P
open Go Go.aA
set_option maxRecDepth 100000
set_option maxHeartbeats 4000000
theorem aa'{l:List Signed}{c:Text}(h:kP l c=true):nW l (Nm.labels c)=Nm.labels c:=by
 cases e:Nm.labels c with
 |nil=>rfl
 |cons x r=>rw[nW,<- e,Bd,if_pos h]
theorem aba{l:List Signed}{c:Text}(h:kP l c=false):nW l (Nm.labels c)=nW l (Nm.labels c).tail:=by
 cases e:Nm.labels c with
 |nil=>rfl
 |cons x r=>rw[nW,<- e,Bd,h];simp[e]
theorem abb{t:Text}(hv:Nm.valid t=true):(Nm.labels t).length<=8/\∀ x∈Nm.labels t,x.length<=100:=by
 by_cases hr:t=[46]
 ·subst hr;simp[PK]
 obtain⟨h1,h2⟩:=PM hv hr;rw[Nm.labels,if_neg hr];obtain⟨p1,p2⟩:=rp.1 h2;refine⟨p1,fun x hx=>?_⟩;obtain⟨i,hi⟩:=List.getElem?_of_mem hx;have:=p2 i x hi;simp only[gT,Nm.label,Bool.or_eq_true,aft,decide_eq_true_eq]at this;rcases this with h|⟨_,rfl⟩
 ·omega
 ·simp
theorem abc(z:bc)(q:bC)(cut:Text)(b:Bool)(w:Text)(V:iW z)(hq:Nm.valid q.name=true)(hu:Nm.under q.name z.ao=true):aw E 242 [bE z q cut b w,bq z] [.ptr 0 0] (fun x h=>x=.d (.str ((tV z.ae q.name).getD []))/\h=[bE z q cut b w,bq z]):=by
 have c0:=fun n hn=>Bf z q cut b w n V hn;unfold bE bq at c0;apply aw.kK
 case hk=>rfl
 case hc =>
  unfold bE bq;refine aw.run ag (fn:=Tryz.f242) Tryz.func242 (body:=Tryz.f242.body.getD .skip) rfl (by decide) 2000 rfl ?_;(conv=>whnf);refine J.loop (κ:=Text) ([3]++rg 13 17) (fun c=>[(3,.d (.str c))]) (fun _=>[]) (fun c=>Nm.valid c=true/\Nm.under c z.ao=true/\nW z.ae (Nm.labels q.name)=nW z.ae (Nm.labels c)) (fun c=>(Nm.labels c).length) q.name ⟨hq,hu,rfl⟩ ?_ ?_
  ·exact sZ
  rintro c ⟨k1,k2,k3⟩ IH;refine J.head ag F242 2000 ?_;(conv=>whnf);have c1:=c0 c k1;have nI:=GK c (by have:=dV k1;exact ni (by omega));unfold Ag at nI;rw[k1]at nI;have hl:=abb k1;have fin:kP z.ae c=true->tV z.ae q.name=py ([42]::Nm.labels c):=fun h=>by rw[tV,k3,aa' h]
  have hj:=aaZ ([42]::Nm.labels c) (by simp;omega) (fun t ht=>by
   rcases afu.1 ht with rfl|h
   ·simp
   ·exact hl.2 t h)
  by_cases h4:c=z.ao
  ·rw[fin (by rw[h4];exact V.aav)];clear fin IH;refine aU (by simpa using h4) ?_;refine gO F242 ?_;refine aR ?_;refine gO F242 ?_;refine aq nI ?_;(conv=>whnf);refine J.run ag F242 8 ?_;(conv=>whnf);refine J.ra ag rfl ?_;refine gO F242 ?_;refine aW ⟨by simp;omega,by simp[DV.cells]⟩ ?_;(conv=>whnf);refine J.freeze 2 ?_;(conv=>whnf);refine gO F242 ?_;cases hJ:py ([42]::Nm.labels c)with
   |none =>
    rw[hJ]at hj;refine aq (hj) ?_;refine gO F242 ?_;refine a8 ?_;refine gO F242 ?_;exact⟨rfl,rfl⟩
   |some t =>
    rw[hJ]at hj;refine aq (hj) ?_;refine gO F242 ?_;refine aR ?_;refine gO F242 ?_;exact⟨rfl,rfl⟩
  ·refine aY (by simpa using h4) ?_;have hr:c≠[46]:=fun e=>h4 (by rw[e]at k2 ⊢;exact(PN k2).symm);refine gO F242 ?_
   with_reducible refine aS (c1) ?_
   refine gO F242 ?_;cases h5:kP z.ae c
   ·refine a8 ?_;have c5:=PJ c k1 hr;refine gO F242 ?_;refine aq (c5) ?_;refine gO F242 ?_;refine J.back (IH (gX (Nm.labels c).tail) ⟨(yq k1 hr).1,IV k1 hr k2 h4,by rw[k3,aba h5,(yq k1 hr).2]⟩ (PO k1 hr)) ?_;exact sZ
   ·rw[fin h5];clear fin IH;refine aR ?_;refine gO F242 ?_;refine aq nI ?_;(conv=>whnf);refine J.run ag F242 8 ?_;(conv=>whnf);refine J.ra ag rfl ?_;refine gO F242 ?_;refine aW ⟨by simp;omega,by simp[DV.cells]⟩ ?_;(conv=>whnf);refine J.freeze 2 ?_;(conv=>whnf);refine gO F242 ?_;cases hJ:py ([42]::Nm.labels c)with
    |none =>
     rw[hJ]at hj;refine aq (hj) ?_;refine gO F242 ?_;refine a8 ?_;refine gO F242 ?_;exact⟨rfl,rfl⟩
    |some t =>
     rw[hJ]at hj;refine aq (hj) ?_;refine gO F242 ?_;refine aR ?_;refine gO F242 ?_;exact⟨rfl,rfl⟩
def IY:DV := .agg [.int .i64 0,.aI,.str []]
theorem abd(z:bc)(q:bC)(cut:Text)(b:Bool)(w:Text)(V:iW z)(hf:z.lv)(hq:Nm.valid q.name=true)(he:kP z.ae q.name=true):aw E 160 [bE z q cut b w,bq z] [.ptr 0 0] (fun x h=>x=.aF [.d (pA 5 (eQ z.ae (db [bk z.ae ⟨z.ao,4⟩,fc z.ae q.name])) []),.d (.bool true)]/\h=[bE z q cut b w,bq z]):=by
 have c0:=Bf z q cut b w q.name V hq;have c1:=IS z q cut b w V.sorted;have c3:=wm z q cut b w q.name V hq;have ah:=(ie (l:=z.ae) (q:=⟨z.ao,4⟩)).2;have l6:=(wh (l:=z.ae) (n:=q.name)).2;rw[he]at c0;generalize bk z.ae ⟨z.ao,4⟩=i at *;generalize fc z.ae q.name=j at *;have c2:=mY z q cut b w 5 [i,j] hf (fun p hp=>by simp at hp;rcases hp with rfl|rfl<;>assumption) (by simp);simp only[ad0,agU]at c2;unfold bE bq at c0 c1 c2 c3;apply aw.kK
 case hk=>rfl
 case hc =>
  unfold bE bq;refine aw.run ag (fn:=Tryz.f160) Tryz.func160 (body:=Tryz.f160.body.getD .skip) rfl (by decide) 2000 rfl ?_;conv=>whnf
  with_reducible refine aS (c0) ?_
  refine gO Tryz.func160 ?_;refine a8 ?_;refine gO Tryz.func160 ?_;refine dU ?_;refine kp (c1) ?_;refine And.intro rfl ?_;refine gD ?_;refine kp (c3) ?_;refine And.intro rfl ?_;refine gD ?_;refine kp (c2) ?_;refine And.intro rfl ?_;refine gD ?_;refine gO Tryz.func160 ?_;exact⟨rfl,rfl⟩
theorem abe(z:bc)(q:bC)(cut:Text)(b:Bool)(w:Text)(V:iW z)(hq:Nm.valid q.name=true)(hu:Nm.under q.name z.ao=true)(he:kP z.ae q.name=false):aw E 160 [bE z q cut b w,bq z] [.ptr 0 0] (fun x h=>x=.aF [.d IY,.d (.bool false)]/\h=[bE z q cut b ((tV z.ae q.name).getD []),bq z]):=by
 have c0:=Bf z q cut b w q.name V hq;have c1:=abc z q cut b w V hq hu;rw[he]at c0;unfold bE bq at c0 c1;apply aw.kK
 case hk=>rfl
 case hc =>
  unfold bE bq;refine aw.run ag (fn:=Tryz.f160) Tryz.func160 (body:=Tryz.f160.body.getD .skip) rfl (by decide) 2000 rfl ?_;conv=>whnf
  with_reducible refine aS (c0) ?_
  refine gO Tryz.func160 ?_;refine aR ?_;refine gO Tryz.func160 ?_
  with_reducible refine aS (c1) ?_
  refine gO Tryz.func160 ?_;exact⟨rfl,rfl⟩
theorem PQ(z:bc)(q:bC)(cut:Text)(b:Bool)(w:Text)(V:iW z)(hw:w=[]\/(Nm.valid w=true/\kP z.ae w=false)):aw E 163 [bE z q cut b w,bq z] [.ptr 0 0] (fun x h=>x=.aF [.d IY,.d (.bool false)]/\h=[bE z q cut b w,bq z]):=by
 apply aw.kK
 case hk=>rfl
 case hc =>
  by_cases h0:w=[]
  ·subst h0;unfold bE bq;refine aw.run ag (fn:=Tryz.f163) Tryz.func163 (body:=Tryz.f163.body.getD .skip) rfl (by decide) 2000 rfl ?_;(conv=>whnf);refine aY (by decide) ?_;refine gO F163 ?_;refine a8 ?_;refine gO F163 ?_;exact⟨rfl,rfl⟩
  ·obtain⟨h1,h2⟩:=hw.resolve_left h0;have c0:=Bf z q cut b w w V h1;rw[h2]at c0;unfold bE bq at c0 ⊢;refine aw.run ag (fn:=Tryz.f163) Tryz.func163 (body:=Tryz.f163.body.getD .skip) rfl (by decide) 2000 rfl ?_;(conv=>whnf);refine aU (by simpa using h0) ?_;refine gO F163 ?_
   with_reducible refine aS (c0) ?_
   refine gO F163 ?_;refine a8 ?_;refine gO F163 ?_;exact⟨rfl,rfl⟩
theorem abf(z:bc)(q:bC)(cut:Text)(b:Bool)(w:Text)(V:iW z)(hf:z.lv)(hq:Nm.valid q.name=true)(hw:Nm.valid w=true)(he:kP z.ae w=true):aw E 163 [bE z q cut b w,bq z] [.ptr 0 0] (fun x h=>x=.aF [.d (pA 5 (eQ z.ae (db [bk z.ae ⟨z.ao,4⟩,fc z.ae q.name,fc z.ae w])) []),.d (.bool true)]/\h=[bE z q cut b w,bq z]):=by
 have c0:=Bf z q cut b w w V hw;have c1:=IS z q cut b w V.sorted;have c3:=wm z q cut b w q.name V hq;have c4:=wm z q cut b w w V hw;have ah:=(ie (l:=z.ae) (q:=⟨z.ao,4⟩)).2;have l6:=(wh (l:=z.ae) (n:=q.name)).2;have aaT:=(wh (l:=z.ae) (n:=w)).2;have h0:w≠[]:=fun e=>by rw[e]at hw;exact absurd hw (by decide)
 rw[he]at c0;generalize bk z.ae ⟨z.ao,4⟩=i at *;generalize fc z.ae q.name=j at *;generalize fc z.ae w=m at *;have c2:=mY z q cut b w 5 [i,j,m] hf (fun p hp=>by simp at hp;rcases hp with rfl|rfl|rfl<;>assumption) (by simp);simp only[ad0,agU]at c2;unfold bE bq at c0 c1 c2 c3 c4;apply aw.kK
 case hk=>rfl
 case hc =>
  unfold bE bq;refine aw.run ag (fn:=Tryz.f163) Tryz.func163 (body:=Tryz.f163.body.getD .skip) rfl (by decide) 2000 rfl ?_;(conv=>whnf);refine aU (by simpa using h0) ?_;refine gO F163 ?_
  with_reducible refine aS (c0) ?_
  refine gO F163 ?_;refine aR ?_;refine gO F163 ?_;refine dU ?_;refine kp (c1) ?_;refine And.intro rfl ?_;refine gD ?_;refine kp (c3) ?_;refine And.intro rfl ?_;refine gD ?_;refine kp (c4) ?_;refine And.intro rfl ?_;refine gD ?_;refine kp (c2) ?_;refine And.intro rfl ?_;refine gD ?_;refine gO F163 ?_;exact⟨rfl,rfl⟩
theorem abg{s:cM}(h:er s=true)(ht:s.type=2):∀ d∈s.data,Nm.valid d.text=true:=fun d hd=>by
 simp only[er,aft]at h;have:=GM h.2 d hd;rw[ht]at this;simp only[kz,aft]at this;have:=this.2;simp[nE,fV]at this;exact this.1
def gE(l:List Signed)(c:Text)(D:List Datum):List Int:=(D.filter fun d=>Nm.under d.text c).map fun d=>bk l ⟨d.text,1⟩
theorem yr{l:List Signed}{c:Text}{D:List Datum}{k:Nat}{d:Datum}(h:D[k]?=some d):gE l c (D.take (k+1))=gE l c (D.take k)++(if Nm.under d.text c then[bk l ⟨d.text,1⟩]else[]):=by
 rw[cG h];unfold gE;rw[List.filter_append,List.map_append];cases e:Nm.under d.text c<;>simp[e]
theorem wo(l:List Signed)(c:Text)(D:List Datum):(gE l c D).length<=D.length:=by
 unfold gE;rw[List.length_map];exact List.length_filter_le _ _
theorem yu{l:List Signed}{c:Text}{D:List Datum}{p:Int}(h:p∈gE l c D):p<l.length:=by
 simp only[gE,List.mem_map]at h;obtain⟨d,-,rfl⟩:=h;exact ie.2
def oM(q:bC)(cut:Text)(b:Bool):Bool := !b||(decide (q.name=cut)&&(decide (q.type=6)||decide (q.type=8)))
theorem abh(z:bc)(q:bC)(cut:Text)(b:Bool)(w:Text)(hb:oM q cut b=true):aw E 157 [bE z q cut b w,bq z] [.ptr 0 0] (fun x h=>x=.aF [.d IY,.d (.bool false)]/\h=[bE z q cut b w,bq z]):=by
 apply aw.kK
 case hk=>rfl
 case hc =>
  unfold bE bq;by_cases h6:q.type=6
  ·refine aw.run ag (fn:=Tryz.f157) Tryz.func157 (body:=Tryz.f157.body.getD .skip) rfl (by decide) 2000 rfl ?_;(conv=>whnf);refine aY (by simpa using h6) ?_;refine gO F157 ?_;cases b
   ·refine dU ?_;refine a8 ?_;refine gD ?_;refine gO F157 ?_;refine a8 ?_;refine gO F157 ?_;exact⟨rfl,rfl⟩
   ·have hn:q.name=cut:=by simpa [oM,h6]using hb
    refine dU ?_;refine aR ?_;refine gD ?_;refine aY (by simpa using hn) ?_;refine gD ?_;refine gO F157 ?_;refine a8 ?_;refine gO F157 ?_;exact⟨rfl,rfl⟩
  ·refine aw.run ag (fn:=Tryz.f157) Tryz.func157 (body:=Tryz.f157.body.getD .skip) rfl (by decide) 2000 rfl ?_;(conv=>whnf);refine aU (by simpa using h6) ?_;refine gO F157 ?_;cases b
   ·refine dU ?_;refine a8 ?_;refine gD ?_;refine gO F157 ?_;refine a8 ?_;refine gO F157 ?_;exact⟨rfl,rfl⟩
   ·have hn:q.name=cut/\q.type=8:=by simpa [oM,h6]using hb
    refine dU ?_;refine aR ?_;refine gD ?_;refine aY (by simpa using hn.1) ?_;refine gD ?_;refine gO F157 ?_;refine aY (by simpa using hn.2) ?_;refine gO F157 ?_;exact⟨rfl,rfl⟩
theorem abi(z:bc)(q:bC)(cut:Text)(w:Text)(V:iW z)(hf:z.lv)(hc:Nm.valid cut=true)(h2:0<=bk z.ae ⟨cut,2⟩)(hb:oM q cut true=false):aw E 157 [bE z q cut true w,bq z] [.ptr 0 0] (fun x h=>x=.aF [.d (pA 4 (eQ z.ae (mb z.ae cut)) cut),.d (.bool true)]/\h=[bE z q cut true w,bq z]):=by
 have p2:=se z q cut true w cut 2 V.sorted;have p6:=se z q cut true w cut 6 V.sorted;have p8:=se z q cut true w cut 8 V.sorted;have p1:=fun n=>se z q cut true w n 1 V.sorted;have oQ:=(ie (l:=z.ae) (q:=⟨cut,2⟩)).2;obtain⟨s,hs,iN⟩:=IK h2;have lb:=abg (V.ae s (afh hs)) (congrArg bC.type (IL iN)).symm;have hl8:=(vt (V.ae s (afh hs))).2.1;have adI:=wo z.ae cut s.set.data;have kF:IP z.ae cut=s.set.data:=by rw[IP,hs]
 unfold bE bq at p2 p6 p8 p1;apply aw.kK
 case hk=>rfl
 case hc =>
  unfold bE bq;by_cases h6:q.type=6
  ·have hn:q.name≠cut:=fun e=>by simp[oM,h6,e]at hb
   refine aw.run ag (fn:=Tryz.f157) Tryz.func157 (body:=Tryz.f157.body.getD .skip) rfl (by decide) 2000 rfl ?_;(conv=>whnf);refine aY (by simpa using h6) ?_;refine gO F157 ?_;refine dU ?_;refine aR ?_;refine gD ?_;refine aU (by simpa using hn) ?_;refine gD ?_;refine gO F157 ?_;refine aR ?_;refine gO F157 ?_
   with_reducible refine aS (p2) ?_
   refine gO F157 ?_;by_cases ah:bk z.ae ⟨cut,6⟩<0
   ·with_reducible refine aS (p6) ?_
    refine gO F157 ?_;refine aY (decide_eq_true ah) ?_;refine gO F157 ?_
    with_reducible refine aS p8 ?_
    (conv=>whnf);refine J.run ag F157 6 ?_;have pB:mb z.ae cut=db (bk z.ae ⟨cut,2⟩::bk z.ae ⟨cut,8⟩::gE z.ae cut s.set.data):=by
     rw[mb,wi,if_pos ah,wj,kF];rfl
    have c4:=mY z q cut true w 4 (bk z.ae ⟨cut,2⟩::bk z.ae ⟨cut,8⟩::gE z.ae cut s.set.data) hf (fun p hp=>by
     rcases afu.1 hp with rfl|hp
     ·exact ie.2
     rcases afu.1 hp with rfl|hp
     ·exact ie.2
     exact yu hp) (by simp;omega)
    unfold bE bq at c4;(conv=>whnf);refine J.ra ag rfl ?_;refine gO F157 ?_;refine aD (e:=s.enc) ⟨h2,by rw[ad1,hs];rfl⟩ rfl ?_;refine gO F157 ?_;refine J.loop (κ:=Nat) ([7,9]++rg 79 19) (fun k=>[(79,.d (.int .i64 k)),(7,.own 3 1)]) (fun k=>[(3,.arr 1 (3,1) ((bk z.ae ⟨cut,2⟩::bk z.ae ⟨cut,8⟩::gE z.ae cut (s.set.data.take k)).map (.int .i64)))]) (fun k=>k<=s.set.data.length) (fun k=>s.set.data.length-k) 0 (afv _) ?_ ?_
    ·(conv=>whnf);repeat (first|exact trivial|(refine sI ?_;conv=>whnf))
     refine And.intro rfl ?_;exact sZ
    intro k hk IH;have iS:=wo z.ae cut (s.set.data.take k);rw[aeu]at iS;refine J.head ag F157 2000 ?_;(conv=>whnf);refine ai (fun h5=>?_) (fun h5=>?_)
    ·have pC:k<s.set.data.length:=by simpa using h5
     obtain⟨d,hd⟩:=aH pC;have c2:=wk d.text cut (lb d (afh hd)) hc;have p1:=p1 d.text;have fu:=yr (l:=z.ae) (c:=cut) hd;refine gO F157 ?_;refine aD (e:=d.enc) (aO hd) rfl ?_;refine gO F157 ?_;refine dU ?_;refine ax (c2) ?_;refine gD ?_;refine gO F157 ?_;cases hu:Nm.under d.text cut
     ·rw[hu,if_neg (by decide),ags]at fu;refine aR ?_;refine gO F157 ?_;refine J.back (IH (k+1) (by omega) (by omega)) ?_;rw[fu];exact sZ
     ·rw[hu,if_pos rfl]at fu;refine a8 ?_;refine gO F157 ?_
      with_reducible refine aS (p1) ?_
      refine gO F157 ?_;refine aW ⟨by simp;omega,by simp[DV.cells]⟩ ?_;refine gO F157 ?_;refine J.back (IH (k+1) (by omega) (by omega)) ?_;rw[fu];(conv=>whnf);repeat (first|exact trivial|(refine sI ?_;conv=>whnf))
      refine And.intro (by simp) ?_;exact sZ
    ·have aC:s.set.data.length<=k:=by simpa using h5
     rw[afS aC];(conv=>whnf);refine J.freeze 3 ?_;(conv=>whnf);refine gO F157 ?_
     with_reducible refine aS (c4) ?_
     refine gO F157 ?_;rw[pB];exact⟨rfl,rfl⟩
   ·with_reducible refine aS (p6) ?_
    refine gO F157 ?_;refine aU (decide_eq_false ah) ?_;(conv=>whnf);refine J.run ag F157 5 ?_;have pB:mb z.ae cut=db (bk z.ae ⟨cut,2⟩::bk z.ae ⟨cut,6⟩::gE z.ae cut s.set.data):=by
     rw[mb,wi,if_neg ah,wj,kF];rfl
    have c4:=mY z q cut true w 4 (bk z.ae ⟨cut,2⟩::bk z.ae ⟨cut,6⟩::gE z.ae cut s.set.data) hf (fun p hp=>by
     rcases afu.1 hp with rfl|hp
     ·exact ie.2
     rcases afu.1 hp with rfl|hp
     ·exact ie.2
     exact yu hp) (by simp;omega)
    unfold bE bq at c4;(conv=>whnf);refine J.ra ag rfl ?_;refine gO F157 ?_;refine aD (e:=s.enc) ⟨h2,by rw[ad1,hs];rfl⟩ rfl ?_;refine gO F157 ?_;refine J.loop (κ:=Nat) ([7,9]++rg 79 19) (fun k=>[(79,.d (.int .i64 k)),(7,.own 3 1)]) (fun k=>[(3,.arr 1 (3,1) ((bk z.ae ⟨cut,2⟩::bk z.ae ⟨cut,6⟩::gE z.ae cut (s.set.data.take k)).map (.int .i64)))]) (fun k=>k<=s.set.data.length) (fun k=>s.set.data.length-k) 0 (afv _) ?_ ?_
    ·(conv=>whnf);repeat (first|exact trivial|(refine sI ?_;conv=>whnf))
     refine And.intro rfl ?_;exact sZ
    intro k hk IH;have iS:=wo z.ae cut (s.set.data.take k);rw[aeu]at iS;refine J.head ag F157 2000 ?_;(conv=>whnf);refine ai (fun h5=>?_) (fun h5=>?_)
    ·have pC:k<s.set.data.length:=by simpa using h5
     obtain⟨d,hd⟩:=aH pC;have c2:=wk d.text cut (lb d (afh hd)) hc;have p1:=p1 d.text;have fu:=yr (l:=z.ae) (c:=cut) hd;refine gO F157 ?_;refine aD (e:=d.enc) (aO hd) rfl ?_;refine gO F157 ?_;refine dU ?_;refine ax (c2) ?_;refine gD ?_;refine gO F157 ?_;cases hu:Nm.under d.text cut
     ·rw[hu,if_neg (by decide),ags]at fu;refine aR ?_;refine gO F157 ?_;refine J.back (IH (k+1) (by omega) (by omega)) ?_;rw[fu];exact sZ
     ·rw[hu,if_pos rfl]at fu;refine a8 ?_;refine gO F157 ?_
      with_reducible refine aS (p1) ?_
      refine gO F157 ?_;refine aW ⟨by simp;omega,by simp[DV.cells]⟩ ?_;refine gO F157 ?_;refine J.back (IH (k+1) (by omega) (by omega)) ?_;rw[fu];(conv=>whnf);repeat (first|exact trivial|(refine sI ?_;conv=>whnf))
      refine And.intro (by simp) ?_;exact sZ
    ·have aC:s.set.data.length<=k:=by simpa using h5
     rw[afS aC];(conv=>whnf);refine J.freeze 3 ?_;(conv=>whnf);refine gO F157 ?_
     with_reducible refine aS (c4) ?_
     refine gO F157 ?_;rw[pB];exact⟨rfl,rfl⟩
  ·by_cases hn:q.name=cut
   ·have h8:q.type≠8:=fun e=>by simp[oM,hn,e]at hb
    refine aw.run ag (fn:=Tryz.f157) Tryz.func157 (body:=Tryz.f157.body.getD .skip) rfl (by decide) 2000 rfl ?_;(conv=>whnf);refine aU (by simpa using h6) ?_;refine gO F157 ?_;refine dU ?_;refine aR ?_;refine gD ?_;refine aY (by simpa using hn) ?_;refine gD ?_;refine gO F157 ?_;refine aU (by simpa using h8) ?_;refine gO F157 ?_
    with_reducible refine aS (p2) ?_
    refine gO F157 ?_;by_cases ah:bk z.ae ⟨cut,6⟩<0
    ·with_reducible refine aS (p6) ?_
     refine gO F157 ?_;refine aY (decide_eq_true ah) ?_;refine gO F157 ?_
     with_reducible refine aS p8 ?_
     (conv=>whnf);refine J.run ag F157 6 ?_;have pB:mb z.ae cut=db (bk z.ae ⟨cut,2⟩::bk z.ae ⟨cut,8⟩::gE z.ae cut s.set.data):=by
      rw[mb,wi,if_pos ah,wj,kF];rfl
     have c4:=mY z q cut true w 4 (bk z.ae ⟨cut,2⟩::bk z.ae ⟨cut,8⟩::gE z.ae cut s.set.data) hf (fun p hp=>by
      rcases afu.1 hp with rfl|hp
      ·exact ie.2
      rcases afu.1 hp with rfl|hp
      ·exact ie.2
      exact yu hp) (by simp;omega)
     unfold bE bq at c4;(conv=>whnf);refine J.ra ag rfl ?_;refine gO F157 ?_;refine aD (e:=s.enc) ⟨h2,by rw[ad1,hs];rfl⟩ rfl ?_;refine gO F157 ?_;refine J.loop (κ:=Nat) ([7,9]++rg 79 19) (fun k=>[(79,.d (.int .i64 k)),(7,.own 3 1)]) (fun k=>[(3,.arr 1 (3,1) ((bk z.ae ⟨cut,2⟩::bk z.ae ⟨cut,8⟩::gE z.ae cut (s.set.data.take k)).map (.int .i64)))]) (fun k=>k<=s.set.data.length) (fun k=>s.set.data.length-k) 0 (afv _) ?_ ?_
     ·(conv=>whnf);repeat (first|exact trivial|(refine sI ?_;conv=>whnf))
      refine And.intro rfl ?_;exact sZ
     intro k hk IH;have iS:=wo z.ae cut (s.set.data.take k);rw[aeu]at iS;refine J.head ag F157 2000 ?_;(conv=>whnf);refine ai (fun h5=>?_) (fun h5=>?_)
     ·have pC:k<s.set.data.length:=by simpa using h5
      obtain⟨d,hd⟩:=aH pC;have c2:=wk d.text cut (lb d (afh hd)) hc;have p1:=p1 d.text;have fu:=yr (l:=z.ae) (c:=cut) hd;refine gO F157 ?_;refine aD (e:=d.enc) (aO hd) rfl ?_;refine gO F157 ?_;refine dU ?_;refine ax (c2) ?_;refine gD ?_;refine gO F157 ?_;cases hu:Nm.under d.text cut
      ·rw[hu,if_neg (by decide),ags]at fu;refine aR ?_;refine gO F157 ?_;refine J.back (IH (k+1) (by omega) (by omega)) ?_;rw[fu];exact sZ
      ·rw[hu,if_pos rfl]at fu;refine a8 ?_;refine gO F157 ?_
       with_reducible refine aS (p1) ?_
       refine gO F157 ?_;refine aW ⟨by simp;omega,by simp[DV.cells]⟩ ?_;refine gO F157 ?_;refine J.back (IH (k+1) (by omega) (by omega)) ?_;rw[fu];(conv=>whnf);repeat (first|exact trivial|(refine sI ?_;conv=>whnf))
       refine And.intro (by simp) ?_;exact sZ
     ·have aC:s.set.data.length<=k:=by simpa using h5
      rw[afS aC];(conv=>whnf);refine J.freeze 3 ?_;(conv=>whnf);refine gO F157 ?_
      with_reducible refine aS (c4) ?_
      refine gO F157 ?_;rw[pB];exact⟨rfl,rfl⟩
    ·with_reducible refine aS (p6) ?_
     refine gO F157 ?_;refine aU (decide_eq_false ah) ?_;(conv=>whnf);refine J.run ag F157 5 ?_;have pB:mb z.ae cut=db (bk z.ae ⟨cut,2⟩::bk z.ae ⟨cut,6⟩::gE z.ae cut s.set.data):=by
      rw[mb,wi,if_neg ah,wj,kF];rfl
     have c4:=mY z q cut true w 4 (bk z.ae ⟨cut,2⟩::bk z.ae ⟨cut,6⟩::gE z.ae cut s.set.data) hf (fun p hp=>by
      rcases afu.1 hp with rfl|hp
      ·exact ie.2
      rcases afu.1 hp with rfl|hp
      ·exact ie.2
      exact yu hp) (by simp;omega)
     unfold bE bq at c4;(conv=>whnf);refine J.ra ag rfl ?_;refine gO F157 ?_;refine aD (e:=s.enc) ⟨h2,by rw[ad1,hs];rfl⟩ rfl ?_;refine gO F157 ?_;refine J.loop (κ:=Nat) ([7,9]++rg 79 19) (fun k=>[(79,.d (.int .i64 k)),(7,.own 3 1)]) (fun k=>[(3,.arr 1 (3,1) ((bk z.ae ⟨cut,2⟩::bk z.ae ⟨cut,6⟩::gE z.ae cut (s.set.data.take k)).map (.int .i64)))]) (fun k=>k<=s.set.data.length) (fun k=>s.set.data.length-k) 0 (afv _) ?_ ?_
     ·(conv=>whnf);repeat (first|exact trivial|(refine sI ?_;conv=>whnf))
      refine And.intro rfl ?_;exact sZ
     intro k hk IH;have iS:=wo z.ae cut (s.set.data.take k);rw[aeu]at iS;refine J.head ag F157 2000 ?_;(conv=>whnf);refine ai (fun h5=>?_) (fun h5=>?_)
     ·have pC:k<s.set.data.length:=by simpa using h5
      obtain⟨d,hd⟩:=aH pC;have c2:=wk d.text cut (lb d (afh hd)) hc;have p1:=p1 d.text;have fu:=yr (l:=z.ae) (c:=cut) hd;refine gO F157 ?_;refine aD (e:=d.enc) (aO hd) rfl ?_;refine gO F157 ?_;refine dU ?_;refine ax (c2) ?_;refine gD ?_;refine gO F157 ?_;cases hu:Nm.under d.text cut
      ·rw[hu,if_neg (by decide),ags]at fu;refine aR ?_;refine gO F157 ?_;refine J.back (IH (k+1) (by omega) (by omega)) ?_;rw[fu];exact sZ
      ·rw[hu,if_pos rfl]at fu;refine a8 ?_;refine gO F157 ?_
       with_reducible refine aS (p1) ?_
       refine gO F157 ?_;refine aW ⟨by simp;omega,by simp[DV.cells]⟩ ?_;refine gO F157 ?_;refine J.back (IH (k+1) (by omega) (by omega)) ?_;rw[fu];(conv=>whnf);repeat (first|exact trivial|(refine sI ?_;conv=>whnf))
       refine And.intro (by simp) ?_;exact sZ
     ·have aC:s.set.data.length<=k:=by simpa using h5
      rw[afS aC];(conv=>whnf);refine J.freeze 3 ?_;(conv=>whnf);refine gO F157 ?_
      with_reducible refine aS (c4) ?_
      refine gO F157 ?_;rw[pB];exact⟨rfl,rfl⟩
   ·refine aw.run ag (fn:=Tryz.f157) Tryz.func157 (body:=Tryz.f157.body.getD .skip) rfl (by decide) 2000 rfl ?_;(conv=>whnf);refine aU (by simpa using h6) ?_;refine gO F157 ?_;refine dU ?_;refine aR ?_;refine gD ?_;refine aU (by simpa using hn) ?_;refine gD ?_;refine gO F157 ?_;refine aR ?_;refine gO F157 ?_
    with_reducible refine aS (p2) ?_
    refine gO F157 ?_;by_cases ah:bk z.ae ⟨cut,6⟩<0
    ·with_reducible refine aS (p6) ?_
     refine gO F157 ?_;refine aY (decide_eq_true ah) ?_;refine gO F157 ?_
     with_reducible refine aS p8 ?_
     (conv=>whnf);refine J.run ag F157 6 ?_;have pB:mb z.ae cut=db (bk z.ae ⟨cut,2⟩::bk z.ae ⟨cut,8⟩::gE z.ae cut s.set.data):=by
      rw[mb,wi,if_pos ah,wj,kF];rfl
     have c4:=mY z q cut true w 4 (bk z.ae ⟨cut,2⟩::bk z.ae ⟨cut,8⟩::gE z.ae cut s.set.data) hf (fun p hp=>by
      rcases afu.1 hp with rfl|hp
      ·exact ie.2
      rcases afu.1 hp with rfl|hp
      ·exact ie.2
      exact yu hp) (by simp;omega)
     unfold bE bq at c4;(conv=>whnf);refine J.ra ag rfl ?_;refine gO F157 ?_;refine aD (e:=s.enc) ⟨h2,by rw[ad1,hs];rfl⟩ rfl ?_;refine gO F157 ?_;refine J.loop (κ:=Nat) ([7,9]++rg 79 19) (fun k=>[(79,.d (.int .i64 k)),(7,.own 3 1)]) (fun k=>[(3,.arr 1 (3,1) ((bk z.ae ⟨cut,2⟩::bk z.ae ⟨cut,8⟩::gE z.ae cut (s.set.data.take k)).map (.int .i64)))]) (fun k=>k<=s.set.data.length) (fun k=>s.set.data.length-k) 0 (afv _) ?_ ?_
     ·(conv=>whnf);repeat (first|exact trivial|(refine sI ?_;conv=>whnf))
      refine And.intro rfl ?_;exact sZ
     intro k hk IH;have iS:=wo z.ae cut (s.set.data.take k);rw[aeu]at iS;refine J.head ag F157 2000 ?_;(conv=>whnf);refine ai (fun h5=>?_) (fun h5=>?_)
     ·have pC:k<s.set.data.length:=by simpa using h5
      obtain⟨d,hd⟩:=aH pC;have c2:=wk d.text cut (lb d (afh hd)) hc;have p1:=p1 d.text;have fu:=yr (l:=z.ae) (c:=cut) hd;refine gO F157 ?_;refine aD (e:=d.enc) (aO hd) rfl ?_;refine gO F157 ?_;refine dU ?_;refine ax (c2) ?_;refine gD ?_;refine gO F157 ?_;cases hu:Nm.under d.text cut
      ·rw[hu,if_neg (by decide),ags]at fu;refine aR ?_;refine gO F157 ?_;refine J.back (IH (k+1) (by omega) (by omega)) ?_;rw[fu];exact sZ
      ·rw[hu,if_pos rfl]at fu;refine a8 ?_;refine gO F157 ?_
       with_reducible refine aS (p1) ?_
       refine gO F157 ?_;refine aW ⟨by simp;omega,by simp[DV.cells]⟩ ?_;refine gO F157 ?_;refine J.back (IH (k+1) (by omega) (by omega)) ?_;rw[fu];(conv=>whnf);repeat (first|exact trivial|(refine sI ?_;conv=>whnf))
       refine And.intro (by simp) ?_;exact sZ
     ·have aC:s.set.data.length<=k:=by simpa using h5
      rw[afS aC];(conv=>whnf);refine J.freeze 3 ?_;(conv=>whnf);refine gO F157 ?_
      with_reducible refine aS (c4) ?_
      refine gO F157 ?_;rw[pB];exact⟨rfl,rfl⟩
    ·with_reducible refine aS (p6) ?_
     refine gO F157 ?_;refine aU (decide_eq_false ah) ?_;(conv=>whnf);refine J.run ag F157 5 ?_;have pB:mb z.ae cut=db (bk z.ae ⟨cut,2⟩::bk z.ae ⟨cut,6⟩::gE z.ae cut s.set.data):=by
      rw[mb,wi,if_neg ah,wj,kF];rfl
     have c4:=mY z q cut true w 4 (bk z.ae ⟨cut,2⟩::bk z.ae ⟨cut,6⟩::gE z.ae cut s.set.data) hf (fun p hp=>by
      rcases afu.1 hp with rfl|hp
      ·exact ie.2
      rcases afu.1 hp with rfl|hp
      ·exact ie.2
      exact yu hp) (by simp;omega)
     unfold bE bq at c4;(conv=>whnf);refine J.ra ag rfl ?_;refine gO F157 ?_;refine aD (e:=s.enc) ⟨h2,by rw[ad1,hs];rfl⟩ rfl ?_;refine gO F157 ?_;refine J.loop (κ:=Nat) ([7,9]++rg 79 19) (fun k=>[(79,.d (.int .i64 k)),(7,.own 3 1)]) (fun k=>[(3,.arr 1 (3,1) ((bk z.ae ⟨cut,2⟩::bk z.ae ⟨cut,6⟩::gE z.ae cut (s.set.data.take k)).map (.int .i64)))]) (fun k=>k<=s.set.data.length) (fun k=>s.set.data.length-k) 0 (afv _) ?_ ?_
     ·(conv=>whnf);repeat (first|exact trivial|(refine sI ?_;conv=>whnf))
      refine And.intro rfl ?_;exact sZ
     intro k hk IH;have iS:=wo z.ae cut (s.set.data.take k);rw[aeu]at iS;refine J.head ag F157 2000 ?_;(conv=>whnf);refine ai (fun h5=>?_) (fun h5=>?_)
     ·have pC:k<s.set.data.length:=by simpa using h5
      obtain⟨d,hd⟩:=aH pC;have c2:=wk d.text cut (lb d (afh hd)) hc;have p1:=p1 d.text;have fu:=yr (l:=z.ae) (c:=cut) hd;refine gO F157 ?_;refine aD (e:=d.enc) (aO hd) rfl ?_;refine gO F157 ?_;refine dU ?_;refine ax (c2) ?_;refine gD ?_;refine gO F157 ?_;cases hu:Nm.under d.text cut
      ·rw[hu,if_neg (by decide),ags]at fu;refine aR ?_;refine gO F157 ?_;refine J.back (IH (k+1) (by omega) (by omega)) ?_;rw[fu];exact sZ
      ·rw[hu,if_pos rfl]at fu;refine a8 ?_;refine gO F157 ?_
       with_reducible refine aS (p1) ?_
       refine gO F157 ?_;refine aW ⟨by simp;omega,by simp[DV.cells]⟩ ?_;refine gO F157 ?_;refine J.back (IH (k+1) (by omega) (by omega)) ?_;rw[fu];(conv=>whnf);repeat (first|exact trivial|(refine sI ?_;conv=>whnf))
       refine And.intro (by simp) ?_;exact sZ
     ·have aC:s.set.data.length<=k:=by simpa using h5
      rw[afS aC];(conv=>whnf);refine J.freeze 3 ?_;(conv=>whnf);refine gO F157 ?_
      with_reducible refine aS (c4) ?_
      refine gO F157 ?_;rw[pB];exact⟨rfl,rfl⟩
end Go.Proofs.YtfmdaiojokniiaaGreatDoor.P
end
