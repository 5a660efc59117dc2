/- Lemmas of mine. Conditions: as stated. -/
import Derived.Test.YtfmdaiojokniiaaGreatDoorU13
import Derived.Test.YtfmdaiojokniiaaGreatDoorU21
set_option linter.unusedVariables false
set_option linter.unusedSimpArgs false
section
namespace Go.Proofs.YtfmdaiojokniiaaGreatDoor.P
open Go Go.ay
set_option maxRecDepth 100000
set_option maxHeartbeats 4000000
theorem Z9{l:List Signed}{c:Text}(h:kr l c=true):nF l (Nm.labels c)=Nm.labels c:=by
 cases e:Nm.labels c with
 |nil=>rfl
 |cons x r=>rw[nF,<- e,AQ,if_pos h]
theorem Z'{l:List Signed}{c:Text}(h:kr l c=false):nF l (Nm.labels c)=nF l (Nm.labels c).tail:=by
 cases e:Nm.labels c with
 |nil=>rfl
 |cons x r=>rw[nF,<- e,AQ,h];simp[e]
theorem aaa{t:Text}(hv:Nm.valid t=true):(Nm.labels t).length<=8/\∀ x∈Nm.labels t,x.length<=100:=by
 by_cases hr:t=[46]
 ·subst hr;simp[OV]
 obtain⟨h1,h2⟩:=OX hv hr;rw[Nm.labels,if_neg hr];obtain⟨p1,p2⟩:=qP.1 h2;refine⟨p1,fun x hx=>?_⟩;obtain⟨i,hi⟩:=List.getElem?_of_mem hx;have:=p2 i x hi;simp only[gF,Nm.label,Bool.or_eq_true,Bool.and_eq_true,decide_eq_true_eq]at this;rcases this with h|⟨_,rfl⟩
 ·omega
 ·simp
theorem aab(z:aX)(q:bB)(cut:Text)(b:Bool)(w:Text)(V:iJ z)(hq:Nm.valid q.name=true)(hu:Nm.under q.name z.aj=true):ar E 242 [bD z q cut b w,bp z] [.ptr 0 0] (fun x h=>x=.d (.str ((tE z.ae q.name).getD []))/\h=[bD z q cut b w,bp z]):=by
 have c0:=fun n hn=>AS z q cut b w n V hn;unfold bD bp at c0;apply ar.kl
 case hk=>rfl
 case hc =>
  unfold bD bp;refine ar.run ab (fn:=Tryz.f242) Tryz.func242 (body:=Tryz.f242.body.getD .skip) rfl (by decide) 2000 rfl ?_;(conv=>whnf);refine I.loop (κ:=Text) ([3]++rg 13 17) (fun c=>[(3,.d (.str c))]) (fun _=>[]) (fun c=>Nm.valid c=true/\Nm.under c z.aj=true/\nF z.ae (Nm.labels q.name)=nF z.ae (Nm.labels c)) (fun c=>(Nm.labels c).length) q.name ⟨hq,hu,rfl⟩ ?_ ?_
  ·exact sZ
  rintro c ⟨k1,k2,k3⟩ IH;refine I.head ab F242 2000 ?_;(conv=>whnf);have c1:=c0 c k1;have nu:=Ga c (by have:=dO k1;exact pt (by omega));unfold zO at nu;rw[k1]at nu;have hl:=aaa k1;have fin:kr z.ae c=true->tE z.ae q.name=o8 ([42]::Nm.labels c):=fun h=>by rw[tE,k3,Z9 h]
  have hj:=ZY ([42]::Nm.labels c) (by simp;omega) (fun t ht=>by
   rcases List.mem_cons.1 ht with rfl|h
   ·simp
   ·exact hl.2 t h)
  by_cases h4:c=z.aj
  ·rw[fin (by rw[h4];exact V.Zu)];clear fin IH;refine aW (by simpa using h4) ?_;refine gO F242 ?_;refine aR ?_;refine gO F242 ?_;refine ao nu ?_;(conv=>whnf);refine I.run ab F242 8 ?_;(conv=>whnf);refine I.qL ab rfl ?_;refine gO F242 ?_;refine aV ⟨by simp;omega,by simp[DV.cells]⟩ ?_;(conv=>whnf);refine I.freeze 2 ?_;(conv=>whnf);refine gO F242 ?_;cases hJ:o8 ([42]::Nm.labels c)with
   |none =>
    rw[hJ]at hj;refine ao (hj) ?_;refine gO F242 ?_;refine bj ?_;refine gO F242 ?_;exact⟨rfl,rfl⟩
   |some t =>
    rw[hJ]at hj;refine ao (hj) ?_;refine gO F242 ?_;refine aR ?_;refine gO F242 ?_;exact⟨rfl,rfl⟩
  ·refine aU (by simpa using h4) ?_;have hr:c≠[46]:=fun e=>h4 (by rw[e]at k2 ⊢;exact(OY k2).symm);refine gO F242 ?_
   with_reducible refine aO (c1) ?_
   refine gO F242 ?_;cases h5:kr z.ae c
   ·refine bj ?_;have c5:=OU c k1 hr;refine gO F242 ?_;refine ao (c5) ?_;refine gO F242 ?_;refine I.back (IH (gK (Nm.labels c).tail) ⟨(x7 k1 hr).1,H7 k1 hr k2 h4,by rw[k3,Z' h5,(x7 k1 hr).2]⟩ (OZ k1 hr)) ?_;exact sZ
   ·rw[fin h5];clear fin IH;refine aR ?_;refine gO F242 ?_;refine ao nu ?_;(conv=>whnf);refine I.run ab F242 8 ?_;(conv=>whnf);refine I.qL ab rfl ?_;refine gO F242 ?_;refine aV ⟨by simp;omega,by simp[DV.cells]⟩ ?_;(conv=>whnf);refine I.freeze 2 ?_;(conv=>whnf);refine gO F242 ?_;cases hJ:o8 ([42]::Nm.labels c)with
    |none =>
     rw[hJ]at hj;refine ao (hj) ?_;refine gO F242 ?_;refine bj ?_;refine gO F242 ?_;exact⟨rfl,rfl⟩
    |some t =>
     rw[hJ]at hj;refine ao (hj) ?_;refine gO F242 ?_;refine aR ?_;refine gO F242 ?_;exact⟨rfl,rfl⟩
def Ia:DV := .agg [.int .i64 0,.aH,.str []]
theorem aac(z:aX)(q:bB)(cut:Text)(b:Bool)(w:Text)(V:iJ z)(hf:z.lP)(hq:Nm.valid q.name=true)(he:kr z.ae q.name=true):ar E 160 [bD z q cut b w,bp z] [.ptr 0 0] (fun x h=>x=.aD [.d (pa 5 (eH z.ae (c7 [bh z.ae ⟨z.aj,4⟩,eT z.ae q.name])) []),.d (.bool true)]/\h=[bD z q cut b w,bp z]):=by
 have c0:=AS z q cut b w q.name V hq;have c1:=H4 z q cut b w V.sorted;have c3:=vP z q cut b w q.name V hq;have ah:=(gU (l:=z.ae) (q:=⟨z.aj,4⟩)).2;have lO:=(vL (l:=z.ae) (n:=q.name)).2;rw[he]at c0;generalize bh z.ae ⟨z.aj,4⟩=i at *;generalize eT z.ae q.name=j at *;have c2:=mL z q cut b w 5 [i,j] hf (fun p hp=>by simp at hp;rcases hp with rfl|rfl<;>assumption) (by simp);simp only[List.map_cons,List.map_nil]at c2;unfold bD bp at c0 c1 c2 c3;apply ar.kl
 case hk=>rfl
 case hc =>
  unfold bD bp;refine ar.run ab (fn:=Tryz.f160) Tryz.func160 (body:=Tryz.f160.body.getD .skip) rfl (by decide) 2000 rfl ?_;conv=>whnf
  with_reducible refine aO (c0) ?_
  refine gO Tryz.func160 ?_;refine bj ?_;refine gO Tryz.func160 ?_;refine I.bJ ab bG 2000 (by kernel_rfl) ?_;(conv=>whnf);refine jS (c1) ?_;refine And.intro rfl ?_;refine gD ?_;refine jS (c3) ?_;refine And.intro rfl ?_;refine gD ?_;refine jS (c2) ?_;refine And.intro rfl ?_;refine gD ?_;refine gO Tryz.func160 ?_;exact⟨rfl,rfl⟩
theorem aad(z:aX)(q:bB)(cut:Text)(b:Bool)(w:Text)(V:iJ z)(hq:Nm.valid q.name=true)(hu:Nm.under q.name z.aj=true)(he:kr z.ae q.name=false):ar E 160 [bD z q cut b w,bp z] [.ptr 0 0] (fun x h=>x=.aD [.d Ia,.d (.bool false)]/\h=[bD z q cut b ((tE z.ae q.name).getD []),bp z]):=by
 have c0:=AS z q cut b w q.name V hq;have c1:=aab z q cut b w V hq hu;rw[he]at c0;unfold bD bp at c0 c1;apply ar.kl
 case hk=>rfl
 case hc =>
  unfold bD bp;refine ar.run ab (fn:=Tryz.f160) Tryz.func160 (body:=Tryz.f160.body.getD .skip) rfl (by decide) 2000 rfl ?_;conv=>whnf
  with_reducible refine aO (c0) ?_
  refine gO Tryz.func160 ?_;refine aR ?_;refine gO Tryz.func160 ?_
  with_reducible refine aO (c1) ?_
  refine gO Tryz.func160 ?_;exact⟨rfl,rfl⟩
theorem O0(z:aX)(q:bB)(cut:Text)(b:Bool)(w:Text)(V:iJ z)(hw:w=[]\/(Nm.valid w=true/\kr z.ae w=false)):ar E 163 [bD z q cut b w,bp z] [.ptr 0 0] (fun x h=>x=.aD [.d Ia,.d (.bool false)]/\h=[bD z q cut b w,bp z]):=by
 apply ar.kl
 case hk=>rfl
 case hc =>
  by_cases h0:w=[]
  ·subst h0;unfold bD bp;refine ar.run ab (fn:=Tryz.f163) Tryz.func163 (body:=Tryz.f163.body.getD .skip) rfl (by decide) 2000 rfl ?_;(conv=>whnf);refine aU (by decide) ?_;refine gO F163 ?_;refine bj ?_;refine gO F163 ?_;exact⟨rfl,rfl⟩
  ·obtain⟨h1,h2⟩:=hw.resolve_left h0;have c0:=AS z q cut b w w V h1;rw[h2]at c0;unfold bD bp at c0 ⊢;refine ar.run ab (fn:=Tryz.f163) Tryz.func163 (body:=Tryz.f163.body.getD .skip) rfl (by decide) 2000 rfl ?_;(conv=>whnf);refine aW (by simpa using h0) ?_;refine gO F163 ?_
   with_reducible refine aO (c0) ?_
   refine gO F163 ?_;refine bj ?_;refine gO F163 ?_;exact⟨rfl,rfl⟩
theorem aae(z:aX)(q:bB)(cut:Text)(b:Bool)(w:Text)(V:iJ z)(hf:z.lP)(hq:Nm.valid q.name=true)(hw:Nm.valid w=true)(he:kr z.ae w=true):ar E 163 [bD z q cut b w,bp z] [.ptr 0 0] (fun x h=>x=.aD [.d (pa 5 (eH z.ae (c7 [bh z.ae ⟨z.aj,4⟩,eT z.ae q.name,eT z.ae w])) []),.d (.bool true)]/\h=[bD z q cut b w,bp z]):=by
 have c0:=AS z q cut b w w V hw;have c1:=H4 z q cut b w V.sorted;have c3:=vP z q cut b w q.name V hq;have c4:=vP z q cut b w w V hw;have ah:=(gU (l:=z.ae) (q:=⟨z.aj,4⟩)).2;have lO:=(vL (l:=z.ae) (n:=q.name)).2;have ZS:=(vL (l:=z.ae) (n:=w)).2;have h0:w≠[]:=fun e=>by rw[e]at hw;exact absurd hw (by decide)
 rw[he]at c0;generalize bh z.ae ⟨z.aj,4⟩=i at *;generalize eT z.ae q.name=j at *;generalize eT z.ae w=m at *;have c2:=mL z q cut b w 5 [i,j,m] hf (fun p hp=>by simp at hp;rcases hp with rfl|rfl|rfl<;>assumption) (by simp);simp only[List.map_cons,List.map_nil]at c2;unfold bD bp at c0 c1 c2 c3 c4;apply ar.kl
 case hk=>rfl
 case hc =>
  unfold bD bp;refine ar.run ab (fn:=Tryz.f163) Tryz.func163 (body:=Tryz.f163.body.getD .skip) rfl (by decide) 2000 rfl ?_;(conv=>whnf);refine aW (by simpa using h0) ?_;refine gO F163 ?_
  with_reducible refine aO (c0) ?_
  refine gO F163 ?_;refine aR ?_;refine gO F163 ?_;refine I.bJ ab bG 2000 (by kernel_rfl) ?_;(conv=>whnf);refine jS (c1) ?_;refine And.intro rfl ?_;refine gD ?_;refine jS (c3) ?_;refine And.intro rfl ?_;refine gD ?_;refine jS (c4) ?_;refine And.intro rfl ?_;refine gD ?_;refine jS (c2) ?_;refine And.intro rfl ?_;refine gD ?_;refine gO F163 ?_;exact⟨rfl,rfl⟩
theorem aaf{s:cM}(h:ef s=true)(ht:s.type=2):∀ d∈s.data,Nm.valid d.text=true:=fun d hd=>by
 simp only[ef,Bool.and_eq_true]at h;have:=Gc h.2 d hd;rw[ht]at this;simp only[jX,Bool.and_eq_true]at this;have:=this.2;simp[nn,fN]at this;exact this.1
def gp(l:List Signed)(c:Text)(D:List Datum):List Int:=(D.filter fun d=>Nm.under d.text c).map fun d=>bh l ⟨d.text,1⟩
theorem x8{l:List Signed}{c:Text}{D:List Datum}{k:Nat}{d:Datum}(h:D[k]?=some d):gp l c (D.take (k+1))=gp l c (D.take k)++(if Nm.under d.text c then[bh l ⟨d.text,1⟩]else[]):=by
 rw[cK h];unfold gp;rw[List.filter_append,List.map_append];cases e:Nm.under d.text c<;>simp[e]
theorem vQ(l:List Signed)(c:Text)(D:List Datum):(gp l c D).length<=D.length:=by
 unfold gp;rw[List.length_map];exact List.length_filter_le _ _
theorem x9{l:List Signed}{c:Text}{D:List Datum}{p:Int}(h:p∈gp l c D):p<l.length:=by
 simp only[gp,List.mem_map]at h;obtain⟨d,-,rfl⟩:=h;exact gU.2
def oB(q:bB)(cut:Text)(b:Bool):Bool := !b||(decide (q.name=cut)&&(decide (q.type=6)||decide (q.type=8)))
theorem aag(z:aX)(q:bB)(cut:Text)(b:Bool)(w:Text)(hb:oB q cut b=true):ar E 157 [bD z q cut b w,bp z] [.ptr 0 0] (fun x h=>x=.aD [.d Ia,.d (.bool false)]/\h=[bD z q cut b w,bp z]):=by
 apply ar.kl
 case hk=>rfl
 case hc =>
  unfold bD bp;by_cases h6:q.type=6
  ·refine ar.run ab (fn:=Tryz.f157) Tryz.func157 (body:=Tryz.f157.body.getD .skip) rfl (by decide) 2000 rfl ?_;(conv=>whnf);refine aU (by simpa using h6) ?_;refine gO F157 ?_;cases b
   ·refine I.bJ ab bG 2000 (by kernel_rfl) ?_;(conv=>whnf);refine bj ?_;refine gD ?_;refine gO F157 ?_;refine bj ?_;refine gO F157 ?_;exact⟨rfl,rfl⟩
   ·have hn:q.name=cut:=by simpa [oB,h6]using hb
    refine I.bJ ab bG 2000 (by kernel_rfl) ?_;(conv=>whnf);refine aR ?_;refine gD ?_;refine aU (by simpa using hn) ?_;refine gD ?_;refine gO F157 ?_;refine bj ?_;refine gO F157 ?_;exact⟨rfl,rfl⟩
  ·refine ar.run ab (fn:=Tryz.f157) Tryz.func157 (body:=Tryz.f157.body.getD .skip) rfl (by decide) 2000 rfl ?_;(conv=>whnf);refine aW (by simpa using h6) ?_;refine gO F157 ?_;cases b
   ·refine I.bJ ab bG 2000 (by kernel_rfl) ?_;(conv=>whnf);refine bj ?_;refine gD ?_;refine gO F157 ?_;refine bj ?_;refine gO F157 ?_;exact⟨rfl,rfl⟩
   ·have hn:q.name=cut/\q.type=8:=by simpa [oB,h6]using hb
    refine I.bJ ab bG 2000 (by kernel_rfl) ?_;(conv=>whnf);refine aR ?_;refine gD ?_;refine aU (by simpa using hn.1) ?_;refine gD ?_;refine gO F157 ?_;refine aU (by simpa using hn.2) ?_;refine gO F157 ?_;exact⟨rfl,rfl⟩
theorem aah(z:aX)(q:bB)(cut:Text)(w:Text)(V:iJ z)(hf:z.lP)(hc:Nm.valid cut=true)(h2:0<=bh z.ae ⟨cut,2⟩)(hb:oB q cut true=false):ar E 157 [bD z q cut true w,bp z] [.ptr 0 0] (fun x h=>x=.aD [.d (pa 4 (eH z.ae (lV z.ae cut)) cut),.d (.bool true)]/\h=[bD z q cut true w,bp z]):=by
 have p2:=rN z q cut true w cut 2 V.sorted;have p6:=rN z q cut true w cut 6 V.sorted;have p8:=rN z q cut true w cut 8 V.sorted;have p1:=fun n=>rN z q cut true w n 1 V.sorted;have oE:=(gU (l:=z.ae) (q:=⟨cut,2⟩)).2;obtain⟨s,hs,iO⟩:=HV h2;have kH:=aaf (V.ae s (List.mem_of_getElem? hs)) (congrArg bB.type (HW iO)).symm;have hl8:=(xr (V.ae s (List.mem_of_getElem? hs))).2.1;have ab1:=vQ z.ae cut s.set.data;have ke:HZ z.ae cut=s.set.data:=by rw[HZ,hs]
 unfold bD bp at p2 p6 p8 p1;apply ar.kl
 case hk=>rfl
 case hc =>
  unfold bD bp;by_cases h6:q.type=6
  ·have hn:q.name≠cut:=fun e=>by simp[oB,h6,e]at hb
   refine ar.run ab (fn:=Tryz.f157) Tryz.func157 (body:=Tryz.f157.body.getD .skip) rfl (by decide) 2000 rfl ?_;(conv=>whnf);refine aU (by simpa using h6) ?_;refine gO F157 ?_;refine I.bJ ab bG 2000 (by kernel_rfl) ?_;(conv=>whnf);refine aR ?_;refine gD ?_;refine aW (by simpa using hn) ?_;refine gD ?_;refine gO F157 ?_;refine aR ?_;refine gO F157 ?_
   with_reducible refine aO (p2) ?_
   refine gO F157 ?_;by_cases ah:bh z.ae ⟨cut,6⟩<0
   ·with_reducible refine aO (p6) ?_
    refine gO F157 ?_;refine aU (decide_eq_true ah) ?_;refine gO F157 ?_
    with_reducible refine aO p8 ?_
    (conv=>whnf);refine I.run ab F157 6 ?_;have pb:lV z.ae cut=c7 (bh z.ae ⟨cut,2⟩::bh z.ae ⟨cut,8⟩::gp z.ae cut s.set.data):=by
     rw[lV,vM,if_pos ah,vN,ke];rfl
    have c4:=mL z q cut true w 4 (bh z.ae ⟨cut,2⟩::bh z.ae ⟨cut,8⟩::gp z.ae cut s.set.data) hf (fun p hp=>by
     rcases List.mem_cons.1 hp with rfl|hp
     ·exact gU.2
     rcases List.mem_cons.1 hp with rfl|hp
     ·exact gU.2
     exact x9 hp) (by simp;omega)
    unfold bD bp at c4;(conv=>whnf);refine I.qL ab rfl ?_;refine gO F157 ?_;refine aB (e:=s.enc) ⟨h2,by rw[List.getElem?_map,hs];rfl⟩ rfl ?_;refine gO F157 ?_;refine I.loop (κ:=Nat) ([7,9]++rg 79 19) (fun k=>[(79,.d (.int .i64 k)),(7,.own 3 1)]) (fun k=>[(3,.arr 1 (3,1) ((bh z.ae ⟨cut,2⟩::bh z.ae ⟨cut,8⟩::gp z.ae cut (s.set.data.take k)).map (.int .i64)))]) (fun k=>k<=s.set.data.length) (fun k=>s.set.data.length-k) 0 (Nat.zero_le _) ?_ ?_
    ·(conv=>whnf);repeat (first|exact trivial|(refine sI ?_;conv=>whnf))
     refine And.intro rfl ?_;exact sZ
    intro k hk IH;have iE:=vQ z.ae cut (s.set.data.take k);rw[List.length_take]at iE;refine I.head ab F157 2000 ?_;(conv=>whnf);refine ai (fun h5=>?_) (fun h5=>?_)
    ·have pc:k<s.set.data.length:=by simpa using h5
     obtain⟨d,hd⟩:=aG pc;have c2:=vO d.text cut (kH d (List.mem_of_getElem? hd)) hc;have p1:=p1 d.text;have ff:=x8 (l:=z.ae) (c:=cut) hd;refine gO F157 ?_;refine aB (e:=d.enc) (aN hd) rfl ?_;refine gO F157 ?_;refine I.bJ ab bG 2000 (by kernel_rfl) ?_;(conv=>whnf);refine au (c2) ?_;refine gD ?_;refine gO F157 ?_;cases hu:Nm.under d.text cut
     ·rw[hu,if_neg (by decide),List.append_nil]at ff;refine aR ?_;refine gO F157 ?_;refine I.back (IH (k+1) (by omega) (by omega)) ?_;rw[ff];exact sZ
     ·rw[hu,if_pos rfl]at ff;refine bj ?_;refine gO F157 ?_
      with_reducible refine aO (p1) ?_
      refine gO F157 ?_;refine aV ⟨by simp;omega,by simp[DV.cells]⟩ ?_;refine gO F157 ?_;refine I.back (IH (k+1) (by omega) (by omega)) ?_;rw[ff];(conv=>whnf);repeat (first|exact trivial|(refine sI ?_;conv=>whnf))
      refine And.intro (by simp) ?_;exact sZ
    ·have aA:s.set.data.length<=k:=by simpa using h5
     rw[List.take_of_length_le aA];(conv=>whnf);refine I.freeze 3 ?_;(conv=>whnf);refine gO F157 ?_
     with_reducible refine aO (c4) ?_
     refine gO F157 ?_;rw[pb];exact⟨rfl,rfl⟩
   ·with_reducible refine aO (p6) ?_
    refine gO F157 ?_;refine aW (decide_eq_false ah) ?_;(conv=>whnf);refine I.run ab F157 5 ?_;have pb:lV z.ae cut=c7 (bh z.ae ⟨cut,2⟩::bh z.ae ⟨cut,6⟩::gp z.ae cut s.set.data):=by
     rw[lV,vM,if_neg ah,vN,ke];rfl
    have c4:=mL z q cut true w 4 (bh z.ae ⟨cut,2⟩::bh z.ae ⟨cut,6⟩::gp z.ae cut s.set.data) hf (fun p hp=>by
     rcases List.mem_cons.1 hp with rfl|hp
     ·exact gU.2
     rcases List.mem_cons.1 hp with rfl|hp
     ·exact gU.2
     exact x9 hp) (by simp;omega)
    unfold bD bp at c4;(conv=>whnf);refine I.qL ab rfl ?_;refine gO F157 ?_;refine aB (e:=s.enc) ⟨h2,by rw[List.getElem?_map,hs];rfl⟩ rfl ?_;refine gO F157 ?_;refine I.loop (κ:=Nat) ([7,9]++rg 79 19) (fun k=>[(79,.d (.int .i64 k)),(7,.own 3 1)]) (fun k=>[(3,.arr 1 (3,1) ((bh z.ae ⟨cut,2⟩::bh z.ae ⟨cut,6⟩::gp z.ae cut (s.set.data.take k)).map (.int .i64)))]) (fun k=>k<=s.set.data.length) (fun k=>s.set.data.length-k) 0 (Nat.zero_le _) ?_ ?_
    ·(conv=>whnf);repeat (first|exact trivial|(refine sI ?_;conv=>whnf))
     refine And.intro rfl ?_;exact sZ
    intro k hk IH;have iE:=vQ z.ae cut (s.set.data.take k);rw[List.length_take]at iE;refine I.head ab F157 2000 ?_;(conv=>whnf);refine ai (fun h5=>?_) (fun h5=>?_)
    ·have pc:k<s.set.data.length:=by simpa using h5
     obtain⟨d,hd⟩:=aG pc;have c2:=vO d.text cut (kH d (List.mem_of_getElem? hd)) hc;have p1:=p1 d.text;have ff:=x8 (l:=z.ae) (c:=cut) hd;refine gO F157 ?_;refine aB (e:=d.enc) (aN hd) rfl ?_;refine gO F157 ?_;refine I.bJ ab bG 2000 (by kernel_rfl) ?_;(conv=>whnf);refine au (c2) ?_;refine gD ?_;refine gO F157 ?_;cases hu:Nm.under d.text cut
     ·rw[hu,if_neg (by decide),List.append_nil]at ff;refine aR ?_;refine gO F157 ?_;refine I.back (IH (k+1) (by omega) (by omega)) ?_;rw[ff];exact sZ
     ·rw[hu,if_pos rfl]at ff;refine bj ?_;refine gO F157 ?_
      with_reducible refine aO (p1) ?_
      refine gO F157 ?_;refine aV ⟨by simp;omega,by simp[DV.cells]⟩ ?_;refine gO F157 ?_;refine I.back (IH (k+1) (by omega) (by omega)) ?_;rw[ff];(conv=>whnf);repeat (first|exact trivial|(refine sI ?_;conv=>whnf))
      refine And.intro (by simp) ?_;exact sZ
    ·have aA:s.set.data.length<=k:=by simpa using h5
     rw[List.take_of_length_le aA];(conv=>whnf);refine I.freeze 3 ?_;(conv=>whnf);refine gO F157 ?_
     with_reducible refine aO (c4) ?_
     refine gO F157 ?_;rw[pb];exact⟨rfl,rfl⟩
  ·by_cases hn:q.name=cut
   ·have h8:q.type≠8:=fun e=>by simp[oB,hn,e]at hb
    refine ar.run ab (fn:=Tryz.f157) Tryz.func157 (body:=Tryz.f157.body.getD .skip) rfl (by decide) 2000 rfl ?_;(conv=>whnf);refine aW (by simpa using h6) ?_;refine gO F157 ?_;refine I.bJ ab bG 2000 (by kernel_rfl) ?_;(conv=>whnf);refine aR ?_;refine gD ?_;refine aU (by simpa using hn) ?_;refine gD ?_;refine gO F157 ?_;refine aW (by simpa using h8) ?_;refine gO F157 ?_
    with_reducible refine aO (p2) ?_
    refine gO F157 ?_;by_cases ah:bh z.ae ⟨cut,6⟩<0
    ·with_reducible refine aO (p6) ?_
     refine gO F157 ?_;refine aU (decide_eq_true ah) ?_;refine gO F157 ?_
     with_reducible refine aO p8 ?_
     (conv=>whnf);refine I.run ab F157 6 ?_;have pb:lV z.ae cut=c7 (bh z.ae ⟨cut,2⟩::bh z.ae ⟨cut,8⟩::gp z.ae cut s.set.data):=by
      rw[lV,vM,if_pos ah,vN,ke];rfl
     have c4:=mL z q cut true w 4 (bh z.ae ⟨cut,2⟩::bh z.ae ⟨cut,8⟩::gp z.ae cut s.set.data) hf (fun p hp=>by
      rcases List.mem_cons.1 hp with rfl|hp
      ·exact gU.2
      rcases List.mem_cons.1 hp with rfl|hp
      ·exact gU.2
      exact x9 hp) (by simp;omega)
     unfold bD bp at c4;(conv=>whnf);refine I.qL ab rfl ?_;refine gO F157 ?_;refine aB (e:=s.enc) ⟨h2,by rw[List.getElem?_map,hs];rfl⟩ rfl ?_;refine gO F157 ?_;refine I.loop (κ:=Nat) ([7,9]++rg 79 19) (fun k=>[(79,.d (.int .i64 k)),(7,.own 3 1)]) (fun k=>[(3,.arr 1 (3,1) ((bh z.ae ⟨cut,2⟩::bh z.ae ⟨cut,8⟩::gp z.ae cut (s.set.data.take k)).map (.int .i64)))]) (fun k=>k<=s.set.data.length) (fun k=>s.set.data.length-k) 0 (Nat.zero_le _) ?_ ?_
     ·(conv=>whnf);repeat (first|exact trivial|(refine sI ?_;conv=>whnf))
      refine And.intro rfl ?_;exact sZ
     intro k hk IH;have iE:=vQ z.ae cut (s.set.data.take k);rw[List.length_take]at iE;refine I.head ab F157 2000 ?_;(conv=>whnf);refine ai (fun h5=>?_) (fun h5=>?_)
     ·have pc:k<s.set.data.length:=by simpa using h5
      obtain⟨d,hd⟩:=aG pc;have c2:=vO d.text cut (kH d (List.mem_of_getElem? hd)) hc;have p1:=p1 d.text;have ff:=x8 (l:=z.ae) (c:=cut) hd;refine gO F157 ?_;refine aB (e:=d.enc) (aN hd) rfl ?_;refine gO F157 ?_;refine I.bJ ab bG 2000 (by kernel_rfl) ?_;(conv=>whnf);refine au (c2) ?_;refine gD ?_;refine gO F157 ?_;cases hu:Nm.under d.text cut
      ·rw[hu,if_neg (by decide),List.append_nil]at ff;refine aR ?_;refine gO F157 ?_;refine I.back (IH (k+1) (by omega) (by omega)) ?_;rw[ff];exact sZ
      ·rw[hu,if_pos rfl]at ff;refine bj ?_;refine gO F157 ?_
       with_reducible refine aO (p1) ?_
       refine gO F157 ?_;refine aV ⟨by simp;omega,by simp[DV.cells]⟩ ?_;refine gO F157 ?_;refine I.back (IH (k+1) (by omega) (by omega)) ?_;rw[ff];(conv=>whnf);repeat (first|exact trivial|(refine sI ?_;conv=>whnf))
       refine And.intro (by simp) ?_;exact sZ
     ·have aA:s.set.data.length<=k:=by simpa using h5
      rw[List.take_of_length_le aA];(conv=>whnf);refine I.freeze 3 ?_;(conv=>whnf);refine gO F157 ?_
      with_reducible refine aO (c4) ?_
      refine gO F157 ?_;rw[pb];exact⟨rfl,rfl⟩
    ·with_reducible refine aO (p6) ?_
     refine gO F157 ?_;refine aW (decide_eq_false ah) ?_;(conv=>whnf);refine I.run ab F157 5 ?_;have pb:lV z.ae cut=c7 (bh z.ae ⟨cut,2⟩::bh z.ae ⟨cut,6⟩::gp z.ae cut s.set.data):=by
      rw[lV,vM,if_neg ah,vN,ke];rfl
     have c4:=mL z q cut true w 4 (bh z.ae ⟨cut,2⟩::bh z.ae ⟨cut,6⟩::gp z.ae cut s.set.data) hf (fun p hp=>by
      rcases List.mem_cons.1 hp with rfl|hp
      ·exact gU.2
      rcases List.mem_cons.1 hp with rfl|hp
      ·exact gU.2
      exact x9 hp) (by simp;omega)
     unfold bD bp at c4;(conv=>whnf);refine I.qL ab rfl ?_;refine gO F157 ?_;refine aB (e:=s.enc) ⟨h2,by rw[List.getElem?_map,hs];rfl⟩ rfl ?_;refine gO F157 ?_;refine I.loop (κ:=Nat) ([7,9]++rg 79 19) (fun k=>[(79,.d (.int .i64 k)),(7,.own 3 1)]) (fun k=>[(3,.arr 1 (3,1) ((bh z.ae ⟨cut,2⟩::bh z.ae ⟨cut,6⟩::gp z.ae cut (s.set.data.take k)).map (.int .i64)))]) (fun k=>k<=s.set.data.length) (fun k=>s.set.data.length-k) 0 (Nat.zero_le _) ?_ ?_
     ·(conv=>whnf);repeat (first|exact trivial|(refine sI ?_;conv=>whnf))
      refine And.intro rfl ?_;exact sZ
     intro k hk IH;have iE:=vQ z.ae cut (s.set.data.take k);rw[List.length_take]at iE;refine I.head ab F157 2000 ?_;(conv=>whnf);refine ai (fun h5=>?_) (fun h5=>?_)
     ·have pc:k<s.set.data.length:=by simpa using h5
      obtain⟨d,hd⟩:=aG pc;have c2:=vO d.text cut (kH d (List.mem_of_getElem? hd)) hc;have p1:=p1 d.text;have ff:=x8 (l:=z.ae) (c:=cut) hd;refine gO F157 ?_;refine aB (e:=d.enc) (aN hd) rfl ?_;refine gO F157 ?_;refine I.bJ ab bG 2000 (by kernel_rfl) ?_;(conv=>whnf);refine au (c2) ?_;refine gD ?_;refine gO F157 ?_;cases hu:Nm.under d.text cut
      ·rw[hu,if_neg (by decide),List.append_nil]at ff;refine aR ?_;refine gO F157 ?_;refine I.back (IH (k+1) (by omega) (by omega)) ?_;rw[ff];exact sZ
      ·rw[hu,if_pos rfl]at ff;refine bj ?_;refine gO F157 ?_
       with_reducible refine aO (p1) ?_
       refine gO F157 ?_;refine aV ⟨by simp;omega,by simp[DV.cells]⟩ ?_;refine gO F157 ?_;refine I.back (IH (k+1) (by omega) (by omega)) ?_;rw[ff];(conv=>whnf);repeat (first|exact trivial|(refine sI ?_;conv=>whnf))
       refine And.intro (by simp) ?_;exact sZ
     ·have aA:s.set.data.length<=k:=by simpa using h5
      rw[List.take_of_length_le aA];(conv=>whnf);refine I.freeze 3 ?_;(conv=>whnf);refine gO F157 ?_
      with_reducible refine aO (c4) ?_
      refine gO F157 ?_;rw[pb];exact⟨rfl,rfl⟩
   ·refine ar.run ab (fn:=Tryz.f157) Tryz.func157 (body:=Tryz.f157.body.getD .skip) rfl (by decide) 2000 rfl ?_;(conv=>whnf);refine aW (by simpa using h6) ?_;refine gO F157 ?_;refine I.bJ ab bG 2000 (by kernel_rfl) ?_;(conv=>whnf);refine aR ?_;refine gD ?_;refine aW (by simpa using hn) ?_;refine gD ?_;refine gO F157 ?_;refine aR ?_;refine gO F157 ?_
    with_reducible refine aO (p2) ?_
    refine gO F157 ?_;by_cases ah:bh z.ae ⟨cut,6⟩<0
    ·with_reducible refine aO (p6) ?_
     refine gO F157 ?_;refine aU (decide_eq_true ah) ?_;refine gO F157 ?_
     with_reducible refine aO p8 ?_
     (conv=>whnf);refine I.run ab F157 6 ?_;have pb:lV z.ae cut=c7 (bh z.ae ⟨cut,2⟩::bh z.ae ⟨cut,8⟩::gp z.ae cut s.set.data):=by
      rw[lV,vM,if_pos ah,vN,ke];rfl
     have c4:=mL z q cut true w 4 (bh z.ae ⟨cut,2⟩::bh z.ae ⟨cut,8⟩::gp z.ae cut s.set.data) hf (fun p hp=>by
      rcases List.mem_cons.1 hp with rfl|hp
      ·exact gU.2
      rcases List.mem_cons.1 hp with rfl|hp
      ·exact gU.2
      exact x9 hp) (by simp;omega)
     unfold bD bp at c4;(conv=>whnf);refine I.qL ab rfl ?_;refine gO F157 ?_;refine aB (e:=s.enc) ⟨h2,by rw[List.getElem?_map,hs];rfl⟩ rfl ?_;refine gO F157 ?_;refine I.loop (κ:=Nat) ([7,9]++rg 79 19) (fun k=>[(79,.d (.int .i64 k)),(7,.own 3 1)]) (fun k=>[(3,.arr 1 (3,1) ((bh z.ae ⟨cut,2⟩::bh z.ae ⟨cut,8⟩::gp z.ae cut (s.set.data.take k)).map (.int .i64)))]) (fun k=>k<=s.set.data.length) (fun k=>s.set.data.length-k) 0 (Nat.zero_le _) ?_ ?_
     ·(conv=>whnf);repeat (first|exact trivial|(refine sI ?_;conv=>whnf))
      refine And.intro rfl ?_;exact sZ
     intro k hk IH;have iE:=vQ z.ae cut (s.set.data.take k);rw[List.length_take]at iE;refine I.head ab F157 2000 ?_;(conv=>whnf);refine ai (fun h5=>?_) (fun h5=>?_)
     ·have pc:k<s.set.data.length:=by simpa using h5
      obtain⟨d,hd⟩:=aG pc;have c2:=vO d.text cut (kH d (List.mem_of_getElem? hd)) hc;have p1:=p1 d.text;have ff:=x8 (l:=z.ae) (c:=cut) hd;refine gO F157 ?_;refine aB (e:=d.enc) (aN hd) rfl ?_;refine gO F157 ?_;refine I.bJ ab bG 2000 (by kernel_rfl) ?_;(conv=>whnf);refine au (c2) ?_;refine gD ?_;refine gO F157 ?_;cases hu:Nm.under d.text cut
      ·rw[hu,if_neg (by decide),List.append_nil]at ff;refine aR ?_;refine gO F157 ?_;refine I.back (IH (k+1) (by omega) (by omega)) ?_;rw[ff];exact sZ
      ·rw[hu,if_pos rfl]at ff;refine bj ?_;refine gO F157 ?_
       with_reducible refine aO (p1) ?_
       refine gO F157 ?_;refine aV ⟨by simp;omega,by simp[DV.cells]⟩ ?_;refine gO F157 ?_;refine I.back (IH (k+1) (by omega) (by omega)) ?_;rw[ff];(conv=>whnf);repeat (first|exact trivial|(refine sI ?_;conv=>whnf))
       refine And.intro (by simp) ?_;exact sZ
     ·have aA:s.set.data.length<=k:=by simpa using h5
      rw[List.take_of_length_le aA];(conv=>whnf);refine I.freeze 3 ?_;(conv=>whnf);refine gO F157 ?_
      with_reducible refine aO (c4) ?_
      refine gO F157 ?_;rw[pb];exact⟨rfl,rfl⟩
    ·with_reducible refine aO (p6) ?_
     refine gO F157 ?_;refine aW (decide_eq_false ah) ?_;(conv=>whnf);refine I.run ab F157 5 ?_;have pb:lV z.ae cut=c7 (bh z.ae ⟨cut,2⟩::bh z.ae ⟨cut,6⟩::gp z.ae cut s.set.data):=by
      rw[lV,vM,if_neg ah,vN,ke];rfl
     have c4:=mL z q cut true w 4 (bh z.ae ⟨cut,2⟩::bh z.ae ⟨cut,6⟩::gp z.ae cut s.set.data) hf (fun p hp=>by
      rcases List.mem_cons.1 hp with rfl|hp
      ·exact gU.2
      rcases List.mem_cons.1 hp with rfl|hp
      ·exact gU.2
      exact x9 hp) (by simp;omega)
     unfold bD bp at c4;(conv=>whnf);refine I.qL ab rfl ?_;refine gO F157 ?_;refine aB (e:=s.enc) ⟨h2,by rw[List.getElem?_map,hs];rfl⟩ rfl ?_;refine gO F157 ?_;refine I.loop (κ:=Nat) ([7,9]++rg 79 19) (fun k=>[(79,.d (.int .i64 k)),(7,.own 3 1)]) (fun k=>[(3,.arr 1 (3,1) ((bh z.ae ⟨cut,2⟩::bh z.ae ⟨cut,6⟩::gp z.ae cut (s.set.data.take k)).map (.int .i64)))]) (fun k=>k<=s.set.data.length) (fun k=>s.set.data.length-k) 0 (Nat.zero_le _) ?_ ?_
     ·(conv=>whnf);repeat (first|exact trivial|(refine sI ?_;conv=>whnf))
      refine And.intro rfl ?_;exact sZ
     intro k hk IH;have iE:=vQ z.ae cut (s.set.data.take k);rw[List.length_take]at iE;refine I.head ab F157 2000 ?_;(conv=>whnf);refine ai (fun h5=>?_) (fun h5=>?_)
     ·have pc:k<s.set.data.length:=by simpa using h5
      obtain⟨d,hd⟩:=aG pc;have c2:=vO d.text cut (kH d (List.mem_of_getElem? hd)) hc;have p1:=p1 d.text;have ff:=x8 (l:=z.ae) (c:=cut) hd;refine gO F157 ?_;refine aB (e:=d.enc) (aN hd) rfl ?_;refine gO F157 ?_;refine I.bJ ab bG 2000 (by kernel_rfl) ?_;(conv=>whnf);refine au (c2) ?_;refine gD ?_;refine gO F157 ?_;cases hu:Nm.under d.text cut
      ·rw[hu,if_neg (by decide),List.append_nil]at ff;refine aR ?_;refine gO F157 ?_;refine I.back (IH (k+1) (by omega) (by omega)) ?_;rw[ff];exact sZ
      ·rw[hu,if_pos rfl]at ff;refine bj ?_;refine gO F157 ?_
       with_reducible refine aO (p1) ?_
       refine gO F157 ?_;refine aV ⟨by simp;omega,by simp[DV.cells]⟩ ?_;refine gO F157 ?_;refine I.back (IH (k+1) (by omega) (by omega)) ?_;rw[ff];(conv=>whnf);repeat (first|exact trivial|(refine sI ?_;conv=>whnf))
       refine And.intro (by simp) ?_;exact sZ
     ·have aA:s.set.data.length<=k:=by simpa using h5
      rw[List.take_of_length_le aA];(conv=>whnf);refine I.freeze 3 ?_;(conv=>whnf);refine gO F157 ?_
      with_reducible refine aO (c4) ?_
      refine gO F157 ?_;rw[pb];exact⟨rfl,rfl⟩
end Go.Proofs.YtfmdaiojokniiaaGreatDoor.P
end
