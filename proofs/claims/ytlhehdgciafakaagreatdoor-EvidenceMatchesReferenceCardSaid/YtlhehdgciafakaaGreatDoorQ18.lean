/- Lemmas of mine. Conditions: as stated. -/
import Derived.Test.YtlhehdgciafakaaGreatDoorQ13
import Derived.Test.YtlhehdgciafakaaGreatDoorQ17
set_option linter.unusedVariables false
set_option linter.unusedSimpArgs false
open Array renaming getElem?_eq_none->akO,getElem?_modify->ahZ
open Bool renaming and_eq_true->ai2,false_or->alA,true_or->ajZ
open Int renaming toNat_natCast->ai0,toNat_of_nonneg->ane
open List renaming mem_cons->ai3,mem_of_getElem?->aiQ,getElem?_map->ahy,length_take->ah1,take_of_length_le->ajq,append_nil->aj0,drop_eq_nil_of_le->amU,map_cons->ahx,map_nil->akr,suffix_refl->alo,getElem?_eq_some_iff->akz,any_cons->anm
open Nat renaming zero_le->ai4,lt_or_ge->ahs,mul_comm->aia
section
namespace Go.Proofs.YtlhehdgciafakaaGreatDoor.P
open Go Go.az
set_option maxRecDepth 100000
set_option maxHeartbeats 4000000
theorem Kt{l:List Signed}{c:Text}(h:iK l c=true):lX l (Nm.labels c)=Nm.labels c:=by
 cases e:Nm.labels c with
 |nil=>rfl
 |cons x r=>rw[lX,<- e,xN,if_pos h]
theorem Ku{l:List Signed}{c:Text}(h:iK l c=false):lX l (Nm.labels c)=lX l (Nm.labels c).tail:=by
 cases e:Nm.labels c with
 |nil=>rfl
 |cons x r=>rw[lX,<- e,xN,h];simp[e]
theorem Fl{t:Text}(hv:Nm.valid t=true):(Nm.labels t).length<=8/\∀ x∈Nm.labels t,x.length<=100:=by
 by_cases hr:t=[46]
 ·subst hr;simp[RJ]
 obtain⟨h1,h2⟩:=RM hv hr;rw[Nm.labels,if_neg hr];obtain⟨p1,p2⟩:=pL.1 h2;refine⟨p1,fun x hx=>?_⟩;obtain⟨i,hi⟩:=List.getElem?_of_mem hx;have:=p2 i x hi;simp only[fK,Nm.label,Bool.or_eq_true,ai2,decide_eq_true_eq]at this;rcases this with h|⟨_,rfl⟩
 ·omega
 ·simp
theorem acw(z:aK)(q:bp)(cut:Text)(b:Bool)(w:Text)(V:gq z)(hq:Nm.valid q.name=true)(hu:Nm.under q.name z.af=true):au E 233 [bK z q cut b w,bw z] [.ptr 0 0] (fun x h=>x=.d (.str ((sj z.J q.name).getD []))/\h=[bK z q cut b w,bw z]):=by
 have c0:=fun n hn=>Cw z q cut b w n V hn;unfold bK bw at c0;apply au.kA
 case hk=>rfl
 case hc =>
  unfold bK bw;refine aE ?_;refine I.loop (κ:=Text) ([3]++rg 13 17) (fun c=>[(3,.d (.str c))]) (fun _=>[]) (fun c=>Nm.valid c=true/\Nm.under c z.af=true/\lX z.J (Nm.labels q.name)=lX z.J (Nm.labels c)) (fun c=>(Nm.labels c).length) q.name ⟨hq,hu,rfl⟩ ?_ ?_
  ·exact sZ
  rintro c ⟨k1,k2,k3⟩ IH;refine zT ?_;have c1:=c0 c k1;have ng:=Eg c (by have:=dh k1;exact pC oM);unfold zm at ng;rw[k1]at ng;have hl:=Fl k1;have fin:iK z.J c=true->sj z.J q.name=lj ([42]::Nm.labels c):=fun h=>by rw[sj,k3,Kt h]
  have hj:=ack ([42]::Nm.labels c) (by simp;omega) (fun t ht=>by
   rcases ai3.1 ht with rfl|h
   ·simp
   ·exact hl.2 t h)
  by_cases h4:c=z.af
  ·rw[fin (by rw[h4];exact V.Ru)];clear fin IH;refine aP (zD h4) (gC ?_);refine vF ?_;refine ao ng ?_;(conv=>whnf);refine I.run ag F233.h 8 ?_;(conv=>whnf);refine I.rF ag rfl (gC ?_);refine nA ?_;(conv=>whnf);refine I.freeze 2 ?_;(conv=>whnf);refine gC ?_;cases hJ:lj ([42]::Nm.labels c)with
   |none =>
    rw[hJ]at hj;refine ao (hj) (gC ?_);refine vT ?_;exact⟨rfl,rfl⟩
   |some t =>
    rw[hJ]at hj;refine ao (hj) (gC ?_);refine vF ?_;exact⟨rfl,rfl⟩
  ·refine aN (zD h4) ?_;have hr:c≠[46]:=fun e=>h4 (by rw[e]at k2 ⊢;exact(Kp k2).symm);refine gC ?_
   with_reducible refine aX (c1) ?_
   refine gC ?_;cases h5:iK z.J c
   ·refine aZ ?_;have c5:=RI c k1 hr;refine gC ?_;refine ao (c5) (gC ?_);exact I.back (IH (gS (Nm.labels c).tail) ⟨(tZ k1 hr).1,Fk k1 hr k2 h4,by rw[k3,Ku h5,(tZ k1 hr).2]⟩ (Kq k1 hr)) sZ
   ·rw[fin h5];clear fin IH;refine vF ?_;refine ao ng ?_;(conv=>whnf);refine I.run ag F233.h 8 ?_;(conv=>whnf);refine I.rF ag rfl (gC ?_);refine nA ?_;(conv=>whnf);refine I.freeze 2 ?_;(conv=>whnf);refine gC ?_;cases hJ:lj ([42]::Nm.labels c)with
    |none =>
     rw[hJ]at hj;refine ao (hj) (gC ?_);refine vT ?_;exact⟨rfl,rfl⟩
    |some t =>
     rw[hJ]at hj;refine ao (hj) (gC ?_);refine vF ?_;exact⟨rfl,rfl⟩
def Kv:DV := .agg [.int .i64 0,.aF,.str []]
theorem acx(z:aK)(q:bp)(cut:Text)(b:Bool)(w:Text)(V:gq z)(hf:z.gY)(hq:Nm.valid q.name=true)(he:iK z.J q.name=true):au E 150 [bK z q cut b w,bw z] [.ptr 0 0] (fun x h=>x=.aG [.d (pX 5 (bR z.J (cd [aC z.J ⟨z.af,4⟩,cM z.J q.name])) []),.d (.bool true)]/\h=[bK z q cut b w,bw z]):=by
 have c0:=Cw z q cut b w q.name V hq;have c1:=Kk z q cut b w V.sorted;have c3:=xQ z q cut b w q.name V hq;have ai:=(hU (l:=z.J) (q:=⟨z.af,4⟩)).2;have ni:=(vI (l:=z.J) (n:=q.name)).2;rw[he]at c0;generalize aC z.J ⟨z.af,4⟩=i at *;generalize cM z.J q.name=j at *;have c2:=om z q cut b w 5 [i,j] hf (fun p hp=>by simp at hp;rcases hp with rfl|rfl<;>assumption) sP;simp only[ahx,akr]at c2;unfold bK bw at c0 c1 c2 c3;apply au.kA
 case hk=>rfl
 case hc =>
  unfold bK bw;refine aE ?_
  with_reducible refine aX (c0) ?_
  refine gC ?_;refine vT ?_;refine dU ?_;refine lH (c1) ?_;refine⟨rfl, ?_⟩;refine gD ?_;refine lH (c3) ?_;refine⟨rfl, ?_⟩;refine gD ?_;refine lH (c2) ?_;refine⟨rfl, ?_⟩;refine gD ?_;refine gC ?_;exact⟨rfl,rfl⟩
theorem acy(z:aK)(q:bp)(cut:Text)(b:Bool)(w:Text)(V:gq z)(hq:Nm.valid q.name=true)(hu:Nm.under q.name z.af=true)(he:iK z.J q.name=false):au E 150 [bK z q cut b w,bw z] [.ptr 0 0] (fun x h=>x=.aG [.d Kv,.d (.bool false)]/\h=[bK z q cut b ((sj z.J q.name).getD []),bw z]):=by
 have c0:=Cw z q cut b w q.name V hq;have c1:=acw z q cut b w V hq hu;rw[he]at c0;unfold bK bw at c0 c1;apply au.kA
 case hk=>rfl
 case hc =>
  unfold bK bw;refine aE ?_
  with_reducible refine aX (c0) ?_
  refine gC ?_;refine vF ?_
  with_reducible refine aX (c1) ?_
  refine gC ?_;exact⟨rfl,rfl⟩
theorem RN(z:aK)(q:bp)(cut:Text)(b:Bool)(w:Text)(V:gq z)(hw:w=[]\/(Nm.valid w=true/\iK z.J w=false)):au E 153 [bK z q cut b w,bw z] [.ptr 0 0] (fun x h=>x=.aG [.d Kv,.d (.bool false)]/\h=[bK z q cut b w,bw z]):=by
 apply au.kA
 case hk=>rfl
 case hc =>
  by_cases h0:w=[]
  ·subst h0;unfold bK bw;refine aE ?_;refine aN dC (gC ?_);refine vT ?_;exact⟨rfl,rfl⟩
  ·obtain⟨h1,h2⟩:=hw.resolve_left h0;have c0:=Cw z q cut b w w V h1;rw[h2]at c0;unfold bK bw at c0 ⊢;refine aE ?_;refine aP (zD h0) (gC ?_)
   with_reducible refine aX (c0) ?_
   refine gC ?_;refine vT ?_;exact⟨rfl,rfl⟩
theorem acz(z:aK)(q:bp)(cut:Text)(b:Bool)(w:Text)(V:gq z)(hf:z.gY)(hq:Nm.valid q.name=true)(hw:Nm.valid w=true)(he:iK z.J w=true):au E 153 [bK z q cut b w,bw z] [.ptr 0 0] (fun x h=>x=.aG [.d (pX 5 (bR z.J (cd [aC z.J ⟨z.af,4⟩,cM z.J q.name,cM z.J w])) []),.d (.bool true)]/\h=[bK z q cut b w,bw z]):=by
 have c0:=Cw z q cut b w w V hw;have c1:=Kk z q cut b w V.sorted;have c3:=xQ z q cut b w q.name V hq;have c4:=xQ z q cut b w w V hw;have ai:=(hU (l:=z.J) (q:=⟨z.af,4⟩)).2;have ni:=(vI (l:=z.J) (n:=q.name)).2;have ace:=(vI (l:=z.J) (n:=w)).2;have h0:w≠[]:=fun e=>by rw[e]at hw;exact absurd hw dC
 rw[he]at c0;generalize aC z.J ⟨z.af,4⟩=i at *;generalize cM z.J q.name=j at *;generalize cM z.J w=m at *;have c2:=om z q cut b w 5 [i,j,m] hf (fun p hp=>by simp at hp;rcases hp with rfl|rfl|rfl<;>assumption) sP;simp only[ahx,akr]at c2;unfold bK bw at c0 c1 c2 c3 c4;apply au.kA
 case hk=>rfl
 case hc =>
  unfold bK bw;refine aE ?_;refine aP (zD h0) (gC ?_)
  with_reducible refine aX (c0) ?_
  refine gC ?_;refine vF ?_;refine dU ?_;refine lH (c1) ?_;refine⟨rfl, ?_⟩;refine gD ?_;refine lH (c3) ?_;refine⟨rfl, ?_⟩;refine gD ?_;refine lH (c4) ?_;refine⟨rfl, ?_⟩;refine gD ?_;refine lH (c2) ?_;refine⟨rfl, ?_⟩;refine gD ?_;refine gC ?_;exact⟨rfl,rfl⟩
theorem RO{s:dw}(h:eX s=true)(ht:s.type=2):∀ d∈s.data,Nm.valid d.text=true:=fun d hd=>by
 simp only[eX,ai2]at h;have:=IU h.2 d hd;rw[ht]at this;simp only[lN,ai2]at this;have:=this.2;simp[oT,gV]at this;exact this.1
def eQ(l:List Signed)(c:Text)(D:List Datum):List Int:=(D.filter fun d=>Nm.under d.text c).map fun d=>aC l ⟨d.text,1⟩
theorem xR{l:List Signed}{c:Text}{D:List Datum}{k:Nat}{d:Datum}(h:D[k]?=some d):eQ l c (D.take (k+1))=eQ l c (D.take k)++(if Nm.under d.text c then[aC l ⟨d.text,1⟩]else[]):=by
 rw[cj h];unfold eQ;rw[List.filter_append,List.map_append];cases e:Nm.under d.text c<;>simp[e]
theorem vJ(l:List Signed)(c:Text)(D:List Datum):(eQ l c D).length<=D.length:=by
 unfold eQ;rw[List.length_map];exact List.length_filter_le _ _
theorem xS{l:List Signed}{c:Text}{D:List Datum}{p:Int}(h:p∈eQ l c D):p<l.length:=by
 simp only[eQ,List.mem_map]at h;obtain⟨d,-,rfl⟩:=h;exact hU.2
def pY(q:bp)(cut:Text)(b:Bool):Bool := !b||(decide (q.name=cut)&&(decide (q.type=6)||decide (q.type=8)))
theorem acA(z:aK)(q:bp)(cut:Text)(b:Bool)(w:Text)(hb:pY q cut b=true):au E 147 [bK z q cut b w,bw z] [.ptr 0 0] (fun x h=>x=.aG [.d Kv,.d (.bool false)]/\h=[bK z q cut b w,bw z]):=by
 apply au.kA
 case hk=>rfl
 case hc =>
  unfold bK bw;by_cases h6:q.type=6
  ·refine aE ?_;refine aN (zD h6) (gC ?_);cases b
   ·refine dU ?_;refine aZ (gD ?_);refine gC ?_;refine vT ?_;exact⟨rfl,rfl⟩
   ·have hn:q.name=cut:=by simpa [pY,h6]using hb
    refine dU ?_;refine aU (gD ?_);refine aN (zD hn) (gD ?_);refine gC ?_;refine vT ?_;exact⟨rfl,rfl⟩
  ·refine aE ?_;refine aP (zD h6) (gC ?_);cases b
   ·refine dU ?_;refine aZ (gD ?_);refine gC ?_;refine vT ?_;exact⟨rfl,rfl⟩
   ·have hn:q.name=cut/\q.type=8:=by simpa [pY,h6]using hb
    refine dU ?_;refine aU (gD ?_);refine aN (zD hn.1) (gD ?_);refine gC ?_;refine aN (zD hn.2) (gC ?_);exact⟨rfl,rfl⟩
theorem acB(z:aK)(q:bp)(cut:Text)(w:Text)(V:gq z)(hf:z.gY)(hc:Nm.valid cut=true)(h2:0<=aC z.J ⟨cut,2⟩)(hb:pY q cut true=false):au E 147 [bK z q cut true w,bw z] [.ptr 0 0] (fun x h=>x=.aG [.d (pX 4 (bR z.J (kD z.J cut)) cut),.d (.bool true)]/\h=[bK z q cut true w,bw z]):=by
 have p2:=tY z q cut true w cut 2 V.sorted;have p6:=tY z q cut true w cut 6 V.sorted;have p8:=tY z q cut true w cut 8 V.sorted;have p1:=fun n=>tY z q cut true w n 1 V.sorted;have po:=(hU (l:=z.J) (q:=⟨cut,2⟩)).2;obtain⟨s,hs,iC⟩:=pW h2;have iY:=RO (V.J s (aiQ hs)) (congrArg bp.type (xM iC)).symm;have hl8:=(xj (V.J s (aiQ hs))).2.1;have agY:=vJ z.J cut s.set.data;have jU:xO z.J cut=s.set.data:=by rw[xO,hs]
 unfold bK bw at p2 p6 p8 p1;apply au.kA
 case hk=>rfl
 case hc =>
  unfold bK bw;by_cases h6:q.type=6
  ·have hn:q.name≠cut:=fun e=>by simp[pY,h6,e]at hb
   refine aE ?_;refine aN (zD h6) (gC ?_);refine dU ?_;refine aU (gD ?_);refine aP (zD hn) (gD ?_);refine gC ?_;refine vF ?_
   with_reducible refine aX (p2) ?_
   refine gC ?_;by_cases ai:aC z.J ⟨cut,6⟩<0
   ·with_reducible refine aX (p6) ?_
    refine gC ?_;refine aN (decide_eq_true ai) (gC ?_)
    with_reducible refine aX p8 ?_
    (conv=>whnf);refine I.run ag F147.h 6 ?_;have o7:kD z.J cut=cd (aC z.J ⟨cut,2⟩::aC z.J ⟨cut,8⟩::eQ z.J cut s.set.data):=by
     rw[kD,gG,if_pos ai,qS,jU];rfl
    have c4:=om z q cut true w 4 (aC z.J ⟨cut,2⟩::aC z.J ⟨cut,8⟩::eQ z.J cut s.set.data) hf (fun p hp=>by
     rcases ai3.1 hp with rfl|hp
     ·exact hU.2
     rcases ai3.1 hp with rfl|hp
     ·exact hU.2
     exact xS hp) (by simp;omega)
    unfold bK bw at c4;(conv=>whnf);refine I.rF ag rfl (gC ?_);refine aR (e:=s.enc) ⟨h2,by rw[ahy,hs];rfl⟩ rfl ?_;refine gC ?_;refine I.lP s.set.data.length ([7,9]++rg 79 19) (fun k=>[(79,.d (.int .i64 k)),(7,.own 3 1)]) (fun k=>[(3,.arr 1 (3,1) ((aC z.J ⟨cut,2⟩::aC z.J ⟨cut,8⟩::eQ z.J cut (s.set.data.take k)).map (.int .i64)))]) (fun k=>k<=s.set.data.length) (ai4 _) ?_ ?_
    ·refine sY ?_
     refine⟨rfl, ?_⟩;exact sZ
    intro k hk IH;have ik:=vJ z.J cut (s.set.data.take k);rw[ah1]at ik;refine zA ?_ ?_<;>intro h5
    ·have o8:k<s.set.data.length:=zD h5
     obtain⟨d,hd⟩:=aI o8;have c2:=xP d.text cut (iY d (aiQ hd)) hc;have p1:=p1 d.text;have gr:=xR (l:=z.J) (c:=cut) hd;refine gC ?_;refine eM hd (gC ?_);refine dU ?_;refine ax (c2) (gD ?_);refine gC ?_;cases hu:Nm.under d.text cut
     ·rw[hu,if_neg dC,aj0]at gr;refine vF ?_;refine I.back (IH (k+1) oM oM) ?_;rw[gr];exact sZ
     ·rw[hu,if_pos rfl]at gr;refine vT ?_
      with_reducible refine aX (p1) ?_
      refine gC ?_;refine nA (gC ?_);refine I.back (IH (k+1) oM oM) ?_;rw[gr];refine sY ?_
      refine⟨by simp, ?_⟩;exact sZ
    ·have aA:s.set.data.length<=k:=zD h5
     rw[ajq aA];(conv=>whnf);refine I.freeze 3 ?_;(conv=>whnf);refine gC ?_
     with_reducible refine aX (c4) ?_
     refine gC ?_;rw[o7];exact⟨rfl,rfl⟩
   ·with_reducible refine aX (p6) ?_
    refine gC ?_;refine aP (decide_eq_false ai) ?_;(conv=>whnf);refine I.run ag F147.h 5 ?_;have o7:kD z.J cut=cd (aC z.J ⟨cut,2⟩::aC z.J ⟨cut,6⟩::eQ z.J cut s.set.data):=by
     rw[kD,gG,if_neg ai,qS,jU];rfl
    have c4:=om z q cut true w 4 (aC z.J ⟨cut,2⟩::aC z.J ⟨cut,6⟩::eQ z.J cut s.set.data) hf (fun p hp=>by
     rcases ai3.1 hp with rfl|hp
     ·exact hU.2
     rcases ai3.1 hp with rfl|hp
     ·exact hU.2
     exact xS hp) (by simp;omega)
    unfold bK bw at c4;(conv=>whnf);refine I.rF ag rfl (gC ?_);refine aR (e:=s.enc) ⟨h2,by rw[ahy,hs];rfl⟩ rfl ?_;refine gC ?_;refine I.lP s.set.data.length ([7,9]++rg 79 19) (fun k=>[(79,.d (.int .i64 k)),(7,.own 3 1)]) (fun k=>[(3,.arr 1 (3,1) ((aC z.J ⟨cut,2⟩::aC z.J ⟨cut,6⟩::eQ z.J cut (s.set.data.take k)).map (.int .i64)))]) (fun k=>k<=s.set.data.length) (ai4 _) ?_ ?_
    ·refine sY ?_
     refine⟨rfl, ?_⟩;exact sZ
    intro k hk IH;have ik:=vJ z.J cut (s.set.data.take k);rw[ah1]at ik;refine zA ?_ ?_<;>intro h5
    ·have o8:k<s.set.data.length:=zD h5
     obtain⟨d,hd⟩:=aI o8;have c2:=xP d.text cut (iY d (aiQ hd)) hc;have p1:=p1 d.text;have gr:=xR (l:=z.J) (c:=cut) hd;refine gC ?_;refine eM hd (gC ?_);refine dU ?_;refine ax (c2) (gD ?_);refine gC ?_;cases hu:Nm.under d.text cut
     ·rw[hu,if_neg dC,aj0]at gr;refine vF ?_;refine I.back (IH (k+1) oM oM) ?_;rw[gr];exact sZ
     ·rw[hu,if_pos rfl]at gr;refine vT ?_
      with_reducible refine aX (p1) ?_
      refine gC ?_;refine nA (gC ?_);refine I.back (IH (k+1) oM oM) ?_;rw[gr];refine sY ?_
      refine⟨by simp, ?_⟩;exact sZ
    ·have aA:s.set.data.length<=k:=zD h5
     rw[ajq aA];(conv=>whnf);refine I.freeze 3 ?_;(conv=>whnf);refine gC ?_
     with_reducible refine aX (c4) ?_
     refine gC ?_;rw[o7];exact⟨rfl,rfl⟩
  ·by_cases hn:q.name=cut
   ·have h8:q.type≠8:=fun e=>by simp[pY,hn,e]at hb
    refine aE ?_;refine aP (zD h6) (gC ?_);refine dU ?_;refine aU (gD ?_);refine aN (zD hn) (gD ?_);refine gC ?_;refine aP (zD h8) (gC ?_)
    with_reducible refine aX (p2) ?_
    refine gC ?_;by_cases ai:aC z.J ⟨cut,6⟩<0
    ·with_reducible refine aX (p6) ?_
     refine gC ?_;refine aN (decide_eq_true ai) (gC ?_)
     with_reducible refine aX p8 ?_
     (conv=>whnf);refine I.run ag F147.h 6 ?_;have o7:kD z.J cut=cd (aC z.J ⟨cut,2⟩::aC z.J ⟨cut,8⟩::eQ z.J cut s.set.data):=by
      rw[kD,gG,if_pos ai,qS,jU];rfl
     have c4:=om z q cut true w 4 (aC z.J ⟨cut,2⟩::aC z.J ⟨cut,8⟩::eQ z.J cut s.set.data) hf (fun p hp=>by
      rcases ai3.1 hp with rfl|hp
      ·exact hU.2
      rcases ai3.1 hp with rfl|hp
      ·exact hU.2
      exact xS hp) (by simp;omega)
     unfold bK bw at c4;(conv=>whnf);refine I.rF ag rfl (gC ?_);refine aR (e:=s.enc) ⟨h2,by rw[ahy,hs];rfl⟩ rfl ?_;refine gC ?_;refine I.lP s.set.data.length ([7,9]++rg 79 19) (fun k=>[(79,.d (.int .i64 k)),(7,.own 3 1)]) (fun k=>[(3,.arr 1 (3,1) ((aC z.J ⟨cut,2⟩::aC z.J ⟨cut,8⟩::eQ z.J cut (s.set.data.take k)).map (.int .i64)))]) (fun k=>k<=s.set.data.length) (ai4 _) ?_ ?_
     ·refine sY ?_
      refine⟨rfl, ?_⟩;exact sZ
     intro k hk IH;have ik:=vJ z.J cut (s.set.data.take k);rw[ah1]at ik;refine zA ?_ ?_<;>intro h5
     ·have o8:k<s.set.data.length:=zD h5
      obtain⟨d,hd⟩:=aI o8;have c2:=xP d.text cut (iY d (aiQ hd)) hc;have p1:=p1 d.text;have gr:=xR (l:=z.J) (c:=cut) hd;refine gC ?_;refine eM hd (gC ?_);refine dU ?_;refine ax (c2) (gD ?_);refine gC ?_;cases hu:Nm.under d.text cut
      ·rw[hu,if_neg dC,aj0]at gr;refine vF ?_;refine I.back (IH (k+1) oM oM) ?_;rw[gr];exact sZ
      ·rw[hu,if_pos rfl]at gr;refine vT ?_
       with_reducible refine aX (p1) ?_
       refine gC ?_;refine nA (gC ?_);refine I.back (IH (k+1) oM oM) ?_;rw[gr];refine sY ?_
       refine⟨by simp, ?_⟩;exact sZ
     ·have aA:s.set.data.length<=k:=zD h5
      rw[ajq aA];(conv=>whnf);refine I.freeze 3 ?_;(conv=>whnf);refine gC ?_
      with_reducible refine aX (c4) ?_
      refine gC ?_;rw[o7];exact⟨rfl,rfl⟩
    ·with_reducible refine aX (p6) ?_
     refine gC ?_;refine aP (decide_eq_false ai) ?_;(conv=>whnf);refine I.run ag F147.h 5 ?_;have o7:kD z.J cut=cd (aC z.J ⟨cut,2⟩::aC z.J ⟨cut,6⟩::eQ z.J cut s.set.data):=by
      rw[kD,gG,if_neg ai,qS,jU];rfl
     have c4:=om z q cut true w 4 (aC z.J ⟨cut,2⟩::aC z.J ⟨cut,6⟩::eQ z.J cut s.set.data) hf (fun p hp=>by
      rcases ai3.1 hp with rfl|hp
      ·exact hU.2
      rcases ai3.1 hp with rfl|hp
      ·exact hU.2
      exact xS hp) (by simp;omega)
     unfold bK bw at c4;(conv=>whnf);refine I.rF ag rfl (gC ?_);refine aR (e:=s.enc) ⟨h2,by rw[ahy,hs];rfl⟩ rfl ?_;refine gC ?_;refine I.lP s.set.data.length ([7,9]++rg 79 19) (fun k=>[(79,.d (.int .i64 k)),(7,.own 3 1)]) (fun k=>[(3,.arr 1 (3,1) ((aC z.J ⟨cut,2⟩::aC z.J ⟨cut,6⟩::eQ z.J cut (s.set.data.take k)).map (.int .i64)))]) (fun k=>k<=s.set.data.length) (ai4 _) ?_ ?_
     ·refine sY ?_
      refine⟨rfl, ?_⟩;exact sZ
     intro k hk IH;have ik:=vJ z.J cut (s.set.data.take k);rw[ah1]at ik;refine zA ?_ ?_<;>intro h5
     ·have o8:k<s.set.data.length:=zD h5
      obtain⟨d,hd⟩:=aI o8;have c2:=xP d.text cut (iY d (aiQ hd)) hc;have p1:=p1 d.text;have gr:=xR (l:=z.J) (c:=cut) hd;refine gC ?_;refine eM hd (gC ?_);refine dU ?_;refine ax (c2) (gD ?_);refine gC ?_;cases hu:Nm.under d.text cut
      ·rw[hu,if_neg dC,aj0]at gr;refine vF ?_;refine I.back (IH (k+1) oM oM) ?_;rw[gr];exact sZ
      ·rw[hu,if_pos rfl]at gr;refine vT ?_
       with_reducible refine aX (p1) ?_
       refine gC ?_;refine nA (gC ?_);refine I.back (IH (k+1) oM oM) ?_;rw[gr];refine sY ?_
       refine⟨by simp, ?_⟩;exact sZ
     ·have aA:s.set.data.length<=k:=zD h5
      rw[ajq aA];(conv=>whnf);refine I.freeze 3 ?_;(conv=>whnf);refine gC ?_
      with_reducible refine aX (c4) ?_
      refine gC ?_;rw[o7];exact⟨rfl,rfl⟩
   ·refine aE ?_;refine aP (zD h6) (gC ?_);refine dU ?_;refine aU (gD ?_);refine aP (zD hn) (gD ?_);refine gC ?_;refine vF ?_
    with_reducible refine aX (p2) ?_
    refine gC ?_;by_cases ai:aC z.J ⟨cut,6⟩<0
    ·with_reducible refine aX (p6) ?_
     refine gC ?_;refine aN (decide_eq_true ai) (gC ?_)
     with_reducible refine aX p8 ?_
     (conv=>whnf);refine I.run ag F147.h 6 ?_;have o7:kD z.J cut=cd (aC z.J ⟨cut,2⟩::aC z.J ⟨cut,8⟩::eQ z.J cut s.set.data):=by
      rw[kD,gG,if_pos ai,qS,jU];rfl
     have c4:=om z q cut true w 4 (aC z.J ⟨cut,2⟩::aC z.J ⟨cut,8⟩::eQ z.J cut s.set.data) hf (fun p hp=>by
      rcases ai3.1 hp with rfl|hp
      ·exact hU.2
      rcases ai3.1 hp with rfl|hp
      ·exact hU.2
      exact xS hp) (by simp;omega)
     unfold bK bw at c4;(conv=>whnf);refine I.rF ag rfl (gC ?_);refine aR (e:=s.enc) ⟨h2,by rw[ahy,hs];rfl⟩ rfl ?_;refine gC ?_;refine I.lP s.set.data.length ([7,9]++rg 79 19) (fun k=>[(79,.d (.int .i64 k)),(7,.own 3 1)]) (fun k=>[(3,.arr 1 (3,1) ((aC z.J ⟨cut,2⟩::aC z.J ⟨cut,8⟩::eQ z.J cut (s.set.data.take k)).map (.int .i64)))]) (fun k=>k<=s.set.data.length) (ai4 _) ?_ ?_
     ·refine sY ?_
      refine⟨rfl, ?_⟩;exact sZ
     intro k hk IH;have ik:=vJ z.J cut (s.set.data.take k);rw[ah1]at ik;refine zA ?_ ?_<;>intro h5
     ·have o8:k<s.set.data.length:=zD h5
      obtain⟨d,hd⟩:=aI o8;have c2:=xP d.text cut (iY d (aiQ hd)) hc;have p1:=p1 d.text;have gr:=xR (l:=z.J) (c:=cut) hd;refine gC ?_;refine eM hd (gC ?_);refine dU ?_;refine ax (c2) (gD ?_);refine gC ?_;cases hu:Nm.under d.text cut
      ·rw[hu,if_neg dC,aj0]at gr;refine vF ?_;refine I.back (IH (k+1) oM oM) ?_;rw[gr];exact sZ
      ·rw[hu,if_pos rfl]at gr;refine vT ?_
       with_reducible refine aX (p1) ?_
       refine gC ?_;refine nA (gC ?_);refine I.back (IH (k+1) oM oM) ?_;rw[gr];refine sY ?_
       refine⟨by simp, ?_⟩;exact sZ
     ·have aA:s.set.data.length<=k:=zD h5
      rw[ajq aA];(conv=>whnf);refine I.freeze 3 ?_;(conv=>whnf);refine gC ?_
      with_reducible refine aX (c4) ?_
      refine gC ?_;rw[o7];exact⟨rfl,rfl⟩
    ·with_reducible refine aX (p6) ?_
     refine gC ?_;refine aP (decide_eq_false ai) ?_;(conv=>whnf);refine I.run ag F147.h 5 ?_;have o7:kD z.J cut=cd (aC z.J ⟨cut,2⟩::aC z.J ⟨cut,6⟩::eQ z.J cut s.set.data):=by
      rw[kD,gG,if_neg ai,qS,jU];rfl
     have c4:=om z q cut true w 4 (aC z.J ⟨cut,2⟩::aC z.J ⟨cut,6⟩::eQ z.J cut s.set.data) hf (fun p hp=>by
      rcases ai3.1 hp with rfl|hp
      ·exact hU.2
      rcases ai3.1 hp with rfl|hp
      ·exact hU.2
      exact xS hp) (by simp;omega)
     unfold bK bw at c4;(conv=>whnf);refine I.rF ag rfl (gC ?_);refine aR (e:=s.enc) ⟨h2,by rw[ahy,hs];rfl⟩ rfl ?_;refine gC ?_;refine I.lP s.set.data.length ([7,9]++rg 79 19) (fun k=>[(79,.d (.int .i64 k)),(7,.own 3 1)]) (fun k=>[(3,.arr 1 (3,1) ((aC z.J ⟨cut,2⟩::aC z.J ⟨cut,6⟩::eQ z.J cut (s.set.data.take k)).map (.int .i64)))]) (fun k=>k<=s.set.data.length) (ai4 _) ?_ ?_
     ·refine sY ?_
      refine⟨rfl, ?_⟩;exact sZ
     intro k hk IH;have ik:=vJ z.J cut (s.set.data.take k);rw[ah1]at ik;refine zA ?_ ?_<;>intro h5
     ·have o8:k<s.set.data.length:=zD h5
      obtain⟨d,hd⟩:=aI o8;have c2:=xP d.text cut (iY d (aiQ hd)) hc;have p1:=p1 d.text;have gr:=xR (l:=z.J) (c:=cut) hd;refine gC ?_;refine eM hd (gC ?_);refine dU ?_;refine ax (c2) (gD ?_);refine gC ?_;cases hu:Nm.under d.text cut
      ·rw[hu,if_neg dC,aj0]at gr;refine vF ?_;refine I.back (IH (k+1) oM oM) ?_;rw[gr];exact sZ
      ·rw[hu,if_pos rfl]at gr;refine vT ?_
       with_reducible refine aX (p1) ?_
       refine gC ?_;refine nA (gC ?_);refine I.back (IH (k+1) oM oM) ?_;rw[gr];refine sY ?_
       refine⟨by simp, ?_⟩;exact sZ
     ·have aA:s.set.data.length<=k:=zD h5
      rw[ajq aA];(conv=>whnf);refine I.freeze 3 ?_;(conv=>whnf);refine gC ?_
      with_reducible refine aX (c4) ?_
      refine gC ?_;rw[o7];exact⟨rfl,rfl⟩
def Fm(a:dJ):DV := .agg [.int .i64 a.kind,if a.kind=0\/a.kind=7 then .aF else .sl (a.J.map Signed.enc),.str a.cut]
theorem acD{z:aK}{q:bp}{cut:Text}{b:Bool}(hu:Nm.under q.name z.af=true)(h1:b=true->jh z q.name=some cut)(h0:b=false->jh z q.name=none)(hs:pY q cut b=true):mB z q=kE z q:=by
 rw[mB,if_pos hu];cases b
 ·rw[h0 rfl]
 ·rw[h1 rfl];simp[pY]at hs;simp[hs]
theorem acE{z:aK}{q:bp}{cut:Text}(hu:Nm.under q.name z.af=true)(h1:jh z q.name=some cut)(hs:pY q cut true=false):mB z q=⟨4,bR z.J (kD z.J cut),cut⟩:=by
 rw[mB,if_pos hu,h1];simp[pY]at hs;have:¬ (q.name=cut/\(q.type=6\/q.type=8)):=fun⟨e1,e2⟩=>by
  have:=hs e1;omega
 simp[this]
theorem RP{z:aK}(V:gq z){n c:Text}(h:jh z n=some c):Nm.valid c=true/\0<=aC z.J ⟨c,2⟩:=by
 have hm:=List.mem_of_find?_eq_some h;obtain⟨s,hs,e,hc⟩:=qF hm;have h2:=(Kr hm).1;refine⟨e ▸ V.names s hs,?_⟩;rw[Pe]at h2
 simpa using h2
theorem RQ(l:List Signed):∀ (L:List Text),lX l L <:+ L
 |[]=>alo _
 |x::r=>by
  unfold lX;split
  ·exact alo _
  ·exact(RQ l r).trans (List.suffix_cons _ _)
theorem acF{t:Text}:∀ x∈Nm.labels t,(46:UInt8) ∉ x:=fun x hx=>by
 unfold Nm.labels at hx;split at hx
 ·cases hx
 ·exact Nm.NR t x hx
theorem RR{l:List Signed}{n w:Text}(h:sj l n=some w):Nm.valid w=true:=by
 have hM:∀ x∈[42]::lX l (Nm.labels n),(46:UInt8) ∉ x:=fun x hx=>by
  rcases ai3.1 hx with rfl|hx
  ·decide
  ·exact acF x ((RQ l _).subset hx)
 unfold sj lj at h;generalize lX l (Nm.labels n)=r at *;have e:gS ([42]::r)=Nm.glue ([42]::r):=by simp[gS]
 rw[e]at h;split at h
 ·rename_i q;cases h;simp only[ai2,decide_eq_true_eq]at q;have hs:Nm.split (Nm.glue ([42]::r))=[42]::r:=Nm.NS _ sP hM;simp[Nm.valid,hs,q.1,q.2]
 ·cases h
theorem Fp{p:Int}(h:0<=p):cd [p]=[p]:=by
 simp[cd,dx];omega
theorem acG(a b:Int):cd [a,b,-1]=cd [a,b]:=by
 simp[cd,dx]
theorem RS{z:aK}(V:gq z)(t:Int):¬ 0<=aC z.J ⟨[],t⟩:=fun h=>by
 obtain⟨s,h1,h2⟩:=pW h;have e:=congrArg bp.name (xM h2);have:=V.names s (aiQ h1);simp only at e;rw[<- e]at this;exact absurd this dC
theorem acH(z:aK)(q:bp)(hf:z.Fits)(hn:q.name.length<=maxLen):aq E 86 [z.enc,q.enc] (· = .aG [Fm (iT z q),.int .i64 (jC z q)]):=by
 have c1:=acv z q.name hf hn;unfold Ks at c1;by_cases hq:eD q=false\/dN z=false
 ·have h1:jC z q=1:=by
   rw[jC];rcases hq with h|h<;>simp[h]
  rw[iT,h1,if_neg dC];refine eP F86.h ?_;by_cases t1:q.type<1
  ·refine aN (decide_eq_true t1) (gC ?_);refine vT ?_;rfl
  refine aP (decide_eq_false t1) (gC ?_);by_cases t2:8<q.type
  ·refine aN (decide_eq_true t2) (gC ?_);rfl
  refine aP (decide_eq_false t2) (gC ?_);have e:(Nm.valid q.name&&dN z)=false:=by
   rcases hq with h|h
   ·have g1:1<=q.type:=by omega
    have g2:q.type<=8:=by omega
    simp[eD,g1,g2]at h;simp[h]
   ·simp[h]
  rw[e]at c1;refine ao (c1) (gC ?_);refine vF ?_;refine vT ?_;rfl
 have h2:dN z=true:=by simpa using fun h=>hq (.inr h)
 have h3:eD q=true:=by simpa using fun h=>hq (.inl h)
 have hN:jC z q=0:=by simp[jC,h2,h3]
 have V:=Ki h2;have hS:=Jw h2;simp only[eD,ai2,decide_eq_true_eq]at h3;obtain⟨h3,h4,h5⟩:=h3;rw[iT,hN,if_pos rfl];rw[h2,h3]at c1;cases hu:Nm.under q.name z.af
 ·rw[hu]at c1;have e:mB z q=⟨7,[],[]⟩:=by rw[mB,hu];rfl
  rw[e];refine eP F86.h ?_;refine aP (decide_eq_false oM) (gC ?_);refine aP (decide_eq_false oM) (gC ?_);refine ao (c1) (gC ?_);refine vT ?_;rfl
 rw[hu]at c1;obtain⟨cut,b,k1,k2,k3⟩:∃ cut b,(b=true->jh z q.name=some cut)/\(b=false->jh z q.name=none)/\aq E 145 [z.enc,.str q.name] (· = .aG [.str cut,.bool b,.int .i64 0]):=by
  cases e:jh z q.name with
  |none=>rw[e]at c1;exact⟨[],false,by simp,by simp,c1⟩
  |some c=>rw[e]at c1;exact⟨c,true,by simp,by simp,c1⟩
 clear c1;have hv:=abY z q (by have:=V.len;omega);refine eP F86.h ?_;refine aP (decide_eq_false oM) (gC ?_);refine aP (decide_eq_false oM) (gC ?_);refine ao (k3) (gC ?_);refine vF ?_;refine vF ?_;refine lC (hv) rfl (gC ?_);refine I.aaA ag rfl rfl rfl rfl rfl rfl rfl rfl rfl (gC ?_);refine I.aaB ag rfl rfl rfl rfl rfl rfl (bg rfl) rfl (gC ?_);refine I.te ?_;refine I.run ag F86.h 2000 ?_;(conv=>whnf);refine aN dC (gC ?_);refine I.se ag (n:=0) rfl rfl rfl rfl rfl rfl (bg rfl) (bg rfl) rfl dC (gC ?_);cases hs:pY q cut b
 ·obtain rfl:b=true:=by
   cases b
   ·simp[pY]at hs
   ·rfl
  obtain⟨v1,v2⟩:=RP V (k1 rfl);have r0:=acB z q cut [] V hS v1 v2 hs;unfold bK bw at r0;rw[acE hu (k1 rfl) hs]
  with_reducible refine aX (r0) ?_
  refine gC ?_;refine vT ?_;rfl
 have r0:=acA z q cut b [] hs;unfold bK bw at r0;rw[acD hu k1 k2 hs];clear k1 k2 k3 hs
 with_reducible refine aX (r0) ?_
 refine gC ?_;refine vF ?_;refine I.again ?_;refine I.run ag F86.h 2000 ?_;(conv=>whnf);refine aN dC (gC ?_);refine I.se ag (n:=1) rfl rfl rfl rfl rfl rfl (bg rfl) (bg rfl) rfl dC (gC ?_);have r1:=acb z q cut b [] V hS;unfold bK bw at r1
 with_reducible refine aX (r1) ?_
 refine gC ?_;by_cases d1:0<=aC z.J q
 ·refine aN (zD d1) (gC ?_);rw[kE,if_pos d1,Fp d1];rfl
 refine aP (zD d1) (gC ?_);refine I.again ?_;refine I.run ag F86.h 2000 ?_;(conv=>whnf);refine aN dC (gC ?_);refine I.se ag (n:=2) rfl rfl rfl rfl rfl rfl (bg rfl) (bg rfl) rfl dC (gC ?_);have r2:=acd z q cut b [] V hS;unfold bK bw at r2
 with_reducible refine aX (r2) ?_
 refine gC ?_;by_cases d2:0<=aC z.J ⟨q.name,3⟩/\q.type≠8
 ·refine aN (zD d2) (gC ?_);rw[kE,if_neg d1,if_pos d2,Fp d2.1];rfl
 refine aP (zD d2) (gC ?_);refine I.again ?_;refine I.run ag F86.h 2000 ?_;(conv=>whnf);refine aN dC (gC ?_);refine I.se ag (n:=3) rfl rfl rfl rfl rfl rfl (bg rfl) (bg rfl) rfl dC (gC ?_);cases he:iK z.J q.name
 case true =>
  have r3:=acx z q cut b [] V hS h3 he;unfold bK bw at r3
  with_reducible refine aX (r3) ?_
  refine gC ?_;refine vT ?_;rw[kE,if_neg d1,if_neg d2,if_pos he];rfl
 have r3:=acy z q cut b [] V h3 hu he;unfold bK bw at r3;rw[kE,if_neg d1,if_neg d2,he,if_neg dC];clear d1 d2 he r0 r1 r2;cases hw:sj z.J q.name with
 |none =>
  rw[hw]at r3;simp only[Option.getD_none]at r3;have r4:=RB z q cut b [] V hS h3;have r5:=RC z q cut b [] V hS h3;have r6:=RN z q cut b [] V (.inl rfl);have r7:=RE z q cut b [] V hS h3 (.inl rfl);rw[if_pos rfl,acG]at r7;unfold bK bw at r4 r5 r6 r7
  with_reducible refine aX (r3) ?_
  refine gC ?_;refine vF ?_;refine I.again ?_;refine I.run ag F86.h 2000 ?_;(conv=>whnf);refine aN dC (gC ?_);refine I.se ag (n:=4) rfl rfl rfl rfl rfl rfl (bg rfl) (bg rfl) rfl dC (gC ?_)
  with_reducible refine aX (r4) ?_
  refine gC ?_;refine aP (zD (RS V q.type)) (gC ?_);refine I.again ?_;refine I.run ag F86.h 2000 ?_;(conv=>whnf);refine aN dC (gC ?_);refine I.se ag (n:=5) rfl rfl rfl rfl rfl rfl (bg rfl) (bg rfl) rfl dC (gC ?_)
  with_reducible refine aX (r5) ?_
  refine gC ?_;refine aP (by have:=RS V 3;simp;omega) ?_;refine gC ?_;refine I.again ?_;refine I.run ag F86.h 2000 ?_;(conv=>whnf);refine aN dC (gC ?_);refine I.se ag (n:=6) rfl rfl rfl rfl rfl rfl (bg rfl) (bg rfl) rfl dC (gC ?_)
  with_reducible refine aX (r6) ?_
  refine gC ?_;refine vF ?_;refine I.again ?_;refine I.run ag F86.h 2000 ?_;(conv=>whnf);refine aP dC (gC ?_)
  with_reducible refine aX (r7) ?_
  refine gC ?_;rfl
 |some w =>
  rw[hw]at r3;simp only[Option.getD_some]at r3;have qT:=RR hw;have hw0:w≠[]:=fun e=>by rw[e]at qT;exact absurd qT dC
  have r4:=RB z q cut b w V hS h3;have r5:=RC z q cut b w V hS h3;have r7:=RE z q cut b w V hS h3 (.inr qT);rw[if_neg hw0]at r7;unfold bK bw at r4 r5 r7
  with_reducible refine aX (r3) ?_
  refine gC ?_;refine vF ?_;refine I.again ?_;refine I.run ag F86.h 2000 ?_;(conv=>whnf);refine aN dC (gC ?_);refine I.se ag (n:=4) rfl rfl rfl rfl rfl rfl (bg rfl) (bg rfl) rfl dC (gC ?_)
  with_reducible refine aX (r4) ?_
  refine gC ?_;by_cases d4:0<=aC z.J ⟨w,q.type⟩
  ·refine aN (zD d4) (gC ?_);simp only[if_pos d4];rfl
  refine aP (zD d4) (gC ?_);refine I.again ?_;refine I.run ag F86.h 2000 ?_;(conv=>whnf);refine aN dC (gC ?_);refine I.se ag (n:=5) rfl rfl rfl rfl rfl rfl (bg rfl) (bg rfl) rfl dC (gC ?_)
  with_reducible refine aX (r5) ?_
  refine gC ?_;by_cases d5:0<=aC z.J ⟨w,3⟩/\q.type≠8
  ·refine aN (zD d5) (gC ?_);simp only[if_neg d4,if_pos d5];rfl
  refine aP (zD d5) (gC ?_);refine I.again ?_;refine I.run ag F86.h 2000 ?_;(conv=>whnf);refine aN dC (gC ?_);refine I.se ag (n:=6) rfl rfl rfl rfl rfl rfl (bg rfl) (bg rfl) rfl dC (gC ?_);cases he:iK z.J w
  case true =>
   have r6:=acz z q cut b w V hS h3 qT he;unfold bK bw at r6
   with_reducible refine aX (r6) ?_
   refine gC ?_;refine vT ?_;simp only[if_neg d4,if_neg d5,if_pos he];rfl
  have r6:=RN z q cut b w V (.inr ⟨qT,he⟩);unfold bK bw at r6
  with_reducible refine aX (r6) ?_
  refine gC ?_;refine vF ?_;refine I.again ?_;refine I.run ag F86.h 2000 ?_;(conv=>whnf);refine aP dC (gC ?_)
  with_reducible refine aX (r7) ?_
  refine gC ?_;simp only[if_neg d4,if_neg d5,he];rfl
theorem Kw{α:Type}{l:List α}{k:Nat}{x:α}(h:l[k]?=some x):l.drop k=x::l.drop (k+1):=by
 obtain⟨hk,e⟩:=akz.1 h;rw[List.drop_eq_getElem_cons hk,e]
theorem acJ(z:aK)(n:Text)(V:gq z)(hn:Nm.valid n=true):aq E 303 [z.enc,.str n] (· = .str ((jh z n).getD [])):=by
 have c1:=OQ z (by have:=V.len;omega);have dR:=Eu z.af z.J;have bJ:∀ c∈cm z.af z.J,Nm.valid c=true:=fun c hc=>by
  obtain⟨s,hs,rfl,-⟩:=qF hc;exact V.names s hs
 unfold jh;generalize cm z.af z.J=C at *;have hlen:=V.len;refine eP F303.h ?_;refine ao (c1) (gC ?_);refine I.lP C.length ([4,6]++rg 9 16) (fun k=>[(6,.d (.int .i64 k))]) (fun _=>[]) (fun k=>k<=C.length/\C.find? (fun c=>Nm.under n c)=(C.drop k).find? (fun c=>Nm.under n c)) ⟨ai4 _,rfl⟩ ?_ ?_
 ·exact sZ
 rintro k ⟨hk,he⟩ IH;refine zA ?_ ?_<;>intro h5
 ·have ai:k<C.length:=zD h5
  obtain⟨x,hx⟩:=aI ai;have hd:=Kw hx;have c2:=rN n x (by have:=dh hn;omega) (by have:=dh (bJ x (aiQ hx));omega);refine gC ?_;refine aR (e := .str x) (bC hx) rfl (gC ?_);refine ao (c2) (gC ?_);rw[hd,List.find?_cons]at he;cases hu:Nm.under n x
  ·rw[hu]at he;refine vF ?_;exact I.back (IH (k+1) ⟨by omega,he⟩ oM) sZ
  ·rw[hu]at he;refine vT ?_;refine aR (e := .str x) (bC hx) rfl (gC ?_);rw[he];rfl
 ·have aA:C.length<=k:=zD h5
  rw[amU aA]at he;refine gC ?_;rw[he];rfl
theorem Kx(z:aK)(n:Text)(V:gq z)(hn:Nm.valid n=true):aq E 307 [z.enc,.str n] (· = .bool (iK z.J n)):=by
 have hlen:=V.len;have bJ:=V.names;unfold iK;obtain⟨af,l⟩:=z;simp only at *;show aq E _ [DV.agg [.str af,.sl (l.map Signed.enc)],.str n] _;clear V;refine eP F307.h ?_;refine I.lP l.length (rg 4 18) (fun k=>[(5,.d (.int .i64 k))]) (fun _=>[]) (fun k=>k<=l.length/\l.any (fun s=>Nm.under s.set.name n)=(l.drop k).any (fun s=>Nm.under s.set.name n)) ⟨ai4 _,rfl⟩ ?_ ?_
 ·exact sZ
 rintro k ⟨hk,he⟩ IH;refine zA ?_ ?_<;>intro h5
 ·have ai:k<l.length:=zD h5
  obtain⟨x,hx⟩:=aI ai;have hd:=Kw hx;have c2:=rN x.set.name n (by have:=dh (bJ x (aiQ hx));omega) (by have:=dh hn;omega);refine gC ?_;refine eM hx (gC ?_);refine ao (c2) (gC ?_);rw[hd,anm]at he;cases hu:Nm.under x.set.name n
  ·rw[hu,alA]at he;refine vF ?_;exact I.back (IH (k+1) ⟨by omega,he⟩ oM) sZ
  ·rw[hu,ajZ]at he;refine vT ?_;rw[he]
 ·have aA:l.length<=k:=zD h5
  rw[amU aA]at he;refine gC ?_;rw[he];rfl
theorem RT:∀ {L:List Text} {x:Text},L≠[]->Nm.glue (L++[x])=Nm.glue L++[46]++x
 |[],x,h=>absurd rfl h
 |[a],x,_=>by simp[Nm.glue]
 |a::b::r,x,_=>by
  have:=RT (L:=b::r) (x:=x) sP;simp only[List.cons_append,Nm.glue]at this ⊢;rw[this];simp
theorem RU(L:List Text)(hl:L.length<=1000)(hb:∀ t∈L,t.length<=100):aq E 336 [.sl (L.map .str)] (· = .str (gS L)):=by
 have ik:∀ k,(Nm.glue (L.take k)).length<=101000:=fun k=>by
  have:=Km (L:=L.take k) fun t ht=>hb t (List.mem_of_mem_take ht);have h2:(L.take k).length<=L.length:=by rw[ah1];omega
  omega
 refine eP F336.h ?_;by_cases h0:L=[]
 ·subst h0;refine aN dC (gC ?_);rfl
 refine aP (zD h0) ?_;obtain⟨y,r,rfl⟩:=List.exists_cons_of_ne_nil h0;refine gC ?_;refine aR (e := .str y) (tr rfl) rfl (gC ?_);refine I.loop (κ:=Nat) ([3,4]++rg 11 13) (fun k=>[(4,.d (.int .i64 k)),(3,.d (.str (Nm.glue ((y::r).take k))))]) (fun _=>[]) (fun k=>1<=k/\k<=(y::r).length) (fun k=>(y::r).length-k) 1 ⟨Nat.le_refl _,by simp⟩ ?_ ?_
 ·refine sY ?_
  exact And.intro (by simp[Nm.glue]) sZ
 rintro k ⟨dB,hk⟩ IH;have hg:=ik k;have aL:(y::r).take k≠[]:=fun e=>by
  have:=congrArg List.length e;rw[ah1]at this;simp at this;omega
 refine zA ?_ ?_<;>intro h5
 ·have ai:k<(y::r).length:=by simp at h5 ⊢;omega
  obtain⟨x,hx⟩:=aI ai;have iO:=hb x (aiQ hx);have hs:=cj hx;refine gC ?_;refine bj (by simp;omega) ?_;refine gC ?_;refine aR (e := .str x) (bC hx) rfl (gC ?_);refine bj (by simp;omega) ?_;refine gC ?_;refine I.back (IH (k+1) ⟨by omega,by omega⟩ oM) ?_;rw[hs,RT aL];exact sZ
 ·have aA:(y::r).length<=k:=by simp at h5 ⊢;omega
  rw[ajq aA];refine gC ?_;rfl
theorem acK{t:Text}(hv:Nm.valid t=true):∀ x∈(Nm.labels t).tail,x.length<=100:=fun x hx=>(Fl hv).2 x (List.mem_of_mem_tail hx)
theorem acL(z:aK)(n:Text)(V:gq z)(hn:Nm.valid n=true)(hu:Nm.under n z.af=true):aq E 309 [z.enc,.str n] (· = .str (si z.J n)):=by
 have c1:=fun c hc=>Kx z c V hc;unfold si;refine eP F309.h ?_;refine I.loop (κ:=Text) ([1]++rg 5 8) (fun c=>[(1,.d (.str c))]) (fun _=>[]) (fun c=>Nm.valid c=true/\Nm.under c z.af=true/\lX z.J (Nm.labels n)=lX z.J (Nm.labels c)) (fun c=>(Nm.labels c).length) n ⟨hn,hu,rfl⟩ ?_ ?_
 ·exact sZ
 rintro c ⟨k1,k2,k3⟩ IH;have c2:=c1 c k1;have c3:=tu c (by have:=dh k1;omega);have hl8:=(Fl k1).1;refine zT ?_;refine ao (c2) (gC ?_);cases he:iK z.J c
 ·refine aZ ?_;have aL:c≠z.af:=fun e=>by rw[e,V.Ru]at he;cases he
  have hr:c≠[46]:=fun e=>aL (by rw[e]at k2 ⊢;exact(Kp k2).symm);have c4:=RU (Nm.labels c).tail (by rw[List.length_tail];omega) (acK k1);have db:=List.length_pos_iff.2 (Ko hr);refine gC ?_;have hd:List.drop ((some (1:Int)).getD 0).toNat (List.take ((none:Option Int).getD (((Nm.labels c).map DV.str).length:Int)).toNat ((Nm.labels c).map DV.str))=(Nm.labels c).tail.map DV.str:=by
   have e:List.take (Nm.labels c).length ((Nm.labels c).map DV.str)=(Nm.labels c).map DV.str:=ajq sP;simp[e]
  refine ao (c3) (gC ?_);refine bj ⟨by simp,by simp;omega,by simp,by simp[DV.cells]⟩ ?_;(conv=>whnf);rw[hd];refine gC ?_;refine ao (c4) (gC ?_);exact I.back (IH (gS (Nm.labels c).tail) ⟨(tZ k1 hr).1,Fk k1 hr k2 aL,by rw[k3,Ku he,(tZ k1 hr).2]⟩ (Kq k1 hr)) sZ
 ·refine vF ?_;rw[k3,Kt he,xN]
theorem acM(L:List Text)(hl:L.length<=1000)(hb:∀ t∈L,t.length<=100):aq E 335 [.sl (L.map .str)] (· = match lj L with|some t => .aG [.str t,.int .i64 0]|none => .aG [.str [],.int .i64 11]):=by
 have no:Nm.parts L=false->lj L=none:=fun e=>by rw[lj,e];rfl
 have c2:=RU L hl hb;refine eP F335.h ?_;refine I.lP L.length (rg 2 4++rg 7 24) (fun k=>[(4,.d (.int .i64 k))]) (fun _=>[]) (fun k=>k<=L.length/\∀ i x,i<k->L[i]?=some x->fK i x=true) ⟨ai4 _,fun i x h=>by omega⟩ ?_ ?_
 ·exact sZ
 rintro k ⟨hk,aM⟩ IH;refine zA ?_ ?_<;>intro h5
 ·have ai:k<L.length:=zD h5
  obtain⟨x,hx⟩:=aI ai
  have bad:fK k x=false->lj L=none:=fun e=>no (by
   cases e2:Nm.parts L
   ·rfl
   ·have:=(pL.1 e2).2 k x hx
    rw[e]at this;cases this)
  have iI:fK k x=true->∀ i y,i<k+1->L[i]?=some y->fK i y=true:=fun e i y hi hy=>by
   rcases Nat.lt_or_eq_of_le (Nat.le_of_lt_succ hi)with h|h
   ·exact aM i y h hy
   ·subst h;rw[hx]at hy;cases hy;exact e
  have c1:=N5 x (pC (by have:=hb x (aiQ hx);omega));refine gC ?_;refine aR (e := .str x) (bC hx) rfl (gC ?_);refine ao (c1) (gC ?_);cases pN:Nm.label x
  ·refine vT ?_;apply ah<;>intro h6
   ·have h6:=of_decide_eq_true h6;refine gC ?_;refine vT ?_;rw[bad (by simp[fK,pN];omega)]
   ·have h6:=of_decide_eq_false h6;refine gC ?_;refine aR (e := .str x) (bC hx) rfl (gC ?_);by_cases h7:x=[42]
    ·refine aP (zD h7) (gC ?_);refine I.back (IH (k+1) ⟨by omega,iI (by simp[fK,h7];omega)⟩ oM) ?_;exact sZ
    ·refine aN (zD h7) (gC ?_);rw[bad (by simp[fK,pN,h7])]
  ·refine vF ?_;refine vF ?_;exact I.back (IH (k+1) ⟨by omega,iI (by simp[fK,pN])⟩ oM) sZ
 ·have aA:k=L.length:=by simp at h5;omega
  subst aA;clear IH;refine gC ?_;refine ao (c2) (gC ?_);have ng:=fun i x (hx:L[i]?=some x)=>aM i x (akz.1 hx).1 hx;apply ah<;>intro h6
  ·have h6:=of_decide_eq_true h6
   rw[no (by
    cases e:Nm.parts L
    ·rfl
    ·have:=(pL.1 e).1;simp at h6
     omega)]
   refine gC ?_;refine vT ?_
   with_reducible rfl
  ·have h6:=of_decide_eq_false h6;have hp:Nm.parts L=true:=pL.2 ⟨by simp at h6;omega,ng⟩;unfold lj;rw[hp,Bool.true_and];refine gC ?_;apply ah<;>intro h7
   ·have h7:=of_decide_eq_true h7;refine gC ?_;rw[decide_eq_false oM];rfl
   ·have h7:=of_decide_eq_false h7;refine gC ?_;rw[decide_eq_true oM];rfl
theorem acN(c:Text)(hc:Nm.valid c=true):aq E 308 [.str c] (· = match lj ([42]::Nm.labels c)with|some t => .aG [.str t,.bool true]|none => .aG [.str [],.bool false]):=by
 have c1:=tu c (by have:=dh hc;omega);have hl:=Fl hc
 have hj:=acM ([42]::Nm.labels c) (by simp;omega) (fun t ht=>by
  rcases ai3.1 ht with rfl|h
  ·simp
  ·exact hl.2 t h)
 refine aq.run ag (fn:=Tryz.f308) Tryz.func308 (body:=Tryz.f308.body.getD .skip) rfl dC 7 ?_;(conv=>whnf);refine I.rF ag rfl (gC ?_);refine ao (c1) (gC ?_);refine nA ?_;(conv=>whnf);refine I.freeze 0 ?_;(conv=>whnf);refine gC ?_;cases hJ:lj ([42]::Nm.labels c)with
 |none =>
  rw[hJ]at hj;refine ao (hj) (gC ?_);rfl
 |some t =>
  rw[hJ]at hj;refine ao (hj) (gC ?_);rfl
theorem RV(z:aK)(q:bp):(kE z q).kind≠0/\(kE z q).kind≠7:=by
 unfold kE;repeat' split
 all_goals simp
theorem RW{z:aK}{q:bp}(h:(iT z q).kind=0\/(iT z q).kind=7):(iT z q).J=[]:=by
 have hk:=RV z q
 revert h
 unfold iT mB;repeat' split
 all_goals first|(intro h;rcases h with h|h<;>first|exact absurd h hk.1|exact absurd h hk.2)|(intro h;rfl)|(intro h;simp at h)
theorem RX{a:dJ}(h:a.kind=0\/a.kind=7->a.J=[]):norm (Fm a)=a.enc:=by
 unfold Fm;by_cases e:a.kind=0\/a.kind=7
 ·rw[if_pos e];simp[norm,vb,dJ.enc,h e]
 ·rw[if_neg e];rfl
theorem RY(z:aK)(q:bp)(hf:z.Fits)(hn:q.name.length<=maxLen):aq E 86 [z.enc,q.enc] (· = .aG [(iT z q).enc,.int .i64 (jC z q)]):=by
 refine aq.norm ?_;refine(acH z q hf hn).mono fun r h=>?_;subst h;have:=RX (RW (z:=z) (q:=q));simp only[norm,vb,this]
end Go.Proofs.YtlhehdgciafakaaGreatDoor.P
end
section
namespace Go.Proofs.YtlhehdgciafakaaGreatDoor.P
open Go Go.az Go.Sort Go.RowKit
theorem iH{α:Type}[Inhabited α]{K:Nat}(enc:α->List Value)(d:Array α)(i k:Nat)(hk:k<K)(x:α)(h:d[i]?=some x):(flatK enc K d)[i*K+k]! = (enc x)[k]! := by
 have hi:i<d.size:=by
  rcases ahs i d.size with h'|h'
  ·exact h'
  ·rw[akO h']at h;cases h
 have hx:d[i]! = x:=by simp[getElem!_pos d i hi];rw[Array.getElem?_eq_getElem hi]at h;exact Option.some.inj h
 have ai:i*K+k<d.size*K:=by
  have:(i+1)*K<=d.size*K:=Nat.mul_le_mul_right K hi;rw[Nat.succ_mul]at this;omega
 rw[get_flatK _ _ _ _ ai,show(i*K+k) / K=i by rw[aia,Nat.mul_add_div oM,Nat.div_eq_of_lt hk];rfl,show(i*K+k) % K=k by rw[aia,Nat.mul_add_mod,Nat.mod_eq_of_lt hk],hx]
theorem R2{α:Type}[Inhabited α]{enc:α->List Value}{K:Nat}{w:World}{blk n:Nat}{d:Array α}{os:Array Obj}{vs:Array Value}{ty:TypeId}(hb:w.heap[blk]?=some (.cells vs ty (0,0))) :
  let w':=sortWorldK enc K w blk 0 n d os
  w'.os=w.os/\w'.tape=w.tape/\w'.output=w.output/\w.heap.size<=w'.heap.size/\(∀ b,b<w.heap.size->b≠blk->w'.heap[b]?=w.heap[b]?)/\w'.heap[blk]?=some (.cells (putCells id 0 (flatK enc K d) vs) ty (0,0)):=by
 intro w';have ai:blk<w.heap.size:=by
  rcases ahs blk w.heap.size with h|h
  ·exact h
  ·rw[akO h]at hb;cases hb
 have bP:(putRowK enc K (Sort.ahead w n) blk 0 d).heap.size=w.heap.size:=by simp[putRowK,putRow,mapBlock]
 refine⟨rfl,rfl,rfl,?_,fun b cB aL=>?_,?_⟩
 ·show w.heap.size<=(grow _ os).heap.size;rw[size_grow,bP];omega
 ·show(grow _ os).heap[b]?=_;rw[heap_grow_old _ _ (by rw[bP];exact cB)];simp[putRowK,putRow,mapBlock,ahZ,Ne.symm aL]
 ·show(grow _ os).heap[blk]?=_;rw[heap_grow_old _ _ (by rw[bP];exact ai)];simp[putRowK,putRow,mapBlock,ahZ,hb,onCells]
structure acT(cmp:DV->DV->Int)(l:List DV):Prop where
 irrefl:∀ x∈l,¬ cmp x x<0
 trans:∀ x∈l,∀ y∈l,∀ z∈l,cmp x y<0->cmp y z<0->cmp x z<0
 ntrans:∀ x∈l,∀ y∈l,∀ z∈l,¬ cmp x y<0->¬ cmp y z<0->¬ cmp x z<0
end Go.Proofs.YtlhehdgciafakaaGreatDoor.P
end
section
namespace Go.Proofs.YtlhehdgciafakaaGreatDoor.P
open Go Go.az
set_option maxRecDepth 100000
set_option maxHeartbeats 4000000
def nu(z:aK)(q:bp)(L:List Signed):List Signed:=match z.J[(aC z.J q).toNat]? with
 |some s=>if 0<=aC z.J q/\L.any (cF q)=false then L++[s]else L
 |none=>L
def oq(z:aK)(q:bp)(L:List Signed):Nat:=if 0<=aC z.J q/\L.any (cF q)=false then 1 else 0
theorem FC(z:aK)(q:bp)(hf:z.gY)(h:¬ 0<=aC z.J q):au E 305 [] [.d .aF,.d z.enc,.d (.str q.name),.d (.int .i64 q.type)] (fun a b=>a=.own 0 0/\b=[.arr 0 (77,5) [],.cells [.d (.str z.af),.d (tj z.J)]]):=by
 have c1:=BS z q hf.J;refine au.run ag (fn:=Tryz.f305) Tryz.func305 (body:=Tryz.f305.body.getD .skip) rfl dC 2 rfl ?_;(conv=>whnf);refine I.nH 0 (77,5) dC rfl (gC ?_);refine ao (c1) (gC ?_);refine aN (decide_eq_true oM) (gC ?_);exact⟨rfl,rfl⟩
theorem SB(z:aK)(q:bp)(hf:z.gY){s:Signed}(h:0<=aC z.J q)(hs:z.J[(aC z.J q).toNat]?=some s):au E 305 [] [.d .aF,.d z.enc,.d (.str q.name),.d (.int .i64 q.type)] (fun a b=>a=.own 0 1/\b=[.arr 1 (77,5) [s.enc],.cells [.d (.str z.af),.d (tj z.J)]]):=by
 have c1:=BS z q hf.J;refine au.run ag (fn:=Tryz.f305) Tryz.func305 (body:=Tryz.f305.body.getD .skip) rfl dC 2 rfl ?_;(conv=>whnf);refine I.nH 0 (77,5) dC rfl (gC ?_);refine ao (c1) (gC ?_);refine aP (decide_eq_false oM) (gC ?_);refine I.te ?_;refine I.run ag F305.h 2000 ?_;(conv=>whnf);refine aP dC (gC ?_);refine aR (e:=s.enc) ⟨by omega,by rw[ahy,hs];rfl⟩ rfl ?_;refine gC ?_;refine bj ⟨by simp,by simp[DV.cells]⟩ (gC ?_);exact⟨rfl,rfl⟩
theorem ad8(z:aK)(q:bp)(L:List Signed)(hf:z.gY)(hl:L.length<=1000000):au E 305 [.arr 0 (77,5) (L.map Signed.enc)] [.own 0 0,.d z.enc,.d (.str q.name),.d (.int .i64 q.type)] (fun a b=>a=.own 0 (oq z q L)/\b=[.arr (oq z q L) (77,5) ((nu z q L).map Signed.enc),.cells [.d (.str z.af),.d (tj z.J)]]):=by
 have c1:=BS z q hf.J;refine aE ?_;refine ao (c1) (gC ?_);by_cases h:aC z.J q<0
 ·refine aN (decide_eq_true h) (gC ?_);have e:nu z q L=L:=by
   unfold nu;split
   ·rw[if_neg oM]
   ·rfl
  rw[e,oq,if_neg oM];exact⟨rfl,rfl⟩
 refine aP (decide_eq_false h) ?_;obtain⟨s,hs,hq⟩:=pW (l:=z.J) (q:=q) oM;have e:nu z q L=if L.any (cF q)=false then L++[s]else L:=by
  unfold nu;rw[hs];have h0:0<=aC z.J q:=by omega
  simp only[h0,true_and]
 rw[e];refine gC ?_;refine I.lP L.length ([8,10]++rg 19 25) (fun k=>[(10,.d (.int .i64 k))]) (fun _=>[]) (fun k=>k<=L.length/\L.any (cF q)=(L.drop k).any (cF q)) ⟨ai4 _,rfl⟩ ?_ ?_
 ·exact sZ
 rintro k ⟨hk,he⟩ IH;refine zA ?_ ?_<;>intro h5
 ·have ai:k<L.length:=zD h5
  obtain⟨x,hx⟩:=aI ai;have hd:=Kw hx;rw[hd,anm]at he;refine gC ?_;refine bj ⟨by omega,by simp;omega⟩ ?_;refine gC ?_;refine eM hx (gC ?_);by_cases h6:x.set.name=q.name
  ·refine aN (zD h6) (gC ?_);refine bj ⟨by omega,by simp;omega⟩ ?_;refine gC ?_;refine eM hx (gC ?_);by_cases h7:x.set.type=q.type
   ·refine aN (zD h7) (gC ?_);have ha:cF q x=true:=by simp[cF,h6,h7]
    rw[oq,he,ha,ajZ,if_neg (fun h=>by simp at h),if_neg dC];exact⟨rfl,rfl⟩
   ·refine aP (zD h7) (gC ?_);have ha:cF q x=false:=by simp[cF,h7]
    exact I.back (IH (k+1) ⟨by omega,by rw[he,ha,alA]⟩ oM) sZ
  ·refine aP (zD h6) (gC ?_);refine vF ?_;have ha:cF q x=false:=by simp[cF,h6]
   exact I.back (IH (k+1) ⟨by omega,by rw[he,ha,alA]⟩ oM) sZ
 ·have aA:L.length<=k:=zD h5
  rw[amU aA]at he;rw[oq,he,List.any_nil,if_pos rfl,if_pos ⟨by omega,rfl⟩];refine gC ?_;refine aR (e:=s.enc) ⟨by omega,by rw[ahy,hs];rfl⟩ rfl ?_;refine gC ?_;refine nA (gC ?_);exact⟨rfl,by simp⟩
theorem KQ(z:aK)(q:bp)(L:List Signed)(hf:z.gY)(hl:L.length<=1000000):au E 305 [.arr 0 (77,5) (L.map Signed.enc)] [.own 0 0,.d z.enc,.d (.str q.name),.d (.int .i64 q.type)] (fun a b=>a=.own 0 (oq z q L)/\b=[.arr (oq z q L) (77,5) ((nu z q L).map Signed.enc)]) :=
 au.kA ((ad8 z q L hf hl).mono fun a b ⟨h1,h2⟩=>⟨h1,by rw[h2];rfl⟩) rfl
def sr(z:aK)(n:Text)(L:List Signed):List Signed:=match z.J[(cM z.J n).toNat]? with
 |some s=>if 0<=cM z.J n then nu z ⟨s.set.name,8⟩ L else L
 |none=>L
def su(z:aK)(n:Text)(L:List Signed):Nat:=match z.J[(cM z.J n).toNat]? with
 |some s=>if 0<=cM z.J n then oq z ⟨s.set.name,8⟩ L else 0
 |none=>0
theorem ad9(z:aK)(n:Text)(L:List Signed)(V:gq z)(hf:z.gY)(hn:Nm.valid n=true)(hl:L.length<=1000000):au E 306 [.arr 0 (77,5) (L.map Signed.enc)] [.own 0 0,.d z.enc,.d (.str n)] (fun a b=>a=.own 0 (su z n L)/\b=[.arr (su z n L) (77,5) ((sr z n L).map Signed.enc)]):=by
 have ad':=abP V.sorted (n:=n);have hlen:=V.len;have c1:=fun q=>KQ z q L hf hl;refine au.kA (H2:=[.arr (su z n L) (77,5) ((sr z n L).map Signed.enc)]) ?_ rfl;refine aE ?_;refine I.loop (κ:=Nat) ([6,7,8]++rg 13 25) (fun k=>[(7,.d (.int .i64 ((k:Int)-1)))]) (fun _=>[]) (fun k=>k<=z.J.length/\gz (sh z.J n) k=cM z.J n) (fun k=>k) z.J.length ⟨Nat.le_refl _,ad'⟩ ?_ ?_
 ·refine sY ?_
  refine And.intro (by rw[wrap64 (by simp;omega) (by simp;omega)];simp) ?_;exact sZ
 rintro k ⟨hk,he⟩ IH;refine zT ?_;cases k with
 |zero =>
  refine aP dC (gC ?_);have hc:sr z n L=L:=by
   rw[gz]at he;unfold sr;split
   ·rw[if_neg oM]
   ·rfl
  have hg:su z n L=0:=by
   rw[gz]at he;unfold su;split
   ·rw[if_neg oM]
   ·rfl
  rw[hc,hg];exact⟨rfl,rfl⟩
 |succ k =>
  obtain⟨x,hx⟩:=aI (l:=z.J) (k:=k) oM;have ek:((k+1:Nat):Int)-1=(k:Int):=by omega
  rw[ek];refine aN sP (gC ?_);refine eM hx (gC ?_);have c2:=Ep x.set.name n (by have:=dh (V.names x (aiQ hx));omega) (by have:=dh hn;omega);have skip:sh z.J n k=false->gz (sh z.J n) k=cM z.J n:=fun h=>by
   rw[gz,h]at he
   simpa using he
  by_cases h8:x.set.type=8
  ·refine aN (zD h8) (gC ?_);refine ao (c2) (gC ?_);by_cases ho:bH x.set.name n<=0
   ·refine aN (decide_eq_true ho) ?_;have hb:sh z.J n k=true:=by simp[sh,hx,h8,ho]
    have hc:cM z.J n=k:=by rw[<- he,gz,hb];simp
    have eE:sr z n L=nu z ⟨x.set.name,8⟩ L:=by
     unfold sr;rw[hc,ai0,hx];simp
    have hcg:su z n L=oq z ⟨x.set.name,8⟩ L:=by
     unfold su;rw[hc,ai0,hx];simp
    have c1:=c1 ⟨x.set.name,8⟩;simp only at c1;rw[eE,hcg];refine gC ?_
    with_reducible refine aX (c1) ?_
    refine gC ?_;rw[Nat.zero_add];exact⟨rfl,rfl⟩
   ·refine aP (decide_eq_false ho) (gC ?_);exact I.back (IH k ⟨by omega,skip (by simp[sh,hx,ho])⟩ oM) sZ
  ·refine aP (zD h8) (gC ?_);refine vF ?_;exact I.back (IH k ⟨by omega,skip (by simp[sh,hx,h8])⟩ oM) sZ
end Go.Proofs.YtlhehdgciafakaaGreatDoor.P
end
section
namespace Go.Proofs.YtlhehdgciafakaaGreatDoor.P
open Go Go.az
theorem aeb{z:aK}{q:bp}{L:List Signed}(h:¬ 0<=aC z.J q):nu z q L=L:=by
 unfold nu;split
 ·rw[if_neg fun e=>h e.1]
 ·rfl
theorem aec{z:aK}{q:bp}{L:List Signed}{s:Signed}(h:0<=aC z.J q)(hs:z.J[(aC z.J q).toNat]?=some s):nu z q L=if L.any (cF q)=false then L++[s]else L:=by
 unfold nu;rw[hs];simp only[h,true_and]
theorem KR{l:List Signed}{q:bp}{ps:List Int}(hs:gm l)(hp:oh l ps)(h0:0<=aC l q):(bR l ps).any (cF q)=decide (aC l q∈ps):=by
 rw[Bool.eq_iff_iff,decide_eq_true_eq,List.any_eq_true];simp only[bR,List.mem_filterMap];constructor
 ·rintro⟨s,⟨p,hm,hx⟩,ha⟩;have e:=Ke hs hx;rw[<- xM ha]at e;have:=(hp p hm).1;rw[e,ane this];exact hm
 ·intro hm;obtain⟨s,hx,ha⟩:=pW h0;exact⟨s,⟨_,hm,hx⟩,ha⟩
theorem KS{z:aK}{q:bp}{ps:List Int}(hs:gm z.J)(hp:oh z.J ps):nu z q (bR z.J ps)=bR z.J (dx ps (aC z.J q)):=by
 by_cases h:0<=aC z.J q
 ·obtain⟨s,hx,ha⟩:=pW h;rw[aec h hx,KR hs hp h,Ro h hx];by_cases hm:aC z.J q∈ps
  ·simp[hm]
  ·simp[hm]
 ·rw[aeb h,dx,if_pos (.inl oM)]
theorem aed{z:aK}{n:Text}{ps:List Int}(hs:gm z.J)(hp:oh z.J ps):sr z n (bR z.J ps)=bR z.J (dx ps (cM z.J n)):=by
 by_cases h:0<=cM z.J n
 ·obtain⟨s,hx,ht⟩:=abQ h;have e:=Ke hs hx;rw[ht]at e;unfold sr;rw[hx];simp only[h,if_true];rw[KS hs hp,e,ane h]
 ·have e:sr z n (bR z.J ps)=bR z.J ps:=by
   unfold sr;split
   ·rw[if_neg h]
   ·rfl
  rw[e,dx,if_pos (.inl oM)]
end Go.Proofs.YtlhehdgciafakaaGreatDoor.P
end
section
namespace Go.az
open Go
def FV:AV->AV
 | .d x => .d (norm x)
 |x=>x
def FW:AV->AV
 | .agg l => .agg (l.map FV)
 |x=>FV x
def FY:AV->AV
 | .aG l => .aG (l.map FW)
 |x=>FW x
section
variable {c:Cx} {x:AV} {v:Value}
theorem Tx(h:VR c x v):VR c (FV x) v:=by
 unfold FV;split
 ·cases h with|d _ _ h=>exact .d _ _ (NL h)
 ·exact h
theorem Ty(h:VR c x v):VR c (FW x) v:=by
 unfold FW;split
 ·obtain⟨vs,rfl,h1⟩:=qZ h;exact yj (uJ Tx h1)
 ·exact Tx h
theorem afO(h:VR c x v):VR c (FY x) v:=by
 unfold FY;split
 ·obtain⟨vs,rfl,h1⟩:=A6 h;exact A7 (uJ Ty h1)
 ·exact Ty h
theorem au.norm{E:Env}{f:FuncId}{h:List ae}{args:List AV}{Q:AV->List ae->Prop}(H:au E f h args fun a b=>Q (FY a) b):au E f h args Q:=by
 unfold au at H ⊢;exact⟨H.1,H.2.1,fun c vs h1 h2 h3=>(H.2.2 c vs h1 h2 h3).mono fun e w' ⟨c',r,v,k1,k2,k3,k4,k5⟩=>⟨c',FY r,v,k1,k2,k3,afO k4,k5⟩⟩
end
end Go.az
end
