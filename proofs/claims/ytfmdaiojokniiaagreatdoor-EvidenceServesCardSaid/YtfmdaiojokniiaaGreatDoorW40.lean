/- Several texts of mine, one behind the other. Conditions: as each says. -/
import Derived.Test.YtfmdaiojokniiaaGreatDoorW39
set_option linter.unusedVariables false
set_option linter.unusedSimpArgs false
section
namespace Go.Proofs.YtfmdaiojokniiaaGreatDoor.P
open Go Go.aw
set_option maxRecDepth 100000
set_option maxHeartbeats 4000000
theorem Tp {l:List Signed} {c:Text} (h:iM l c=true):kW l (Nm.labels c)=Nm.labels c:=by
 cases e:Nm.labels c with
 |nil=>rfl
 |cons x r=>rw [kW,← e,xo,if_pos h]
theorem Tq {l:List Signed} {c:Text} (h:iM l c=false):kW l (Nm.labels c)=kW l (Nm.labels c).tail:=by
 cases e:Nm.labels c with
 |nil=>rfl
 |cons x r=>rw [kW,← e,xo,h]; simp [e]
theorem Tr {t:Text} (hv:Nm.valid t=true):(Nm.labels t).length≤8∧∀ x∈Nm.labels t,x.length≤100:=by
 by_cases hr:t=[46]
 ·subst hr; simp [JV]
 obtain ⟨h1,h2⟩:=JX hv hr;rw [Nm.labels,if_neg hr];obtain ⟨p1,p2⟩:=rD.1 h2;refine ⟨p1,fun x hx=>?_⟩;obtain ⟨i,hi⟩:=List.getElem?_of_mem hx;have:=p2 i x hi;simp only [gE,Nm.label,Bool.or_eq_true,Bool.and_eq_true,decide_eq_true_eq] at this;rcases this with h | ⟨_,rfl⟩
 ·omega
 ·simp
theorem Ts (z:aF) (q:br) (cut:Text) (b:Bool) (w:Text) (V:gd z) (hq:Nm.valid q.name=true) (hu:Nm.under q.name z.ai=true):aq E 242 [bo z q cut b w,aZ z] [.ptr 0 0] (fun x h=>x = .d (.str ((qi z.ae q.name).getD []))∧h=[bo z q cut b w,aZ z]):=by
 have c0:=fun n hn=>xr z q cut b w n V hn;unfold bo aZ at c0;apply aq.jD
 case hk=>rfl
 case hc =>
  unfold bo aZ;refine aq.run ag (fn:=Tryz.f242) Tryz.func242 (body:=Tryz.f242.body.getD .skip) rfl (by decide) 2000 rfl ?_;(conv=>whnf);refine I.loop (κ:=Text) ([3]++rg 13 17) (fun c=>[(3,.d (.str c))]) (fun _=>[]) (fun c=>Nm.valid c=true∧Nm.under c z.ai=true∧kW z.ae (Nm.labels q.name)=kW z.ae (Nm.labels c)) (fun c=>(Nm.labels c).length) q.name ⟨hq,hu,rfl⟩ ?_ ?_
  ·exact sZ
  rintro c ⟨k1,k2,k3⟩ IH;refine I.head ag Tryz.func242 2000 ?_;(conv=>whnf);have c1:=c0 c k1;have kN:=CN c (by have:=fD k1; exact l7 (by omega));unfold wz at kN;rw [k1] at kN;have hl:=Tr k1;have fin:iM z.ae c=true→qi z.ae q.name=mC ([42]::Nm.labels c):=fun h=>by rw [qi,k3,Tp h]
  have hj:=Te ([42]::Nm.labels c) (by simp; omega) (fun t ht=>by
   rcases List.mem_cons.1 ht with rfl | h
   ·simp
   ·exact hl.2 t h)
  by_cases h4:c=z.ai
  ·rw [fin (by rw [h4]; exact V.SI)];clear fin IH;refine aW (by simpa using h4) ?_;refine gO Tryz.func242 ?_;refine aN ?_;refine gO Tryz.func242 ?_;refine ar kN ?_;(conv=>whnf);refine I.run ag Tryz.func242 8 ?_;(conv=>whnf);refine I.ox ag rfl ?_;refine gO Tryz.func242 ?_;refine bp ⟨by simp; omega,by simp [DV.cells]⟩ ?_;(conv=>whnf);refine I.freeze 2 ?_;(conv=>whnf);refine gO Tryz.func242 ?_;cases hJ:mC ([42]::Nm.labels c) with
   |none =>
    rw [hJ] at hj;refine ar (hj) ?_;refine gO Tryz.func242 ?_;refine aY ?_;refine gO Tryz.func242 ?_;exact ⟨rfl,rfl⟩
   |some t =>
    rw [hJ] at hj;refine ar (hj) ?_;refine gO Tryz.func242 ?_;refine aN ?_;refine gO Tryz.func242 ?_;exact ⟨rfl,rfl⟩
  ·refine bg (by simpa using h4) ?_;have hr:c≠[46]:=fun e=>h4 (by rw [e] at k2 ⊢; exact (JY k2).symm);refine gO Tryz.func242 ?_
   with_reducible refine bC (c1) ?_
   refine gO Tryz.func242 ?_;cases h5:iM z.ae c
   ·refine aY ?_;have c5:=JU c k1 hr;refine gO Tryz.func242 ?_;refine ar (c5) ?_;refine gO Tryz.func242 ?_;refine I.back (IH (fu (Nm.labels c).tail) ⟨(um k1 hr).1,D2 k1 hr k2 h4,by rw [k3,Tq h5,(um k1 hr).2]⟩ (JZ k1 hr)) ?_;exact sZ
   ·rw [fin h5];clear fin IH;refine aN ?_;refine gO Tryz.func242 ?_;refine ar kN ?_;(conv=>whnf);refine I.run ag Tryz.func242 8 ?_;(conv=>whnf);refine I.ox ag rfl ?_;refine gO Tryz.func242 ?_;refine bp ⟨by simp; omega,by simp [DV.cells]⟩ ?_;(conv=>whnf);refine I.freeze 2 ?_;(conv=>whnf);refine gO Tryz.func242 ?_;cases hJ:mC ([42]::Nm.labels c) with
    |none =>
     rw [hJ] at hj;refine ar (hj) ?_;refine gO Tryz.func242 ?_;refine aY ?_;refine gO Tryz.func242 ?_;exact ⟨rfl,rfl⟩
    |some t =>
     rw [hJ] at hj;refine ar (hj) ?_;refine gO Tryz.func242 ?_;refine aN ?_;refine gO Tryz.func242 ?_;exact ⟨rfl,rfl⟩
end Go.Proofs.YtfmdaiojokniiaaGreatDoor.P
end
section
namespace Go.Proofs.YtfmdaiojokniiaaGreatDoor.P
open Go Go.aw
set_option maxRecDepth 100000
set_option maxHeartbeats 4000000
def D5:DV := .agg [.int .i64 0,.aD,.str []]
theorem Tt (z:aF) (q:br) (cut:Text) (b:Bool) (w:Text) (V:gd z) (hf:z.jA) (hq:Nm.valid q.name=true) (he:iM z.ae q.name=true):aq E 160 [bo z q cut b w,aZ z] [.ptr 0 0] (fun x h=>x = .az [.d (mE 5 (dn z.ae (cz [aO z.ae ⟨z.ai,4⟩,dW z.ae q.name])) []),.d (.bool true)]∧h=[bo z q cut b w,aZ z]):=by
 have c0:=xr z q cut b w q.name V hq;have c1:=DZ z q cut b w V.sorted;have c3:=se z q cut b w q.name V hq;have ah:=(fJ (l:=z.ae) (q:=⟨z.ai,4⟩)).2;have zO:=(sc (l:=z.ae) (n:=q.name)).2;rw [he] at c0;generalize aO z.ae ⟨z.ai,4⟩=i at *;generalize dW z.ae q.name=j at *;have c2:=kl z q cut b w 5 [i,j] hf (fun p hp=>by simp at hp; rcases hp with rfl | rfl <;> assumption) (by simp);simp only [List.map_cons,List.map_nil] at c2;unfold bo aZ at c0 c1 c2 c3;apply aq.jD
 case hk=>rfl
 case hc =>
  unfold bo aZ;refine aq.run ag (fn:=Tryz.f160) Tryz.func160 (body:=Tryz.f160.body.getD .skip) rfl (by decide) 2000 rfl ?_;conv=>whnf
  with_reducible refine bC (c0) ?_
  refine gO Tryz.func160 ?_;refine aY ?_;refine gO Tryz.func160 ?_;refine I.bU ag bV 2000 (by kernel_rfl) ?_;(conv=>whnf);refine iy (c1) ?_;refine And.intro rfl ?_;refine gD ?_;refine iy (c3) ?_;refine And.intro rfl ?_;refine gD ?_;refine iy (c2) ?_;refine And.intro rfl ?_;refine gD ?_;refine gO Tryz.func160 ?_;exact ⟨rfl,rfl⟩
theorem Tu (z:aF) (q:br) (cut:Text) (b:Bool) (w:Text) (V:gd z) (hq:Nm.valid q.name=true) (hu:Nm.under q.name z.ai=true) (he:iM z.ae q.name=false):aq E 160 [bo z q cut b w,aZ z] [.ptr 0 0] (fun x h=>x = .az [.d D5,.d (.bool false)]∧h=[bo z q cut b ((qi z.ae q.name).getD []),aZ z]):=by
 have c0:=xr z q cut b w q.name V hq;have c1:=Ts z q cut b w V hq hu;rw [he] at c0;unfold bo aZ at c0 c1;apply aq.jD
 case hk=>rfl
 case hc =>
  unfold bo aZ;refine aq.run ag (fn:=Tryz.f160) Tryz.func160 (body:=Tryz.f160.body.getD .skip) rfl (by decide) 2000 rfl ?_;conv=>whnf
  with_reducible refine bC (c0) ?_
  refine gO Tryz.func160 ?_;refine aN ?_;refine gO Tryz.func160 ?_
  with_reducible refine bC (c1) ?_
  refine gO Tryz.func160 ?_;exact ⟨rfl,rfl⟩
theorem J0 (z:aF) (q:br) (cut:Text) (b:Bool) (w:Text) (V:gd z) (hw:w=[]∨(Nm.valid w=true∧iM z.ae w=false)):aq E 163 [bo z q cut b w,aZ z] [.ptr 0 0] (fun x h=>x = .az [.d D5,.d (.bool false)]∧h=[bo z q cut b w,aZ z]):=by
 apply aq.jD
 case hk=>rfl
 case hc =>
  by_cases h0:w=[]
  ·subst h0;unfold bo aZ;refine aq.run ag (fn:=Tryz.f163) Tryz.func163 (body:=Tryz.f163.body.getD .skip) rfl (by decide) 2000 rfl ?_;(conv=>whnf);refine bg (by decide) ?_;refine gO Tryz.func163 ?_;refine aY ?_;refine gO Tryz.func163 ?_;exact ⟨rfl,rfl⟩
  ·obtain ⟨h1,h2⟩:=hw.resolve_left h0;have c0:=xr z q cut b w w V h1;rw [h2] at c0;unfold bo aZ at c0 ⊢;refine aq.run ag (fn:=Tryz.f163) Tryz.func163 (body:=Tryz.f163.body.getD .skip) rfl (by decide) 2000 rfl ?_;(conv=>whnf);refine aW (by simpa using h0) ?_;refine gO Tryz.func163 ?_
   with_reducible refine bC (c0) ?_
   refine gO Tryz.func163 ?_;refine aY ?_;refine gO Tryz.func163 ?_;exact ⟨rfl,rfl⟩
theorem Tv (z:aF) (q:br) (cut:Text) (b:Bool) (w:Text) (V:gd z) (hf:z.jA) (hq:Nm.valid q.name=true) (hw:Nm.valid w=true) (he:iM z.ae w=true):aq E 163 [bo z q cut b w,aZ z] [.ptr 0 0] (fun x h=>x = .az [.d (mE 5 (dn z.ae (cz [aO z.ae ⟨z.ai,4⟩,dW z.ae q.name,dW z.ae w])) []),.d (.bool true)]∧h=[bo z q cut b w,aZ z]):=by
 have c0:=xr z q cut b w w V hw;have c1:=DZ z q cut b w V.sorted;have c3:=se z q cut b w q.name V hq;have c4:=se z q cut b w w V hw;have ah:=(fJ (l:=z.ae) (q:=⟨z.ai,4⟩)).2;have zO:=(sc (l:=z.ae) (n:=q.name)).2;have S8:=(sc (l:=z.ae) (n:=w)).2;have h0:w≠[]:=fun e=>by rw [e] at hw; exact absurd hw (by decide)
 rw [he] at c0;generalize aO z.ae ⟨z.ai,4⟩=i at *;generalize dW z.ae q.name=j at *;generalize dW z.ae w=m at *;have c2:=kl z q cut b w 5 [i,j,m] hf (fun p hp=>by simp at hp; rcases hp with rfl | rfl | rfl <;> assumption) (by simp);simp only [List.map_cons,List.map_nil] at c2;unfold bo aZ at c0 c1 c2 c3 c4;apply aq.jD
 case hk=>rfl
 case hc =>
  unfold bo aZ;refine aq.run ag (fn:=Tryz.f163) Tryz.func163 (body:=Tryz.f163.body.getD .skip) rfl (by decide) 2000 rfl ?_;(conv=>whnf);refine aW (by simpa using h0) ?_;refine gO Tryz.func163 ?_
  with_reducible refine bC (c0) ?_
  refine gO Tryz.func163 ?_;refine aN ?_;refine gO Tryz.func163 ?_;refine I.bU ag bV 2000 (by kernel_rfl) ?_;(conv=>whnf);refine iy (c1) ?_;refine And.intro rfl ?_;refine gD ?_;refine iy (c3) ?_;refine And.intro rfl ?_;refine gD ?_;refine iy (c4) ?_;refine And.intro rfl ?_;refine gD ?_;refine iy (c2) ?_;refine And.intro rfl ?_;refine gD ?_;refine gO Tryz.func163 ?_;exact ⟨rfl,rfl⟩
end Go.Proofs.YtfmdaiojokniiaaGreatDoor.P
end
