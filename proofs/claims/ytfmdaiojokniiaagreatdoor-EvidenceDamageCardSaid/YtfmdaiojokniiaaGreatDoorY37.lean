/- Several texts of mine, one behind the other. Conditions: as each says. -/
import Derived.Test.YtfmdaiojokniiaaGreatDoorY36
set_option linter.unusedVariables false
set_option linter.unusedSimpArgs false
section
namespace Go.Proofs.YtfmdaiojokniiaaGreatDoor.P
open Go Go.ax
set_option maxRecDepth 100000
set_option maxHeartbeats 4000000
theorem UN {l:List Signed} {c:Text} (h:jc l c=true):lD l (Nm.labels c)=Nm.labels c:=by
 cases e:Nm.labels c with
 |nil=>rfl
 |cons x r=>rw [lD,← e,xV,if_pos h]
theorem UO {l:List Signed} {c:Text} (h:jc l c=false):lD l (Nm.labels c)=lD l (Nm.labels c).tail:=by
 cases e:Nm.labels c with
 |nil=>rfl
 |cons x r=>rw [lD,← e,xV,h]; simp [e]
theorem UP {t:Text} (hv:Nm.valid t=true):(Nm.labels t).length≤8∧∀ x∈Nm.labels t,x.length≤100:=by
 by_cases hr:t=[46]
 ·subst hr; simp [KN]
 obtain ⟨h1,h2⟩:=KP hv hr;rw [Nm.labels,if_neg hr];obtain ⟨p1,p2⟩:=oP.1 h2;refine ⟨p1,fun x hx=>?_⟩;obtain ⟨i,hi⟩:=List.getElem?_of_mem hx;have:=p2 i x hi;simp only [fA,Nm.label,Bool.or_eq_true,Bool.and_eq_true,decide_eq_true_eq] at this;rcases this with h | ⟨_,rfl⟩
 ·omega
 ·simp
theorem UQ (z:aR) (q:bw) (cut:Text) (b:Bool) (w:Text) (V:gv z) (hq:Nm.valid q.name=true) (hu:Nm.under q.name z.aj=true):aw E 242 [bq z q cut b w,bh z] [.ptr 0 0] (fun x h=>x = .d (.str ((qB z.ab q.name).getD []))∧h=[bq z q cut b w,bh z]):=by
 have c0:=fun n hn=>xX z q cut b w n V hn;unfold bq bh at c0;apply aw.lz
 case hk=>rfl
 case hc =>
  unfold bq bh;refine aw.run af (fn:=Tryz.f242) Tryz.func242 (body:=Tryz.f242.body.getD .skip) rfl (by decide) 2000 rfl ?_;(conv=>whnf);refine I.loop (κ:=Text) ([3]++rg 13 17) (fun c=>[(3,.d (.str c))]) (fun _=>[]) (fun c=>Nm.valid c=true∧Nm.under c z.aj=true∧lD z.ab (Nm.labels q.name)=lD z.ab (Nm.labels c)) (fun c=>(Nm.labels c).length) q.name ⟨hq,hu,rfl⟩ ?_ ?_
  ·exact sZ
  rintro c ⟨k1,k2,k3⟩ IH;refine I.head af Tryz.func242 2000 ?_;(conv=>whnf);have c1:=c0 c k1;have lk:=HI c (by have:=eB k1; exact ou (by omega));unfold zy at lk;rw [k1] at lk;have hl:=UP k1;have fin:jc z.ab c=true→qB z.ab q.name=na ([42]::Nm.labels c):=fun h=>by rw [qB,k3,UN h]
  have hj:=UC ([42]::Nm.labels c) (by simp; omega) (fun t ht=>by
   rcases List.mem_cons.1 ht with rfl | h
   ·simp
   ·exact hl.2 t h)
  by_cases h4:c=z.aj
  ·rw [fin (by rw [h4]; exact V.T8)];clear fin IH;refine aW (by simpa using h4) ?_;refine gO Tryz.func242 ?_;refine aQ ?_;refine gO Tryz.func242 ?_;refine ao lk ?_;(conv=>whnf);refine I.run af Tryz.func242 8 ?_;(conv=>whnf);refine I.oM af rfl ?_;refine gO Tryz.func242 ?_;refine bc ⟨by simp; omega,by simp [DV.cells]⟩ ?_;(conv=>whnf);refine I.freeze 2 ?_;(conv=>whnf);refine gO Tryz.func242 ?_;cases hJ:na ([42]::Nm.labels c) with
   |none =>
    rw [hJ] at hj;refine ao (hj) ?_;refine gO Tryz.func242 ?_;refine aY ?_;refine gO Tryz.func242 ?_;exact ⟨rfl,rfl⟩
   |some t =>
    rw [hJ] at hj;refine ao (hj) ?_;refine gO Tryz.func242 ?_;refine aQ ?_;refine gO Tryz.func242 ?_;exact ⟨rfl,rfl⟩
  ·refine aV (by simpa using h4) ?_;have hr:c≠[46]:=fun e=>h4 (by rw [e] at k2 ⊢; exact (KQ k2).symm);refine gO Tryz.func242 ?_
   with_reducible refine bF (c1) ?_
   refine gO Tryz.func242 ?_;cases h5:jc z.ab c
   ·refine aY ?_;have c5:=KM c k1 hr;refine gO Tryz.func242 ?_;refine ao (c5) ?_;refine gO Tryz.func242 ?_;refine I.back (IH (fC (Nm.labels c).tail) ⟨(uV k1 hr).1,EG k1 hr k2 h4,by rw [k3,UO h5,(uV k1 hr).2]⟩ (KR k1 hr)) ?_;exact sZ
   ·rw [fin h5];clear fin IH;refine aQ ?_;refine gO Tryz.func242 ?_;refine ao lk ?_;(conv=>whnf);refine I.run af Tryz.func242 8 ?_;(conv=>whnf);refine I.oM af rfl ?_;refine gO Tryz.func242 ?_;refine bc ⟨by simp; omega,by simp [DV.cells]⟩ ?_;(conv=>whnf);refine I.freeze 2 ?_;(conv=>whnf);refine gO Tryz.func242 ?_;cases hJ:na ([42]::Nm.labels c) with
    |none =>
     rw [hJ] at hj;refine ao (hj) ?_;refine gO Tryz.func242 ?_;refine aY ?_;refine gO Tryz.func242 ?_;exact ⟨rfl,rfl⟩
    |some t =>
     rw [hJ] at hj;refine ao (hj) ?_;refine gO Tryz.func242 ?_;refine aQ ?_;refine gO Tryz.func242 ?_;exact ⟨rfl,rfl⟩
end Go.Proofs.YtfmdaiojokniiaaGreatDoor.P
end
section
namespace Go.Proofs.YtfmdaiojokniiaaGreatDoor.P
open Go Go.ax
set_option maxRecDepth 100000
set_option maxHeartbeats 4000000
def EJ:DV := .agg [.int .i64 0,.aL,.str []]
theorem UR (z:aR) (q:bw) (cut:Text) (b:Bool) (w:Text) (V:gv z) (hf:z.jW) (hq:Nm.valid q.name=true) (he:jc z.ab q.name=true):aw E 160 [bq z q cut b w,bh z] [.ptr 0 0] (fun x h=>x = .aF [.d (nd 5 (dV z.ab (cF [aU z.ab ⟨z.aj,4⟩,eb z.ab q.name])) []),.d (.bool true)]∧h=[bq z q cut b w,bh z]):=by
 have c0:=xX z q cut b w q.name V hq;have c1:=ED z q cut b w V.sorted;have c3:=sJ z q cut b w q.name V hq;have ai:=(fP (l:=z.ab) (q:=⟨z.aj,4⟩)).2;have jV:=(sE (l:=z.ab) (n:=q.name)).2;rw [he] at c0;generalize aU z.ab ⟨z.aj,4⟩=i at *;generalize eb z.ab q.name=j at *;have c2:=kJ z q cut b w 5 [i,j] hf (fun p hp=>by simp at hp; rcases hp with rfl | rfl <;> assumption) (by simp);simp only [List.map_cons,List.map_nil] at c2;unfold bq bh at c0 c1 c2 c3;apply aw.lz
 case hk=>rfl
 case hc =>
  unfold bq bh;refine aw.run af (fn:=Tryz.f160) Tryz.func160 (body:=Tryz.f160.body.getD .skip) rfl (by decide) 2000 rfl ?_;conv=>whnf
  with_reducible refine bF (c0) ?_
  refine gO Tryz.func160 ?_;refine aY ?_;refine gO Tryz.func160 ?_;refine I.bH af bI 2000 (by kernel_rfl) ?_;(conv=>whnf);refine iO (c1) ?_;refine And.intro rfl ?_;refine gD ?_;refine iO (c3) ?_;refine And.intro rfl ?_;refine gD ?_;refine iO (c2) ?_;refine And.intro rfl ?_;refine gD ?_;refine gO Tryz.func160 ?_;exact ⟨rfl,rfl⟩
theorem US (z:aR) (q:bw) (cut:Text) (b:Bool) (w:Text) (V:gv z) (hq:Nm.valid q.name=true) (hu:Nm.under q.name z.aj=true) (he:jc z.ab q.name=false):aw E 160 [bq z q cut b w,bh z] [.ptr 0 0] (fun x h=>x = .aF [.d EJ,.d (.bool false)]∧h=[bq z q cut b ((qB z.ab q.name).getD []),bh z]):=by
 have c0:=xX z q cut b w q.name V hq;have c1:=UQ z q cut b w V hq hu;rw [he] at c0;unfold bq bh at c0 c1;apply aw.lz
 case hk=>rfl
 case hc =>
  unfold bq bh;refine aw.run af (fn:=Tryz.f160) Tryz.func160 (body:=Tryz.f160.body.getD .skip) rfl (by decide) 2000 rfl ?_;conv=>whnf
  with_reducible refine bF (c0) ?_
  refine gO Tryz.func160 ?_;refine aQ ?_;refine gO Tryz.func160 ?_
  with_reducible refine bF (c1) ?_
  refine gO Tryz.func160 ?_;exact ⟨rfl,rfl⟩
theorem KS (z:aR) (q:bw) (cut:Text) (b:Bool) (w:Text) (V:gv z) (hw:w=[]∨(Nm.valid w=true∧jc z.ab w=false)):aw E 163 [bq z q cut b w,bh z] [.ptr 0 0] (fun x h=>x = .aF [.d EJ,.d (.bool false)]∧h=[bq z q cut b w,bh z]):=by
 apply aw.lz
 case hk=>rfl
 case hc =>
  by_cases h0:w=[]
  ·subst h0;unfold bq bh;refine aw.run af (fn:=Tryz.f163) Tryz.func163 (body:=Tryz.f163.body.getD .skip) rfl (by decide) 2000 rfl ?_;(conv=>whnf);refine aV (by decide) ?_;refine gO Tryz.func163 ?_;refine aY ?_;refine gO Tryz.func163 ?_;exact ⟨rfl,rfl⟩
  ·obtain ⟨h1,h2⟩:=hw.resolve_left h0;have c0:=xX z q cut b w w V h1;rw [h2] at c0;unfold bq bh at c0 ⊢;refine aw.run af (fn:=Tryz.f163) Tryz.func163 (body:=Tryz.f163.body.getD .skip) rfl (by decide) 2000 rfl ?_;(conv=>whnf);refine aW (by simpa using h0) ?_;refine gO Tryz.func163 ?_
   with_reducible refine bF (c0) ?_
   refine gO Tryz.func163 ?_;refine aY ?_;refine gO Tryz.func163 ?_;exact ⟨rfl,rfl⟩
theorem UT (z:aR) (q:bw) (cut:Text) (b:Bool) (w:Text) (V:gv z) (hf:z.jW) (hq:Nm.valid q.name=true) (hw:Nm.valid w=true) (he:jc z.ab w=true):aw E 163 [bq z q cut b w,bh z] [.ptr 0 0] (fun x h=>x = .aF [.d (nd 5 (dV z.ab (cF [aU z.ab ⟨z.aj,4⟩,eb z.ab q.name,eb z.ab w])) []),.d (.bool true)]∧h=[bq z q cut b w,bh z]):=by
 have c0:=xX z q cut b w w V hw;have c1:=ED z q cut b w V.sorted;have c3:=sJ z q cut b w q.name V hq;have c4:=sJ z q cut b w w V hw;have ai:=(fP (l:=z.ab) (q:=⟨z.aj,4⟩)).2;have jV:=(sE (l:=z.ab) (n:=q.name)).2;have Uv:=(sE (l:=z.ab) (n:=w)).2;have h0:w≠[]:=fun e=>by rw [e] at hw; exact absurd hw (by decide)
 rw [he] at c0;generalize aU z.ab ⟨z.aj,4⟩=i at *;generalize eb z.ab q.name=j at *;generalize eb z.ab w=m at *;have c2:=kJ z q cut b w 5 [i,j,m] hf (fun p hp=>by simp at hp; rcases hp with rfl | rfl | rfl <;> assumption) (by simp);simp only [List.map_cons,List.map_nil] at c2;unfold bq bh at c0 c1 c2 c3 c4;apply aw.lz
 case hk=>rfl
 case hc =>
  unfold bq bh;refine aw.run af (fn:=Tryz.f163) Tryz.func163 (body:=Tryz.f163.body.getD .skip) rfl (by decide) 2000 rfl ?_;(conv=>whnf);refine aW (by simpa using h0) ?_;refine gO Tryz.func163 ?_
  with_reducible refine bF (c0) ?_
  refine gO Tryz.func163 ?_;refine aQ ?_;refine gO Tryz.func163 ?_;refine I.bH af bI 2000 (by kernel_rfl) ?_;(conv=>whnf);refine iO (c1) ?_;refine And.intro rfl ?_;refine gD ?_;refine iO (c3) ?_;refine And.intro rfl ?_;refine gD ?_;refine iO (c4) ?_;refine And.intro rfl ?_;refine gD ?_;refine iO (c2) ?_;refine And.intro rfl ?_;refine gD ?_;refine gO Tryz.func163 ?_;exact ⟨rfl,rfl⟩
end Go.Proofs.YtfmdaiojokniiaaGreatDoor.P
end
