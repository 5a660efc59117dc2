/- Several texts of mine, one behind the other. Conditions: as each says. -/
import Derived.Test.YtfmdaiojokniiaaGreatDoorV38
set_option linter.unusedVariables false
set_option linter.unusedSimpArgs false
section
namespace Go.Proofs.YtfmdaiojokniiaaGreatDoor.P
open Go Go.aw
set_option maxRecDepth 100000
set_option maxHeartbeats 4000000
theorem U7 {l:List Signed} {c:Text} (h:jm l c=true):lY l (Nm.labels c)=Nm.labels c:=by
 cases e:Nm.labels c with
 |nil=>rfl
 |cons x r=>rw [lY,← e,yl,if_pos h]
theorem U9 {l:List Signed} {c:Text} (h:jm l c=false):lY l (Nm.labels c)=lY l (Nm.labels c).tail:=by
 cases e:Nm.labels c with
 |nil=>rfl
 |cons x r=>rw [lY,← e,yl,h]; simp [e]
theorem U' {t:Text} (hv:Nm.valid t=true):(Nm.labels t).length≤8∧∀ x∈Nm.labels t,x.length≤100:=by
 by_cases hr:t=[46]
 ·subst hr; simp [La]
 obtain ⟨h1,h2⟩:=Lc hv hr;rw [Nm.labels,if_neg hr];obtain ⟨p1,p2⟩:=pj.1 h2;refine ⟨p1,fun x hx=>?_⟩;obtain ⟨i,hi⟩:=List.getElem?_of_mem hx;have:=p2 i x hi;simp only [fF,Nm.label,Bool.or_eq_true,Bool.and_eq_true,decide_eq_true_eq] at this;rcases this with h | ⟨_,rfl⟩
 ·omega
 ·simp
theorem Va (z:aG) (q:bj) (cut:Text) (b:Bool) (w:Text) (V:gM z) (hq:Nm.valid q.name=true) (hu:Nm.under q.name z.ah=true):au E 242 [bw z q cut b w,bg z] [.ptr 0 0] (fun x h=>x = .d (.str ((rh z.ab q.name).getD []))∧h=[bw z q cut b w,bg z]):=by
 have c0:=fun n hn=>yo z q cut b w n V hn;unfold bw bg at c0;apply au.kf
 case hk=>rfl
 case hc =>
  unfold bw bg;refine au.run af (fn:=Tryz.f242) Tryz.func242 (body:=Tryz.f242.body.getD .skip) rfl (by decide) 2000 rfl ?_;(conv=>whnf);refine I.loop (κ:=Text) ([3]++rg 13 17) (fun c=>[(3,.d (.str c))]) (fun _=>[]) (fun c=>Nm.valid c=true∧Nm.under c z.ah=true∧lY z.ab (Nm.labels q.name)=lY z.ab (Nm.labels c)) (fun c=>(Nm.labels c).length) q.name ⟨hq,hu,rfl⟩ ?_ ?_
  ·exact sZ
  rintro c ⟨k1,k2,k3⟩ IH;refine I.head af Tryz.func242 2000 ?_;(conv=>whnf);have c1:=c0 c k1;have lL:=DF c (by have:=eJ k1; exact lp (by omega));unfold xw at lL;rw [k1] at lL;have hl:=U' k1;have fin:jm z.ab c=true→rh z.ab q.name=nH ([42]::Nm.labels c):=fun h=>by rw [rh,k3,U7 h]
  have hj:=UW ([42]::Nm.labels c) (by simp; omega) (fun t ht=>by
   rcases List.mem_cons.1 ht with rfl | h
   ·simp
   ·exact hl.2 t h)
  by_cases h4:c=z.ah
  ·rw [fin (by rw [h4]; exact V.Uq)];clear fin IH;refine aZ (by simpa using h4) ?_;refine gO Tryz.func242 ?_;refine aQ ?_;refine gO Tryz.func242 ?_;refine ao lL ?_;(conv=>whnf);refine I.run af Tryz.func242 8 ?_;(conv=>whnf);refine I.pf af rfl ?_;refine gO Tryz.func242 ?_;refine a8 ⟨by simp; omega,by simp [DV.cells]⟩ ?_;(conv=>whnf);refine I.freeze 2 ?_;(conv=>whnf);refine gO Tryz.func242 ?_;cases hJ:nH ([42]::Nm.labels c) with
   |none =>
    rw [hJ] at hj;refine ao (hj) ?_;refine gO Tryz.func242 ?_;refine aV ?_;refine gO Tryz.func242 ?_;exact ⟨rfl,rfl⟩
   |some t =>
    rw [hJ] at hj;refine ao (hj) ?_;refine gO Tryz.func242 ?_;refine aQ ?_;refine gO Tryz.func242 ?_;exact ⟨rfl,rfl⟩
  ·refine bh (by simpa using h4) ?_;have hr:c≠[46]:=fun e=>h4 (by rw [e] at k2 ⊢; exact (Ld k2).symm);refine gO Tryz.func242 ?_
   with_reducible refine bD (c1) ?_
   refine gO Tryz.func242 ?_;cases h5:jm z.ab c
   ·refine aV ?_;have c5:=K9 c k1 hr;refine gO Tryz.func242 ?_;refine ao (c5) ?_;refine gO Tryz.func242 ?_;refine I.back (IH (fI (Nm.labels c).tail) ⟨(vv k1 hr).1,E7 k1 hr k2 h4,by rw [k3,U9 h5,(vv k1 hr).2]⟩ (Le k1 hr)) ?_;exact sZ
   ·rw [fin h5];clear fin IH;refine aQ ?_;refine gO Tryz.func242 ?_;refine ao lL ?_;(conv=>whnf);refine I.run af Tryz.func242 8 ?_;(conv=>whnf);refine I.pf af rfl ?_;refine gO Tryz.func242 ?_;refine a8 ⟨by simp; omega,by simp [DV.cells]⟩ ?_;(conv=>whnf);refine I.freeze 2 ?_;(conv=>whnf);refine gO Tryz.func242 ?_;cases hJ:nH ([42]::Nm.labels c) with
    |none =>
     rw [hJ] at hj;refine ao (hj) ?_;refine gO Tryz.func242 ?_;refine aV ?_;refine gO Tryz.func242 ?_;exact ⟨rfl,rfl⟩
    |some t =>
     rw [hJ] at hj;refine ao (hj) ?_;refine gO Tryz.func242 ?_;refine aQ ?_;refine gO Tryz.func242 ?_;exact ⟨rfl,rfl⟩
end Go.Proofs.YtfmdaiojokniiaaGreatDoor.P
end
section
namespace Go.Proofs.YtfmdaiojokniiaaGreatDoor.P
open Go Go.aw
set_option maxRecDepth 100000
set_option maxHeartbeats 4000000
def E':DV := .agg [.int .i64 0,.aH,.str []]
theorem Vb (z:aG) (q:bj) (cut:Text) (b:Bool) (w:Text) (V:gM z) (hf:z.jG) (hq:Nm.valid q.name=true) (he:jm z.ab q.name=true):au E 160 [bw z q cut b w,bg z] [.ptr 0 0] (fun x h=>x = .aD [.d (nJ 5 (dq z.ab (cA [aU z.ab ⟨z.ah,4⟩,ea z.ab q.name])) []),.d (.bool true)]∧h=[bw z q cut b w,bg z]):=by
 have c0:=yo z q cut b w q.name V hq;have c1:=E4 z q cut b w V.sorted;have c3:=tc z q cut b w q.name V hq;have aj:=(fX (l:=z.ab) (q:=⟨z.ah,4⟩)).2;have lN:=(s9 (l:=z.ab) (n:=q.name)).2;rw [he] at c0;generalize aU z.ab ⟨z.ah,4⟩=i at *;generalize ea z.ab q.name=j at *;have c2:=kY z q cut b w 5 [i,j] hf (fun p hp=>by simp at hp; rcases hp with rfl | rfl <;> assumption) (by simp);simp only [List.map_cons,List.map_nil] at c2;unfold bw bg at c0 c1 c2 c3;apply au.kf
 case hk=>rfl
 case hc =>
  unfold bw bg;refine au.run af (fn:=Tryz.f160) Tryz.func160 (body:=Tryz.f160.body.getD .skip) rfl (by decide) 2000 rfl ?_;conv=>whnf
  with_reducible refine bD (c0) ?_
  refine gO Tryz.func160 ?_;refine aV ?_;refine gO Tryz.func160 ?_;refine I.bH af bI 2000 (by kernel_rfl) ?_;(conv=>whnf);refine iX (c1) ?_;refine And.intro rfl ?_;refine gD ?_;refine iX (c3) ?_;refine And.intro rfl ?_;refine gD ?_;refine iX (c2) ?_;refine And.intro rfl ?_;refine gD ?_;refine gO Tryz.func160 ?_;exact ⟨rfl,rfl⟩
theorem Vc (z:aG) (q:bj) (cut:Text) (b:Bool) (w:Text) (V:gM z) (hq:Nm.valid q.name=true) (hu:Nm.under q.name z.ah=true) (he:jm z.ab q.name=false):au E 160 [bw z q cut b w,bg z] [.ptr 0 0] (fun x h=>x = .aD [.d E',.d (.bool false)]∧h=[bw z q cut b ((rh z.ab q.name).getD []),bg z]):=by
 have c0:=yo z q cut b w q.name V hq;have c1:=Va z q cut b w V hq hu;rw [he] at c0;unfold bw bg at c0 c1;apply au.kf
 case hk=>rfl
 case hc =>
  unfold bw bg;refine au.run af (fn:=Tryz.f160) Tryz.func160 (body:=Tryz.f160.body.getD .skip) rfl (by decide) 2000 rfl ?_;conv=>whnf
  with_reducible refine bD (c0) ?_
  refine gO Tryz.func160 ?_;refine aQ ?_;refine gO Tryz.func160 ?_
  with_reducible refine bD (c1) ?_
  refine gO Tryz.func160 ?_;exact ⟨rfl,rfl⟩
theorem Lf (z:aG) (q:bj) (cut:Text) (b:Bool) (w:Text) (V:gM z) (hw:w=[]∨(Nm.valid w=true∧jm z.ab w=false)):au E 163 [bw z q cut b w,bg z] [.ptr 0 0] (fun x h=>x = .aD [.d E',.d (.bool false)]∧h=[bw z q cut b w,bg z]):=by
 apply au.kf
 case hk=>rfl
 case hc =>
  by_cases h0:w=[]
  ·subst h0;unfold bw bg;refine au.run af (fn:=Tryz.f163) Tryz.func163 (body:=Tryz.f163.body.getD .skip) rfl (by decide) 2000 rfl ?_;(conv=>whnf);refine bh (by decide) ?_;refine gO Tryz.func163 ?_;refine aV ?_;refine gO Tryz.func163 ?_;exact ⟨rfl,rfl⟩
  ·obtain ⟨h1,h2⟩:=hw.resolve_left h0;have c0:=yo z q cut b w w V h1;rw [h2] at c0;unfold bw bg at c0 ⊢;refine au.run af (fn:=Tryz.f163) Tryz.func163 (body:=Tryz.f163.body.getD .skip) rfl (by decide) 2000 rfl ?_;(conv=>whnf);refine aZ (by simpa using h0) ?_;refine gO Tryz.func163 ?_
   with_reducible refine bD (c0) ?_
   refine gO Tryz.func163 ?_;refine aV ?_;refine gO Tryz.func163 ?_;exact ⟨rfl,rfl⟩
theorem Vd (z:aG) (q:bj) (cut:Text) (b:Bool) (w:Text) (V:gM z) (hf:z.jG) (hq:Nm.valid q.name=true) (hw:Nm.valid w=true) (he:jm z.ab w=true):au E 163 [bw z q cut b w,bg z] [.ptr 0 0] (fun x h=>x = .aD [.d (nJ 5 (dq z.ab (cA [aU z.ab ⟨z.ah,4⟩,ea z.ab q.name,ea z.ab w])) []),.d (.bool true)]∧h=[bw z q cut b w,bg z]):=by
 have c0:=yo z q cut b w w V hw;have c1:=E4 z q cut b w V.sorted;have c3:=tc z q cut b w q.name V hq;have c4:=tc z q cut b w w V hw;have aj:=(fX (l:=z.ab) (q:=⟨z.ah,4⟩)).2;have lN:=(s9 (l:=z.ab) (n:=q.name)).2;have UO:=(s9 (l:=z.ab) (n:=w)).2;have h0:w≠[]:=fun e=>by rw [e] at hw; exact absurd hw (by decide)
 rw [he] at c0;generalize aU z.ab ⟨z.ah,4⟩=i at *;generalize ea z.ab q.name=j at *;generalize ea z.ab w=m at *;have c2:=kY z q cut b w 5 [i,j,m] hf (fun p hp=>by simp at hp; rcases hp with rfl | rfl | rfl <;> assumption) (by simp);simp only [List.map_cons,List.map_nil] at c2;unfold bw bg at c0 c1 c2 c3 c4;apply au.kf
 case hk=>rfl
 case hc =>
  unfold bw bg;refine au.run af (fn:=Tryz.f163) Tryz.func163 (body:=Tryz.f163.body.getD .skip) rfl (by decide) 2000 rfl ?_;(conv=>whnf);refine aZ (by simpa using h0) ?_;refine gO Tryz.func163 ?_
  with_reducible refine bD (c0) ?_
  refine gO Tryz.func163 ?_;refine aQ ?_;refine gO Tryz.func163 ?_;refine I.bH af bI 2000 (by kernel_rfl) ?_;(conv=>whnf);refine iX (c1) ?_;refine And.intro rfl ?_;refine gD ?_;refine iX (c3) ?_;refine And.intro rfl ?_;refine gD ?_;refine iX (c4) ?_;refine And.intro rfl ?_;refine gD ?_;refine iX (c2) ?_;refine And.intro rfl ?_;refine gD ?_;refine gO Tryz.func163 ?_;exact ⟨rfl,rfl⟩
end Go.Proofs.YtfmdaiojokniiaaGreatDoor.P
end
