/- Several texts of mine, one behind the other. Conditions: as each says. -/
import Derived.Test.YtcmnpelmmekdkaaGreatDoorY23
set_option linter.unusedVariables false
set_option linter.unusedSimpArgs false
section
namespace Go.Proofs.YtcmnpelmmekdkaaGreatDoor.P
open Go Go.ax
set_option maxRecDepth 100000
set_option maxHeartbeats 4000000
theorem O4:Nm.labels [46]=[]:=rfl
theorem HW {t:Text} (h:Nm.labels t=[]):t=[46]:=by rw [← vb t,h]; rfl
theorem zV {s t:Text} (h:Nm.labels s=Nm.labels t):s=t:=by rw [← vb s,h,vb]
theorem X9 {t:Text} (h:t≠[46]):Nm.labels t≠[]:=fun e=>h (HW e)
theorem O5 {t:Text} (hv:Nm.valid t=true) (hr:t≠[46]):t.length≤60∧Nm.parts (Nm.split t)=true:=by
 simpa [Nm.valid,hr] using hv
theorem xE {t:Text} (hv:Nm.valid t=true) (hr:t≠[46]):Nm.valid (gL (Nm.labels t).tail)=true∧Nm.labels (gL (Nm.labels t).tail)=(Nm.labels t).tail:=by
 obtain ⟨h1,h2⟩:=O5 hv hr;have hd:=Nm.Lr t;have hg:=Nm.uE t;rw [Nm.labels,if_neg hr];generalize Nm.split t=L at *;cases L with
 |nil=>exact ⟨rfl,rfl⟩
 |cons x r =>
  cases r with
  |nil=>exact ⟨rfl,rfl⟩
  |cons y r =>
   have e:gL (y::r)=Nm.glue (y::r):=by simp [gL]
   have hs:Nm.split (Nm.glue (y::r))=y::r:=Nm.Ls _ (by simp) fun u hu=>hd u (List.mem_cons_of_mem _ hu);obtain ⟨p1,p2⟩:=px.1 h2;have hy:Nm.label y=true:=by simpa [jZ] using p2 1 y rfl
   have aJ:Nm.glue (y::r)≠[46]:=fun e=>by
    rw [e] at hs;have e2:Nm.split [46]=[[],[]]:=by decide
    rw [e2] at hs;cases hs;exact absurd hy (by decide)
   have hl:(Nm.glue (y::r)).length≤60:=by
    rw [← hg,Nm.glue] at h1;simp only [List.length_append,List.length_cons] at h1;omega
   show Nm.valid (gL (y::r))=true∧Nm.labels (gL (y::r))=y::r;rw [e];refine ⟨?_,by rw [Nm.labels,if_neg aJ,hs]⟩
   have hp:Nm.parts (y::r)=true:=px.2 ⟨by simp at p1 ⊢; omega,fun i u hu=>by
    have:=p2 (i+1) u (by simpa using hu);simp [jZ] at this
    simp [jZ,this]⟩
   simp [Nm.valid,aJ,hs,hp,hl]
theorem X' (a:Text):Nm.under a a=true:=by simp [Nm.under]
theorem Ya {a b c:Text} (h:Nm.under a b=true) (k:Nm.under b c=true):Nm.under a c=true:=by
 simp only [Nm.under,decide_eq_true_eq] at *;exact k.trans h
theorem Yb {a b:Text} (h:Nm.under a b=true) (k:Nm.under b a=true):a=b:=by
 simp only [Nm.under,decide_eq_true_eq] at *;exact zV (k.eq_of_length (Nat.le_antisymm k.length_le h.length_le))
theorem O6 {a:Text} (h:Nm.under [46] a=true):a=[46]:=by
 simp only [Nm.under,decide_eq_true_eq,O4,List.suffix_nil] at h;exact HW h
theorem HZ {n d:Text} (hv:Nm.valid n=true) (hr:n≠[46]) (h:Nm.under n d=true) (aJ:n≠d):Nm.under (gL (Nm.labels n).tail) d=true:=by
 simp only [Nm.under,decide_eq_true_eq] at *;rw [(xE hv hr).2];cases e:Nm.labels n with
 |nil=>exact absurd (HW e) hr
 |cons x r =>
  rw [e] at h;rcases List.suffix_cons_iff.1 h with k | k
  ·exact absurd (zV (e.trans k.symm)) aJ
  ·exact k
theorem Yc {n:Text} (hv:Nm.valid n=true) (hr:n≠[46]):Nm.under n (gL (Nm.labels n).tail)=true:=by
 simp only [Nm.under,decide_eq_true_eq];rw [(xE hv hr).2];exact List.tail_suffix _
theorem O7 {n:Text} (hv:Nm.valid n=true) (hr:n≠[46]):(Nm.labels (gL (Nm.labels n).tail)).length<(Nm.labels n).length:=by
 rw [(xE hv hr).2,List.length_tail];have:=List.length_pos_iff.2 (X9 hr);omega
theorem Yd {z:aU} {c:Text} (h1:z.af.any (dp ⟨c,2⟩)=true) (h2:c≠z.ab):c∈bN z.ab z.af:=by
 obtain ⟨s,hs,h⟩:=List.any_eq_true.1 h1;simp only [dp,Bool.and_eq_true,beq_iff_eq] at h;unfold bN;exact List.mem_map.2 ⟨s,List.mem_filter.2 ⟨hs,by simp [ir,h.1,h.2,h2]⟩,h.1⟩
theorem H3 {z:aU} {c:Text} (h:c∈bN z.ab z.af):z.af.any (dp ⟨c,2⟩)=true∧c≠z.ab:=by
 obtain ⟨s,hs,rfl,hc⟩:=oH h;simp [ir] at hc;exact ⟨List.any_eq_true.2 ⟨s,hs,by simp [dp,hc.1]⟩,hc.2⟩
theorem Ye {z:aU} (V:gd z) {n c:Text} (h:c∈bN z.ab z.af) (hu:Nm.under n c=true):lu z n=some c:=by
 unfold lu;cases e:(bN z.ab z.af).find? fun d=>Nm.under n d with
 |none=>exact absurd hu (by simpa using List.find?_eq_none.1 e c h)
 |some d=>rw [V.c9 d (List.mem_of_find?_eq_some e) c h n (by simpa using List.find?_some e) hu]
theorem Yf {z:aU} (V:gd z) {n:Text} (h:∀ d∈bN z.ab z.af,Nm.under n d=true→Nm.under z.ab d=true):lu z n=none:=by
 unfold lu;rw [List.find?_eq_none];intro d hd hu;obtain ⟨s,hs,rfl,hc⟩:=oH hd;exact (H3 hd).2 (Yb (V.under s hs) (h _ hd (by simpa using hu)))
def H4 (z:aU) (n:Text):DV:=if Nm.valid n&&eV z then (if Nm.under n z.ab then (match lu z n with | some c => .aL [.str c,.bool true,.int .i64 0] | none => .aL [.str [],.bool false,.int .i64 0]) else .aL [.str [],.bool false,.int .i64 20]) else .aL [.str [],.bool false,.int .i64 1]
theorem Yg (z:aU) (n:Text) (hf:z.Fits) (hn:n.length≤maxLen):aA E 51 [z.enc,.str n] (· = H4 z n):=by
 have c1:=lk n hn;have c2:=Ha z hf;unfold H4;cases h1:Nm.valid n
 ·rw [h1] at c1;refine eP Tryz.func51 ?_;repeat' (first | with_reducible refine ar (c1) ?_ | with_reducible refine bg (c1) ?_ | with_reducible refine cY ?_ | with_reducible refine cN ?_ | with_reducible refine aw (fun _=>?_) (fun _=>?_) | refine gA Tryz.func51 ?_ | refine gB ?_ | refine gC ?_ | with_reducible rfl)
  all_goals rfl
 cases h2:eV z
 ·rw [h1] at c1;rw [h2] at c2;refine eP Tryz.func51 ?_;repeat' (first | with_reducible refine ar (c1) ?_ | with_reducible refine bg (c1) ?_ | with_reducible refine ar (c2) ?_ | with_reducible refine bg (c2) ?_ | with_reducible refine cY ?_ | with_reducible refine cN ?_ | with_reducible refine aw (fun _=>?_) (fun _=>?_) | refine gA Tryz.func51 ?_ | refine gB ?_ | refine gC ?_ | with_reducible rfl)
  all_goals rfl
 rw [h1] at c1;rw [h2] at c2;have V:=lv h2;have c3:=zK n z.ab hn (by have:=fF V.ab; exact o9 (by omega));rw [Aa h1 V.ab,h1,V.ab] at c3;have hlen:=V.len;refine eP Tryz.func51 ?_;refine ar (c1) ?_;refine gO Tryz.func51 ?_;refine ba ?_;refine gO Tryz.func51 ?_;refine ar (c2) ?_;refine gO Tryz.func51 ?_;refine ba ?_;refine gO Tryz.func51 ?_;refine ar (c3) ?_;refine gO Tryz.func51 ?_;cases h3:Nm.under n z.ab
 ·refine bq ?_;refine gO Tryz.func51 ?_;rfl
 refine ba ?_;refine gO Tryz.func51 ?_;refine aa.loop (κ:=Text) ([4,5,6,10,11,12]++rg 33 18) (fun c=>[(10,.d (.str c))]) (fun _=>[]) (fun c=>Nm.valid c=true∧Nm.under n c=true∧Nm.under c z.ab=true∧∀ d∈bN z.ab z.af,Nm.under n d=true→Nm.under c d=true) (fun c=>(Nm.labels c).length) n ⟨h1,X' n,h3,fun d _ h=>h⟩ ?_ ?_
 ·exact sZ
 rintro c ⟨k1,k2,k3,k4⟩ IH;refine aa.head aj Tryz.func51 2000 ?_;(conv=>whnf);by_cases h4:c=z.ab
 ·refine aI (by simpa using h4) ?_;refine gO Tryz.func51 ?_;subst h4;rw [Yf V k4];rfl
 refine aM (by simpa using h4) ?_;have hr:c≠[46]:=fun e=>h4 (by rw [e] at k3 ⊢; exact (O6 k3).symm);have c4:=C3 z ⟨c,2⟩ (by omega) V.names k1 V.sorted;have c5:=O3 c k1 hr;have t1:=xE k1 hr;have t2:=O7 k1 hr;refine gO Tryz.func51 ?_
 with_reducible refine ug (c4) ?_
 rintro r ⟨i,-,rfl,-⟩;refine gO Tryz.func51 ?_;cases h5:z.af.any (dp ⟨c,2⟩)
 ·refine ba ?_;refine gO Tryz.func51 ?_;refine ar (c5) ?_;refine gO Tryz.func51 ?_;have aJ:∀ d∈bN z.ab z.af,c≠d:=fun d hd e=>by
   have:=(H3 hd).1;rw [← e,h5] at this;cases this
  refine aa.back (IH (gL (Nm.labels c).tail) ⟨t1.1,Ya k2 (Yc k1 hr),HZ k1 hr k3 h4,fun d hd hu=>HZ k1 hr (k4 d hd hu) (aJ d hd)⟩ t2) ?_;exact sZ
 ·refine bq ?_;refine gO Tryz.func51 ?_;rw [Ye V (Yd h5 h4) k2];rfl
end Go.Proofs.YtcmnpelmmekdkaaGreatDoor.P
end
section
namespace Go.Proofs.YtcmnpelmmekdkaaGreatDoor.P
open Go Go.ax
set_option maxRecDepth 100000
set_option maxHeartbeats 4000000
theorem Yh {l:List Signed} {c:Text} (h:jA l c=true):mW l (Nm.labels c)=Nm.labels c:=by
 cases e:Nm.labels c with
 |nil=>rfl
 |cons x r=>rw [mW,← e,vb,if_pos h]
theorem Yi {l:List Signed} {c:Text} (h:jA l c=false):mW l (Nm.labels c)=mW l (Nm.labels c).tail:=by
 cases e:Nm.labels c with
 |nil=>rfl
 |cons x r=>rw [mW,← e,vb,h]; simp [e]
theorem O8 {t:Text} (hv:Nm.valid t=true):(Nm.labels t).length≤8∧∀ x∈Nm.labels t,x.length≤100:=by
 by_cases hr:t=[46]
 ·subst hr; simp [O4]
 obtain ⟨h1,h2⟩:=O5 hv hr;rw [Nm.labels,if_neg hr];obtain ⟨p1,p2⟩:=px.1 h2;refine ⟨p1,fun x hx=>?_⟩;obtain ⟨i,hi⟩:=List.getElem?_of_mem hx;have:=p2 i x hi;simp only [jZ,Nm.label,Bool.or_eq_true,Bool.and_eq_true,decide_eq_true_eq] at this;rcases this with h | ⟨_,rfl⟩
 ·omega
 ·simp
theorem Yj (z:aU) (q:aS) (cut:Text) (b:Bool) (w:Text) (V:gd z) (hq:Nm.valid q.name=true) (hu:Nm.under q.name z.ab=true):aC E 100 [bF z q cut b w,bu z] [.ptr 0 0] (fun x h=>x = .d (.str ((rB z.af q.name).getD []))∧h=[bF z q cut b w,bu z]):=by
 have c0:=fun n hn=>Aw z q cut b w n V hn;unfold bF bu at c0;apply aC.kG
 case hk=>rfl
 case hc =>
  unfold bF bu;refine aC.run aj (fn:=Tryz.f100) Tryz.func100 (body:=Tryz.f100.body.getD .skip) rfl (by decide) 2000 rfl ?_;(conv=>whnf);refine aa.loop (κ:=Text) ([3]++rg 13 17) (fun c=>[(3,.d (.str c))]) (fun _=>[]) (fun c=>Nm.valid c=true∧Nm.under c z.ab=true∧mW z.af (Nm.labels q.name)=mW z.af (Nm.labels c)) (fun c=>(Nm.labels c).length) q.name ⟨hq,hu,rfl⟩ ?_ ?_
  ·exact sZ
  rintro c ⟨k1,k2,k3⟩ IH;refine aa.head aj Tryz.func100 2000 ?_;(conv=>whnf);have c1:=c0 c k1;have mN:=Oz c (by have:=fF k1; exact o9 (by omega));unfold vc at mN;rw [k1] at mN;have hl:=O8 k1;have fin:jA z.af c=true→rB z.af q.name=oR ([42]::Nm.labels c):=fun h=>by rw [rB,k3,Yh h]
  have hj:=X7 ([42]::Nm.labels c) (by simp; omega) (fun t ht=>by
   rcases List.mem_cons.1 ht with rfl | h
   ·simp
   ·exact hl.2 t h)
  by_cases h4:c=z.ab
  ·rw [fin (by rw [h4]; exact V.Xu)];clear fin IH;refine aI (by simpa using h4) ?_;refine gO Tryz.func100 ?_;refine ba ?_;refine gO Tryz.func100 ?_;refine ar mN ?_;(conv=>whnf);refine aa.run aj Tryz.func100 8 ?_;(conv=>whnf);refine aa.qS aj rfl ?_;refine gO Tryz.func100 ?_;refine bQ ⟨by simp; omega,by simp [DV.cells]⟩ ?_;(conv=>whnf);refine aa.freeze 2 ?_;(conv=>whnf);refine gO Tryz.func100 ?_;cases hJ:oR ([42]::Nm.labels c) with
   |none =>
    rw [hJ] at hj;refine ar (hj) ?_;refine gO Tryz.func100 ?_;refine bq ?_;refine gO Tryz.func100 ?_;exact ⟨rfl,rfl⟩
   |some t =>
    rw [hJ] at hj;refine ar (hj) ?_;refine gO Tryz.func100 ?_;refine ba ?_;refine gO Tryz.func100 ?_;exact ⟨rfl,rfl⟩
  ·refine aM (by simpa using h4) ?_;have hr:c≠[46]:=fun e=>h4 (by rw [e] at k2 ⊢; exact (O6 k2).symm);refine gO Tryz.func100 ?_
   with_reducible refine bR (c1) ?_
   refine gO Tryz.func100 ?_;cases h5:jA z.af c
   ·refine bq ?_;have c5:=O3 c k1 hr;refine gO Tryz.func100 ?_;refine ar (c5) ?_;refine gO Tryz.func100 ?_;refine aa.back (IH (gL (Nm.labels c).tail) ⟨(xE k1 hr).1,HZ k1 hr k2 h4,by rw [k3,Yi h5,(xE k1 hr).2]⟩ (O7 k1 hr)) ?_;exact sZ
   ·rw [fin h5];clear fin IH;refine ba ?_;refine gO Tryz.func100 ?_;refine ar mN ?_;(conv=>whnf);refine aa.run aj Tryz.func100 8 ?_;(conv=>whnf);refine aa.qS aj rfl ?_;refine gO Tryz.func100 ?_;refine bQ ⟨by simp; omega,by simp [DV.cells]⟩ ?_;(conv=>whnf);refine aa.freeze 2 ?_;(conv=>whnf);refine gO Tryz.func100 ?_;cases hJ:oR ([42]::Nm.labels c) with
    |none =>
     rw [hJ] at hj;refine ar (hj) ?_;refine gO Tryz.func100 ?_;refine bq ?_;refine gO Tryz.func100 ?_;exact ⟨rfl,rfl⟩
    |some t =>
     rw [hJ] at hj;refine ar (hj) ?_;refine gO Tryz.func100 ?_;refine ba ?_;refine gO Tryz.func100 ?_;exact ⟨rfl,rfl⟩
end Go.Proofs.YtcmnpelmmekdkaaGreatDoor.P
end
section
namespace Go.Proofs.YtcmnpelmmekdkaaGreatDoor.P
open Go Go.ax
set_option maxRecDepth 100000
set_option maxHeartbeats 4000000
def H5:DV := .agg [.int .i64 0,.a8,.str []]
theorem Yk (z:aU) (q:aS) (cut:Text) (b:Bool) (w:Text) (V:gd z) (hf:z.mc) (hq:Nm.valid q.name=true) (he:jA z.af q.name=true):aC E 56 [bF z q cut b w,bu z] [.ptr 0 0] (fun x h=>x = .aL [.d (oT 5 (dI z.af (cV [aO z.af ⟨z.ab,4⟩,eM z.af q.name])) []),.d (.bool true)]∧h=[bF z q cut b w,bu z]):=by
 have c0:=Aw z q cut b w q.name V hq;have c1:=HK z q cut b w V.sorted;have c3:=vi z q cut b w q.name V hq;have ai:=(ib (l:=z.af) (q:=⟨z.ab,4⟩)).2;have gX:=(va (l:=z.af) (n:=q.name)).2;rw [he] at c0;generalize aO z.af ⟨z.ab,4⟩=i at *;generalize eM z.af q.name=j at *;have c2:=mh z q cut b w 5 [i,j] hf (fun p hp=>by simp at hp; rcases hp with rfl | rfl <;> assumption) (by simp);simp only [List.map_cons,List.map_nil] at c2;unfold bF bu at c0 c1 c2 c3;apply aC.kG
 case hk=>rfl
 case hc =>
  unfold bF bu;refine aC.run aj (fn:=Tryz.f56) Tryz.func56 (body:=Tryz.f56.body.getD .skip) rfl (by decide) 2000 rfl ?_;conv=>whnf
  with_reducible refine bR (c0) ?_
  refine gO Tryz.func56 ?_;refine bq ?_;refine gO Tryz.func56 ?_;refine aa.draw aj bW 12 2000 (by kernel_rfl) ?_;(conv=>whnf);refine cb.jW (ah:=[0,1]) c1 rfl rfl ff (jY (bh rfl)) (by decide) (by simp) rfl rfl rfl ?_;refine gD ?_;refine cb.jW (ah:=[0,1]) c3 rfl rfl ff (mg (bh rfl) (bh rfl)) (by decide) (by simp) rfl rfl rfl ?_;refine gD ?_;refine cb.jW (ah:=[0,1]) c2 rfl rfl ff (pU (bh rfl) pT (bh rfl)) (by decide) (by simp) rfl rfl rfl ?_;refine gD ?_;refine gS ?_;refine gO Tryz.func56 ?_;exact ⟨rfl,rfl⟩
theorem Yl (z:aU) (q:aS) (cut:Text) (b:Bool) (w:Text) (V:gd z) (hq:Nm.valid q.name=true) (hu:Nm.under q.name z.ab=true) (he:jA z.af q.name=false):aC E 56 [bF z q cut b w,bu z] [.ptr 0 0] (fun x h=>x = .aL [.d H5,.d (.bool false)]∧h=[bF z q cut b ((rB z.af q.name).getD []),bu z]):=by
 have c0:=Aw z q cut b w q.name V hq;have c1:=Yj z q cut b w V hq hu;rw [he] at c0;unfold bF bu at c0 c1;apply aC.kG
 case hk=>rfl
 case hc =>
  unfold bF bu;refine aC.run aj (fn:=Tryz.f56) Tryz.func56 (body:=Tryz.f56.body.getD .skip) rfl (by decide) 2000 rfl ?_;conv=>whnf
  with_reducible refine bR (c0) ?_
  refine gO Tryz.func56 ?_;refine ba ?_;refine gO Tryz.func56 ?_
  with_reducible refine bR (c1) ?_
  refine gO Tryz.func56 ?_;exact ⟨rfl,rfl⟩
theorem O9 (z:aU) (q:aS) (cut:Text) (b:Bool) (w:Text) (V:gd z) (hw:w=[]∨(Nm.valid w=true∧jA z.af w=false)):aC E 59 [bF z q cut b w,bu z] [.ptr 0 0] (fun x h=>x = .aL [.d H5,.d (.bool false)]∧h=[bF z q cut b w,bu z]):=by
 apply aC.kG
 case hk=>rfl
 case hc =>
  by_cases h0:w=[]
  ·subst h0;unfold bF bu;refine aC.run aj (fn:=Tryz.f59) Tryz.func59 (body:=Tryz.f59.body.getD .skip) rfl (by decide) 2000 rfl ?_;(conv=>whnf);refine aM (by decide) ?_;refine gO Tryz.func59 ?_;refine bq ?_;refine gO Tryz.func59 ?_;exact ⟨rfl,rfl⟩
  ·obtain ⟨h1,h2⟩:=hw.resolve_left h0;have c0:=Aw z q cut b w w V h1;rw [h2] at c0;unfold bF bu at c0 ⊢;refine aC.run aj (fn:=Tryz.f59) Tryz.func59 (body:=Tryz.f59.body.getD .skip) rfl (by decide) 2000 rfl ?_;(conv=>whnf);refine aI (by simpa using h0) ?_;refine gO Tryz.func59 ?_
   with_reducible refine bR (c0) ?_
   refine gO Tryz.func59 ?_;refine bq ?_;refine gO Tryz.func59 ?_;exact ⟨rfl,rfl⟩
theorem Ym (z:aU) (q:aS) (cut:Text) (b:Bool) (w:Text) (V:gd z) (hf:z.mc) (hq:Nm.valid q.name=true) (hw:Nm.valid w=true) (he:jA z.af w=true):aC E 59 [bF z q cut b w,bu z] [.ptr 0 0] (fun x h=>x = .aL [.d (oT 5 (dI z.af (cV [aO z.af ⟨z.ab,4⟩,eM z.af q.name,eM z.af w])) []),.d (.bool true)]∧h=[bF z q cut b w,bu z]):=by
 have c0:=Aw z q cut b w w V hw;have c1:=HK z q cut b w V.sorted;have c3:=vi z q cut b w q.name V hq;have c4:=vi z q cut b w w V hw;have ai:=(ib (l:=z.af) (q:=⟨z.ab,4⟩)).2;have gX:=(va (l:=z.af) (n:=q.name)).2;have XY:=(va (l:=z.af) (n:=w)).2;have h0:w≠[]:=fun e=>by rw [e] at hw; exact absurd hw (by decide)
 rw [he] at c0;generalize aO z.af ⟨z.ab,4⟩=i at *;generalize eM z.af q.name=j at *;generalize eM z.af w=m at *;have c2:=mh z q cut b w 5 [i,j,m] hf (fun p hp=>by simp at hp; rcases hp with rfl | rfl | rfl <;> assumption) (by simp);simp only [List.map_cons,List.map_nil] at c2;unfold bF bu at c0 c1 c2 c3 c4;apply aC.kG
 case hk=>rfl
 case hc =>
  unfold bF bu;refine aC.run aj (fn:=Tryz.f59) Tryz.func59 (body:=Tryz.f59.body.getD .skip) rfl (by decide) 2000 rfl ?_;(conv=>whnf);refine aI (by simpa using h0) ?_;refine gO Tryz.func59 ?_
  with_reducible refine bR (c0) ?_
  refine gO Tryz.func59 ?_;refine ba ?_;refine gO Tryz.func59 ?_;refine aa.draw aj bW 18 2000 (by kernel_rfl) ?_;(conv=>whnf);refine cb.jW (ah:=[0,1]) c1 rfl rfl ff (jY (bh rfl)) (by decide) (by simp) rfl rfl rfl ?_;refine gD ?_;refine cb.jW (ah:=[0,1]) c3 rfl rfl ff (mg (bh rfl) (bh rfl)) (by decide) (by simp) rfl rfl rfl ?_;refine gD ?_;refine cb.jW (ah:=[0,1]) c4 rfl rfl ff (mg (bh rfl) (bh rfl)) (by decide) (by simp) rfl rfl rfl ?_;refine gD ?_;refine cb.jW (ah:=[0,1]) c2 rfl rfl ff (pU (bh rfl) pT (bh rfl)) (by decide) (by simp) rfl rfl rfl ?_;refine gD ?_;refine gS ?_;refine gO Tryz.func59 ?_;exact ⟨rfl,rfl⟩
end Go.Proofs.YtcmnpelmmekdkaaGreatDoor.P
end
