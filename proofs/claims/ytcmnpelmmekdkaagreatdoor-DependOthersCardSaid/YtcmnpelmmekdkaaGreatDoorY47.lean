/- Several texts of mine, one behind the other. Conditions: as each says. -/
import Derived.Test.YtcmnpelmmekdkaaGreatDoorY46
set_option linter.unusedVariables false
set_option linter.unusedSimpArgs false
section
namespace Go.Proofs.YtcmnpelmmekdkaaGreatDoor.P
open Go Go.ax
set_option maxRecDepth 100000
set_option maxHeartbeats 4000000
theorem DT {G:List (Nat × DV)} {s:List AV}:bp G s (.const (.slice none 0 0)) (.d .a8):=fun c a _ _ => .d _ _ .a8
theorem aaO (es:List (DV × DV)):aC E 35 [.map es] [.map 0] (fun a b=>a = .fn (.func 75) [] [.ptr 1 0]∧b=[.map es,.cells [.map 0]]):=by
 refine aC.run aj (fn:=Tryz.f35) Tryz.func35 (body:=Tryz.f35.body.getD .skip) rfl (by decide) 2000 rfl ?_;(conv=>whnf);exact ⟨rfl,rfl⟩
theorem I8 (w:ca) (s:Text) (hf:w.Fits) (iU:s.length≤maxLen):aA E 11 [w.enc,.str s] (· = .aL [AS (ke w s),.int .i64 (kL w s)]):=by
 have cw:=DF w hf;have cs:=lk s iU;have gP:dn w=false∨Nm.valid s=false→ke w s=[]∧kL w s=1:=fun h=>by
  have:¬ (dn w&&Nm.valid s)=true:=by rcases h with h | h <;> simp [h]
  exact ⟨if_neg this,if_neg this⟩
 cases h1:dn w
 ·obtain ⟨e1,e2⟩:=gP (.inl h1);rw [h1] at cw;rw [e1,e2];refine eP Tryz.func11 ?_;refine ar (cw) ?_;refine gO Tryz.func11 ?_;refine bq ?_;refine gO Tryz.func11 ?_;refine bq ?_;refine gO Tryz.func11 ?_;rfl
 cases h2:Nm.valid s
 ·obtain ⟨e1,e2⟩:=gP (.inr h2);rw [h1] at cw;rw [h2] at cs;rw [e1,e2];refine eP Tryz.func11 ?_;refine ar (cw) ?_;refine gO Tryz.func11 ?_;refine ba ?_;refine gO Tryz.func11 ?_;refine ar (cs) ?_;refine gO Tryz.func11 ?_;refine bq ?_;refine gO Tryz.func11 ?_;rfl
 rw [h1] at cw;rw [h2] at cs;obtain ⟨H,hl⟩:=mj h1;have e1:ke w s=cB w.aq s:=if_pos (by simp [h1,h2]);have e2:kL w s=0:=if_pos (by simp [h1,h2]);have aJ:cB w.aq s≠[]:=fun e=>by
  have:=DA (s:=s) H;rw [e] at this;cases this
 have e3:AS (cB w.aq s) = .sl ((cB w.aq s).map .str):=if_neg aJ;rw [e1,e2,e3];have c0:=QH w s hf.aq H hl h2;have tg:=IT rC (fL (dM w.aq s));obtain ⟨Z,hZ⟩:∃ x,fu [] (fL (dM w.aq s))=x:=⟨_,rfl⟩;have pZ:∀ z,z∈Z↔z∈fL (dM w.aq s):=fun z=>by rw [← hZ,vg]; simp
 have xV:Z.Nodup:=by rw [← hZ]; exact As List.nodup_nil
 rw [hZ] at tg;rw [tg] at c0;clear tg hZ;have gG:Z.length≤2000000000:=by
  have h:=ZR (s:=s) H hl;exact Nat.le_trans (s4 xV fun x hx=>lC.2 ((pZ x).1 hx)) h
 have pb:∀ z∈Z,Nm.valid z=true:=fun z hz=>Is H z (lC.2 ((pZ z).1 hz));obtain ⟨es,vB⟩:∃ es,(Z.map fun a=>(DV.str a,DV.bool true))=es:=⟨_,rfl⟩;rw [vB] at c0;refine eP Tryz.func11 ?_;refine ar (cw) ?_;refine gO Tryz.func11 ?_;refine ba ?_;refine gO Tryz.func11 ?_;refine ar (cs) ?_;refine gO Tryz.func11 ?_;refine ba ?_;refine gO Tryz.func11 ?_;refine wD (ds:=[w.enc,.str s]) c0 ?_;rintro r b ⟨rfl,rfl⟩;refine gO Tryz.func11 ?_
 with_reducible refine bR (aaO es) ?_
 (conv=>whnf);repeat ((fail_if_success (first | (refine aa.nQ (fn:=Tryz.f34) rfl rfl ff (mg (bh rfl) ff) Tryz.func34 rfl (by decide) ?_) | fail)); (refine aa.run aj Tryz.func11 1 ?_); (conv=>whnf))
 refine aa.nQ (fn:=Tryz.f34) rfl rfl ff (mg (bh rfl) ff) Tryz.func34 rfl (by decide) ?_;(conv=>whnf);(conv=>whnf);repeat ((fail_if_success (first | (refine aa.nQ (fn:=Tryz.f73) rfl rfl ff (jY (bh rfl)) Tryz.func73 rfl (by decide) ?_) | fail)); (refine aa.run aj Tryz.func34 1 ?_); (conv=>whnf))
 refine aa.nQ (fn:=Tryz.f73) rfl rfl ff (jY (bh rfl)) Tryz.func73 rfl (by decide) ?_;(conv=>whnf);(conv=>whnf);repeat ((fail_if_success (first | (refine aa.nQ (fn:=Tryz.f113) rfl rfl ff (mg DT (bh rfl)) Tryz.func113 rfl (by decide) ?_) | fail)); (refine aa.run aj Tryz.func73 1 ?_); (conv=>whnf))
 refine aa.nQ (fn:=Tryz.f113) rfl rfl ff (mg DT (bh rfl)) Tryz.func113 rfl (by decide) ?_;(conv=>whnf);(conv=>whnf);(conv=>whnf);repeat ((fail_if_success (first | (refine aa.rz 7 0 (9,1) (by decide) rfl rfl ?_) | fail)); (refine aa.run aj Tryz.func113 1 ?_); (conv=>whnf))
 refine aa.rz 7 0 (9,1) (by decide) rfl rfl ?_;(conv=>whnf);(conv=>whnf);repeat ((fail_if_success (first | (refine aa.rangeFunc (bh rfl) Tryz.func75 rfl (by decide) rfl (fun ll d t=>?_)) | fail)); (refine aa.run aj Tryz.func113 1 ?_); (conv=>whnf))
 refine aa.rangeFunc (bh rfl) Tryz.func75 rfl (by decide) rfl (fun ll d t=>?_);(conv=>whnf);(conv=>whnf);repeat ((fail_if_success (first | (refine aa.range aj rfl rfl rfl rfl (bh rfl) rfl (Nat.zero_le _) (fun it qM jg ry=>?_)) | fail)); (refine aa.run aj Tryz.func75 1 ?_); (conv=>whnf))
 refine aa.range aj rfl rfl rfl rfl (bh rfl) rfl (Nat.zero_le _) (fun it qM jg ry=>?_);(conv=>whnf);obtain ⟨bm,r,en,ck,since,seen,ew⟩:=it;simp only at qM jg ry;subst qM; subst jg;refine gO Tryz.func75 ?_;refine aa.Od (κ:=List Nat) ([1,4]++[3,6,7,8,9,10,11,12,13]) (fun _=>[]) (fun x=>[(6,.gone),(7,.cells [.own 8 1]),(8,.arr 1 (9,1) ((kM Z x).map .str))]) (fun x=>[.iter ⟨bm,r,en,ck,since,x,ew⟩]) (fun x=>x.Nodup∧∀ j∈x,j<Z.length) (fun x=>Z.length - x.length) [] ⟨List.nodup_nil,fun j hj=>by cases hj⟩ rfl ?_ ?_
 ·(conv=>whnf);repeat (first | exact trivial | (refine sI ?_; conv=>whnf))
  refine And.intro rfl ?_;exact sZ
 rintro seen ⟨oN,vC⟩ IH;have nT:=Qf (xs:=Z) (seen:=seen);have aaP:=DK oN vC;refine aa.head aj Tryz.func75 2000 ?_;(conv=>whnf);refine aa.next (it:=⟨bm,r,en,ck,since,seen,ew⟩) (g1:=[]) (g2:=[]) rfl rfl ry rfl (bh rfl) (fun aT=>?_) (fun j kk y hj l5=>?_)
 ·refine gO Tryz.func75 ?_;refine ba ?_;refine gO Tryz.func75 ?_;refine aa.xy aj Tryz.func75 rfl rfl rfl rfl (fun e=>nomatch e) ?_;(conv=>whnf);have nb:(kM Z seen).Perm Z:=Qg oN vC fun j hj=>aT j (by rw [← vB]; simpa using hj);generalize kM Z seen=K at nb nT ⊢;have aaQ:K≠[]:=fun e=>by
   subst e;have F8:Z=[]:=List.nil_perm.1 nb;have:=(pZ [46]).2 (lC.1 (DA H));rw [F8] at this; cases this
  have c3:=aaz K aaQ (by rw [nb.length_eq]; omega) (fun x hx=>pb x (nb.mem_iff.1 hx));(conv=>whnf);repeat ((fail_if_success (first | (refine aa.nR aj Tryz.func113 rfl rfl rfl (L:=[]) rfl ?_) | fail)); (refine aa.run aj Tryz.func113 1 ?_); (conv=>whnf))
  refine aa.nR aj Tryz.func113 rfl rfl rfl (L:=[]) rfl ?_;(conv=>whnf);(conv=>whnf);repeat ((fail_if_success (first | (refine aa.nR aj Tryz.func73 rfl rfl rfl (L:=[]) rfl ?_) | fail)); (refine aa.run aj Tryz.func73 1 ?_); (conv=>whnf))
  refine aa.nR aj Tryz.func73 rfl rfl rfl (L:=[]) rfl ?_;(conv=>whnf);refine gO Tryz.func34 ?_
  with_reducible refine uf (c3) ?_
  rintro r b ⟨rfl,L,p1,p2,rfl⟩;(conv=>whnf);(conv=>whnf);repeat ((fail_if_success (first | (refine aa.nR aj Tryz.func34 rfl rfl rfl (L:=[]) rfl ?_) | fail)); (refine aa.run aj Tryz.func34 1 ?_); (conv=>whnf))
  refine aa.nR aj Tryz.func34 rfl rfl rfl (L:=[]) rfl ?_;(conv=>whnf);refine gO Tryz.func11 ?_;rw [ZO xV pZ (p1.trans nb) p2]
 ·obtain ⟨z,hz,e⟩:∃ z,Z[j]? = some z∧(DV.str z,DV.bool true)=(kk,y):=by rw [← vB] at hj; simpa using hj
  cases e;have kR:=aZ hz;have I9:=IU (seen:=seen) hz;have fm:(seen++[j]).Nodup:=by
   rw [List.nodup_append];exact ⟨oN,by simp,fun a ha b hb e=>by simp at hb; subst hb; subst e; exact l5 ha⟩
  have A2:∀ i∈seen++[j],i<Z.length:=fun i hi=>by rcases List.mem_append.1 hi with h | h; exact vC i h; simp at h; omega
  have I':=DK fm A2;rw [List.length_append,List.length_singleton] at I';refine gO Tryz.func75 ?_;refine bq ?_;refine gO Tryz.func75 ?_;refine aa.entry (it:=⟨bm,r,en,ck,since,seen++[j],ew⟩) (g1:=[]) (g2:=[]) (pre:=seen) (j:=j) rfl rfl rfl rfl hj (bh rfl) ?_;(conv=>whnf);repeat ((fail_if_success (first | (refine aa.yield 0 rfl rfl rfl (bh rfl) (jY (bh rfl)) rfl ?_) | fail)); (refine aa.run aj Tryz.func75 1 ?_); (conv=>whnf))
  refine aa.yield 0 rfl rfl rfl (bh rfl) (jY (bh rfl)) rfl ?_;(conv=>whnf);(conv=>whnf);repeat ((fail_if_success (first | (refine aa.begin 0 rfl rfl rfl ?_) | fail)); (refine aa.run aj Tryz.func113 1 ?_); (conv=>whnf))
  refine aa.begin 0 rfl rfl rfl ?_;(conv=>whnf);refine gO Tryz.func113 ?_;refine bQ ⟨by simp; omega,by simp [DV.cells]⟩ ?_;refine gO Tryz.func113 ?_;refine aa.Al 0 rfl rfl rfl ?_;(conv=>whnf);refine gO Tryz.func75 ?_;refine aI (by decide) ?_;refine gO Tryz.func75 ?_;refine aa.back (IH (seen++[j]) ⟨fm,A2⟩ (by simp; omega)) ?_;(conv=>whnf);repeat (first | exact trivial | (refine sI ?_; conv=>whnf))
  refine And.intro (by rw [I9]; simp) ?_;exact sZ
end Go.Proofs.YtcmnpelmmekdkaaGreatDoor.P
end
section
namespace Go.Proofs.YtcmnpelmmekdkaaGreatDoor.P
open Go Go.ax Go.Sort
set_option maxRecDepth 100000
set_option maxHeartbeats 4000000
theorem QK {w:ca} {zs:List Text} {K:List Int} (hK:K.Nodup) (hm:∀ o,o∈K↔∃ p∈w.aq,kf w p=o∧p.ay.ab∈zs) (hr:∀ p∈w.aq,0≤kf w p∧kf w p<32):jC K=nX w zs 32:=by
 refine Dt (lt:=fun a b:Int=>decide (a<b)) (fun a=>by simp) (fun a b c h k=>by simp at *; omega) ?_ P' fun o=>?_
 ·have h1:=aaR K;have h2:(jC K).Nodup:=(A3 K).nodup_iff.2 hK;rw [List.nodup_iff_pairwise_ne] at h2;exact (h1.and h2).imp fun {a b} h=>by simp; omega
 ·rw [(A3 K).mem_iff,hm,P9,IS];constructor
  ·rintro ⟨p,h1,h2,h3⟩;have:=hr p h1;exact ⟨by rw [← h2]; exact this,p,h1,h2,h3⟩
  ·exact fun h=>h.2
theorem aaW:aC E 82 [.arr 0 (3,1) []] [.own 0 0] (fun a b=>a = .aL []∧b=[.arr 0 (3,1) []]):=by
 unfold aC;refine ⟨⟨_,Tryz.func82,rfl,by decide⟩,sk rfl,fun c vs h1 h2 h3=>?_⟩;obtain ⟨v1,rfl⟩:∃ v1,vs=[v1]:=by
  have:=h3.1
  match vs,this with
  | [a],_=>exact ⟨a,rfl⟩
 have dX:c.heap[0]? = some (.arr 0 (3,1) []):=by rw [h1]; rfl
 obtain ⟨p,cap,rfl⟩:∃ p cap,v1 = .slice p 0 cap:=by
  rcases oh dX (h3.2 0 _ v1 rfl rfl) with ⟨blk,cap,_,rfl⟩ | ⟨_,rfl,_⟩
  ·exact ⟨_,cap,rfl⟩
  ·exact ⟨_,_,rfl⟩
 refine (AnyM.slices_Sort_int_none Tryz.sortInt p cap c.w).mono fun e w' ⟨a1,a2⟩=>?_;subst a2;exact ⟨c,.aL [],.tuple #[],a1,rfl,⟨rfl,h1⟩,.aL [] #[] rfl (fun j x v hx=>by simp at hx),h2,Rel.refl c (by rw [h1]; exact sk rfl)⟩
theorem aaX (l:List Int) (hlen:l.length<4611686018427387904):aC E 82 [.arr 0 (3,1) (l.map (DV.int .i64))] [.own 0 0] (fun a b=>a = .aL []∧b=[.arr 0 (3,1) ((jC l).map (DV.int .i64))]):=by
 by_cases h:l=[]
 ·subst h;have e:jC []=[]:=List.perm_nil.1 (A3 []);rw [e];exact aaW
 ·exact aaV l h hlen
def gE (w:ca) (zs:List Text) (k:Nat):List Int:=((w.aq.take k).filter fun p=>decide (p.ay.ab∈zs)).map (kf w)
theorem QL {w:ca} {zs:List Text} {k:Nat} {p:aB} (h:w.aq[k]? = some p):gE w zs (k+1)=if p.ay.ab∈zs then gE w zs k++[kf w p] else gE w zs k:=by
 rw [gE,eI h,List.filter_append,List.map_append];by_cases hp:p.ay.ab∈zs <;> simp [hp,gE]
theorem Ja {es:List (DV × DV)} (h:lA (DV.int .i64) es):∀ p∈es,ef E.T (.int .i64) p.1:=fun p hp=>by
 obtain ⟨n,e⟩:=h p hp;rw [e];exact ⟨_,rfl⟩
theorem aaY (es:List (DV × DV)):aC E 40 [.map es] [.map 0] (fun a b=>a = .fn (.func 83) [] [.ptr 1 0]∧b=[.map es,.cells [.map 0]]):=by
 refine aC.run aj (fn:=Tryz.f40) Tryz.func40 (body:=Tryz.f40.body.getD .skip) rfl (by decide) 2000 rfl ?_;(conv=>whnf);exact ⟨rfl,rfl⟩
theorem Jb (w:ca) (s:Text) (hf:w.Fits) (iU:s.length≤maxLen):aA E 13 [w.enc,.str s] (· = .aL [.sl ((vz w s).map (.int .i64)),.int .i64 (kL w s)]):=by
 have cw:=DF w hf;have cs:=lk s iU;have gP:dn w=false∨Nm.valid s=false→vz w s=[]∧kL w s=1:=fun h=>by
  have:¬ (dn w&&Nm.valid s)=true:=by rcases h with h | h <;> simp [h]
  exact ⟨if_neg this,if_neg this⟩
 cases h1:dn w
 ·obtain ⟨e1,e2⟩:=gP (.inl h1);rw [h1] at cw;rw [e1,e2];refine aA.norm ?_;refine eP Tryz.func13 ?_;refine ar (cw) ?_;refine gO Tryz.func13 ?_;refine bq ?_;refine gO Tryz.func13 ?_;refine bq ?_;refine gO Tryz.func13 ?_;rfl
 cases h2:Nm.valid s
 ·obtain ⟨e1,e2⟩:=gP (.inr h2);rw [h1] at cw;rw [h2] at cs;rw [e1,e2];refine aA.norm ?_;refine eP Tryz.func13 ?_;refine ar (cw) ?_;refine gO Tryz.func13 ?_;refine ba ?_;refine gO Tryz.func13 ?_;refine ar (cs) ?_;refine gO Tryz.func13 ?_;refine bq ?_;refine gO Tryz.func13 ?_;rfl
 rw [h1] at cw;rw [h2] at cs;obtain ⟨H,hl⟩:=mj h1;have A4:=Qc h1;have e1:vz w s=nX w (cB w.aq s) 32:=if_pos (by simp [h1,h2]);have e2:kL w s=0:=if_pos (by simp [h1,h2]);have kj:∀ z,z∈fL (dM w.aq s)↔z∈cB w.aq s:=fun z=>lC.symm;rw [e1,e2];have c0:=QH w s hf.aq H hl h2;obtain ⟨zs,gm⟩:∃ x,fL (dM w.aq s)=x:=⟨_,rfl⟩;rw [gm] at c0 kj;refine eP Tryz.func13 ?_;refine ar (cw) ?_;refine gO Tryz.func13 ?_;refine ba ?_;refine gO Tryz.func13 ?_;refine ar (cs) ?_;refine gO Tryz.func13 ?_;refine ba ?_;refine gO Tryz.func13 ?_;refine wD (ds:=[w.enc,.str s]) c0 ?_;rintro r b ⟨rfl,rfl⟩;refine gO Tryz.func13 ?_;refine gO Tryz.func13 ?_;refine aa.loop (κ:=Nat) ([9]++rg 25 18) (fun k=>[(25,.d (.int .i64 k))]) (fun k=>[(6,.map (fq (DV.int .i64) (gE w zs k)))]) (fun k=>k≤w.aq.length) (fun k=>w.aq.length - k) 0 (Nat.zero_le _) ?_ ?_
 ·(conv=>whnf);repeat (first | exact trivial | (refine sI ?_; conv=>whnf))
  refine And.intro rfl ?_;exact sZ
 intro k hk IH;refine aa.head aj Tryz.func13 2000 ?_;(conv=>whnf);refine aw (fun h5=>?_) (fun h5=>?_)
 ·have ai:k<w.aq.length:=by simpa using h5
  obtain ⟨p,hp⟩:=aY ai;obtain ⟨x,hx,q1,q2,q3,q4⟩:=A4 p (List.mem_of_getElem? hp);have bS:=QL (zs:=zs) hp;obtain ⟨mG,s9⟩:=Ar rC zs p.ay.ab;have dD:=s8 (pR rC zs).1;have vw:=Ja (pR xD (gE w zs k)).1;refine gO Tryz.func13 ?_;refine aF (e:=p.enc) (a7 hp) rfl ?_;refine gO Tryz.func13 ?_;refine iR (.bool false) (.bool false) ⟨_,rfl⟩ dD (fun w=>by kernel_rfl) (fun _ _ => .bool _) mG s9 ?_;refine gO Tryz.func13 ?_;by_cases hm:p.ay.ab∈zs
  ·rw [if_pos hm] at bS;refine aM (by simp [hm]) ?_;refine gO Tryz.func13 ?_;refine aF (e:=x.enc) ⟨q1,by rw [List.getElem?_map,hx]; rfl⟩ rfl ?_;refine gO Tryz.func13 ?_;refine bQ ⟨⟨_,rfl⟩,vw⟩ ?_;refine gO Tryz.func13 ?_;refine aa.back (IH (k+1) (by omega) (by omega)) ?_;(conv=>whnf);repeat (first | exact trivial | (refine sI ?_; conv=>whnf))
   refine And.intro (by rw [bS,xC,q2]) ?_;exact sZ
  ·rw [if_neg hm] at bS;refine aI (by simp [hm]) ?_;refine gO Tryz.func13 ?_;refine aa.back (IH (k+1) (by omega) (by omega)) ?_;(conv=>whnf);repeat (first | exact trivial | (refine sI ?_; conv=>whnf))
   refine And.intro (by rw [bS]) ?_;exact sZ
 have aP : k = w.aq.length := by have : w.aq.length ≤ k := by simpa using h5
                                 omega
 subst aP;have tg:=IT xD (gE w zs w.aq.length);obtain ⟨Z,hZ⟩:∃ x,fu [] (gE w zs w.aq.length)=x:=⟨_,rfl⟩;have pZ:∀ o,o∈Z↔∃ p∈w.aq,kf w p=o∧p.ay.ab∈cB w.aq s:=fun o=>by
  rw [← hZ,vg,gE,List.take_length];simp only [List.not_mem_nil,false_or,List.mem_map,List.mem_filter,decide_eq_true_eq];constructor
  ·rintro ⟨p,⟨a1,a2⟩,rfl⟩; exact ⟨p,a1,rfl,(kj _).1 a2⟩
  ·rintro ⟨p,a1,rfl,a2⟩; exact ⟨p,⟨a1,(kj _).2 a2⟩,rfl⟩
 have hr:∀ p∈w.aq,0≤kf w p∧kf w p<32:=fun p hp=>by
  obtain ⟨x,hx,q1,q2,q3,q4⟩:=A4 p hp;rw [q2]; exact ⟨q3,q4⟩
 have xV:Z.Nodup:=by rw [← hZ]; exact As List.nodup_nil
 rw [hZ] at tg;have gG:Z.length≤2000000000:=by
  have h:=HE (acc:=[]) (l:=gE w zs w.aq.length);rw [hZ] at h;have h2:(gE w zs w.aq.length).length≤w.aq.length:=by
   rw [gE,List.length_map,List.take_length]; exact List.length_filter_le ..
  simp at h; omega
 obtain ⟨es,vB⟩:∃ es,(Z.map fun a=>(DV.int .i64 a,DV.bool true))=es:=⟨_,rfl⟩;rw [vB] at tg;rw [tg];clear tg hZ;refine gO Tryz.func13 ?_
 with_reducible refine bR (aaY es) ?_
 (conv=>whnf);repeat ((fail_if_success (first | (refine aa.nQ (fn:=Tryz.f39) rfl rfl ff (jY (bh rfl)) Tryz.func39 rfl (by decide) ?_) | fail)); (refine aa.run aj Tryz.func13 1 ?_); (conv=>whnf))
 refine aa.nQ (fn:=Tryz.f39) rfl rfl ff (jY (bh rfl)) Tryz.func39 rfl (by decide) ?_;(conv=>whnf);(conv=>whnf);repeat ((fail_if_success (first | (refine aa.nQ (fn:=Tryz.f81) rfl rfl ff (jY (bh rfl)) Tryz.func81 rfl (by decide) ?_) | fail)); (refine aa.run aj Tryz.func39 1 ?_); (conv=>whnf))
 refine aa.nQ (fn:=Tryz.f81) rfl rfl ff (jY (bh rfl)) Tryz.func81 rfl (by decide) ?_;(conv=>whnf);(conv=>whnf);repeat ((fail_if_success (first | (refine aa.nQ (fn:=Tryz.f125) rfl rfl ff (mg DT (bh rfl)) Tryz.func125 rfl (by decide) ?_) | fail)); (refine aa.run aj Tryz.func81 1 ?_); (conv=>whnf))
 refine aa.nQ (fn:=Tryz.f125) rfl rfl ff (mg DT (bh rfl)) Tryz.func125 rfl (by decide) ?_;(conv=>whnf);(conv=>whnf);(conv=>whnf);repeat ((fail_if_success (first | (refine aa.rz 8 0 (3,1) (by decide) rfl rfl ?_) | fail)); (refine aa.run aj Tryz.func125 1 ?_); (conv=>whnf))
 refine aa.rz 8 0 (3,1) (by decide) rfl rfl ?_;(conv=>whnf);(conv=>whnf);repeat ((fail_if_success (first | (refine aa.rangeFunc (bh rfl) Tryz.func83 rfl (by decide) rfl (fun ll d t=>?_)) | fail)); (refine aa.run aj Tryz.func125 1 ?_); (conv=>whnf))
 refine aa.rangeFunc (bh rfl) Tryz.func83 rfl (by decide) rfl (fun ll d t=>?_);(conv=>whnf);(conv=>whnf);repeat ((fail_if_success (first | (refine aa.range aj rfl rfl rfl rfl (bh rfl) rfl (Nat.zero_le _) (fun it qM jg ry=>?_)) | fail)); (refine aa.run aj Tryz.func83 1 ?_); (conv=>whnf))
 refine aa.range aj rfl rfl rfl rfl (bh rfl) rfl (Nat.zero_le _) (fun it qM jg ry=>?_);(conv=>whnf);obtain ⟨bm,r,en,ck,since,seen,ew⟩:=it;simp only at qM jg ry;subst qM; subst jg;refine gO Tryz.func83 ?_;refine aa.Od (κ:=List Nat) ([1,4]++[3,6,7,8,9,10,11,12,13]) (fun _=>[]) (fun x=>[(7,.gone),(8,.cells [.own 9 1]),(9,.arr 1 (3,1) ((kM Z x).map (.int .i64)))]) (fun x=>[.iter ⟨bm,r,en,ck,since,x,ew⟩]) (fun x=>x.Nodup∧∀ j∈x,j<Z.length) (fun x=>Z.length - x.length) [] ⟨List.nodup_nil,fun j hj=>by cases hj⟩ rfl ?_ ?_
 ·(conv=>whnf);repeat (first | exact trivial | (refine sI ?_; conv=>whnf))
  refine And.intro rfl ?_;exact sZ
 rintro seen ⟨oN,vC⟩ IH;have nT:=Qf (xs:=Z) (seen:=seen);have aaP:=DK oN vC;refine aa.head aj Tryz.func83 2000 ?_;(conv=>whnf);refine aa.next (it:=⟨bm,r,en,ck,since,seen,ew⟩) (g1:=[]) (g2:=[]) rfl rfl ry rfl (bh rfl) (fun aT=>?_) (fun j kk y hj l5=>?_)
 ·refine gO Tryz.func83 ?_;refine ba ?_;refine gO Tryz.func83 ?_;refine aa.xy aj Tryz.func83 rfl rfl rfl rfl (fun e=>nomatch e) ?_;(conv=>whnf);have nb:(kM Z seen).Perm Z:=Qg oN vC fun j hj=>aT j (by rw [← vB]; simpa using hj);generalize kM Z seen=K at nb nT ⊢;have c3:=aaX K (by rw [nb.length_eq]; omega);have hKn:K.Nodup:=nb.nodup_iff.2 xV;have hKm:∀ o,o∈K↔∃ p∈w.aq,kf w p=o∧p.ay.ab∈cB w.aq s:=fun o=>by rw [nb.mem_iff,pZ]
  (conv=>whnf);repeat ((fail_if_success (first | (refine aa.nR aj Tryz.func125 rfl rfl rfl (L:=[]) rfl ?_) | fail)); (refine aa.run aj Tryz.func125 1 ?_); (conv=>whnf))
  refine aa.nR aj Tryz.func125 rfl rfl rfl (L:=[]) rfl ?_;(conv=>whnf);(conv=>whnf);repeat ((fail_if_success (first | (refine aa.nR aj Tryz.func81 rfl rfl rfl (L:=[]) rfl ?_) | fail)); (refine aa.run aj Tryz.func81 1 ?_); (conv=>whnf))
  refine aa.nR aj Tryz.func81 rfl rfl rfl (L:=[]) rfl ?_;(conv=>whnf);refine gO Tryz.func39 ?_
  with_reducible refine bR c3 ?_
  (conv=>whnf);(conv=>whnf);repeat ((fail_if_success (first | (refine aa.nR aj Tryz.func39 rfl rfl rfl (L:=[]) rfl ?_) | fail)); (refine aa.run aj Tryz.func39 1 ?_); (conv=>whnf))
  refine aa.nR aj Tryz.func39 rfl rfl rfl (L:=[]) rfl ?_;(conv=>whnf);refine gO Tryz.func13 ?_;rw [QK hKn hKm hr]
 ·obtain ⟨z,hz,e⟩:∃ z,Z[j]? = some z∧(DV.int .i64 z,DV.bool true)=(kk,y):=by rw [← vB] at hj; simpa using hj
  cases e;have kR:=aZ hz;have I9:=IU (seen:=seen) hz;have fm:(seen++[j]).Nodup:=by
   rw [List.nodup_append];exact ⟨oN,by simp,fun a ha b hb e=>by simp at hb; subst hb; subst e; exact l5 ha⟩
  have A2:∀ i∈seen++[j],i<Z.length:=fun i hi=>by rcases List.mem_append.1 hi with h | h; exact vC i h; simp at h; omega
  have I':=DK fm A2;rw [List.length_append,List.length_singleton] at I';refine gO Tryz.func83 ?_;refine bq ?_;refine gO Tryz.func83 ?_;refine aa.entry (it:=⟨bm,r,en,ck,since,seen++[j],ew⟩) (g1:=[]) (g2:=[]) (pre:=seen) (j:=j) rfl rfl rfl rfl hj (bh rfl) ?_;(conv=>whnf);repeat ((fail_if_success (first | (refine aa.yield 0 rfl rfl rfl (bh rfl) (jY (bh rfl)) rfl ?_) | fail)); (refine aa.run aj Tryz.func83 1 ?_); (conv=>whnf))
  refine aa.yield 0 rfl rfl rfl (bh rfl) (jY (bh rfl)) rfl ?_;(conv=>whnf);(conv=>whnf);repeat ((fail_if_success (first | (refine aa.begin 0 rfl rfl rfl ?_) | fail)); (refine aa.run aj Tryz.func125 1 ?_); (conv=>whnf))
  refine aa.begin 0 rfl rfl rfl ?_;(conv=>whnf);refine gO Tryz.func125 ?_;refine bQ ⟨by simp; omega,by simp [DV.cells]⟩ ?_;refine gO Tryz.func125 ?_;refine aa.Al 0 rfl rfl rfl ?_;(conv=>whnf);refine gO Tryz.func83 ?_;refine aI (by decide) ?_;refine gO Tryz.func83 ?_;refine aa.back (IH (seen++[j]) ⟨fm,A2⟩ (by simp; omega)) ?_;(conv=>whnf);repeat (first | exact trivial | (refine sI ?_; conv=>whnf))
  refine And.intro (by rw [I9]; simp) ?_;exact sZ
end Go.Proofs.YtcmnpelmmekdkaaGreatDoor.P
end
