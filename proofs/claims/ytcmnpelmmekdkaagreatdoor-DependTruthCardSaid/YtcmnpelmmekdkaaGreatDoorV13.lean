/- Lemmas of mine. Conditions: as stated. -/
import Derived.Test.YtcmnpelmmekdkaaGreatDoorV11
import Derived.Test.YtcmnpelmmekdkaaGreatDoorV12
import Derived.Shelf.SlSortCmp.NoneTotal
import Derived.Shelf.SortM.SortNone
set_option linter.unusedVariables false
set_option linter.unusedSimpArgs false
section
namespace Go.Proofs.YtcmnpelmmekdkaaGreatDoor.P
open Go Go.aA
set_option maxRecDepth 100000
set_option maxHeartbeats 4000000
theorem A7(z:aQ)(q:aG)(ps:List Int)(V:eH z)(hf:z.gV)(hp:lO z.ab ps)(hl:ps.length<=1000)(h0:0<=aq z.ab q)(hn:aq z.ab q ∉ ps):aB E 160 [.arr 0 (57,5) ((bN z.ab ps).map Signed.enc)] [.own 0 0,.d z.enc,.d (.str q.name),.d (.int .i64 q.type)] (fun a b=>a=.own 0 1/\b=[.arr 1 (57,5) ((bN z.ab (ps++[aq z.ab q])).map Signed.enc)]):=by
 have c:=IE z q (bN z.ab ps) hf (by have:=vM (l:=z.ab) (ps:=ps);omega);have e1:mz z q (bN z.ab ps)=1:=by
  rw[mz,IF V.sorted hp h0,if_pos ⟨h0,by simp[hn]⟩]
 have e2:lR z q (bN z.ab ps)=bN z.ab (ps++[aq z.ab q]):=by
  rw[IG V.sorted hp,du,if_neg (by rintro(e|e);omega;exact hn e)]
 rw[e1,e2]at c;exact c
theorem A8(z:aQ)(q:aG)(ps:List Int)(V:eH z)(hf:z.gV)(hp:lO z.ab ps)(hl:ps.length<=1000)(h0:¬ 0<=aq z.ab q\/aq z.ab q∈ps):aB E 160 [.arr 0 (57,5) ((bN z.ab ps).map Signed.enc)] [.own 0 0,.d z.enc,.d (.str q.name),.d (.int .i64 q.type)] (fun a b=>a=.own 0 0/\b=[.arr 0 (57,5) ((bN z.ab ps).map Signed.enc)]):=by
 have c:=IE z q (bN z.ab ps) hf (by have:=vM (l:=z.ab) (ps:=ps);omega);have e1:mz z q (bN z.ab ps)=0:=by
  rw[mz];refine if_neg fun e=>?_;rcases h0 with h|h
  ·exact h e.1
  ·rw[IF V.sorted hp e.1,decide_eq_false_iff_not]at e;exact e.2 h
 have e2:lR z q (bN z.ab ps)=bN z.ab ps:=by
  rw[IG V.sorted hp,du,if_pos (h0.imp (by omega) id)]
 rw[e1,e2]at c;exact c
theorem A9{ps:List Int}{p:Int}(h0:0<=p)(hn:p ∉ ps):du ps p=ps++[p]:=by
 rw[du,if_neg (by rintro(e|e);omega;exact hn e)]
theorem DU{ps:List Int}{p:Int}(h:¬ 0<=p\/p∈ps):du ps p=ps:=by
 rw[du,if_pos (h.imp (by omega) id)]
theorem Qa{l:List Signed}{n:Text}{s t:Int}(aT:s≠t)(h:0<=aq l ⟨n,s⟩):aq l ⟨n,s⟩≠aq l ⟨n,t⟩:=fun e=>by
 obtain⟨x,h1,h2⟩:=jN h;obtain⟨y,h3,h4⟩:=jN (l:=l) (q:=⟨n,t⟩) (by omega);rw[<- e,h1]at h3;cases h3;exact aT ((congrArg aG.type (qj h2)).trans (congrArg aG.type (qj h4)).symm)
theorem IZ{l:List Signed}{c:Text}{a b:Int}{D:List Datum}{k:Nat}{d:Datum}(h:D[k]?=some d):b8 (a::b::dO l c (D.take (k+1)))=if Nm.under d.text c then du (b8 (a::b::dO l c (D.take k))) (aq l ⟨d.text,1⟩)else b8 (a::b::dO l c (D.take k)):=by
 rw[vS h];cases Nm.under d.text c
 ·simp
 ·rw[if_pos rfl,if_pos rfl,<- List.cons_append,<- List.cons_append,AM]
theorem ZC(z:aQ)(cut:Text)(V:eH z)(hf:z.gV)(hc:Nm.valid cut=true)(h2:0<=aq z.ab ⟨cut,2⟩):az E 159 [z.enc,.str cut] (· = og 4 (bN z.ab (gX z.ab cut)) cut):=by
 obtain⟨s,hs,iD⟩:=jN h2;have a0:=PQ z ⟨cut,2⟩ hf h2 hs;simp only at a0;have fW:=PE (V.ab s (List.mem_of_getElem? hs)) (congrArg aG.type (qj iD)).symm;have s8:=(rF (V.ab s (List.mem_of_getElem? hs))).2.1;have kO:x8 z.ab cut=s.set.data:=by rw[x8,hs]
 have ju:∀ r:List Int,(∀ p∈r,p<z.ab.length)->lO z.ab (b8 r):=fun r h=>X7 h;have I0:bN z.ab [aq z.ab ⟨cut,2⟩]=[s]:=by simp[bN,hs]
 have p7:lO z.ab [aq z.ab ⟨cut,2⟩]:=fun p hp=>by simp at hp;subst hp;exact⟨h2,fX.2⟩
 have I1:∀ D:List Datum,∀ p∈(aq z.ab ⟨cut,2⟩::eA z.ab cut::dO z.ab cut D),p<z.ab.length:=fun D p hp=>by
  rcases List.mem_cons.1 hp with rfl|hp
  ·exact fX.2
  rcases List.mem_cons.1 hp with rfl|hp
  ·unfold eA;split<;>exact fX.2
  exact vT hp
 have hlen:∀ D:List Datum,D.length<=8->(b8 (aq z.ab ⟨cut,2⟩::eA z.ab cut::dO z.ab cut D)).length<=10:=fun D hD=>by
  have h1:=Dq (ps:=aq z.ab ⟨cut,2⟩::eA z.ab cut::dO z.ab cut D);have h3:=rZ z.ab cut D;simp at h1;omega
 have nr:gX z.ab cut=b8 (aq z.ab ⟨cut,2⟩::eA z.ab cut::dO z.ab cut s.set.data):=by rw[gX,lP,kO];rfl
 have iy:b8 (aq z.ab ⟨cut,2⟩::eA z.ab cut::dO z.ab cut (s.set.data.take 0))=du [aq z.ab ⟨cut,2⟩] (eA z.ab cut):=by
  rw[List.take_zero];show b8 ([aq z.ab ⟨cut,2⟩]++[eA z.ab cut])=_;rw[AM,AX h2]
 rw[show[s.enc]=[s].map Signed.enc from rfl,<- I0]at a0;rw[nr];have uA:((bN z.ab [aq z.ab ⟨cut,2⟩]).map Signed.enc)[0]?=some s.enc:=by rw[I0];rfl
 have pS:((bN z.ab [aq z.ab ⟨cut,2⟩]).map Signed.enc).length=1:=by rw[I0];rfl
 refine eP F159 ?_;refine kI (a0) rfl ?_;refine gO F159 ?_;refine bB ⟨by omega,by rw[pS];decide⟩ ?_;refine gO F159 ?_;refine aD (e:=s.enc) ⟨by omega,uA⟩ rfl ?_;refine gO F159 ?_;by_cases h6:0<=aq z.ab ⟨cut,6⟩
 ·have Qb:aq z.ab ⟨cut,6⟩ ∉ [aq z.ab ⟨cut,2⟩]:=fun e=>Qa (s:=6) (t:=2) (by decide) h6 (by simpa using e);have e6:du [aq z.ab ⟨cut,2⟩] (eA z.ab cut)=[aq z.ab ⟨cut,2⟩]++[aq z.ab ⟨cut,6⟩]:=by
   rw[eA,if_neg (by omega),A9 h6 Qb]
  have a6:=A7 z ⟨cut,6⟩ _ V hf p7 (by simp) h6 Qb;have ZD:((bN z.ab ([aq z.ab ⟨cut,2⟩]++[aq z.ab ⟨cut,6⟩])).map Signed.enc).length=2:=by
   obtain⟨y,hy,-⟩:=jN h6;simp[bN,hs,hy]
  with_reducible refine bG (a6) ?_
  refine gO F159 ?_;refine aP (by rw[pS,ZD];decide) ?_;refine gO F159 ?_;refine aa.loop (κ:=Nat) ([5,8]++rg 31 21) (fun k=>[(8,.d (.int .i64 k)),(5,.own 2 7)]) (fun k=>[(2,.arr 7 (57,5) ((bN z.ab (b8 (aq z.ab ⟨cut,2⟩::eA z.ab cut::dO z.ab cut (s.set.data.take k)))).map Signed.enc))]) (fun k=>k<=s.set.data.length) (fun k=>s.set.data.length-k) 0 (Nat.zero_le _) ?_ ?_
  ·rw[iy,e6];exact sZ
  intro k hk IH;have hL:=hlen (s.set.data.take k) (by rw[List.length_take];omega);have hP:=ju _ (I1 (s.set.data.take k));refine aa.head ag F159 2000 ?_;(conv=>whnf);refine ar (fun h5=>?_) (fun h5=>?_)
  ·have kx:k<s.set.data.length:=by simpa using h5
   obtain⟨d,hd⟩:=bd kx;have bj:=IZ (l:=z.ab) (c:=cut) (a:=aq z.ab ⟨cut,2⟩) (b:=eA z.ab cut) hd;have hv:=fW d (List.mem_of_getElem? hd);have c2:=pY d.text cut (by have:=dF hv;omega) (by have:=dF hc;omega);generalize b8 (aq z.ab ⟨cut,2⟩::eA z.ab cut::dO z.ab cut (s.set.data.take k))=ps at hL hP bj ⊢;refine gO F159 ?_;refine aD (e:=d.enc) (aU hd) rfl ?_;refine gO F159 ?_;refine aj (c2) ?_;refine gO F159 ?_;cases hu:Nm.under d.text cut
   ·rw[hu,if_neg (by decide)]at bj;refine aV ?_;refine gO F159 ?_;refine aa.back (IH (k+1) (by omega) (by omega)) ?_;rw[bj];exact sZ
   ·rw[hu,if_pos rfl]at bj;refine bq ?_;refine gO F159 ?_;by_cases hq:0<=aq z.ab ⟨d.text,1⟩/\aq z.ab ⟨d.text,1⟩ ∉ ps
    ·have a1:=A7 z ⟨d.text,1⟩ ps V hf hP (by omega) hq.1 hq.2;rw[A9 hq.1 hq.2]at bj;refine aa.draw ag bU 7 2000 (by kernel_rfl) ?_;(conv=>whnf);refine aD (e:=d.enc) (aU hd) rfl ?_;refine gD ?_;refine gS ?_;refine oM a1 ?_;refine gS ?_;refine gO F159 ?_;refine aa.back (IH (k+1) (by omega) (by omega)) ?_;rw[bj];exact sZ
    ·have pj:¬ 0<=aq z.ab ⟨d.text,1⟩\/aq z.ab ⟨d.text,1⟩∈ps:=by
      by_cases h:0<=aq z.ab ⟨d.text,1⟩
      ·exact .inr (Classical.not_not.1 fun e=>hq ⟨h,e⟩)
      ·exact .inl h
     have a1:=A8 z ⟨d.text,1⟩ ps V hf hP (by omega) pj;rw[DU pj]at bj;refine aa.draw ag bU 7 2000 (by kernel_rfl) ?_;(conv=>whnf);refine aD (e:=d.enc) (aU hd) rfl ?_;refine gD ?_;refine gS ?_;refine oM a1 ?_;refine gS ?_;refine gO F159 ?_;refine aa.back (IH (k+1) (by omega) (by omega)) ?_;rw[bj];exact sZ
  ·have aL:s.set.data.length<=k:=by simpa using h5
   rw[List.take_of_length_le aL];refine gO F159 ?_;rfl
 ·have a6:=A8 z ⟨cut,6⟩ _ V hf p7 (by simp) (.inl h6)
  with_reducible refine bG (a6) ?_
  refine gO F159 ?_;refine aJ (by simp) ?_;refine gO F159 ?_;by_cases h8:0<=aq z.ab ⟨cut,8⟩
  ·have Qc:aq z.ab ⟨cut,8⟩ ∉ [aq z.ab ⟨cut,2⟩]:=fun e=>Qa (s:=8) (t:=2) (by decide) h8 (by simpa using e);have e6:du [aq z.ab ⟨cut,2⟩] (eA z.ab cut)=[aq z.ab ⟨cut,2⟩]++[aq z.ab ⟨cut,8⟩]:=by
    rw[eA,if_pos (by omega),A9 h8 Qc]
   have a8:=A7 z ⟨cut,8⟩ _ V hf p7 (by simp) h8 Qc
   with_reducible refine bG (a8) ?_
   refine gO F159 ?_;refine aa.loop (κ:=Nat) ([5,8]++rg 31 21) (fun k=>[(8,.d (.int .i64 k)),(5,.own 2 7)]) (fun k=>[(2,.arr 7 (57,5) ((bN z.ab (b8 (aq z.ab ⟨cut,2⟩::eA z.ab cut::dO z.ab cut (s.set.data.take k)))).map Signed.enc))]) (fun k=>k<=s.set.data.length) (fun k=>s.set.data.length-k) 0 (Nat.zero_le _) ?_ ?_
   ·rw[iy,e6];exact sZ
   intro k hk IH;have hL:=hlen (s.set.data.take k) (by rw[List.length_take];omega);have hP:=ju _ (I1 (s.set.data.take k));refine aa.head ag F159 2000 ?_;(conv=>whnf);refine ar (fun h5=>?_) (fun h5=>?_)
   ·have kx:k<s.set.data.length:=by simpa using h5
    obtain⟨d,hd⟩:=bd kx;have bj:=IZ (l:=z.ab) (c:=cut) (a:=aq z.ab ⟨cut,2⟩) (b:=eA z.ab cut) hd;have hv:=fW d (List.mem_of_getElem? hd);have c2:=pY d.text cut (by have:=dF hv;omega) (by have:=dF hc;omega);generalize b8 (aq z.ab ⟨cut,2⟩::eA z.ab cut::dO z.ab cut (s.set.data.take k))=ps at hL hP bj ⊢;refine gO F159 ?_;refine aD (e:=d.enc) (aU hd) rfl ?_;refine gO F159 ?_;refine aj (c2) ?_;refine gO F159 ?_;cases hu:Nm.under d.text cut
    ·rw[hu,if_neg (by decide)]at bj;refine aV ?_;refine gO F159 ?_;refine aa.back (IH (k+1) (by omega) (by omega)) ?_;rw[bj];exact sZ
    ·rw[hu,if_pos rfl]at bj;refine bq ?_;refine gO F159 ?_;by_cases hq:0<=aq z.ab ⟨d.text,1⟩/\aq z.ab ⟨d.text,1⟩ ∉ ps
     ·have a1:=A7 z ⟨d.text,1⟩ ps V hf hP (by omega) hq.1 hq.2;rw[A9 hq.1 hq.2]at bj;refine aa.draw ag bU 7 2000 (by kernel_rfl) ?_;(conv=>whnf);refine aD (e:=d.enc) (aU hd) rfl ?_;refine gD ?_;refine gS ?_;refine oM a1 ?_;refine gS ?_;refine gO F159 ?_;refine aa.back (IH (k+1) (by omega) (by omega)) ?_;rw[bj];exact sZ
     ·have pj:¬ 0<=aq z.ab ⟨d.text,1⟩\/aq z.ab ⟨d.text,1⟩∈ps:=by
       by_cases h:0<=aq z.ab ⟨d.text,1⟩
       ·exact .inr (Classical.not_not.1 fun e=>hq ⟨h,e⟩)
       ·exact .inl h
      have a1:=A8 z ⟨d.text,1⟩ ps V hf hP (by omega) pj;rw[DU pj]at bj;refine aa.draw ag bU 7 2000 (by kernel_rfl) ?_;(conv=>whnf);refine aD (e:=d.enc) (aU hd) rfl ?_;refine gD ?_;refine gS ?_;refine oM a1 ?_;refine gS ?_;refine gO F159 ?_;refine aa.back (IH (k+1) (by omega) (by omega)) ?_;rw[bj];exact sZ
   ·have aL:s.set.data.length<=k:=by simpa using h5
    rw[List.take_of_length_le aL];refine gO F159 ?_;rfl
  ·have e6:du [aq z.ab ⟨cut,2⟩] (eA z.ab cut)=[aq z.ab ⟨cut,2⟩]:=by
    rw[eA,if_pos (by omega),DU (.inl h8)]
   have a8:=A8 z ⟨cut,8⟩ _ V hf p7 (by simp) (.inl h8)
   with_reducible refine bG (a8) ?_
   refine gO F159 ?_;refine aa.loop (κ:=Nat) ([5,8]++rg 31 21) (fun k=>[(8,.d (.int .i64 k)),(5,.own 2 7)]) (fun k=>[(2,.arr 7 (57,5) ((bN z.ab (b8 (aq z.ab ⟨cut,2⟩::eA z.ab cut::dO z.ab cut (s.set.data.take k)))).map Signed.enc))]) (fun k=>k<=s.set.data.length) (fun k=>s.set.data.length-k) 0 (Nat.zero_le _) ?_ ?_
   ·rw[iy,e6];exact sZ
   intro k hk IH;have hL:=hlen (s.set.data.take k) (by rw[List.length_take];omega);have hP:=ju _ (I1 (s.set.data.take k));refine aa.head ag F159 2000 ?_;(conv=>whnf);refine ar (fun h5=>?_) (fun h5=>?_)
   ·have kx:k<s.set.data.length:=by simpa using h5
    obtain⟨d,hd⟩:=bd kx;have bj:=IZ (l:=z.ab) (c:=cut) (a:=aq z.ab ⟨cut,2⟩) (b:=eA z.ab cut) hd;have hv:=fW d (List.mem_of_getElem? hd);have c2:=pY d.text cut (by have:=dF hv;omega) (by have:=dF hc;omega);generalize b8 (aq z.ab ⟨cut,2⟩::eA z.ab cut::dO z.ab cut (s.set.data.take k))=ps at hL hP bj ⊢;refine gO F159 ?_;refine aD (e:=d.enc) (aU hd) rfl ?_;refine gO F159 ?_;refine aj (c2) ?_;refine gO F159 ?_;cases hu:Nm.under d.text cut
    ·rw[hu,if_neg (by decide)]at bj;refine aV ?_;refine gO F159 ?_;refine aa.back (IH (k+1) (by omega) (by omega)) ?_;rw[bj];exact sZ
    ·rw[hu,if_pos rfl]at bj;refine bq ?_;refine gO F159 ?_;by_cases hq:0<=aq z.ab ⟨d.text,1⟩/\aq z.ab ⟨d.text,1⟩ ∉ ps
     ·have a1:=A7 z ⟨d.text,1⟩ ps V hf hP (by omega) hq.1 hq.2;rw[A9 hq.1 hq.2]at bj;refine aa.draw ag bU 7 2000 (by kernel_rfl) ?_;(conv=>whnf);refine aD (e:=d.enc) (aU hd) rfl ?_;refine gD ?_;refine gS ?_;refine oM a1 ?_;refine gS ?_;refine gO F159 ?_;refine aa.back (IH (k+1) (by omega) (by omega)) ?_;rw[bj];exact sZ
     ·have pj:¬ 0<=aq z.ab ⟨d.text,1⟩\/aq z.ab ⟨d.text,1⟩∈ps:=by
       by_cases h:0<=aq z.ab ⟨d.text,1⟩
       ·exact .inr (Classical.not_not.1 fun e=>hq ⟨h,e⟩)
       ·exact .inl h
      have a1:=A8 z ⟨d.text,1⟩ ps V hf hP (by omega) pj;rw[DU pj]at bj;refine aa.draw ag bU 7 2000 (by kernel_rfl) ?_;(conv=>whnf);refine aD (e:=d.enc) (aU hd) rfl ?_;refine gD ?_;refine gS ?_;refine oM a1 ?_;refine gS ?_;refine gO F159 ?_;refine aa.back (IH (k+1) (by omega) (by omega)) ?_;rw[bj];exact sZ
   ·have aL:s.set.data.length<=k:=by simpa using h5
    rw[List.take_of_length_le aL];refine gO F159 ?_;rfl
theorem ZR(z:aQ)(n:Text)(L:List Signed):qv z n L=0\/qv z n L=1:=by
 unfold qv mz;split
 ·split
  ·split
   ·exact .inr rfl
   ·exact .inl rfl
  ·exact .inl rfl
 ·exact .inl rfl
theorem DY(z:aQ)(n:Text)(ps:List Int)(V:eH z)(hf:z.gV)(hn:Nm.valid n=true)(hp:lO z.ab ps)(hl:ps.length<=1000):∃ g,(g=0\/g=1)/\aB E 161 [.arr 0 (57,5) ((bN z.ab ps).map Signed.enc)] [.own 0 0,.d z.enc,.d (.str n)] (fun a b=>a=.own 0 g/\b=[.arr g (57,5) ((bN z.ab (du ps (cJ z.ab n))).map Signed.enc)]):=by
 refine⟨_,ZR z n (bN z.ab ps),?_⟩;have c:=Zl z n (bN z.ab ps) V hf hn (by have:=vM (l:=z.ab) (ps:=ps);omega);rw[Zp V.sorted hp]at c;exact c
theorem Qh{l:List Signed}{q:aG}{s:Signed}(hs:l[(aq l q).toNat]?=some s):[s.enc]=(bN l [aq l q]).map Signed.enc:=by simp[bN,hs]
theorem DZ{l:List Signed}{q:aG}(h:0<=aq l q):lO l [aq l q]:=fun p hp=>by simp at hp;subst hp;exact⟨h,fX.2⟩
theorem Ba{a b:Int}(h:0<=a):b8 [a,b]=du [a] b:=by
 show b8 ([a]++[b])=_;rw[AM,AX h]
theorem ZS{a b c:Int}(h:0<=a):b8 [a,b,c]=du (du [a] b) c:=by
 show b8 ([a,b]++[c])=_;rw[AM,Ba h]
theorem ZT{ps:List Int}{p:Int}:(du ps p).length<=ps.length+1:=by
 unfold du;split<;>simp
theorem vW(z:aQ)(q:aG)(hf:z.gV)(h:0<=aq z.ab q):aB E 160 [] [.d .aW,.d z.enc,.d (.str q.name),.d (.int .i64 q.type)] (fun a b=>a=.own 0 1/\b=[.arr 1 (57,5) ((bN z.ab [aq z.ab q]).map Signed.enc),.cells [.d (.str z.ad),.d (vw z.ab)]]):=by
 obtain⟨s,hs,-⟩:=jN h;have:=PQ z q hf h hs;rw[Qh hs]at this;exact this
theorem yg{l:List Signed}{q:aG}(h:0<=aq l q):((bN l [aq l q]).map Signed.enc).length=1:=by
 obtain⟨s,hs,-⟩:=jN h;rw[<- Qh hs];rfl
theorem ZU(l:List Signed):∀ (k:Nat) (n:Text),(Nm.labels n).length<=k->Nm.valid n=true->Nm.valid (ql l n)=true/\Nm.labels (ql l n)=kr l (Nm.labels n):=by
 intro k
 induction k with
 |zero =>
  intro n hk hv;have e:=List.eq_nil_of_length_eq_zero (Nat.le_zero.1 hk);rw[ql,e];exact⟨(by decide:Nm.valid [46]=true),(by decide:Nm.labels [46]=[])⟩
 |succ k ih =>
  intro n hk hv;by_cases hr:n=[46]
  ·subst hr;have e:ql l [46]=[46]:=rfl;rw[e];exact⟨by decide,rfl⟩
  cases h:gG l n
  ·obtain⟨t1,t2⟩:=rY hv hr;have cD:=List.length_pos_iff.2 (Iu hr);have:=ih (fN (Nm.labels n).tail) (by rw[t2,List.length_tail];omega) t1;rw[ql,t2]at this;rw[ql,IB h];exact this
  ·rw[ql,IA h,rU];exact⟨hv,rfl⟩
theorem ZV(z:aQ)(q:aG)(hf:z.Fits)(hn:q.name.length<=maxLen):az E 104 [z.enc,q.enc] (· = .aK [Dz (mr z q),.int .i64 (kX z q)]):=by
 have c0:=Nx z hf;have cq:=Zc q hn;by_cases hq:eF z=true/\dV q=true
 case neg =>
  have h1:kX z q=1:=by
   rw[kX];cases h1:eF z<;>cases h2:dV q<;>simp_all
  rw[mr,h1,if_neg (by decide)];refine eP F104 ?_;refine aj (c0) ?_;refine gO F104 ?_;refine aj (cq) ?_;refine gO F104 ?_;cases h2:eF z
  ·repeat' (first|with_reducible(first|refine cY ?_|refine cN ?_|refine ar (fun _=>?_) (fun _=>?_))|refine gA F104 ?_|refine gB ?_|refine gC ?_|with_reducible rfl)
   all_goals rfl
  ·have h3:dV q=false:=by simpa [h2]using hq
   rw[h3];repeat' (first|with_reducible(first|refine cY ?_|refine cN ?_|refine ar (fun _=>?_) (fun _=>?_))|refine gA F104 ?_|refine gB ?_|refine gC ?_|with_reducible rfl)
   all_goals rfl
 obtain⟨h2,h3⟩:=hq;have hN:kX z q=0:=by simp[kX,h2,h3]
 have V:=kY h2;have hS:=Ib h2;simp only[dV,Bool.and_eq_true,decide_eq_true_eq]at h3;obtain⟨h4,h5,h6⟩:=h3;have h3:dV q=true:=by simp[dV,h4,h5,h6]
 rw[mr,hN,if_pos rfl];rw[h2]at c0;rw[h3]at cq;have gd:=dF h4;have pZ:=dF V.ad;have ci:=pY q.name z.ad (by omega) (by omega);refine eP F104 ?_;refine aj (c0) ?_;refine gO F104 ?_;refine aj (cq) ?_;refine gO F104 ?_;refine aV ?_;refine gO F104 ?_;refine aV ?_;refine gO F104 ?_;refine aj (ci) ?_;refine gO F104 ?_;cases hu:Nm.under q.name z.ad
 ·have e:bK z q=⟨7,[],[]⟩:=by rw[bK,hu];rfl
  rw[e];refine bq ?_;refine gO F104 ?_;rfl
 refine aV ?_;refine gO F104 ?_;have cc:=Zd z q.name V h4;by_cases pJ:∃ c,gW z q.name=some c/\¬ (q.name=c/\(q.type=6\/q.type=8))
 ·obtain⟨c,hc,fW⟩:=pJ;obtain⟨v1,v2⟩:=DA V hc;have Qi:c≠[]:=fun e=>by rw[e]at v1;exact absurd v1 (by decide)
  have e:bK z q=⟨4,bN z.ab (gX z.ab c),c⟩:=by rw[bK,if_pos hu,hc];simp only[if_neg fW]
  have cr:=ZC z c V hS v1 v2;rw[e];rw[hc]at cc;simp only[Option.getD_some]at cc;refine aj (cc) ?_;refine gO F104 ?_;by_cases t6:q.type=6
  ·refine aJ (by simpa using t6) ?_;refine gO F104 ?_;refine aJ (by simpa using Qi) ?_;refine gO F104 ?_;refine aJ (by simp;exact fun e=>fW ⟨e.symm,.inl t6⟩) ?_;refine gO F104 ?_;refine bq ?_;refine gO F104 ?_;refine aj (cr) ?_;refine gO F104 ?_;rfl
  ·refine aP (by simpa using t6) ?_;refine gO F104 ?_;refine aJ (by simpa using Qi) ?_;refine gO F104 ?_;by_cases dW:c=q.name
   ·refine aP (by simpa using dW) ?_;refine gO F104 ?_;refine aJ (by simp;exact fun t8=>fW ⟨dW.symm,.inr t8⟩) ?_;refine gO F104 ?_;refine aj (cr) ?_;refine gO F104 ?_;rfl
   ·refine aJ (by simpa using dW) ?_;refine gO F104 ?_;refine bq ?_;refine gO F104 ?_;refine aj (cr) ?_;refine gO F104 ?_;rfl
 have e:bK z q=fY z q:=by
  rw[bK,if_pos hu];cases hc:gW z q.name with
  |none=>rfl
  |some c =>
   simp only;rw[if_pos];exact Classical.not_not.1 fun h=>pJ ⟨c,hc,h⟩
 rw[e];have aT:(gW z q.name=none/\q.type=6)\/(gW z q.name=none/\q.type≠6)\/(gW z q.name=some q.name/\q.type=6)\/(gW z q.name=some q.name/\q.type=8):=by
  cases hc:gW z q.name with
  |none=>by_cases t:q.type=6<;>simp[t]
  |some c =>
   have:=Classical.not_not.1 fun h=>pJ ⟨c,hc,h⟩;obtain⟨rfl,t|t⟩:=this
   ·simp[t]
   ·simp[t]
 clear pJ e;have Qj:q.name≠[]:=fun e=>by rw[e]at h4;exact absurd h4 (by decide)
 apply DX
 case h =>
  intro tail;rcases aT with⟨hc,t6⟩|⟨hc,t6⟩|⟨hc,t6⟩|⟨hc,t8⟩
  ·rw[hc]at cc;simp only[Option.getD_none]at cc;refine aj (cc) ?_;refine gO F104 ?_;refine aJ (by simpa using t6) ?_;refine gO F104 ?_;refine aP (by decide) ?_;refine gO F104 ?_;refine aV ?_;(conv=>whnf);refine aa.forget [0,1,2,3,4,5,6,7,8,9,10,11,12,13,14,15,16,17,18,19,20,21,22,23,24,25,26,27,28,29,30,31,32,33,34,35,36,37,38,39,40,41,42,43,44,45,46,47,48,49,50,51,52,53,54,55,56,57,58,59,60,61,62,63,64,65,66,67,68,69,70,71,72,73,74,75,76,77,78,79,80,81,82,83,84,85,86,87,88,89,90,91,92,93,94,95,96,97,98,99,100,101,102,103,104,105,106,107,108,109,110,111,112,113,114,115,116,117,118,119,120,121,122,123,124,125,126,127,128,129,130,131,132,133,134,135,136,137,138,139,140,141,142,143,144,145,146,147,148,149,150,151] [] [(2,.ptr 0 0),(3,.ptr 1 0),(4,.ptr 2 0)] [] ?_ ?_
   ·exact sZ
   (conv=>whnf);exact tail
  ·skip;rw[hc]at cc;simp only[Option.getD_none]at cc;refine aj (cc) ?_;refine gO F104 ?_;refine aP (by simpa using t6) ?_;refine gO F104 ?_;refine aP (by decide) ?_;refine gO F104 ?_;refine aV ?_;(conv=>whnf);refine aa.forget [0,1,2,3,4,5,6,7,8,9,10,11,12,13,14,15,16,17,18,19,20,21,22,23,24,25,26,27,28,29,30,31,32,33,34,35,36,37,38,39,40,41,42,43,44,45,46,47,48,49,50,51,52,53,54,55,56,57,58,59,60,61,62,63,64,65,66,67,68,69,70,71,72,73,74,75,76,77,78,79,80,81,82,83,84,85,86,87,88,89,90,91,92,93,94,95,96,97,98,99,100,101,102,103,104,105,106,107,108,109,110,111,112,113,114,115,116,117,118,119,120,121,122,123,124,125,126,127,128,129,130,131,132,133,134,135,136,137,138,139,140,141,142,143,144,145,146,147,148,149,150,151] [] [(2,.ptr 0 0),(3,.ptr 1 0),(4,.ptr 2 0)] [] ?_ ?_
   ·exact sZ
   (conv=>whnf);exact tail
  ·skip;rw[hc]at cc;simp only[Option.getD_some]at cc;refine aj (cc) ?_;refine gO F104 ?_;refine aJ (by simpa using t6) ?_;refine gO F104 ?_;refine aJ (by simpa using Qj) ?_;refine gO F104 ?_;refine aP (by simp) ?_;refine gO F104 ?_;refine aV ?_;(conv=>whnf);refine aa.forget [0,1,2,3,4,5,6,7,8,9,10,11,12,13,14,15,16,17,18,19,20,21,22,23,24,25,26,27,28,29,30,31,32,33,34,35,36,37,38,39,40,41,42,43,44,45,46,47,48,49,50,51,52,53,54,55,56,57,58,59,60,61,62,63,64,65,66,67,68,69,70,71,72,73,74,75,76,77,78,79,80,81,82,83,84,85,86,87,88,89,90,91,92,93,94,95,96,97,98,99,100,101,102,103,104,105,106,107,108,109,110,111,112,113,114,115,116,117,118,119,120,121,122,123,124,125,126,127,128,129,130,131,132,133,134,135,136,137,138,139,140,141,142,143,144,145,146,147,148,149,150,151] [] [(2,.ptr 0 0),(3,.ptr 1 0),(4,.ptr 2 0)] [] ?_ ?_
   ·exact sZ
   (conv=>whnf);exact tail
  ·skip;rw[hc]at cc;simp only[Option.getD_some]at cc;refine aj (cc) ?_;refine gO F104 ?_;refine aP (by simp[t8]) ?_;refine gO F104 ?_;refine aJ (by simpa using Qj) ?_;refine gO F104 ?_;refine aP (by simp) ?_;refine gO F104 ?_;refine aP (by simp[t8]) ?_;(conv=>whnf);refine aa.forget [0,1,2,3,4,5,6,7,8,9,10,11,12,13,14,15,16,17,18,19,20,21,22,23,24,25,26,27,28,29,30,31,32,33,34,35,36,37,38,39,40,41,42,43,44,45,46,47,48,49,50,51,52,53,54,55,56,57,58,59,60,61,62,63,64,65,66,67,68,69,70,71,72,73,74,75,76,77,78,79,80,81,82,83,84,85,86,87,88,89,90,91,92,93,94,95,96,97,98,99,100,101,102,103,104,105,106,107,108,109,110,111,112,113,114,115,116,117,118,119,120,121,122,123,124,125,126,127,128,129,130,131,132,133,134,135,136,137,138,139,140,141,142,143,144,145,146,147,148,149,150,151] [] [(2,.ptr 0 0),(3,.ptr 1 0),(4,.ptr 2 0)] [] ?_ ?_
   ·exact sZ
   (conv=>whnf);exact tail
 refine gO F104 ?_;by_cases d1:0<=aq z.ab q
 ·have a:=vW z q hS d1;have hl:=yg d1;refine kI (a) rfl ?_;refine gO F104 ?_;refine aJ (by rw[hl];decide) ?_;refine gO F104 ?_;rw[fY,if_pos d1];rfl
 have a1:=DB z q hS d1;refine kI (a1) rfl ?_;refine gO F104 ?_;refine aP (by decide) ?_;refine gO F104 ?_;by_cases d2:0<=aq z.ab ⟨q.name,3⟩/\q.type≠8
 ·have a:=vW z ⟨q.name,3⟩ hS d2.1;have hl:=yg d2.1;simp only at a;refine kI (a) rfl ?_;refine gO F104 ?_;refine aJ (by rw[hl];decide) ?_;refine gO F104 ?_;refine aJ (by simpa using d2.2) ?_;refine gO F104 ?_;rw[fY,if_neg d1,if_pos d2];rfl
 apply DX
 case h =>
  intro tail;by_cases d3:0<=aq z.ab ⟨q.name,3⟩
  ·have t8:q.type=8:=Classical.not_not.1 fun h=>d2 ⟨d3,h⟩;have a:=vW z ⟨q.name,3⟩ hS d3;have hl:=yg d3;simp only at a;refine kI (a) rfl ?_;refine gO F104 ?_;refine aJ (by rw[hl];decide) ?_;refine gO F104 ?_;refine aP (by simp[t8]) ?_;(conv=>whnf);refine aa.forget [0,1,2,3,4,5,6,7,8,9,10,11,12,13,14,15,16,17,18,19,20,21,22,23,24,25,26,27,28,29,30,31,32,33,34,35,36,37,38,39,40,41,42,43,44,45,46,47,48,49,50,51,52,53,54,55,56,57,58,59,60,61,62,63,64,65,66,67,68,69,70,71,72,73,74,75,76,77,78,79,80,81,82,83,84,85,86,87,88,89,90,91,92,93,94,95,96,97,98,99,100,101,102,103,104,105,106,107,108,109,110,111,112,113,114,115,116,117,118,119,120,121,122,123,124,125,126,127,128,129,130,131,132,133,134,135,136,137,138,139,140,141,142,143,144,145,146,147,148,149,150,151] [] [(2,.ptr 0 0),(3,.ptr 1 0),(4,.ptr 2 0)] [(3,.gone),(4,.gone),(5,.gone),(6,.gone)] ?_ ?_
   ·exact sZ
   (conv=>whnf);exact tail
  ·have a:=DB z ⟨q.name,3⟩ hS d3;simp only at a;refine kI (a) rfl ?_;refine gO F104 ?_;refine aP (by decide) ?_;refine gO F104 ?_;refine aV ?_;(conv=>whnf);refine aa.forget [0,1,2,3,4,5,6,7,8,9,10,11,12,13,14,15,16,17,18,19,20,21,22,23,24,25,26,27,28,29,30,31,32,33,34,35,36,37,38,39,40,41,42,43,44,45,46,47,48,49,50,51,52,53,54,55,56,57,58,59,60,61,62,63,64,65,66,67,68,69,70,71,72,73,74,75,76,77,78,79,80,81,82,83,84,85,86,87,88,89,90,91,92,93,94,95,96,97,98,99,100,101,102,103,104,105,106,107,108,109,110,111,112,113,114,115,116,117,118,119,120,121,122,123,124,125,126,127,128,129,130,131,132,133,134,135,136,137,138,139,140,141,142,143,144,145,146,147,148,149,150,151] [] [(2,.ptr 0 0),(3,.ptr 1 0),(4,.ptr 2 0)] [(3,.gone),(4,.gone),(5,.gone),(6,.gone)] ?_ ?_
   ·exact sZ
   (conv=>whnf);exact tail
 have a4:=vW z ⟨z.ad,4⟩ hS V.start;obtain⟨g,hg,c4⟩:=DY z q.name [aq z.ab ⟨z.ad,4⟩] V hS h4 (DZ V.start) (by simp);simp only at a4;refine gO F104 ?_;apply DX
 case h =>
  intro tail;rcases hg with rfl|rfl
  ·refine aa.tz ag bU [0,1,2,4,5,6] [] 2000 (by kernel_rfl) ?_;(conv=>whnf);refine aS.run ag 2000 rfl rfl ?_;(conv=>whnf);refine Ot (a4) rfl ?_;(conv=>whnf);refine And.intro rfl ?_;(conv=>whnf);refine aS.run ag 2000 rfl rfl ?_;(conv=>whnf);refine oM (c4) ?_;(conv=>whnf);refine And.intro rfl ?_;(conv=>whnf);refine aS.run ag 2000 rfl rfl ?_;(conv=>whnf);refine And.intro rfl ?_;(conv=>whnf);refine aS.run ag 2000 rfl rfl ?_;(conv=>whnf);(conv=>whnf);refine aa.forget [0,1,2,3,4,5,6,7,8,9,10,11,12,13,14,15,16,17,18,19,20,21,22,23,24,25,26,27,28,29,30,31,32,33,34,35,36,37,38,39,40,41,42,43,44,45,46,47,48,49,50,51,52,53,54,55,56,57,58,59,60,61,62,63,64,65,66,67,68,69,70,71,72,73,74,75,76,77,78,79,80,81,82,83,84,85,86,87,88,89,90,91,92,93,94,95,96,97,98,99,100,101,102,103,104,105,106,107,108,109,110,111,112,113,114,115,116,117,118,119,120,121,122,123,124,125,126,127,128,129,130,131,132,133,134,135,136,137,138,139,140,141,142,143,144,145,146,147,148,149,150,151] [] [(2,.ptr 0 0),(3,.ptr 1 0),(4,.ptr 2 0),(11,.own 7 7)] [(7,.arr 7 (57,5) ((bN z.ab (du [aq z.ab ⟨z.ad,4⟩] (cJ z.ab q.name))).map Signed.enc)),(8,.gone)] ?_ ?_
   ·exact sZ
   (conv=>whnf);exact tail
  ·refine aa.tz ag bU [0,1,2,4,5,6] [] 2000 (by kernel_rfl) ?_;(conv=>whnf);refine aS.run ag 2000 rfl rfl ?_;(conv=>whnf);refine Ot (a4) rfl ?_;(conv=>whnf);refine And.intro rfl ?_;(conv=>whnf);refine aS.run ag 2000 rfl rfl ?_;(conv=>whnf);refine oM (c4) ?_;(conv=>whnf);refine And.intro rfl ?_;(conv=>whnf);refine aS.run ag 2000 rfl rfl ?_;(conv=>whnf);refine And.intro rfl ?_;(conv=>whnf);refine aS.run ag 2000 rfl rfl ?_;(conv=>whnf);(conv=>whnf);refine aa.forget [0,1,2,3,4,5,6,7,8,9,10,11,12,13,14,15,16,17,18,19,20,21,22,23,24,25,26,27,28,29,30,31,32,33,34,35,36,37,38,39,40,41,42,43,44,45,46,47,48,49,50,51,52,53,54,55,56,57,58,59,60,61,62,63,64,65,66,67,68,69,70,71,72,73,74,75,76,77,78,79,80,81,82,83,84,85,86,87,88,89,90,91,92,93,94,95,96,97,98,99,100,101,102,103,104,105,106,107,108,109,110,111,112,113,114,115,116,117,118,119,120,121,122,123,124,125,126,127,128,129,130,131,132,133,134,135,136,137,138,139,140,141,142,143,144,145,146,147,148,149,150,151] [] [(2,.ptr 0 0),(3,.ptr 1 0),(4,.ptr 2 0),(11,.own 7 7)] [(7,.arr 7 (57,5) ((bN z.ab (du [aq z.ab ⟨z.ad,4⟩] (cJ z.ab q.name))).map Signed.enc)),(8,.gone)] ?_ ?_
   ·exact sZ
   (conv=>whnf);exact tail
 refine gO F104 ?_;have c5:=ID z q.name V h4;refine aj (c5) ?_;refine gO F104 ?_;cases he:gG z.ab q.name
 case true =>
  refine bq ?_;refine gO F104 ?_;rw[fY,if_neg d1,if_neg d2,if_pos he,Ba V.start];rfl
 refine aV ?_;refine gO F104 ?_;have c6:=Zf z q.name V h4 hu;obtain⟨mL,ez⟩:=ZU z.ab _ q.name (Nat.le_refl _) h4;have c7:=Zi (ql z.ab q.name) mL;rw[ez]at c7;change az E _ _ (· = match pc z.ab q.name with|some t => .aK [.str t,.bool true]|none => .aK [.str [],.bool false])at c7;refine aj (c6) ?_;refine gO F104 ?_;cases hw:pc z.ab q.name with
 |none =>
  rw[hw]at c7;refine aj (c7) ?_;refine gO F104 ?_;refine bq ?_;refine gO F104 ?_;rw[fY,if_neg d1,if_neg d2,if_neg (by simp[he]),hw,Ba V.start];rfl
 |some w =>
  rw[hw]at c7;have tF:=PH hw;have hA:fY z q=if 0<=aq z.ab ⟨w,q.type⟩then⟨2,bN z.ab (b8 [aq z.ab ⟨w,q.type⟩,cJ z.ab q.name]),[]⟩
    else if 0<=aq z.ab ⟨w,3⟩/\q.type≠8 then⟨3,bN z.ab (b8 [aq z.ab ⟨w,3⟩,cJ z.ab q.name]),[]⟩
    else if gG z.ab w then⟨5,bN z.ab (b8 [aq z.ab ⟨z.ad,4⟩,cJ z.ab q.name,cJ z.ab w]),[]⟩
    else⟨6,bN z.ab (b8 [aq z.ab ⟨z.ad,4⟩,cJ z.ab q.name,cJ z.ab w]),[]⟩:=by
   rw[fY,if_neg d1,if_neg d2,if_neg (by simp[he]),hw]
  rw[hA];refine aj (c7) ?_;refine gO F104 ?_;refine aV ?_;refine gO F104 ?_;by_cases d4:0<=aq z.ab ⟨w,q.type⟩
  ·have a:=vW z ⟨w,q.type⟩ hS d4;have hl:=yg d4;simp only at a;rw[if_pos d4,Ba d4];obtain⟨g,hg,c8⟩:=DY z q.name [aq z.ab ⟨w,q.type⟩] V hS h4 (DZ d4) (by simp);refine kI (a) rfl ?_;refine gO F104 ?_;refine aJ (by rw[hl];decide) ?_;refine gO F104 ?_;rcases hg with rfl|rfl;all_goals
    with_reducible refine bG (c8) ?_
    refine gO F104 ?_;rfl
  rw[if_neg d4];have a:=DB z ⟨w,q.type⟩ hS d4;simp only at a;refine kI (a) rfl ?_;refine gO F104 ?_;refine aP (by decide) ?_;refine gO F104 ?_;by_cases d5:0<=aq z.ab ⟨w,3⟩/\q.type≠8
  ·have a:=vW z ⟨w,3⟩ hS d5.1;have hl:=yg d5.1;simp only at a;rw[if_pos d5,Ba d5.1];obtain⟨g,hg,c8⟩:=DY z q.name [aq z.ab ⟨w,3⟩] V hS h4 (DZ d5.1) (by simp);refine kI (a) rfl ?_;refine gO F104 ?_;refine aJ (by rw[hl];decide) ?_;refine gO F104 ?_;refine aJ (by simpa using d5.2) ?_;refine gO F104 ?_;rcases hg with rfl|rfl;all_goals
    with_reducible refine bG (c8) ?_
    refine gO F104 ?_;rfl
  rw[if_neg d5];apply DX
  case h =>
   intro tail;by_cases d3:0<=aq z.ab ⟨w,3⟩
   ·have t8:q.type=8:=Classical.not_not.1 fun h=>d5 ⟨d3,h⟩;have a:=vW z ⟨w,3⟩ hS d3;have hl:=yg d3;simp only at a;refine kI (a) rfl ?_;refine gO F104 ?_;refine aJ (by rw[hl];decide) ?_;refine gO F104 ?_;refine aP (by simp[t8]) ?_;(conv=>whnf);refine aa.forget [0,1,2,3,4,5,6,7,8,9,10,11,12,13,14,15,16,17,18,19,20,21,22,23,24,25,26,27,28,29,30,31,32,33,34,35,36,37,38,39,40,41,42,43,44,45,46,47,48,49,50,51,52,53,54,55,56,57,58,59,60,61,62,63,64,65,66,67,68,69,70,71,72,73,74,75,76,77,78,79,80,81,82,83,84,85,86,87,88,89,90,91,92,93,94,95,96,97,98,99,100,101,102,103,104,105,106,107,108,109,110,111,112,113,114,115,116,117,118,119,120,121,122,123,124,125,126,127,128,129,130,131,132,133,134,135,136,137,138,139,140,141,142,143,144,145,146,147,148,149,150,151] [] [(2,.ptr 0 0),(3,.ptr 1 0),(4,.ptr 2 0),(11,.own 7 7),(12,.d (.str w))] [(9,.gone),(10,.gone),(11,.gone),(12,.gone)] ?_ ?_
    ·exact sZ
    (conv=>whnf);exact tail
   ·have a:=DB z ⟨w,3⟩ hS d3;simp only at a;refine kI (a) rfl ?_;refine gO F104 ?_;refine aP (by decide) ?_;refine gO F104 ?_;refine aV ?_;(conv=>whnf);refine aa.forget [0,1,2,3,4,5,6,7,8,9,10,11,12,13,14,15,16,17,18,19,20,21,22,23,24,25,26,27,28,29,30,31,32,33,34,35,36,37,38,39,40,41,42,43,44,45,46,47,48,49,50,51,52,53,54,55,56,57,58,59,60,61,62,63,64,65,66,67,68,69,70,71,72,73,74,75,76,77,78,79,80,81,82,83,84,85,86,87,88,89,90,91,92,93,94,95,96,97,98,99,100,101,102,103,104,105,106,107,108,109,110,111,112,113,114,115,116,117,118,119,120,121,122,123,124,125,126,127,128,129,130,131,132,133,134,135,136,137,138,139,140,141,142,143,144,145,146,147,148,149,150,151] [] [(2,.ptr 0 0),(3,.ptr 1 0),(4,.ptr 2 0),(11,.own 7 7),(12,.d (.str w))] [(9,.gone),(10,.gone),(11,.gone),(12,.gone)] ?_ ?_
    ·exact sZ
    (conv=>whnf);exact tail
  refine gO F104 ?_;obtain⟨g,hg,c8⟩:=DY z w (du [aq z.ab ⟨z.ad,4⟩] (cJ z.ab q.name)) V hS tF ((DZ V.start).add tB.2) (by have:=ZT (ps:=[aq z.ab ⟨z.ad,4⟩]) (p:=cJ z.ab q.name);simp at this;omega);have c9:=ID z w V tF;rw[ZS V.start];rcases hg with rfl|rfl;all_goals
   with_reducible refine bG (c8) ?_
   refine gO F104 ?_;refine aj (c9) ?_;refine gO F104 ?_;cases he2:gG z.ab w
   ·refine aV ?_;refine gO F104 ?_;rfl
   ·refine bq ?_;refine gO F104 ?_;rfl
theorem aaa(z:aQ)(q:aG)(hf:z.Fits)(hn:q.name.length<=maxLen):az E 104 [z.enc,q.enc] (· = .aK [(mr z q).enc,.int .i64 (kX z q)]):=by
 refine az.norm ?_;refine(ZV z q hf hn).mono fun r h=>?_;subst h;have:=PN (PM (z:=z) (q:=q));simp only[norm,rq,this]
theorem aab(q:aG)(hq:q.name.length<=maxLen):az E 61 [q.enc] (· = .bool (dV q)):=by
 refine eP Tryz.func61 ?_;repeat' (first|with_reducible(first|refine aj (lL _ hq) ?_|refine bl (lL _ hq) ?_|refine cY ?_|refine cN ?_|refine ar (fun _=>?_) (fun _=>?_))|refine gA Tryz.func61 ?_|refine gB ?_|refine gC ?_|with_reducible rfl)
 all_goals (simp_all[dV]<;>omega)
theorem aac(p q:aH)(hf:p.aC.Fits)(hg:q.aC.Fits)(h:eF p.aC=true)(k:eF q.aC=true):az E 101 [p.enc,q.enc] (· = .bool (ep p q)):=by
 obtain⟨ph,pz⟩:=p;obtain⟨qh,qz⟩:=q;simp only at hf hg h k;show az E _ [DV.agg [.int .i64 ph,.str pz.ad,.sl (pz.ab.map Signed.enc)],DV.agg [.int .i64 qh,.str qz.ad,.sl (qz.ab.map Signed.enc)]] _;refine eP Tryz.func101 ?_;refine aj (Ie pz hf h) ?_;refine gO Tryz.func101 ?_;refine aj (Ie qz hg k) ?_;refine gO Tryz.func101 ?_;repeat' (first|with_reducible(first|refine cY ?_|refine cN ?_|refine ar (fun _=>?_) (fun _=>?_))|refine gA Tryz.func101 ?_|refine gB ?_|refine gC ?_|with_reducible rfl)
 all_goals (simp_all[ep]<;>omega)
structure nu(l:List aH)(V:Int->DV)(k:Nat)(es:List (DV × DV)):Prop where
 keys:lQ DV.str es
 find:∀ a,findD (.str a) es=if 0<=dT l a k then some (V (dT l a k))else none
theorem nu.nil{l:List aH}{V:Int->DV}:nu l V 0 []:=⟨fun p hp=>by simp at hp,fun a=>rfl⟩
def kA(l:List aH)(p:aH)(k:Nat):Bool:=decide (dT l p.aC.ad k<0)||(match l[(dT l p.aC.ad k).toNat]? with|some q=>ep p q|none=>false)
theorem Qv{l:List aH}{k:Nat}{p:aH}(h:l[k]?=some p)(a:Text):dT l a (k+1)=if p.aC.ad=a/\kA l p k=true then(k:Int)else dT l a k:=by
 show yb l a (dT l a k) k=_;unfold yb;rw[h];simp only;by_cases e:p.aC.ad=a
 ·subst e;rw[if_pos rfl];unfold kA;by_cases h0:dT l p.aC.ad k<0
  ·rw[if_pos h0,if_pos (by simp[h0])]
  ·rw[if_neg h0];cases hq:l[(dT l p.aC.ad k).toNat]? with
   |none=>simp[h0]
   |some q=>cases hf:ep p q<;>simp[h0]
 ·rw[if_neg e,if_neg (fun h=>e h.1)]
theorem nu.put{l:List aH}{V:Int->DV}{k:Nat}{es:List (DV × DV)}(M:nu l V k es){p:aH}(h:l[k]?=some p)(hn:kA l p k=true):nu l V (k+1) (cx (.str p.aC.ad) (V k) es):=by
 refine⟨Dt M.keys,fun a=>?_⟩;rw[Du rV M.keys,Qv h];by_cases e:a=p.aC.ad
 ·subst e;have e2:(if p.aC.ad=p.aC.ad/\kA l p k=true then(k:Int)else dT l p.aC.ad k)=k:=if_pos ⟨rfl,hn⟩;rw[if_pos rfl,e2,if_pos (by omega)]
 ·have e2:(if p.aC.ad=a/\kA l p k=true then(k:Int)else dT l a k)=dT l a k:=if_neg fun h=>e h.1.symm;rw[if_neg e,e2];exact M.find a
theorem nu.skip{l:List aH}{V:Int->DV}{k:Nat}{es:List (DV × DV)}(M:nu l V k es){p:aH}(h:l[k]?=some p)(hn:kA l p k=false):nu l V (k+1) es:=by
 refine⟨M.keys,fun a=>?_⟩;have e2:(if p.aC.ad=a/\kA l p k=true then(k:Int)else dT l a k)=dT l a k:=if_neg fun h=>by rw[hn]at h;exact absurd h.2 (by decide)
 rw[Qv h,e2];exact M.find a
def iX(l:List aH)(V:Int->DV):Nat->List (DV × DV)
 |0=>[]
 |k+1=>match l[k]? with
  |some p=>if kA l p k then cx (.str p.aC.ad) (V k) (iX l V k)else iX l V k
  |none=>iX l V k
theorem D1{l:List aH}{V:Int->DV}{k:Nat}{p:aH}(h:l[k]?=some p):iX l V (k+1)=if kA l p k then cx (.str p.aC.ad) (V k) (iX l V k)else iX l V k:=by
 rw[iX,h]
theorem vX{l:List aH}{V:Int->DV}:∀ {k:Nat},k<=l.length->nu l V k (iX l V k)
 |0,_ => .nil
 |k+1,hk=>by
  obtain⟨p,hp⟩:=bd (l:=l) (k:=k) (by omega);have ih:=vX (V:=V) (l:=l) (k:=k) (by omega);rw[D1 hp];cases e:kA l p k
  ·exact ih.skip hp e
  ·exact ih.put hp e
theorem tK{es:List (DV × DV)}(h:lQ DV.str es):∀ p∈es,eh E.T .string p.1:=fun p hp=>by
 obtain⟨a,e⟩:=h p hp;exact⟨a,e⟩
@[reducible] def sa (w : cR) (b : Nat) : List AV := [.d (.sl (w.cC.map Host.enc)), .d (.sl (w.au.map aH.enc)), .d (.str w.anchor.name), .d (.int .i64 w.anchor.type), .d (.int .i64 w.anchor.jD), .d (.sl (w.anchor.data.map Datum.enc)), .d (.sl (w.hints.map (.int .i64))), .map b]
def k8(l:List aH)(k:Nat):List (DV × DV):=iX l (fun i => .int .i64 i) k
theorem aah{l:List aH}{k:Nat}{p:aH}(h:l[k]?=some p):k8 l (k+1)=if kA l p k then cx (.str p.aC.ad) (.int .i64 k) (k8 l k)else k8 l k:=D1 h
theorem aai(w:cR)(hf:∀ p∈w.au,p.aC.Fits)(H:dY w.au)(hl:w.au.length<=1000000):aB E 62 [] [.d w.enc] (fun a b=>a=.agg (sa w 2)/\b=[.cells (sa w 2).dropLast,.cells (sa w 2),.map (k8 w.au w.au.length),.cells (sa w 2)]):=by
 obtain⟨cC,l,anchor,hints⟩:=w;simp only at hf H hl;show aB E _ [] [.d (DV.agg [.sl (cC.map Host.enc),.sl (l.map aH.enc),.str anchor.name,.int .i64 anchor.type,.int .i64 anchor.jD,.sl (anchor.data.map Datum.enc),.sl (hints.map (.int .i64))])] _;refine aB.run ag (fn:=Tryz.f62) Tryz.func62 (body:=Tryz.f62.body.getD .skip) rfl (by decide) 2000 rfl ?_;(conv=>whnf);refine gO F62 ?_;refine aa.loop (κ:=Nat) (rg 4 4++rg 15 33) (fun k=>[(15,.d (.int .i64 k))]) (fun k=>[(2,.map (k8 l k))]) (fun k=>k<=l.length) (fun k=>l.length-k) 0 (Nat.zero_le _) ?_ ?_
 ·(conv=>whnf);repeat (first|exact trivial|(refine sI ?_;conv=>whnf))
  refine And.intro rfl ?_;exact sZ
 intro k hk IH;refine aa.head ag F62 2000 ?_;(conv=>whnf);refine ar (fun h5=>?_) (fun h5=>?_)
 ·have ai:k<l.length:=by simpa using h5
  obtain⟨x,hx⟩:=bd ai;have bj:=aah hx;have M:nu l (fun i => .int .i64 i) k (k8 l k):=vX hk;have dq:=M.find x.aC.ad;have jK:=yh (l:=l) (ad:=x.aC.ad) (n:=k);have dJ:=tK M.keys;have oR:=List.mem_of_getElem? hx;have jg:kA l x k=(decide (dT l x.aC.ad k<0)||(match l[(dT l x.aC.ad k).toNat]? with|some q=>ep x q|none=>false)):=rfl;generalize dT l x.aC.ad k=b at dq jK jg;generalize k8 l k=es at *;refine gO F62 ?_;refine aD (e:=x.enc) (aU hx) rfl ?_;refine gO F62 ?_;by_cases h0:0<=b
  ·rw[if_pos h0]at dq;obtain⟨m,rfl⟩:∃ m:Nat,b=m:=⟨b.toNat,by omega⟩;obtain⟨y,hy⟩:=bd (l:=l) (k:=m) (by omega);have GI:=List.mem_of_getElem? hy;rw[Int.toNat_natCast,hy]at jg;have vY:kA l x k=ep x y:=by
    have:¬ ((m:Int)<0):=by omega
    rw[jg];simp[this]
   clear jg;rw[vY]at bj;refine jx (.int .i64 0) (.int .i64 0) (v := .int .i64 m) (f:=true) ⟨_,rfl⟩ dJ (fun w=>by kernel_rfl) (fun _ _ => .int _ _) (by rw[dq];rfl) (by rw[dq];rfl) ?_;refine gO F62 ?_;refine aa.draw ag bU 11 2000 (by kernel_rfl) ?_;(conv=>whnf);refine aV ?_;refine gD ?_;refine aD (e:=y.enc) (aU hy) rfl ?_;refine gD ?_;refine bl (aac x y (hf x oR) (hf y GI) (H x oR) (H y GI)) ?_;refine gD ?_;refine gS ?_;refine gO F62 ?_;cases qw:ep x y
   ·rw[qw,if_neg (by decide)]at bj;refine aV ?_;refine gO F62 ?_;refine aa.back (IH (k+1) (by omega) (by omega)) ?_;rw[bj];exact sZ
   ·rw[qw,if_pos rfl]at bj;refine bq ?_;refine gO F62 ?_;refine bB ⟨⟨_,rfl⟩,dJ⟩ ?_;refine gO F62 ?_;refine aa.back (IH (k+1) (by omega) (by omega)) ?_;rw[bj];exact sZ
  ·rw[if_neg h0]at dq;have vY:kA l x k=true:=by rw[jg];simp;omega
   rw[vY,if_pos rfl]at bj;refine jx (.int .i64 0) (.int .i64 0) (v := .int .i64 0) (f:=false) ⟨_,rfl⟩ dJ (fun w=>by kernel_rfl) (fun _ _ => .int _ _) (by rw[dq];rfl) (by rw[dq];rfl) ?_;refine gO F62 ?_;refine aa.draw ag bU 11 2000 (by kernel_rfl) ?_;(conv=>whnf);refine bq ?_;refine gD ?_;refine gS ?_;refine gO F62 ?_;refine bq ?_;refine gO F62 ?_;refine bB ⟨⟨_,rfl⟩,dJ⟩ ?_;refine gO F62 ?_;refine aa.back (IH (k+1) (by omega) (by omega)) ?_;rw[bj];exact sZ
 ·have aL:l.length<=k:=by simpa using h5
  obtain rfl:k=l.length:=by omega
  refine gO F62 ?_;exact⟨rfl,rfl⟩
theorem D3{l:List aH}{ad:Text}{p:aH}{m:Nat}(h:dT l ad l.length=m)(hp:l[m]?=some p):eB l ad=some p.aC:=by
 unfold eB ky;rw[h,Int.toNat_natCast,hp];simp
theorem I8{l:List aH}{ad:Text}(h:¬ 0<=dT l ad l.length):eB l ad=none:=by
 unfold eB ky;split
 ·rw[if_neg h]
 ·rfl
theorem I9{z:aQ}{q:aG}(h:eF z=true)(hq:dV q=true):mr z q=bK z q/\kX z q=0:=by
 have:kX z q=0:=by simp[kX,h,hq]
 exact⟨by rw[mr,if_pos this],this⟩
theorem Qx(w:cR)(q:aG)(hf:∀ p∈w.au,p.aC.Fits)(H:dY w.au)(hl:w.au.length<=1000000)(hq:dV q=true)(hd:dep q.name<64)(hu:Nm.under q.name [46]=true):aB E 63 [.map (k8 w.au w.au.length)] [.agg (sa w 0),.d q.enc] (fun a b=>a=(match iC w.au q 64 [46]with|some x => .aK [.d x.enc,.d (.bool true)]|none => .aK [.d (.agg [.int .i64 0,.aW,.str []]),.d (.bool false)])/\cS 1 [] 0 b=[.map (k8 w.au w.au.length)]):=by
 have M:nu w.au (fun i => .int .i64 i) w.au.length (k8 w.au w.au.length):=vX (Nat.le_refl _);have dJ:=tK M.keys;have rM:Nm.valid q.name=true:=by simp only[dV,Bool.and_eq_true]at hq;exact hq.1
 have hqn:=dF rM;have F:=DO H;obtain⟨cC,l,anchor,hints⟩:=w;simp only at hf H hl M dJ F ⊢;obtain⟨es,jt⟩:∃ es,k8 l l.length=es:=⟨_,rfl⟩;rw[jt]at M dJ ⊢;obtain⟨FR,yl⟩:∃ x,iC l q 64 [46]=x:=⟨_,rfl⟩;rw[yl];refine aB.run ag (fn:=Tryz.f63) Tryz.func63 (body:=Tryz.f63.body.getD .skip) rfl (by decide) 2000 rfl ?_;(conv=>whnf);refine aa.loop (κ:=Nat × Text) [5,6,7,8,9,10,11,12,13,14,15,16,17,18,19,20,21,22,23,24,25,26,27,28,29,30,31,32,33,34,35,36,37,38] (fun x=>[(6,.d (.str x.2))]) (fun _=>[]) (fun x=>Nm.under q.name x.2=true/\dep q.name<x.1+dep x.2/\FR=iC l q x.1 x.2) (fun x=>x.1) (64,[46]) ⟨hu,by omega,yl.symm⟩ ?_ ?_
 ·exact sZ
 rintro⟨n,ad⟩ ⟨h1,h2,h3⟩ IH;simp only at h1 h2 h3;obtain⟨n,rfl⟩:∃ m,n=m+1:=⟨n-1,by have:=DN h1;omega⟩;have dq:=M.find ad;have jK:=yh (l:=l) (ad:=ad) (n:=l.length);rw[iC]at h3;refine aa.head ag F63 2000 ?_;(conv=>whnf);by_cases h0:0<=dT l ad l.length
 ·rw[if_pos h0]at dq;obtain⟨m,hm⟩:∃ m:Nat,dT l ad l.length=m:=⟨(dT l ad l.length).toNat,by omega⟩;obtain⟨p,hp⟩:=bd (l:=l) (k:=m) (by omega);have zP:=List.mem_of_getElem? hp;rw[D3 hm hp]at h3;simp only at h3;rw[hm]at dq;refine jx (.int .i64 0) (.int .i64 0) (v := .int .i64 m) (f:=true) ⟨_,rfl⟩ dJ (fun w=>by kernel_rfl) (fun _ _ => .int _ _) (by simp only[dq];rfl) (by simp only[dq];rfl) ?_;refine gO F63 ?_;refine aV ?_;refine gO F63 ?_;obtain⟨a1,a2⟩:=I9 (H p zP) hq;have c1:=PO p.aC q (hf p zP) (mQ (by omega));rw[a1,a2]at c1;refine aa.LM ag bU 12 2000 (by kernel_rfl) ?_;(conv=>whnf);refine aD (e:=p.enc) (aU hp) rfl ?_;refine gD ?_;refine bl (c1) ?_;refine gD ?_;refine gS ?_;refine gO F63 ?_;by_cases h4:(bK p.aC q).kind=4
  ·rw[if_pos h4]at h3;obtain⟨f1,f2⟩:=F ad p.aC q (D3 hm hp) h4;refine aP (by simpa using h4) ?_;refine gO F63 ?_;refine aa.back (IH (n,(bK p.aC q).cut) ⟨f1,by simp only;omega,h3⟩ (by simp)) ?_;exact sZ
  ·rw[if_neg h4]at h3;rw[h3];refine aJ (by simpa using h4) ?_;refine gO F63 ?_;exact⟨rfl,rfl⟩
 ·rw[if_neg h0]at dq;rw[I8 h0]at h3;rw[h3];refine jx (.int .i64 0) (.int .i64 0) (v := .int .i64 0) (f:=false) ⟨_,rfl⟩ dJ (fun w=>by kernel_rfl) (fun _ _ => .int _ _) (by simp only[dq];rfl) (by simp only[dq];rfl) ?_;refine gO F63 ?_;refine bq ?_;refine gO F63 ?_;exact⟨rfl,rfl⟩
theorem aaj(w:cR)(q:aG)(hf:∀ p∈w.au,p.aC.Fits)(H:dY w.au)(hl:w.au.length<=1000000)(hq:dV q=true)(hd:dep q.name<64)(hu:Nm.under q.name [46]=true){x:iI}(h:iC w.au q 64 [46]=some x):aB E 63 [.map (k8 w.au w.au.length)] [.agg (sa w 0),.d q.enc] (fun a b=>a=.aK [.d x.enc,.d (.bool true)]/\b=[.map (k8 w.au w.au.length)]):=by
 have c:=Qx w q hf H hl hq hd hu;rw[h]at c;exact aB.jP c rfl
theorem aak(w:cR)(q:aG)(hf:∀ p∈w.au,p.aC.Fits)(H:dY w.au)(hl:w.au.length<=1000000)(hq:dV q=true)(hd:dep q.name<64)(hu:Nm.under q.name [46]=true)(h:iC w.au q 64 [46]=none):aB E 63 [.map (k8 w.au w.au.length)] [.agg (sa w 0),.d q.enc] (fun a b=>a=.aK [.d (.agg [.int .i64 0,.aW,.str []]),.d (.bool false)]/\b=[.map (k8 w.au w.au.length)]):=by
 have c:=Qx w q hf H hl hq hd hu;rw[h]at c;exact aB.jP c rfl
def qx(w:cR)(q:aG):Int:=if eI w&&dV q then(mA w.au q.type 9 [] q.name).2 else 1
def ym(w:cR)(q:aG):iI:=if eI w&&dV q then(mA w.au q.type 9 [] q.name).1 else⟨0,[],[]⟩
theorem vZ{w:cR}(h:eI w=true):dY w.au/\w.au.length<=4000:=by
 obtain⟨-,h2,-⟩:=Qu.1 h;obtain⟨h3,h4,-⟩:=Qt.1 h2;refine⟨fun p hp=>?_,h3⟩;have:=h4 p hp;simp only[kz,Bool.and_eq_true]at this;exact this.2
theorem Bf{t:Text}(h:Nm.valid t=true):dep t<64:=by
 have:=(AT h).1;unfold dep;omega
theorem Bg{t:Text}(h:Nm.valid t=true):Nm.under t [46]=true:=by
 rw[s7];have:Nm.labels [46]=[]:=by decide
 rw[this];exact List.nil_prefix
theorem I'{l:List aH}{q:aG}:∀ {n:Nat} {ad:Text} {a:iI},iC l q n ad=some a->∃ p∈l,a=bK p.aC q/\a.kind≠4
 |0,_,_,h=>by simp[iC]at h
 |n+1,ad,a,h=>by
  rw[iC]at h;cases e:eB l ad with
  |none=>rw[e]at h;cases h
  |some z =>
   rw[e]at h;simp only at h;split at h
   ·exact I' h
   ·rename_i h4;cases h;obtain⟨-,p,hp,rfl⟩:=A5 e;exact⟨p,hp,rfl,h4⟩
theorem aal{l:List aH}(H:dY l){q:aG}{n:Nat}{ad:Text}{a:iI}(h:iC l q n ad=some a)(h3:a.kind=3):∃ s m d D,a.ab=s::m/\s.set.data=d::D/\yd a=d.text/\Nm.valid d.text=true:=by
 obtain⟨p,hp,rfl,-⟩:=I' h;obtain⟨s,m,d,D,g1,-,-,g4,g5,g6⟩:=DQ (kY (H p hp)) h3;exact⟨s,m,d,D,g1,g4,g5,g6⟩
theorem aam(z:aQ)(q:aG):(fY z q).ab.length<=3:=by
 unfold fY;repeat' split
 all_goals first|exact Nat.le_trans vM (by simp)|exact Nat.le_trans vM (Nat.le_trans Dq (by simp))
theorem aan{l:List aH}{q:aG}{n:Nat}{ad:Text}{a:iI}(h:iC l q n ad=some a):a.ab.length<=100000:=by
 obtain⟨p,hp,rfl,h4⟩:=I' h;have h1:=aam p.aC q
 revert h4
 unfold bK;repeat' split
 all_goals first|(intro _;omega)|(intro h;exact absurd rfl h)|(intro _;simp)
theorem aao(w:cR)(q:aG)(hf:w.Fits)(hn:q.name.length<=maxLen):az E 26 [w.enc,q.enc] (· = .aK [(ym w q).enc,.int .i64 (qx w q)]):=by
 have cw:=D2 w hf;have cq:=aab q hn;refine az.norm ?_;by_cases hv:eI w=true/\dV q=true
 case neg =>
  have hA:ym w q=⟨0,[],[]⟩:=by
   rw[ym];cases h1:eI w<;>cases h2:dV q<;>simp_all
  have hN:qx w q=1:=by
   rw[qx];cases h1:eI w<;>cases h2:dV q<;>simp_all
  rw[hA,hN];refine eP F26 ?_;refine aj (cw) ?_;refine gO F26 ?_;cases h1:eI w
  ·refine bq ?_;refine gO F26 ?_;refine bq ?_;refine gO F26 ?_;rfl
  ·have h2:dV q=false:=by simpa [h1]using hv
   rw[h2]at cq;refine aV ?_;refine gO F26 ?_;refine aj (cq) ?_;refine gO F26 ?_;refine bq ?_;refine gO F26 ?_;rfl
 obtain⟨hw,hq⟩:=hv;obtain⟨H,hl⟩:=vZ hw;have r9:=hf.au;rw[hw]at cw;rw[hq]at cq;have ct:=aai w r9 H (by omega);have hA:ym w q=(mA w.au q.type 9 [] q.name).1:=by rw[ym,hw,hq];rfl
 have hN:qx w q=(mA w.au q.type 9 [] q.name).2:=by rw[qx,hw,hq];rfl
 rw[hA,hN];have Qy:1<=q.type/\q.type<=8:=by simp only[dV,Bool.and_eq_true,decide_eq_true_eq]at hq;exact hq.2
 have rM:Nm.valid q.name=true:=by simp only[dV,Bool.and_eq_true]at hq;exact hq.1
 obtain⟨FR,yl⟩:∃ x,mA w.au q.type 9 [] q.name=x:=⟨_,rfl⟩;rw[yl];obtain⟨qn,qt⟩:=q;simp only at Qy rM yl;have pG:∀ t,Nm.valid t=true->dV ⟨t,qt⟩=true:=fun t ht=>by simp[dV,ht,Qy]
 have cy:=fun t ht x h=>aaj w ⟨t,qt⟩ r9 H (by omega) (pG t ht) (Bf ht) (Bg ht) (x:=x) h;have cn:=fun t ht h=>aak w ⟨t,qt⟩ r9 H (by omega) (pG t ht) (Bf ht) (Bg ht) h;have fd:=fun(t:Text) (x:iI) (h:iC w.au ⟨t,qt⟩ 64 [46]=some x) h3=>aal H h h3;have fl:=fun(t:Text) (x:iI) (h:iC w.au ⟨t,qt⟩ 64 [46]=some x)=>aan h;generalize hz:w.au=l at *;generalize k8 l l.length=es at *;refine eP F26 ?_;refine aj (cw) ?_;refine gO F26 ?_;refine aV ?_;refine gO F26 ?_;refine aj (cq) ?_;refine gO F26 ?_;refine aV ?_;refine gO F26 ?_;refine kI (ct) rfl ?_;refine gO F26 ?_;refine aa.l9 7 (57,5) (by decide) rfl ?_;(conv=>whnf);refine aa.loop (κ:=List Signed × Text × Nat) [5,7,8,9,21,22,23,24,25,26,27,28,29,30,31,32,33,34,35,36,37,38,39,40,41,42,43,44,45,46,47,48,49,50,51,52,53,54,55,56,57,58,59] (fun _=>[(7,.own 8 1)]) (fun x=>[(1,.cells [.d (.str x.2.1),.d (.int .i64 qt)]),(8,.arr 1 (57,5) (x.1.map Signed.enc))]) (fun x=>x.1.length+x.2.2=8/\Nm.valid x.2.1=true/\mA l qt (x.2.2+1) x.1 x.2.1=FR) (fun x=>x.2.2) ([],qn,8) ⟨rfl,rM,yl⟩ ?_ ?_
 ·(conv=>whnf);repeat (first|exact trivial|(refine sI ?_;conv=>whnf))
  refine And.intro rfl ?_;exact sZ
 rintro⟨kept,t,n⟩ ⟨h1,h2,h3⟩ IH;simp only at h1 h2 h3;rw[mA]at h3;refine aa.head ag F26 2000 ?_;(conv=>whnf);cases e:iC l ⟨t,qt⟩ 64 [46]with
 |none =>
  rw[e]at h3
  with_reducible refine bG (cn t h2 e) ?_
  refine gO F26 ?_;refine bq ?_;refine gO F26 ?_;rw[<- h3];rfl
 |some a =>
  rw[e]at h3;simp only at h3;have ha:=fl t a e
  with_reducible refine bG (cy t h2 a e) ?_
  refine gO F26 ?_;refine aV ?_;refine gO F26 ?_;by_cases k3:a.kind=3
  ·rw[if_pos k3]at h3;obtain⟨s,m,d,D,g1,g2,g3,g4⟩:=fd t a e k3;refine aP (by simpa using k3) ?_;refine gO F26 ?_;cases n with
   |zero =>
    refine aJ (by simp;omega) ?_;refine gO F26 ?_;rw[mA]at h3;rw[<- h3];rfl
   |succ n =>
    have O8:¬ kept.length=8:=by omega
    refine aP (by simp;omega) ?_;refine gO F26 ?_;refine aD (e:=s.enc) ⟨by omega,by rw[g1];rfl⟩ rfl ?_;refine gO F26 ?_;refine bB ⟨by simp;omega,by simp[DV.cells]⟩ ?_;refine gO F26 ?_;refine aD (e:=s.enc) ⟨by omega,by rw[g1];rfl⟩ rfl ?_;refine gO F26 ?_;refine aD (e:=d.enc) ⟨by omega,by rw[g2];rfl⟩ rfl ?_;refine gO F26 ?_;rw[g1,g3]at h3;refine aa.back (IH (kept++[s],d.text,n) ⟨by simp;omega,g4,h3⟩ (by simp)) ?_;(conv=>whnf);repeat (first|exact trivial|(refine sI ?_;conv=>whnf))
    refine And.intro (by simp) ?_;exact sZ
  ·rw[if_neg k3]at h3;refine aJ (by simpa using k3) ?_;refine gO F26 ?_;refine bB ⟨by simp;omega,by simp[DV.cells]⟩ ?_;refine gO F26 ?_;rw[<- h3];simp only[norm,rq,List.map_append,iI.enc]
def nv(l:List aH)(i:Int):DV:=match l[i.toNat]? with
 |some p => .agg [.int .i64 (iW p.aC),.int .i64 p.host]
 |none => .undef
def qy(l:List aH)(i:Int):DV:=match l[i.toNat]? with
 |some p=>p.aC.enc
 |none => .undef
def mB(l:List aH):List (DV × DV):=iX l (qy l) l.length
theorem aap(l:List aH):lQ DV.str (mB l):=(vX (Nat.le_refl _)).keys
theorem aaq(l:List aH)(a:Text):findD (.str a) (mB l)=match eB l a with|some z=>some z.enc|none=>none:=by
 have M:=vX (l:=l) (V:=qy l) (Nat.le_refl l.length);have h:=M.find a;have ai:=yh (l:=l) (ad:=a) (n:=l.length);by_cases h0:0<=dT l a l.length
 ·obtain⟨m,hm⟩:∃ m:Nat,dT l a l.length=m:=⟨(dT l a l.length).toNat,by omega⟩;obtain⟨p,hp⟩:=bd (l:=l) (k:=m) (by omega);rw[if_pos h0,hm]at h;rw[mB,h,D3 hm hp];simp only[qy,Int.toNat_natCast,hp]
 ·rw[if_neg h0]at h;rw[mB,h,I8 h0]
theorem Qz(bad:Nat->Prop)(w:World):VD bad w (.agg [.int .i64 0,.int .i64 0]) (.agg #[.int .i64 0,.int .i64 0]) := .agg _ _ rfl fun j x v hx hv=>by
 match j with
 |0=>simp at hx hv;subst hx;subst hv;exact .int _ _
 |1=>simp at hx hv;subst hx;subst hv;exact .int _ _
 |j+2=>simp at hx
theorem QA(bad:Nat->Prop)(w:World):VD bad w (.agg [.str [],.aW]) (.agg #[.string ⟨#[]⟩,.slice none 0 0]) := .agg _ _ rfl fun j x v hx hv=>by
 match j with
 |0=>simp at hx hv;subst hx;subst hv;exact .str []
 |1=>simp at hx hv;subst hx;subst hv;exact .aW
 |j+2=>simp at hx
theorem QB(w:cR)(hf:∀ p∈w.au,p.aC.Fits)(H:dY w.au)(hl:w.au.length<=1000000):aB E 42 [] [.d w.enc] (fun a b=>a=.map 2/\b=[.cells (sa w 0).dropLast,.map (iX w.au (nv w.au) w.au.length),.map (mB w.au)]):=by
 obtain⟨cC,l,anchor,hints⟩:=w;simp only at hf H hl;show aB E _ [] [.d (DV.agg [.sl (cC.map Host.enc),.sl (l.map aH.enc),.str anchor.name,.int .i64 anchor.type,.int .i64 anchor.jD,.sl (anchor.data.map Datum.enc),.sl (hints.map (.int .i64))])] _;refine aB.run ag (fn:=Tryz.f42) Tryz.func42 (body:=Tryz.f42.body.getD .skip) rfl (by decide) 2000 rfl ?_;(conv=>whnf);refine gO F42 ?_;refine gO F42 ?_;refine aa.loop (κ:=Nat) (rg 6 6++rg 17 51) (fun k=>[(17,.d (.int .i64 k))]) (fun k=>[(1,.map (iX l (nv l) k)),(2,.map (iX l (qy l) k))]) (fun k=>k<=l.length) (fun k=>l.length-k) 0 (Nat.zero_le _) ?_ ?_
 ·(conv=>whnf);repeat (first|exact trivial|(refine sI ?_;conv=>whnf))
  refine And.intro rfl ?_;(conv=>whnf);repeat (first|exact trivial|(refine sI ?_;conv=>whnf))
  refine And.intro rfl ?_;exact sZ
 intro k hk IH;refine aa.head ag F42 2000 ?_;(conv=>whnf);refine ar (fun h5=>?_) (fun h5=>?_)
 ·have ai:k<l.length:=by simpa using h5
  obtain⟨x,hx⟩:=bd ai;have ni:=D1 (V:=nv l) hx;have jL:=D1 (V:=qy l) hx;have v1:nv l k=.agg [.int .i64 (iW x.aC),.int .i64 x.host]:=by rw[nv,Int.toNat_natCast,hx]
  have v2:qy l k=x.aC.enc:=by rw[qy,Int.toNat_natCast,hx]
  rw[v1]at ni;rw[v2]at jL;have M1:nu l (nv l) k (iX l (nv l) k):=vX hk;have M2:nu l (qy l) k (iX l (qy l) k):=vX hk;have dq:=M1.find x.aC.ad;have jK:=yh (l:=l) (ad:=x.aC.ad) (n:=k);have Bh:=tK M1.keys;have Bi:=tK M2.keys;have oR:=List.mem_of_getElem? hx;have jg:kA l x k=(decide (dT l x.aC.ad k<0)||(match l[(dT l x.aC.ad k).toNat]? with|some q=>ep x q|none=>false)):=rfl;generalize dT l x.aC.ad k=b at dq jK jg;generalize iX l (nv l) k=es1 at *;generalize iX l (qy l) k=K8 at *;refine gO F42 ?_;refine aD (e:=x.enc) (aU hx) rfl ?_;refine gO F42 ?_;refine aj (Ie x.aC (hf x oR) (H x oR)) ?_;refine gO F42 ?_;by_cases h0:0<=b
  ·rw[if_pos h0]at dq;obtain⟨m,rfl⟩:∃ m:Nat,b=m:=⟨b.toNat,by omega⟩;obtain⟨y,hy⟩:=bd (l:=l) (k:=m) (by omega);have v3:nv l m=.agg [.int .i64 (iW y.aC),.int .i64 y.host]:=by rw[nv,Int.toNat_natCast,hy]
   rw[v3]at dq;rw[Int.toNat_natCast,hy]at jg;have vY:kA l x k=ep x y:=by
    have:¬ ((m:Int)<0):=by omega
    rw[jg];simp[this]
   clear jg;rw[vY]at ni jL;refine jx (.agg [.int .i64 0,.int .i64 0]) (.agg #[.int .i64 0,.int .i64 0]) (v := .agg [.int .i64 (iW y.aC),.int .i64 y.host]) (f:=true) ⟨_,rfl⟩ Bh (fun w=>by kernel_rfl) Qz (by rw[dq];rfl) (by rw[dq];rfl) ?_;refine gO F42 ?_;refine aV ?_;refine gO F42 ?_;by_cases g1:iW x.aC>iW y.aC
   ·have qw:ep x y=true:=by simp[ep];omega
    rw[qw,if_pos rfl]at ni jL;refine aJ (decide_eq_true g1) ?_;refine gO F42 ?_;refine bq ?_;refine gO F42 ?_;refine bB ⟨⟨_,rfl⟩,Bh⟩ ?_;refine gO F42 ?_;refine bB ⟨⟨_,rfl⟩,Bi⟩ ?_;refine gO F42 ?_;refine aa.back (IH (k+1) (by omega) (by omega)) ?_;rw[ni,jL];exact sZ
   ·refine aP (decide_eq_false g1) ?_;refine gO F42 ?_;by_cases g2:iW x.aC=iW y.aC
    ·refine aJ (by simpa using g2) ?_;refine gO F42 ?_;by_cases g3:x.host<y.host
     ·have qw:ep x y=true:=by simp[ep];omega
      rw[qw,if_pos rfl]at ni jL;refine aJ (decide_eq_true g3) ?_;refine gO F42 ?_;refine bB ⟨⟨_,rfl⟩,Bh⟩ ?_;refine gO F42 ?_;refine bB ⟨⟨_,rfl⟩,Bi⟩ ?_;refine gO F42 ?_;refine aa.back (IH (k+1) (by omega) (by omega)) ?_;rw[ni,jL];exact sZ
     ·have qw:ep x y=false:=by simp[ep];omega
      rw[qw,if_neg (by decide)]at ni jL;refine aP (decide_eq_false g3) ?_;refine gO F42 ?_;refine aa.back (IH (k+1) (by omega) (by omega)) ?_;rw[ni,jL];exact sZ
    ·have qw:ep x y=false:=by simp[ep];omega
     rw[qw,if_neg (by decide)]at ni jL;refine aP (by simpa using g2) ?_;refine gO F42 ?_;refine aV ?_;refine gO F42 ?_;refine aa.back (IH (k+1) (by omega) (by omega)) ?_;rw[ni,jL];exact sZ
  ·rw[if_neg h0]at dq;have vY:kA l x k=true:=by rw[jg];simp;omega
   rw[vY,if_pos rfl]at ni jL;refine jx (.agg [.int .i64 0,.int .i64 0]) (.agg #[.int .i64 0,.int .i64 0]) (v := .agg [.int .i64 0,.int .i64 0]) (f:=false) ⟨_,rfl⟩ Bh (fun w=>by kernel_rfl) Qz (by rw[dq];rfl) (by rw[dq];rfl) ?_;refine gO F42 ?_;refine bq ?_;refine gO F42 ?_;refine bq ?_;refine gO F42 ?_;refine bq ?_;refine gO F42 ?_;refine bB ⟨⟨_,rfl⟩,Bh⟩ ?_;refine gO F42 ?_;refine bB ⟨⟨_,rfl⟩,Bi⟩ ?_;refine gO F42 ?_;refine aa.back (IH (k+1) (by omega) (by omega)) ?_;rw[ni,jL];exact sZ
 ·have aL:l.length<=k:=by simpa using h5
  obtain rfl:k=l.length:=by omega
  refine gO F42 ?_;exact⟨rfl,rfl⟩
@[reducible] def bP.enc (x : bP) : DV := .agg [.str x.bw.name, .int .i64 x.bw.type, .str x.other]
theorem aar{ad:Text}{l:List Signed}{k:Nat}{x:Signed}(h:l[k]?=some x):er ad (l.take (k+1))=er ad (l.take k)++if x.set.name=ad/\x.set.type=2 then fk ad x.set.data else[]:=by
 rw[ey h,er,List.flatMap_append];simp[er,fk]
theorem QC{ad:Text}:∀ {l:List Signed},(∀ s∈l,s.set.data.length<=8)->(er ad l).length<=8*l.length
 |[],_=>by simp[er]
 |s::l,h=>by
  have ih:=QC (ad:=ad) (l:=l) fun x hx=>h x (List.mem_cons_of_mem _ hx);have h1:=h s (List.mem_cons_self ..);have e:er ad (s::l)=(if s.set.name=ad/\s.set.type=2 then s.set.data.map fun d=>(⟨⟨ad,2⟩,d.text⟩:bP)else[])++er ad l:=by rw[er,List.flatMap_cons];rfl
  rw[e,List.length_append,List.length_cons];split
  ·rw[List.length_map];omega
  ·rw[List.length_nil];omega
theorem QD{ad:Text}{D:List Datum}{k:Nat}{d:Datum}(h:D[k]?=some d):fk ad (D.take (k+1))=fk ad (D.take k)++[⟨⟨ad,2⟩,d.text⟩]:=by
 rw[ey h,fk,List.map_append];rfl
theorem QE(ad:Text)(l:List Signed)(Z:List Text)(F:List bP)(hd:∀ s∈l,s.set.data.length<=8)(hl:l.length<=1000000)(hF:F.length<=1000000000):aB E 127 [.cells [.own 1 0,.own 2 0],.arr 0 (9,1) (Z.map .str),.arr 0 (189,3) (F.map bP.enc)] [.d (.str ad),.d (.sl (l.map Signed.enc)),.ptr 0 0] (fun a b=>a=.aK []/\b=[.cells [.own 1 0,.own 2 1],.arr 0 (9,1) (Z.map .str),.arr 1 (189,3) ((F++er ad l).map bP.enc)]):=by
 refine aB.run ag (fn:=Tryz.f127) Tryz.func127 (body:=Tryz.f127.body.getD .skip) rfl (by decide) 2000 rfl ?_;(conv=>whnf);refine aa.loop (κ:=Nat) ([6,8]++rg 11 35) (fun k=>[(11,.d (.int .i64 k))]) (fun k=>[(0,.cells [.own 1 0,.own 2 1]),(2,.arr 1 (189,3) ((F++er ad (l.take k)).map bP.enc))]) (fun k=>k<=l.length) (fun k=>l.length-k) 0 (Nat.zero_le _) ?_ ?_
 ·(conv=>whnf);repeat (first|exact trivial|(refine sI ?_;conv=>whnf))
  refine And.intro (by simp[er]) ?_;exact sZ
 intro k hk IH;have iU:=QC (ad:=ad) (l:=l.take k) fun s hs=>hd s (List.mem_of_mem_take hs);rw[List.length_take]at iU;refine aa.head ag F127 2000 ?_;(conv=>whnf);refine ar (fun h5=>?_) (fun h5=>?_)
 ·have ai:k<l.length:=by simpa using h5
  obtain⟨x,hx⟩:=bd ai;have bj:=aar (ad:=ad) hx;have xz:=hd x (List.mem_of_getElem? hx);generalize er ad (l.take k)=G at iU bj ⊢;refine gO F127 ?_;refine aD (e:=x.enc) (aU hx) rfl ?_;refine gO F127 ?_;by_cases h6:x.set.name=ad
  ·refine aJ (by simpa using h6) ?_;refine gO F127 ?_;by_cases h7:x.set.type=2
   ·rw[if_pos ⟨h6,h7⟩]at bj;refine aJ (by simpa using h7) ?_;refine gO F127 ?_;refine aa.loop (κ:=Nat) ([8]++rg 30 15) (fun j=>[(30,.d (.int .i64 j))]) (fun j=>[(0,.cells [.own 1 0,.own 2 1]),(2,.arr 1 (189,3) ((F++G++fk ad (x.set.data.take j)).map bP.enc))]) (fun j=>j<=x.set.data.length) (fun j=>x.set.data.length-j) 0 (Nat.zero_le _) ?_ ?_
    ·(conv=>whnf);repeat (first|exact trivial|(refine sI ?_;conv=>whnf))
     refine And.intro (by simp[fk]) ?_;exact sZ
    intro j hj JH;have mK:(fk ad (x.set.data.take j)).length<=8:=by simp[fk];omega
    refine aa.head ag F127 2000 ?_;(conv=>whnf);refine ar (fun h8=>?_) (fun h8=>?_)
    ·have I5:j<x.set.data.length:=by simpa using h8
     obtain⟨d,QF⟩:=bd I5;have QG:=QD (ad:=ad) QF;generalize fk ad (x.set.data.take j)=HL at mK QG ⊢;refine gO F127 ?_;refine aD (e:=d.enc) (aU QF) rfl ?_;refine gO F127 ?_;refine bB ⟨by simp;omega,by simp[DV.cells]⟩ ?_;refine gO F127 ?_;refine aa.back (JH (j+1) (by omega) (by omega)) ?_;rw[QG];(conv=>whnf);repeat (first|exact trivial|(refine sI ?_;conv=>whnf))
     refine And.intro (by simp) ?_;exact sZ
    ·have Bb:x.set.data.length<=j:=by simpa using h8
     rw[List.take_of_length_le Bb];refine gO F127 ?_;refine aa.back (IH (k+1) (by omega) (by omega)) ?_;rw[bj];(conv=>whnf);repeat (first|exact trivial|(refine sI ?_;conv=>whnf))
     refine And.intro (by simp) ?_;exact sZ
   ·rw[if_neg (fun h=>h7 h.2),List.append_nil]at bj;refine aP (by simpa using h7) ?_;refine gO F127 ?_;refine aa.back (IH (k+1) (by omega) (by omega)) ?_;rw[bj];exact sZ
  ·rw[if_neg (fun h=>h6 h.1),List.append_nil]at bj;refine aP (by simpa using h6) ?_;refine gO F127 ?_;refine aV ?_;refine gO F127 ?_;refine aa.back (IH (k+1) (by omega) (by omega)) ?_;rw[bj];exact sZ
 ·have aL:l.length<=k:=by simpa using h5
  rw[List.take_of_length_le aL];refine gO F127 ?_;exact⟨rfl,rfl⟩
theorem aaE(l:List Text)(t:Text)(hl:l.length<=2147483648):az E 23 [.sl (l.map .str),.str t] (· = .bool (decide (t∈l))):=by
 refine eP F23 ?_;refine aa.loop (κ:=Nat) (rg 4 14) (fun k=>[(5,.d (.int .i64 k))]) (fun _=>[]) (fun k=>k<=l.length/\(t∈l↔t∈l.drop k)) (fun k=>l.length-k) 0 ⟨Nat.zero_le _,by simp⟩ ?_ ?_
 ·exact sZ
 rintro k ⟨hk,hm⟩ IH;refine aa.head ag F23 2000 ?_;(conv=>whnf);refine ar (fun h5=>?_) (fun h5=>?_)
 ·have ai:k<l.length:=by simpa using h5
  obtain⟨x,hx⟩:=bd ai;rw[AY hx,List.mem_cons]at hm;refine gO F23 ?_;refine aD (e := .str x) (aU hx) rfl ?_;refine gO F23 ?_;by_cases h6:x=t
  ·refine aJ (by simpa using h6) ?_;refine gO F23 ?_;rw[decide_eq_true (hm.2 (.inl h6.symm))]
  ·refine aP (by simpa using h6) ?_;refine gO F23 ?_;refine aa.back (IH (k+1) ⟨by omega,hm.trans ⟨fun h=>h.resolve_left fun e=>h6 e.symm,.inr⟩⟩ (by omega)) ?_;exact sZ
 ·have aL:l.length<=k:=by simpa using h5
  rw[List.drop_eq_nil_of_le aL]at hm;refine gO F23 ?_;rw[decide_eq_false (fun h=>by have:=hm.1 h;simp at this)]
theorem aaF(a b:List aG)(hl:a.length<=2147483648):az E 18 [.sl (a.map aG.enc),.sl (b.map aG.enc)] (· = .bool (decide (a=b))):=by
 refine eP F18 ?_;refine ar (fun h5=>?_) (fun h5=>?_)
 ·have aM:a.length≠b.length:=by simp at h5;omega
  refine gO F18 ?_;rw[decide_eq_false (fun e=>aM (by rw[e]))]
 have hlen:a.length=b.length:=by simp at h5;omega
 refine gO F18 ?_;refine aa.loop (κ:=Nat) ([4,5]++rg 11 15) (fun k=>[(5,.d (.int .i64 k))]) (fun _=>[]) (fun k=>k<=a.length/\a.take k=b.take k) (fun k=>a.length-k) 0 ⟨Nat.zero_le _,by simp⟩ ?_ ?_
 ·exact sZ
 rintro k ⟨hk,hm⟩ IH;refine aa.head ag F18 2000 ?_;(conv=>whnf);refine ar (fun h6=>?_) (fun h6=>?_)
 ·have ai:k<a.length:=by simpa using h6
  obtain⟨u,hu⟩:=bd ai;obtain⟨v,hv⟩:=bd (l:=b) (k:=k) (by omega);refine gO F18 ?_;refine aa.draw ag bU 8 2000 (by kernel_rfl) ?_;(conv=>whnf);refine aD (e:=u.enc) (aU hu) rfl ?_;refine gD ?_;refine aD (e:=v.enc) (aU hv) rfl ?_;refine gD ?_;refine gS ?_;refine gO F18 ?_;by_cases g:u=v
  ·refine aP (by subst g;simp) ?_;refine gO F18 ?_;refine aa.back (IH (k+1) ⟨by omega,by rw[List.take_add_one,List.take_add_one,hu,hv,hm,g]⟩ (by omega)) ?_;exact sZ
  ·refine aJ (by obtain⟨un,ut⟩:=u;obtain⟨vn,vt⟩:=v;simp at g ⊢;exact Classical.or_iff_not_imp_left.2 fun h=>g (Classical.not_not.1 h)) ?_;refine gO F18 ?_;rw[decide_eq_false (fun e=>g (by subst e;exact Option.some.inj (hu.symm.trans hv)))]
 ·have aL:a.length<=k:=by simpa using h6
  rw[List.take_of_length_le aL,List.take_of_length_le (by omega)]at hm;refine gO F18 ?_;rw[decide_eq_true hm]
theorem aaG(x y:bP)(h1:x.bw.name.length<=1000)(h2:y.bw.name.length<=1000)(h3:x.other.length<=1000)(h4:y.other.length<=1000):az E 165 [x.enc,y.enc] (· = .bool (dC x y)):=by
 obtain⟨⟨xn,xt⟩,xo⟩:=x;obtain⟨⟨yn,yt⟩,yo⟩:=y;simp only at h1 h2 h3 h4;have c1:=Ah xn yn h1 h2;have c2:=Ah xo yo h3 h4;show az E _ [DV.agg [.str xn,.int .i64 xt,.str xo],DV.agg [.str yn,.int .i64 yt,.str yo]] _;refine eP F165 ?_;refine aj (c1) ?_;refine gO F165 ?_;by_cases g1:bC xn yn=0
 ·have e:=oZ g1;subst e;refine aP (by simpa using g1) ?_;refine gO F165 ?_;by_cases g2:xt=yt
  ·subst g2;refine aP (by simp) ?_;refine gO F165 ?_;refine aj (c2) ?_;refine gO F165 ?_;simp[dC,kp]
  ·refine aJ (by simpa using g2) ?_;refine gO F165 ?_;simp[dC,kp,g2]
 ·refine aJ (by simpa using g1) ?_;refine gO F165 ?_;have aM:xn≠yn:=fun e=>g1 (by rw[e,kp]);simp[dC,aM]
@[reducible] def pk (l : List bP) : DV := if l = [] then .aW else .sl (l.map bP.enc)
def v7(x:bP):Prop:=x.bw.name.length<=1000/\x.other.length<=1000
theorem QL(l:List bP)(x:bP)(hs:l.Pairwise fun a b=>dC a b=true)(hl:l.length<=1000000)(hx:v7 x)(hL:∀ y∈l,v7 y):az E 105 [pk l,x.enc] (· = .sl ((iB dC l x).map bP.enc)):=by
 by_cases h0:l=[]
 ·subst h0;show az E _ [.aW,DV.agg [.str x.bw.name,.int .i64 x.bw.type,.str x.other]] _;refine eP F105 ?_;refine aa.l9 5 (123,3) (by decide) rfl ?_;(conv=>whnf);refine aa.uZ ?_;refine aa.run ag F105 2000 ?_;(conv=>whnf);refine aP (by decide) ?_;refine gO F105 ?_;refine bq ?_;refine gO F105 ?_;refine bB ⟨by simp,by simp[DV.cells]⟩ ?_;refine gO F105 ?_;rfl
 have e:pk l=.sl (l.map bP.enc):=if_neg h0;rw[e];show az E _ [_,DV.agg [.str x.bw.name,.int .i64 x.bw.type,.str x.other]] _;obtain⟨W,hW⟩:∃ W,iB dC l x=W:=⟨_,rfl⟩;rw[hW];refine eP F105 ?_;refine aa.l9 5 (123,3) (by decide) rfl ?_;(conv=>whnf);refine aa.loop (κ:=Nat × Bool × List bP) [4,5,6,7,8,9,10,11,12,13,14,15,16,17,18,19,20,21,22,23,24,25,26,27,28,29,30,31,32,33,34,35,36,37,38,39,40,41] (fun q=>[(7,.d (.int .i64 q.1)),(6,.d (.bool q.2.1)),(5,.own 1 1)]) (fun q=>[(1,.arr 1 (123,3) (q.2.2.map bP.enc))]) (fun q=>q.1<=l.length/\q.2.2.length<=q.1+1/\(q.2.1=true->W=q.2.2++l.drop q.1/\x ∉ l.drop q.1)/\(q.2.1=false->q.2.2=l.take q.1/\W=l.take q.1++iB dC (l.drop q.1) x)) (fun q=>l.length-q.1) (0,false,[]) ⟨Nat.zero_le _,by simp,by simp,fun _=>by simp[hW]⟩ ?_ ?_
 ·(conv=>whnf);repeat (first|exact trivial|(refine sI ?_;conv=>whnf))
  refine And.intro rfl ?_;exact sZ
 rintro⟨k,dn,A⟩ ⟨h1,h2,h3,h4⟩ IH;simp only at h1 h2 h3 h4;refine aa.head ag F105 2000 ?_;(conv=>whnf);refine ar (fun h5=>?_) (fun h5=>?_)
 ·have ai:k<l.length:=by simpa using h5
  obtain⟨y,hy⟩:=bd ai;have hd:=AY hy;have oS:=hL y (List.mem_of_getElem? hy);have c1:=aaG x y hx.1 oS.1 hx.2 oS.2;refine gO F105 ?_;refine aa.draw ag bU 5 2000 (by kernel_rfl) ?_;(conv=>whnf);refine aD (e:=y.enc) (aU hy) rfl ?_;refine gD ?_;refine gS ?_;refine cI.aaD ag (by exact rfl) (by exact rfl) (by exact rfl) (by exact rfl) (by exact rfl) (by exact rfl) (by exact rfl) (by exact rfl) (by kernel_rfl) (by kernel_rfl) (l1:=[.str y.bw.name,.int .i64 y.bw.type]) (l2 := .str y.other) (m1:=[.str x.bw.name,.int .i64 x.bw.type]) (m2 := .str x.other) (bg (by exact rfl)) (bg (by exact rfl)) (by exact rfl) (by exact rfl) (by exact rfl) (by exact rfl) ?_;(conv=>whnf);refine gS ?_;have hq:((y.bw.name==x.bw.name&&(y.bw.type==x.bw.type&&true))&&y.other==x.other)=decide (y=x):=by
   obtain⟨⟨yn,yt⟩,yo⟩:=y;obtain⟨⟨xn,xt⟩,xo⟩:=x;rw[Bool.eq_iff_iff];simp
  refine gO F105 ?_;by_cases g:y=x
  ·refine aJ (hq.trans (decide_eq_true g)) ?_;refine gO F105 ?_;subst g;have o6:dn=false:=by
    cases dn
    ·rfl
    ·exact absurd (by rw[hd];exact List.mem_cons_self ..) (h3 rfl).2
   obtain⟨-,e2⟩:=h4 o6;rw[e2,hd,iB,if_pos rfl,<- hd,List.take_append_drop]
  refine aP (hq.trans (decide_eq_false g)) ?_;cases dn
  ·obtain⟨e1,e2⟩:=h4 rfl;rw[hd,iB,if_neg g]at e2;have hlA:A.length=k:=by rw[e1];simp;omega
   refine gO F105 ?_;refine aa.draw ag bU 9 2000 (by kernel_rfl) ?_;(conv=>whnf);refine aJ rfl ?_;refine gD ?_;refine aD (e:=y.enc) (aU hy) rfl ?_;refine gD ?_;refine bl (c1) ?_;refine gD ?_;refine gS ?_;refine gO F105 ?_;by_cases g2:dC x y=true
   ·refine aJ g2 ?_;rw[if_pos g2]at e2;have bj:x ∉ l.drop (k+1):=fun hm=>by
     have h8:=hs.drop (i:=k);rw[hd]at h8;have h9:=(List.pairwise_cons.1 h8).1 x hm;have:=yc x y x g2 h9;rw[IQ]at this;cases this
    refine gO F105 ?_;refine bB ⟨by simp;omega,by simp[DV.cells]⟩ ?_;refine gO F105 ?_;refine aD (e:=y.enc) (aU hy) rfl ?_;refine gO F105 ?_;refine bB ⟨by simp;omega,by simp[DV.cells]⟩ ?_;refine gO F105 ?_;refine aa.back (IH (k+1,true,A++[x]++[y]) (by refine⟨by simp only;omega,by simp;omega,fun q=>⟨by simp only;rw[e2,e1];simp,bj⟩,fun q=>absurd q (by simp)⟩) (by simp only;omega)) ?_;(conv=>whnf);repeat (first|exact trivial|(refine sI ?_;conv=>whnf))
    refine And.intro (by simp) ?_;exact sZ
   ·refine aP (by simpa using g2) ?_;rw[if_neg g2]at e2;refine gO F105 ?_;refine aD (e:=y.enc) (aU hy) rfl ?_;refine gO F105 ?_;refine bB ⟨by simp;omega,by simp[DV.cells]⟩ ?_;refine gO F105 ?_;refine aa.back (IH (k+1,false,A++[y]) (by refine⟨by simp only;omega,by simp;omega,fun q=>absurd q (by simp),fun q=>⟨by simp only;rw[ey hy,e1],by simp only;rw[e2,ey hy,List.append_assoc];rfl⟩⟩) (by simp only;omega)) ?_;(conv=>whnf);repeat (first|exact trivial|(refine sI ?_;conv=>whnf))
    refine And.intro (by simp) ?_;exact sZ
  ·obtain⟨e1,e2⟩:=h3 rfl;rw[hd]at e1 e2;refine gO F105 ?_;refine aa.draw ag bU 9 2000 (by kernel_rfl) ?_;(conv=>whnf);refine aP rfl ?_;refine gD ?_;refine gS ?_;refine gO F105 ?_;refine aP rfl ?_;refine gO F105 ?_;refine aD (e:=y.enc) (aU hy) rfl ?_;refine gO F105 ?_;refine bB ⟨by simp;omega,by simp[DV.cells]⟩ ?_;refine gO F105 ?_;refine aa.back (IH (k+1,true,A++[y]) (by refine⟨by simp only;omega,by simp;omega,fun q=>⟨by simp only;rw[e1];simp,fun hm=>e2 (List.mem_cons_of_mem _ hm)⟩,fun q=>absurd q (by simp)⟩) (by simp only;omega)) ?_;(conv=>whnf);repeat (first|exact trivial|(refine sI ?_;conv=>whnf))
   refine And.intro (by simp) ?_;exact sZ
 ·have aL:l.length<=k:=by simpa using h5
  rw[List.drop_eq_nil_of_le aL]at h3 h4;cases dn
  ·obtain⟨e1,e2⟩:=h4 rfl;refine gO F105 ?_;refine bq ?_;refine gO F105 ?_;refine bB ⟨by simp;omega,by simp[DV.cells]⟩ ?_;refine gO F105 ?_;rw[e2,e1];simp[iB]
  ·obtain⟨e1,-⟩:=h3 rfl;refine gO F105 ?_;refine aV ?_;refine gO F105 ?_;rw[e1];simp
theorem aaH{z:aQ}{q:aG}(V:eH z)(h4:(bK z q).kind=4):(bK z q).ab.length<=10:=by
 obtain⟨-,c,h1,h2⟩:=IV h4;obtain⟨-,g2⟩:=DA V h1;obtain⟨s,hs,-⟩:=jN g2;have hd:=(rF (V.ab s (List.mem_of_getElem? hs))).2.1;rw[h2];have e1:=vM (l:=z.ab) (ps:=gX z.ab c);have e2:=Dq (ps:=aq z.ab ⟨c,2⟩::eA z.ab c::lP z.ab c);have e3:(lP z.ab c).length<=8:=by
  have e:lP z.ab c=dO z.ab c s.set.data:=by rw[lP,x8,hs];rfl
  rw[e];exact Nat.le_trans (rZ ..) hd
 have e4:(gX z.ab c).length<=10:=by
  rw[gX];simp only[List.length_cons]at e2;omega
 simp only;omega
theorem sb{z:aQ}(V:eH z):∀ s∈z.ab,s.set.data.length<=8:=fun s hs=>(rF (V.ab s hs)).2.1
@[reducible] def v8 (Z : List Text) (F : List bP) : DV := .agg [.sl (Z.map .str), .sl (F.map bP.enc)]
theorem D4{l:List aH}{s ad:Text}{n:Nat}{z:aQ}(h:eB l ad=some z)(h4:(bK z ⟨s,1⟩).kind=4):dz l s (n+1) ad=(ad::(dz l s n (bK z ⟨s,1⟩).cut).1,er ad z.ab++(er (bK z ⟨s,1⟩).cut (bK z ⟨s,1⟩).ab++(dz l s n (bK z ⟨s,1⟩).cut).2)):=by
 rw[dz,h];simp only;rw[if_pos h4]
theorem D5{l:List aH}{s ad:Text}{n:Nat}{z:aQ}(h:eB l ad=some z)(h4:¬ (bK z ⟨s,1⟩).kind=4):dz l s (n+1) ad=([ad],er ad z.ab++pg s (bK z ⟨s,1⟩)):=by
 rw[dz,h];simp only;rw[if_neg h4]
theorem D6{l:List aH}{s ad:Text}{n:Nat}(h:eB l ad=none):dz l s (n+1) ad=([ad],[]):=by
 rw[dz,h]
theorem aaI(l:List aH)(s:Text)(hf:∀ p∈l,p.aC.Fits)(H:dY l)(hs:Nm.valid s=true):aB E 86 [.map (mB l)] [.map 0,.d (.str s)] (fun a b=>a=.d (v8 (dz l s 64 [46]).1 (lS l s))/\b=[.map (mB l)]):=by
 have F:=DO H;have dJ:=tK (aap l);have mb:=aaq l;have iU:=dF hs;have hq:dV ⟨s,1⟩=true:=by simp[dV,hs]
 obtain⟨JR,QM⟩:∃ x,dz l s 64 [46]=x:=⟨_,rfl⟩;rw[lS,QM];generalize mB l=es at dJ mb ⊢;apply aB.jP
 case hk=>rfl
 refine aB.run ag (fn:=Tryz.f86) Tryz.func86 (body:=Tryz.f86.body.getD .skip) rfl (by decide) 2000 rfl ?_;(conv=>whnf);refine aa.tA 2 0 (9,1) (by decide) rfl rfl ?_;(conv=>whnf);refine aa.tA 2 1 (189,3) (by decide) rfl rfl ?_;(conv=>whnf);refine aa.loop (κ:=Nat × Text × List Text × List bP) [7,8,9,10,11,12,14,15,16,17,18,19,20,21,22,23,24,25,26,27,28,29,30,31,32,33,34,35,36,37,38,39,40,41,42,43,44,45,46,47,48,49,50,51,52,53,54,55,56,57,58,59,60,61,62,63,64,65,66,67,68,69,70,71,72,73] (fun x=>[(7,.d (.str x.2.1))]) (fun x=>[(2,.cells [.own 3 1,.own 4 1]),(3,.arr 1 (9,1) (x.2.2.1.map .str)),(4,.arr 1 (189,3) (x.2.2.2.map bP.enc))]) (fun x=>Nm.under s x.2.1=true/\dep s<x.1+dep x.2.1/\x.2.2.1.length+x.1=64/\x.2.2.2.length+16*x.1<=1024/\JR=(x.2.2.1++(dz l s x.1 x.2.1).1,x.2.2.2++(dz l s x.1 x.2.1).2)) (fun x=>x.1) (64,[46],[],[]) ⟨Bg hs,by have:=Bf hs;simp only;omega,rfl,by simp,by simp[QM]⟩ ?_ ?_
 ·(conv=>whnf);repeat (first|exact trivial|(refine sI ?_;conv=>whnf))
  refine And.intro rfl ?_;(conv=>whnf);repeat (first|exact trivial|(refine sI ?_;conv=>whnf))
  refine And.intro rfl ?_;exact sZ
 rintro⟨n,ad,Z,G⟩ ⟨h1,h2,h3,h4,h5⟩ IH;simp only at h1 h2 h3 h4 h5;obtain⟨n,rfl⟩:∃ m,n=m+1:=⟨n-1,by have:=DN h1;omega⟩;have dq:=mb ad;refine aa.head ag F86 2000 ?_;(conv=>whnf);refine bB ⟨by simp;omega,by simp[DV.cells]⟩ ?_;refine gO F86 ?_;cases e:eB l ad with
 |none =>
  rw[e]at dq;rw[D6 e]at h5;subst h5;refine jx (.agg [.str [],.aW]) (.agg #[.string ⟨#[]⟩,.slice none 0 0]) (v := .agg [.str [],.aW]) (f:=false) ⟨_,rfl⟩ dJ (fun w=>by kernel_rfl) QA (by simp only[dq];rfl) (by simp only[dq];rfl) ?_;refine gO F86 ?_;refine bq ?_;(conv=>whnf);refine aa.freeze 3 ?_;(conv=>whnf);refine aa.freeze 4 ?_;(conv=>whnf);refine gO F86 ?_;exact⟨by simp[v8],rfl⟩
 |some z =>
  rw[e]at dq;obtain⟨hz,wa⟩:=H.at_ e;obtain⟨-,p,hp,rfl⟩:=A5 e;have V:=kY hz;refine jx (.agg [.str [],.aW]) (.agg #[.string ⟨#[]⟩,.slice none 0 0]) (v:=p.aC.enc) (f:=true) ⟨_,rfl⟩ dJ (fun w=>by kernel_rfl) QA (by simp only[dq];rfl) (by simp only[dq];rfl) ?_;refine gO F86 ?_;refine aV ?_;refine gO F86 ?_;have bT:=V.len;have c1:=QE ad p.aC.ab (Z++[ad]) G (sb V) (by omega) (by omega);rw[List.map_append,List.map_singleton]at c1;obtain⟨a1,a2⟩:=I9 (q:=⟨s,1⟩) hz hq;have c2:=PO p.aC ⟨s,1⟩ (hf p hp) (mQ (show s.length<=2147483648 by omega));rw[a1,a2]at c2;have uW:(er ad p.aC.ab).length<=8:=by
   have AN:p.aC.ad=ad:=wa;by_cases h0:0<=aq p.aC.ab ⟨ad,2⟩
   ·obtain⟨y,hy,-⟩:=jN h0;rw[IX V.sorted h0 hy];simp[fk];exact sb V y (List.mem_of_getElem? hy)
   ·have:er ad p.aC.ab=[]:=by
     rw[er,List.flatMap_eq_nil_iff];intro y hy;refine if_neg fun⟨b1,b2⟩=>h0 ?_;obtain⟨i,hi⟩:=List.getElem?_of_mem hy;have:=xZ V.sorted hi;rw[b1,b2]at this;omega
    rw[this];simp
  with_reducible refine bG (c1) ?_
  refine gO F86 ?_;refine aj (c2) ?_;refine gO F86 ?_;by_cases k4:(bK p.aC ⟨s,1⟩).kind=4
  ·have k3:¬ (bK p.aC ⟨s,1⟩).kind=3:=by omega
   obtain⟨f1,f2⟩:=F ad p.aC ⟨s,1⟩ e k4;obtain⟨y,m,g1,g2,g3,g4,g5⟩:=DP V k4;have iD:(er (bK p.aC ⟨s,1⟩).cut (bK p.aC ⟨s,1⟩).ab).length<=8:=by
    rw[g5];simp[fk];exact sb V y g2
   have c3:=QE (bK p.aC ⟨s,1⟩).cut (bK p.aC ⟨s,1⟩).ab (Z++[ad]) (G++er ad p.aC.ab) (fun y hy=>sb V y (P2 hy)) (by have:=aaH V k4;omega) (by simp;omega);rw[List.map_append,List.map_singleton]at c3;rw[D4 e k4]at h5;refine aP (by simpa using k3) ?_;refine gO F86 ?_;refine aP (by simpa using k4) ?_;refine gO F86 ?_
   with_reducible refine bG (c3) ?_
   refine gO F86 ?_;refine aa.back (IH (n,(bK p.aC ⟨s,1⟩).cut,Z++[ad],G++er ad p.aC.ab++er (bK p.aC ⟨s,1⟩).cut (bK p.aC ⟨s,1⟩).ab) ⟨f1,by simp only;omega,by simp;omega,by simp;omega,by rw[h5];simp⟩ (by simp)) ?_;(conv=>whnf);repeat (first|exact trivial|(refine sI ?_;conv=>whnf))
   refine And.intro (by simp) ?_;exact sZ
  ·rw[D5 e k4]at h5;subst h5;by_cases k3:(bK p.aC ⟨s,1⟩).kind=3
   ·obtain⟨y,m,d,D,g1,g2,g3,g5,g6,g7⟩:=DQ V k3;refine aJ (by simpa using k3) ?_;refine gO F86 ?_;refine aa.draw ag bU 14 2000 (by kernel_rfl) ?_;(conv=>whnf);refine aD (e:=y.enc) ⟨by omega,by rw[g1];rfl⟩ rfl ?_;refine gD ?_;refine aD (e:=d.enc) ⟨by omega,by rw[g5];rfl⟩ rfl ?_;refine gD ?_;refine gS ?_;refine bB ⟨by simp;omega,by simp[DV.cells]⟩ ?_;refine gS ?_;refine gO F86 ?_;refine aJ (by simpa using k4) ?_;(conv=>whnf);refine aa.freeze 3 ?_;(conv=>whnf);refine aa.freeze 4 ?_;(conv=>whnf);refine gO F86 ?_;exact⟨by simp[v8,pg,k3,g6],rfl⟩
   ·refine aP (by simpa using k3) ?_;refine gO F86 ?_;refine aJ (by simpa using k4) ?_;(conv=>whnf);refine aa.freeze 3 ?_;(conv=>whnf);refine aa.freeze 4 ?_;(conv=>whnf);refine gO F86 ?_;exact⟨by simp[v8,pg,k3],rfl⟩
theorem Bl{α:Type}[DecidableEq α]{lt:α->α->Bool}(l a b:List α):fH (lt:=lt) l (a++b)=fH (lt:=lt) (fH (lt:=lt) l a) b:=by
 simp[fH,List.foldl_append]
theorem D7{α:Type}[DecidableEq α]{lt:α->α->Bool}:∀ (xs l:List α),(fH (lt:=lt) l xs).length<=l.length+xs.length:=by
 have one:∀ (l:List α) (x:α),(iB lt l x).length<=l.length+1:=by
  intro l x
  induction l with
  |nil=>simp[iB]
  |cons y r ih=>rw[iB];split<;>(try split)<;>simp<;>omega
 intro xs
 induction xs with
 |nil=>intro l;simp[fH]
 |cons x xs ih =>
  intro l;have h1:=ih (iB lt l x);have h2:=one l x;rw[fH,List.foldl_cons];rw[fH]at h1;simp;omega
theorem QN{l:List bP}(h:l≠[]):pk l=.sl (l.map bP.enc):=if_neg h
theorem QO{l:List bP}{x:bP}:iB dC l x≠[]:=fun e=>by
 have:=A0 (lt:=dC) (l:=l) (x:=x) (y:=x);rw[e]at this;simp at this
def pn(l:List bP):Prop:=l.Pairwise (fun a b=>dC a b=true)/\∀ y∈l,v7 y
theorem pn.with{l:List bP}(h:pn l){x:bP}(hx:v7 x):pn (iB dC l x):=⟨IP yc DL h.1,fun y hy=>(A0.1 hy).elim (h.2 y) fun e=>e ▸ hx⟩
theorem pn.all{l:List bP}(h:pn l):∀ {xs:List bP},(∀ x∈xs,v7 x)->pn (fH (lt:=dC) l xs)
 |[],_=>h
 |x::xs,hx=>by
  rw[fH,List.foldl_cons];exact pn.all (h.with (hx x (List.mem_cons_self ..))) fun y hy=>hx y (List.mem_cons_of_mem _ hy)
theorem aaJ{ad:Text}{L:List bP}{D:List Datum}{k:Nat}{d:Datum}(h:D[k]?=some d):fH (lt:=dC) L (fk ad (D.take (k+1)))=iB dC (fH (lt:=dC) L (fk ad (D.take k))) ⟨⟨ad,2⟩,d.text⟩:=by
 rw[QD h,Bl];rfl
theorem QP(L:List bP)(ad:Text)(s:eM)(hL:pn L)(hl:L.length<=900000)(ha:ad.length<=1000)(hd:s.data.length<=8)(ht:∀ d∈s.data,d.text.length<=1000):az E 103 [pk L,.str ad,s.enc] (· = pk (fH (lt:=dC) L (fk ad s.data))):=by
 obtain⟨sn,st,sl,D⟩:=s;simp only at hd ht;show az E _ [pk L,.str ad,DV.agg [.str sn,.int .i64 st,.int .i64 sl,.sl (D.map Datum.enc)]] _;have hsh:∀ k,∀ x∈fk ad (D.take k),v7 x:=fun k x hx=>by
  obtain⟨d,Jc,rfl⟩:=List.mem_map.1 hx;exact⟨ha,ht d (List.mem_of_mem_take Jc)⟩
 refine eP Tryz.func103 ?_;refine aa.loop (κ:=Nat) ([0]++rg 7 19) (fun k=>[(7,.d (.int .i64 k)),(0,.d (pk (fH (lt:=dC) L (fk ad (D.take k)))))]) (fun _=>[]) (fun k=>k<=D.length) (fun k=>D.length-k) 0 (Nat.zero_le _) ?_ ?_
 ·(conv=>whnf);repeat (first|exact trivial|(refine sI ?_;conv=>whnf))
  refine And.intro rfl ?_;exact sZ
 intro k hk IH;have aO:=hL.all (hsh k);have hlen:=D7 (lt:=dC) (fk ad (D.take k)) L;have hlh:(fk ad (D.take k)).length<=8:=by simp[fk];omega
 refine aa.head ag Tryz.func103 2000 ?_;(conv=>whnf);refine ar (fun h5=>?_) (fun h5=>?_)
 ·have ai:k<D.length:=by simpa using h5
  obtain⟨d,Jd⟩:=bd ai;have bj:=aaJ (ad:=ad) (L:=L) Jd;have c1:=QL (fH (lt:=dC) L (fk ad (D.take k))) ⟨⟨ad,2⟩,d.text⟩ aO.1 (by omega) ⟨ha,ht d (List.mem_of_getElem? Jd)⟩ aO.2;rw[<- QN QO,<- bj]at c1;refine gO Tryz.func103 ?_;refine aD (e:=d.enc) (aU Jd) rfl ?_;refine gO Tryz.func103 ?_;refine aj (c1) ?_;refine gO Tryz.func103 ?_;refine aa.back (IH (k+1) (by omega) (by omega)) ?_;exact sZ
 ·have aL:D.length<=k:=by simpa using h5
  rw[List.take_of_length_le aL];refine gO Tryz.func103 ?_
  with_reducible rfl
theorem Je{z:aQ}(h:eF z=true):0<=aq z.ab ⟨z.ad,2⟩:=by
 simp only[eF,rJ,Bool.and_eq_true,Bool.not_eq_true',decide_eq_false_iff_not]at h;omega
theorem aaL{l:List aH}{ad:Text}(h:eB l ad=none):ky l ad<0:=by
 rcases vU (l:=l) (ad:=ad) l.length with⟨h1,h2⟩|⟨k,q,h1,h2⟩
 ·unfold ky;rw[h1];decide
 ·exact absurd h2.home (PV.1 h q (List.mem_of_getElem? h2.at_))
theorem QQ{s:eM}(h:fg s=true):∀ d∈s.data,d.text.length<=1000:=fun d hd=>by
 have:=(rF h).2.2.2 d hd;omega
theorem QR{ad:Text}{D:List Datum}(ha:ad.length<=1000)(ht:∀ d∈D,d.text.length<=1000):∀ x∈fk ad D,v7 x:=fun x hx=>by
 obtain⟨d,hd,rfl⟩:=List.mem_map.1 hx;exact⟨ha,ht d hd⟩
theorem aaM(l:List aH)(s:Text)(hf:∀ p∈l,p.aC.Fits)(H:dY l)(hl:l.length<=1000000)(hs:Nm.valid s=true):az E 65 [.sl (l.map aH.enc),.str s] (· = .aK [.sl ((gI l s).1.map .str),pk (gI l s).2]):=by
 have F:=DO H;have iU:=dF hs;have hq:dV ⟨s,1⟩=true:=by simp[dV,hs]
 obtain⟨JZ,QS⟩:∃ x,(gI l s).1=x:=⟨_,rfl⟩;obtain⟨JL,QT⟩:∃ x,(gI l s).2=x:=⟨_,rfl⟩;rw[QS,QT];have c0:=I4 l [46] H hl;refine az.run ag (fn:=Tryz.f65) Tryz.func65 (body:=Tryz.f65.body.getD .skip) rfl (by decide) 1 ?_;(conv=>whnf);repeat ((fail_if_success (refine aa.kQ ag rfl ?_;(conv=>whnf);refine aa.run ag F65 1 ?_));(refine aa.run ag F65 1 ?_);(conv=>whnf))
 refine aa.kQ ag rfl ?_;refine gO F65 ?_;refine aj (c0) ?_;refine gO F65 ?_;refine aa.loop (κ:=Nat × Text × Int × List Text × List bP) [6,7,8,9,10,11,12,13,18,19,20,21,22,23,24,25,26,27,28,29,30,31,32,33,34,35,36,37,38,39,40,41,42,43,44,45,46,47,48,49,50,51,52,53,54,55,56,57,58,59,60,61,62,63,64,65,66,67,68,69,70,71,72,73,74,75,76,77,78,79,80,81] (fun x=>[(9,.d (.int .i64 x.2.2.1)),(8,.d (.str x.2.1)),(7,.d (pk x.2.2.2.2)),(6,.own 0 1)]) (fun x=>[(0,.arr 1 (9,1) (x.2.2.2.1.map .str))]) (fun x=>x.2.2.1=ky l x.2.1/\Nm.under s x.2.1=true/\dep s<x.1+dep x.2.1/\x.2.2.2.1.length+x.1=65/\(pn x.2.2.2.2/\x.2.2.2.2.length+16*x.1<=1024)/\(∃ Z0,x.2.2.2.1=Z0++[x.2.1]/\JZ=Z0++(dz l s x.1 x.2.1).1)/\JL=fH (lt:=dC) x.2.2.2.2 (dz l s x.1 x.2.1).2) (fun x=>x.1) (64,[46],ky l [46],[[46]],[]) ⟨rfl,?_,?_,rfl,⟨⟨List.Pairwise.nil,by simp⟩,by simp⟩,⟨[],rfl,QS.symm⟩,QT.symm⟩ ?_ ?_
 ·exact Bg hs
 ·have:=Bf hs;simp only;omega
 ·(conv=>whnf);repeat (first|exact trivial|(refine sI ?_;conv=>whnf))
  refine And.intro rfl ?_;(conv=>whnf);repeat (first|exact trivial|(refine sI ?_;conv=>whnf))
  refine And.intro rfl ?_;exact sZ
 rintro⟨n,ad,I,Z,L⟩ ⟨h0,h1,h2,h3,⟨h4,h4'⟩,⟨Z0,Bm,h5⟩,h6⟩ IH;simp only at h0 h1 h2 h3 h4 h4' Bm h5 h6;obtain⟨n,rfl⟩:∃ m,n=m+1:=⟨n-1,by have:=DN h1;omega⟩;cases e:eB l ad with
 |none =>
  have hI:I<0:=h0 ▸ aaL e;rw[D6 e]at h5 h6;refine aa.head ag F65 2000 ?_;(conv=>whnf);refine aP (by simpa using hI) ?_;refine gO F65 ?_;rw[h5,h6,<- Bm];rfl
 |some z =>
  obtain⟨k,p,g1,g2,rfl⟩:=PW e;obtain⟨hz,wa⟩:=H.at_ e;have V:=kY hz;have hp:=List.mem_of_getElem? g2.at_;have AN:ad.length<=1000:=by rw[<- wa];have:=dF V.ad;omega
  rw[g1]at h0;subst h0;have fW:=Je hz;rw[wa]at fW;obtain⟨w,hw,-⟩:=jN fW;have uj:=List.mem_of_getElem? hw;have QU:=sb V w uj;have QV:=QQ (V.ab w uj);have rn:=IX V.sorted fW hw;have c1:=vB p.aC ⟨ad,2⟩ (by have:=V.len;omega);have c2:=aaa p.aC ⟨s,1⟩ (hf p hp) (mQ (show s.length<=2147483648 by omega));obtain⟨a1,a2⟩:=I9 (q:=⟨s,1⟩) hz hq;rw[a1,a2]at c2;have c3:=QP L ad w.set h4 (by omega) AN QU QV;obtain⟨L1,mZ⟩:∃ x,fH (lt:=dC) L (fk ad w.set.data)=x:=⟨_,rfl⟩;have o1:pn L1:=mZ ▸ h4.all (QR AN QV);have n1:L1.length<=L.length+8:=by rw[<- mZ];exact Nat.le_trans (D7 _ _) (Nat.add_le_add_left (by simp[fk];exact QU) _)
  rw[mZ]at c3;refine aa.head ag F65 2000 ?_;(conv=>whnf);refine aJ (by simp) ?_;refine gO F65 ?_;refine aD (e:=p.enc) (aU g2.at_) rfl ?_;refine gO F65 ?_;refine aj (c1) ?_;refine gO F65 ?_;refine aD (e:=w.enc) ⟨by omega,by rw[List.getElem?_map,hw];rfl⟩ rfl ?_;refine gO F65 ?_;refine aj (c3) ?_;refine gO F65 ?_;refine aj (c2) ?_;refine gO F65 ?_;by_cases k4:(bK p.aC ⟨s,1⟩).kind=4
  ·have k3:¬ (bK p.aC ⟨s,1⟩).kind=3:=by omega
   obtain⟨f1,f2⟩:=F ad p.aC ⟨s,1⟩ e k4;obtain⟨y,m,q1,q2,q3,q4,q5⟩:=DP V k4;have tc:=sb V y q2;have QW:=QQ (V.ab y q2);have hcut:(bK p.aC ⟨s,1⟩).cut.length<=1000:=by rw[<- q3];have:=(rF (V.ab y q2)).1;omega
   obtain⟨L2,D8⟩:∃ x,fH (lt:=dC) L1 (fk (bK p.aC ⟨s,1⟩).cut y.set.data)=x:=⟨_,rfl⟩;have o2:pn L2:=D8 ▸ o1.all (QR hcut QW);have n2:L2.length<=L1.length+8:=by rw[<- D8];exact Nat.le_trans (D7 _ _) (Nat.add_le_add_left (by simp[fk];exact tc) _)
   have c4:=QP L1 (bK p.aC ⟨s,1⟩).cut y.set o1 (by omega) hcut tc QW;have c5:=I4 l (bK p.aC ⟨s,1⟩).cut H hl;rw[D8]at c4;rw[D4 e k4]at h5 h6;refine aP (by simpa using k3) ?_;refine gO F65 ?_;refine aP (by simpa using k4) ?_;refine gO F65 ?_;refine bB ⟨by simp;omega,by simp[DV.cells]⟩ ?_;refine gO F65 ?_;refine aD (e:=y.enc) ⟨by omega,by rw[q1];rfl⟩ rfl ?_;refine gO F65 ?_;refine aj (c4) ?_;refine gO F65 ?_;refine aj (c5) ?_;refine gO F65 ?_;refine aa.back (IH (n,(bK p.aC ⟨s,1⟩).cut,ky l (bK p.aC ⟨s,1⟩).cut,Z++[(bK p.aC ⟨s,1⟩).cut],L2) (by refine⟨rfl,f1,by simp only;omega,by simp;omega,⟨o2,by simp only;omega⟩,⟨Z,rfl,by simp only;rw[h5,Bm];simp⟩,?_⟩;simp only;rw[h6,rn,q5,Bl,Bl,mZ,D8]) (by simp)) ?_;(conv=>whnf);repeat (first|exact trivial|(refine sI ?_;conv=>whnf))
   refine And.intro (by simp) ?_;exact sZ
  ·rw[D5 e k4]at h5 h6;simp only at h5 h6;by_cases k3:(bK p.aC ⟨s,1⟩).kind=3
   ·obtain⟨y,m,d,D,q1,q2,q3,q5,q6,q7⟩:=DQ V k3;have s8:d.text.length<=1000:=by have:=dF q7;omega
    have c6:=QL L1 ⟨⟨s,3⟩,d.text⟩ o1.1 (by omega) ⟨by simp only;omega,s8⟩ o1.2;rw[<- QN QO]at c6;refine aJ (by simpa using k3) ?_;refine gO F65 ?_;refine aD (e:=y.enc) ⟨by omega,by rw[q1];rfl⟩ rfl ?_;refine gO F65 ?_;refine aD (e:=d.enc) ⟨by omega,by rw[q5];rfl⟩ rfl ?_;refine gO F65 ?_;refine aj (c6) ?_;refine gO F65 ?_;refine aJ (by simpa using k4) ?_;refine gO F65 ?_;rw[h5,h6,<- Bm,rn,Bl,mZ,pg,if_pos k3,q6];rfl
   ·refine aP (by simpa using k3) ?_;refine gO F65 ?_;refine aJ (by simpa using k4) ?_;refine gO F65 ?_;rw[h5,h6,<- Bm,rn,Bl,mZ,pg,if_neg k3];rfl
def qA(l:List aG):DV:=if l=[]then .aW else .sl (l.map aG.enc)
def qB(l:List Text):DV:=if l=[]then .aW else .sl (l.map .str)
@[reducible] def bu.enc (v : bu) : DV := .agg [.str v.name, qA v.list, qB v.au]
theorem QX{l:List aH}{s:Text}:(gI l s).1≠[]:=fun e=>by
 have:[46]∈(gI l s).1:=IT;rw[e]at this;cases this
theorem QY{l:List aH}(H:dY l){s:Text}(hs:Nm.valid s=true){D W:List bu}(K:fP (gI l) s D W):∀ v∈D++W,Nm.valid v.name=true:=fun v hv=>by
 have:=K.least ((s::univ l).filter fun t=>Nm.valid t) (by simp[hs]) (fun n _ x hx=>by
  obtain⟨h1,h2⟩:=A6 H (A4.1 hx)
  simp[h1,h2]) v hv
 simpa using(List.mem_filter.1 this).2
theorem QZ{D W:List bu}{v:bu}{Z:List Text}(h:Z≠[]){i:Int}(hi:i=D.length):((D++v::W).map bu.enc).set i.toNat (.agg [.str v.name,qA v.list,.sl (Z.map .str)])=(D++[{ v with au:=Z }]++W).map bu.enc:=by
 subst hi;have:qB Z=.sl (Z.map .str):=if_neg h;simp[List.set_append,bu.enc,this]
theorem aaP{J:nt}{s:Text}{D W:List bu}(H:fP J s D W):∀ {j:Nat} {v:bu},(D++W)[j]?=some v->v.list.length<=j:=by
 intro j
 induction j using Nat.strongRecOn with
 |_ j ih =>
  intro v hv;rcases H.prev j v hv with⟨-,e,-⟩|⟨b,u,x,-,h2,h3,h4,-,-,-,e⟩
  ·rw[e];simp
  ·have:=ih b h2 (v:=u) (by rw[List.getElem?_append_left h3];exact h4);rw[e];simp;omega
theorem Jf{b:Int}{dp:List aG}:∀ {L:List bP} {met:List Text},(cB met b dp L).length<=L.length
 |[],met=>by simp[cB]
 |x::r,met=>by
  rw[cB];split
  ·exact Nat.le_trans Jf (by simp)
  ·simp only[List.length_cons];exact Nat.succ_le_succ Jf
theorem aaQ{z:aQ}(h:eF z=true):(er z.ad z.ab).length<=8:=by
 have V:=kY h;obtain⟨y,hy,-⟩:=jN (Je h);rw[IX V.sorted (Je h) hy];simp[fk];exact sb V y (List.mem_of_getElem? hy)
theorem Jg{l:List aH}(H:dY l){s:Text}:∀ {n:Nat} {ad:Text},(dz l s n ad).2.length<=16*n
 |0,ad=>by simp[dz]
 |n+1,ad=>by
  cases e:eB l ad with
  |none=>rw[D6 e];simp
  |some z =>
   obtain⟨hz,wa⟩:=H.at_ e;have h1:=aaQ hz;rw[wa]at h1;by_cases k4:(bK z ⟨s,1⟩).kind=4
   ·obtain⟨y,m,q1,q2,q3,q4,q5⟩:=DP (kY hz) k4;have h2:(er (bK z ⟨s,1⟩).cut (bK z ⟨s,1⟩).ab).length<=8:=by
     rw[q5];simp[fk];exact sb (kY hz) y q2
    have h3:=Jg H (s:=s) (n:=n) (ad:=(bK z ⟨s,1⟩).cut);rw[D4 e k4];simp only[List.length_append];omega
   ·rw[D5 e k4];have:(pg s (bK z ⟨s,1⟩)).length<=1:=by unfold pg;split<;>simp
    simp only[List.length_append];omega
theorem aaR{l:List aH}(H:dY l){s:Text}:(gI l s).2.length<=1100:=by
 have h1:=Jg H (s:=s) (n:=64) (ad:=[46]);have h2:=D7 (lt:=dC) (lS l s) [];simp only[lS,List.length_nil]at h2;show(fH (lt:=dC) [] (lS l s)).length<=_;rw[lS];omega
theorem aaS{l:List bu}{k:Nat}{v:bu}(h:l[k]?=some v)(h0:v.list=[]):nb (l.map bu.enc) (k:Int) (.agg [.str v.name,.aW,qB v.au]):=by
 have:=aU (f:=bu.enc) h;rw[bu.enc,show qA v.list=.aW from if_pos h0]at this;exact this
theorem aaT{l:List bu}{k:Nat}{v:bu}(h:l[k]?=some v)(h0:¬ v.list=[]):nb (l.map bu.enc) (k:Int) (.agg [.str v.name,.sl (v.list.map aG.enc),qB v.au]):=by
 have:=aU (f:=bu.enc) h;rw[bu.enc,show qA v.list=.sl (v.list.map aG.enc)from if_neg h0]at this;exact this
theorem Q0(t:Text)(b:Int)(q:aG)(l:List aG):bu.enc ⟨t,[],b,q,l++[q]⟩=.agg [.str t,.sl (l.map aG.enc++[q.enc]),.aW]:=by
 have h1:qA (l++[q])=.sl ((l++[q]).map aG.enc):=if_neg (by simp);have h2:qB []=.aW:=if_pos rfl;simp[bu.enc,h1,h2]
theorem aaU(w:cR)(s:Text)(hf:∀ p∈w.au,p.aC.Fits)(H:dY w.au)(hl:w.au.length<=1000000)(hu:(univ w.au).length<=2000000000)(hs:Nm.valid s=true):az E 28 [w.enc,.str s] (· = .sl ((eY w.au s).map bu.enc)):=by
 obtain⟨V,hV⟩:∃ x,eY w.au s=x:=⟨_,rfl⟩;rw[hV];refine az.run ag (fn:=Tryz.f28) Tryz.func28 (body:=Tryz.f28.body.getD .skip) rfl (by decide) 1 ?_;(conv=>whnf);repeat ((fail_if_success (refine aa.kQ ag rfl ?_;(conv=>whnf);refine aa.run ag F28 1 ?_));(refine aa.run ag F28 1 ?_);(conv=>whnf))
 refine aa.kQ ag rfl ?_;(conv=>whnf);repeat ((fail_if_success (refine aa.kQ ag rfl ?_;(conv=>whnf);refine aa.run ag F28 1 ?_));(refine aa.run ag F28 1 ?_);(conv=>whnf))
 refine aa.kQ ag rfl ?_;refine gO F28 ?_;refine aa.loop (κ:=Nat × List bu × List bu) [5,6,7,8,9,10,11,17,18,19,20,21,22,23,24,25,26,27,28,29,30,31,32,33,34,35,36,37,38,39,40,41,42,43,44,45,46,47,48,49,50,51,52,53,54,55,56,57,58,59,60,61,62,63,64,65,66,67,68,69,70,71,72,73,74,75,76,77,78,79,80,81,82,83] (fun x=>[(7,.d (.int .i64 x.2.1.length)),(5,.own 1 1),(6,.own 2 1)]) (fun x=>[(1,.arr 1 (75,3) ((x.2.1++x.2.2).map bu.enc)),(2,.arr 1 (9,1) ((x.2.1++x.2.2).map fun v => .str v.name))]) (fun x=>fP (gI w.au) s x.2.1 x.2.2/\V=pd (gI w.au) x.1 x.2.1 x.2.2/\(univ w.au).length+1<x.2.1.length+x.1) (fun x=>x.1) (tH w.au,[],[⟨s,[],-1,⟨[],0⟩,[]⟩]) ⟨fP.init,hV.symm,by simp[tH]⟩ ?_ ?_
 ·(conv=>whnf);repeat (first|exact trivial|(refine sI ?_;conv=>whnf))
  refine And.intro rfl ?_;(conv=>whnf);repeat (first|exact trivial|(refine sI ?_;conv=>whnf))
  refine And.intro rfl ?_;(conv=>whnf);repeat (first|exact trivial|(refine sI ?_;conv=>whnf))
  refine And.intro rfl ?_;exact sZ
 rintro⟨n,D,W⟩ ⟨h1,h2,h3⟩ IH;simp only at h1 h2 h3;have h4:=IN (U:=s::univ w.au) (List.mem_cons_self ..) (DS H s) h1;simp only[List.length_cons]at h4;obtain⟨n,rfl⟩:∃ m,n=m+1:=⟨n-1,by omega⟩;have bQ:=QY H hs h1;cases W with
 |nil =>
  refine aa.head ag F28 2000 ?_;(conv=>whnf);refine aP (by simp) ?_;refine gO F28 ?_;rw[h2];simp[pd]
 |cons v W =>
  have c1:=aaM w.au v.name hf H hl (bQ v (by simp));obtain⟨Z,hZ⟩:∃ Z,(gI w.au v.name).1=Z:=⟨_,rfl⟩;obtain⟨L,hL⟩:∃ L,(gI w.au v.name).2=L:=⟨_,rfl⟩;rw[hZ,hL]at c1;have hLl:L.length<=1100:=hL ▸ aaR H;have Q1:Z≠[]:=hZ ▸ QX;obtain⟨v1,iP⟩:∃ v1:bu,{ v with au:=Z }=v1:=⟨_,rfl⟩;have hwr:IntKind.i64.wrap ((D.length:Int)+1)=((D++[v1]).length:Int):=by rw[wrap64 (by omega) (by omega)];simp
  obtain⟨met,tL⟩:∃ met:List Text,(D++v::W).map bu.name=met:=⟨_,rfl⟩;refine aa.head ag F28 2000 ?_;(conv=>whnf);refine aJ (by simp;omega) ?_;refine gO F28 ?_;have Bn:(D++v::W)[D.length]?=some v:=by simp
  refine aa.tz ag bU [0,1,2,3,4,5,6,9,10] [] 2000 (by kernel_rfl) ?_;(conv=>whnf);refine aS.run ag 2000 rfl rfl ?_;(conv=>whnf);refine bB ⟨by simp,by simp;omega⟩ ?_;(conv=>whnf);refine aS.run ag 2000 rfl rfl ?_;(conv=>whnf);refine aD (e:=v.enc) (aU Bn) rfl ?_;(conv=>whnf);refine aS.run ag 2000 rfl rfl ?_;(conv=>whnf);refine XD (c1) ?_;(conv=>whnf);refine aS.run ag 2000 rfl rfl ?_;(conv=>whnf);refine And.intro rfl ?_;(conv=>whnf);refine aS.run ag 2000 rfl rfl ?_;(conv=>whnf);refine And.intro rfl ?_;(conv=>whnf);refine aS.run ag 2000 rfl rfl ?_;(conv=>whnf);refine And.intro rfl ?_;(conv=>whnf);refine aS.run ag 2000 rfl rfl ?_;(conv=>whnf);refine gO F28 ?_;refine bB ⟨by simp,by simp;omega⟩ ?_;refine gO F28 ?_;refine aD (e:=v.enc) (aU Bn) rfl ?_;refine gO F28 ?_;by_cases sc:L=[]
  ·rw[show pk L=.aW from if_pos sc];subst sc;refine aa.uZ ?_;refine aa.run ag F28 2000 ?_;(conv=>whnf);refine aP (by decide) ?_;refine gO F28 ?_;refine aa.back (IH (n,D++[v1],W) ⟨by have:=h1.next;rw[hL]at this;simpa [cB,iP,hZ]using this,by simp only;rw[h2,pd,hL];simp[cB,iP,hZ],by simp;omega⟩ (by simp)) ?_;(conv=>whnf);repeat (first|exact trivial|(refine sI ?_;conv=>whnf))
   refine And.intro (iP ▸ QZ Q1 rfl) ?_;(conv=>whnf);repeat (first|exact trivial|(refine sI ?_;conv=>whnf))
   refine And.intro (by simp[<- iP]) ?_;exact sZ
  ·rw[show pk L=.sl (L.map bP.enc)from if_neg sc];refine aa.loop (κ:=Nat) ([5,6,10,11]++rg 39 45) (fun k=>[(10,.d (.int .i64 k)),(5,.own 1 1),(6,.own 2 1)]) (fun k=>[(1,.arr 1 (75,3) ((D++[v1]++W++cB met D.length v.list (L.take k)).map bu.enc)),(2,.arr 1 (9,1) ((D++[v1]++W++cB met D.length v.list (L.take k)).map fun v => .str v.name))]) (fun k=>k<=L.length) (fun k=>L.length-k) 0 (Nat.zero_le _) ?_ ?_
   ·(conv=>whnf);repeat (first|exact trivial|(refine sI ?_;conv=>whnf))
    refine And.intro (by simp only[List.take_zero,cB,List.append_nil];exact iP ▸ QZ Q1 rfl) ?_;(conv=>whnf);repeat (first|exact trivial|(refine sI ?_;conv=>whnf))
    refine And.intro (by simp[cB,<- iP]) ?_;exact sZ
   intro k hk IK;refine aa.head ag F28 2000 ?_;(conv=>whnf);refine ar (fun h5=>?_) (fun h5=>?_)
   ·have ai:k<L.length:=by simpa using h5
    obtain⟨x,hx⟩:=bd ai;refine gO F28 ?_;refine aD (e:=x.enc) (aU hx) rfl ?_;refine gO F28 ?_;have bj:cB met D.length v.list (L.take (k+1))=cB met D.length v.list (L.take k)++if x.other∈met++(cB met D.length v.list (L.take k)).map bu.name then[]else[⟨x.other,[],D.length,x.bw,v.list++[x.bw]⟩]:=by rw[ey hx,A2]
    obtain⟨N,hN⟩:∃ N,cB met D.length v.list (L.take k)=N:=⟨_,rfl⟩;rw[hN]at bj ⊢;have oL:(D++[v1]++W++N).map bu.name=met++N.map bu.name:=by rw[<- tL,<- iP];simp
    have nJ:N.length<=k:=by rw[<- hN];exact Nat.le_trans Jf (by simp;omega)
    have c2:az E 23 [.sl ((D++[v1]++W++N).map fun v => .str v.name),.str x.other] (· = .bool (decide (x.other∈met++N.map bu.name))):=by
     have:=aaE ((D++[v1]++W++N).map bu.name) x.other (by simp only[List.length_cons]at h4;simp;omega);rw[List.map_map,oL]at this;exact this
    refine TU (c2) rfl rfl rfl rfl ?_;refine gO F28 ?_;by_cases dX:x.other∈met++N.map bu.name
    ·rw[if_pos dX,List.append_nil]at bj;refine aJ (decide_eq_true dX) ?_;refine gO F28 ?_;refine aa.back (IK (k+1) (by omega) (by omega)) ?_;rw[bj];exact sZ
    ·rw[if_neg dX]at bj;refine aP (decide_eq_false dX) ?_;refine gO F28 ?_;refine aD (e:=x.enc) (aU hx) rfl ?_;refine gO F28 ?_;refine bB ⟨by simp only[List.length_cons]at h4;simp;omega,by simp[DV.cells]⟩ ?_;(conv=>whnf);repeat ((fail_if_success (first|(refine aa.l9 11 (54,2) (by decide) rfl ?_)|fail));(refine aa.run ag F28 1 ?_);(conv=>whnf))
     refine aa.l9 11 (54,2) (by decide) rfl ?_;(conv=>whnf);refine gO F28 ?_;refine bB ⟨by simp,by simp;omega⟩ ?_;refine gO F28 ?_;have va:(D++[v1]++W++N)[D.length]?=some v1:=by simp
     have gd:v1.list.length<=2000000001:=by
      have h8:=aaP h1 (j:=D.length) (v:=v) (by simp);rw[<- iP];simp only[List.length_cons]at h4 ⊢;omega
     have Q2:v1.list=v.list:=by rw[<- iP]
     by_cases Jh:v1.list=[]
     ·refine aD (aaS va Jh) rfl ?_;refine gO F28 ?_;refine aa.aaO ag (by exact rfl) (by exact rfl) (by exact rfl) (by exact rfl) (by exact rfl) (by exact rfl) (by exact rfl) (by exact rfl) (by exact rfl) (by exact rfl) (by exact rfl) (by exact rfl) (ts:=(54,2)) (l:=[]) (by exact rfl) (by exact rfl) (bg (by exact rfl)) (bg (by exact rfl)) (by exact rfl) (by simp) ?_;refine gO F28 ?_;refine aa.tz ag bU [0,1,2,3,4,5,6,7,8,9,10,11,12] [1,3] 2000 (by kernel_rfl) ?_;(conv=>whnf);refine aS.run ag 2000 rfl rfl ?_;(conv=>whnf);refine aD (e:=x.enc) (aU hx) rfl ?_;(conv=>whnf);refine aS.run ag 2000 rfl rfl ?_;(conv=>whnf);refine aD (e:=x.enc) (aU hx) rfl ?_;(conv=>whnf);refine aS.run ag 1 rfl rfl ?_;(conv=>whnf);refine aS.run ag 1 rfl rfl ?_;(conv=>whnf);refine aS.run ag 1 rfl rfl ?_;(conv=>whnf);refine aS.QH ag (by first|exact rfl|fail) (by first|exact rfl|fail) (by first|exact rfl|fail) (by first|exact rfl|fail) (by first|exact rfl|fail) (by first|exact rfl|fail) (by first|exact rfl|fail) (by first|exact rfl|fail) (by first|exact rfl|fail) (by first|exact rfl|fail) (by first|exact rfl|fail) (by first|exact rfl|fail) (by first|exact rfl|fail) (by first|exact rfl|fail) (by first|exact rfl|fail) (ts:=(54,2)) (l:=[]) (m:=[DV.agg [.str x.bw.name,.int .i64 x.bw.type]]) (bg (by first|exact rfl|fail)) (bg (by first|exact rfl|fail)) (by first|exact rfl|fail) (by simp[DV.cells]) (by simp) ?_;(conv=>whnf);refine And.intro rfl ?_;(conv=>whnf);refine aS.run ag 2000 rfl rfl ?_;(conv=>whnf);refine And.intro rfl ?_;(conv=>whnf);refine aS.run ag 2000 rfl rfl ?_;(conv=>whnf);refine And.intro rfl ?_;(conv=>whnf);refine aS.run ag 2000 ?_ ?_ ?_
      ·rfl
      ·rfl
      (conv=>whnf);refine bB ⟨by simp only[List.length_cons]at h4;simp;omega,by simp[DV.cells]⟩ ?_;(conv=>whnf);refine And.intro rfl ?_;(conv=>whnf);refine aS.run ag 2000 rfl rfl ?_;(conv=>whnf);refine And.intro rfl ?_;(conv=>whnf);refine aS.run ag 2000 rfl rfl ?_;(conv=>whnf);refine gO F28 ?_;refine aa.back (IK (k+1) (by omega) (by omega)) ?_;rw[bj];(conv=>whnf);repeat (first|exact trivial|(refine sI ?_;conv=>whnf))
      refine And.intro (by rw[<- List.append_assoc (D++[v1]++W),List.map_append (f:=bu.enc) (l₁ := D++[v1]++W++N),List.map_singleton,Q0,<- Q2,Jh];rfl) ?_;(conv=>whnf);repeat (first|exact trivial|(refine sI ?_;conv=>whnf))
      refine And.intro (by simp) ?_;exact sZ
     ·refine aD (aaT va Jh) rfl ?_;refine gO F28 ?_;refine bB ⟨by simp;omega,by simp[DV.cells]⟩ ?_;refine gO F28 ?_;refine aa.tz ag bU [0,1,2,3,4,5,6,7,8,9,10,11,12] [1,3] 2000 (by kernel_rfl) ?_;(conv=>whnf);refine aS.run ag 2000 rfl rfl ?_;(conv=>whnf);refine aD (e:=x.enc) (aU hx) rfl ?_;(conv=>whnf);refine aS.run ag 2000 rfl rfl ?_;(conv=>whnf);refine aD (e:=x.enc) (aU hx) rfl ?_;(conv=>whnf);refine aS.run ag 1 rfl rfl ?_;(conv=>whnf);refine aS.run ag 1 rfl rfl ?_;(conv=>whnf);refine aS.run ag 1 rfl rfl ?_;(conv=>whnf);refine aS.QH ag (by first|exact rfl|fail) (by first|exact rfl|fail) (by first|exact rfl|fail) (by first|exact rfl|fail) (by first|exact rfl|fail) (by first|exact rfl|fail) (by first|exact rfl|fail) (by first|exact rfl|fail) (by first|exact rfl|fail) (by first|exact rfl|fail) (by first|exact rfl|fail) (by first|exact rfl|fail) (by first|exact rfl|fail) (by first|exact rfl|fail) (by first|exact rfl|fail) (ts:=(54,2)) (l:=[]++v1.list.map aG.enc) (m:=[DV.agg [.str x.bw.name,.int .i64 x.bw.type]]) (bg (by first|exact rfl|fail)) (bg (by first|exact rfl|fail)) (by first|exact rfl|fail) (by simp[DV.cells]) (by simp;omega) ?_;(conv=>whnf);refine And.intro rfl ?_;(conv=>whnf);refine aS.run ag 2000 rfl rfl ?_;(conv=>whnf);refine And.intro rfl ?_;(conv=>whnf);refine aS.run ag 2000 rfl rfl ?_;(conv=>whnf);refine And.intro rfl ?_;(conv=>whnf);refine aS.run ag 2000 ?_ ?_ ?_
      ·rfl
      ·rfl
      (conv=>whnf);refine bB ⟨by simp only[List.length_cons]at h4;simp;omega,by simp[DV.cells]⟩ ?_;(conv=>whnf);refine And.intro rfl ?_;(conv=>whnf);refine aS.run ag 2000 rfl rfl ?_;(conv=>whnf);refine And.intro rfl ?_;(conv=>whnf);refine aS.run ag 2000 rfl rfl ?_;(conv=>whnf);refine gO F28 ?_;refine aa.back (IK (k+1) (by omega) (by omega)) ?_;rw[bj];(conv=>whnf);repeat (first|exact trivial|(refine sI ?_;conv=>whnf))
      refine And.intro (by rw[<- List.append_assoc (D++[v1]++W),List.map_append (f:=bu.enc) (l₁ := D++[v1]++W++N),List.map_singleton,Q0,<- Q2,List.nil_append]) ?_;(conv=>whnf);repeat (first|exact trivial|(refine sI ?_;conv=>whnf))
      refine And.intro (by simp) ?_;exact sZ
   ·have aL:L.length<=k:=by simpa using h5
    rw[List.take_of_length_le aL];refine gO F28 ?_;refine aa.back (IH (n,D++[v1],W++cB met D.length v.list L) ⟨by have:=h1.next;rw[hL,hZ,iP,tL]at this;exact this,by simp only;rw[h2,pd,hL,hZ,iP,tL],by simp;omega⟩ (by simp)) ?_;(conv=>whnf);repeat (first|exact trivial|(refine sI ?_;conv=>whnf))
    refine And.intro (by simp) ?_;(conv=>whnf);repeat (first|exact trivial|(refine sI ?_;conv=>whnf))
    refine And.intro (by simp) ?_;exact sZ
theorem Q3(Z:List Text):Bc Z=fH (lt:=lT) [] Z:=by
 obtain⟨h1,h2⟩:=Qs Z;refine DI (lt:=lT) P9 DT (h1.imp fun h=>by simpa [lT]using h) (DH DT P8 List.Pairwise.nil) fun x=>?_;rw[h2,DG];simp
theorem aaW{R:List bu}{i:Nat}{v:bu}(h:R[i]?=some v):gY (R.take (i+1))=gY (R.take i)++v.au:=by
 rw[ey h,gY,gY,List.flatMap_append];simp
def tM(l:List aH):List Text:=[46]::l.flatMap fun p=>p.aC.ab.map fun s=>s.set.name
theorem aaX{l:List aH}{p:aH}{s:Signed}(hp:p∈l)(hs:s∈p.aC.ab):s.set.name∈tM l:=List.mem_cons_of_mem _ (List.mem_flatMap.2 ⟨p,hp,List.mem_map.2 ⟨s,hs,rfl⟩⟩)
theorem Q4{l:List aH}(H:dY l){s:Text}:∀ {n:Nat} {ad:Text},ad∈tM l->(dz l s n ad).1.length<=n+1/\∀ z∈(dz l s n ad).1,z∈tM l
 |0,ad,ha=>by simp[dz];exact ha
 |n+1,ad,ha=>by
  cases e:eB l ad with
  |none=>rw[D6 e];simp;exact ha
  |some z =>
   obtain⟨hz,wa⟩:=H.at_ e;obtain⟨-,p,hp,rfl⟩:=A5 e;by_cases k4:(bK p.aC ⟨s,1⟩).kind=4
   ·obtain⟨y,m,q1,q2,q3,q4,q5⟩:=DP (kY hz) k4;have h3:=Q4 H (s:=s) (n:=n) (ad:=(bK p.aC ⟨s,1⟩).cut) (q3 ▸ aaX hp q2);rw[D4 e k4];refine⟨by simp;exact h3.1,fun z tN=>?_⟩;rcases List.mem_cons.1 tN with rfl|h
    ·exact ha
    ·exact h3.2 z h
   ·rw[D5 e k4];simp;exact ha
theorem D9{l:List aH}(H:dY l){s:Text}{v:bu}(hv:v∈eY l s):v.au≠[]/\v.au.length<=65/\∀ z∈v.au,z∈tM l/\z.length<=1000:=by
 have e:=((tI H s).shut v hv).1;rw[e];have h:=Q4 H (s:=v.name) (n:=64) (ad:=[46]) (List.mem_cons_self ..);refine⟨QX,h.1,fun z hz=>⟨h.2 z hz,?_⟩⟩;have:=dF (DR H (by decide) z hz);omega
theorem Q5{l:List aH}(H:dY l){s:Text}{i:Nat}:∀ z∈gY ((eY l s).take i),z∈tM l/\z.length<=1000:=fun z hz=>by
 obtain⟨v,hv,zg⟩:=List.mem_flatMap.1 hz;exact(D9 H (List.mem_of_mem_take hv)).2.2 z zg
theorem Q6{Z U:List Text}(h:∀ z∈Z,z∈U):(Bc Z).length<=U.length:=by
 obtain⟨h1,h2⟩:=Qs Z;refine ya ?_ fun x hx=>h x ((h2 x).1 hx);rw[List.nodup_iff_pairwise_ne];refine h1.imp fun{a b} yZ e=>?_;subst e;rw[kp]at yZ;omega
theorem aaY{l:List bu}{k:Nat}{v:bu}(h:l[k]?=some v)(h0:v.au≠[]):nb (l.map bu.enc) (k:Int) (.agg [.str v.name,qA v.list,.sl (v.au.map .str)]):=by
 have:=aU (f:=bu.enc) h;rw[bu.enc,show qB v.au=.sl (v.au.map .str)from if_neg h0]at this;exact this
@[reducible] def aa2 (w : cR) : af := .cells [.d (.sl (w.cC.map Host.enc)), .d (.sl (w.au.map aH.enc)), .d (.str w.anchor.name), .d (.int .i64 w.anchor.type), .d (.int .i64 w.anchor.jD), .d (.sl (w.anchor.data.map Datum.enc)), .d (.sl (w.hints.map (.int .i64)))]
theorem Bo{α β:Type}{f:α->List β}{c:Nat}:∀ {l:List α},(∀ x∈l,(f x).length<=c)->(l.flatMap f).length<=l.length*c
 |[],_=>by simp
 |x::l,h=>by
  have h1:=h x (List.mem_cons_self ..);have h2:=Bo (l:=l) fun y hy=>h y (List.mem_cons_of_mem _ hy);rw[List.flatMap_cons,List.length_append,List.length_cons,Nat.add_mul];omega
theorem Bp{l:List aH}(H:dY l)(hl:l.length<=4000):(univ l).length<=2000000000:=by
 have:(univ l).length<=l.length*(20000*8):=Bo fun p hp=>by
  have V:=kY (H p hp);have h1:(p.aC.ab.flatMap fun s=>s.set.data.map (·.text)).length<=p.aC.ab.length*8:=Bo fun s hs=>by simp;exact sb V s hs
  have h2:=Nat.mul_le_mul_right 8 V.len;exact Nat.le_trans h1 h2
 have:=Nat.mul_le_mul_right (20000*8) hl;omega
def tO(w:cR)(s z:Text):List aG × Int:=if (eI w&&(Nm.valid s&&Nm.valid z))=true then(match (eY w.au s).find? (fun v=>decide (z∈v.au))with|some v=>(v.list,0)|none=>([],4))else([],1)
theorem aa3{l:List aH}(H:dY l)(hl:l.length<=4000):(tM l).length<=2000000000:=by
 have:(l.flatMap fun p=>p.aC.ab.map fun s=>s.set.name).length<=l.length*20000:=Bo fun p hp=>by simp;exact(kY (H p hp)).len
 have:=Nat.mul_le_mul_right 20000 hl;simp only[tM,List.length_cons];omega
def pq(w:cR)(s:Text):Int:=if (eI w&&Nm.valid s)=true then 0 else 1
def sd(w:cR)(s:Text):List Text:=if (eI w&&Nm.valid s)=true then ik w.au s else[]
def nw(w:cR)(p:aH):Int:=match w.cC[p.host.toNat]? with
 |some h=>h.owner
 |none=>0
def Ea(w:cR)(zs:List Text)(o:Int):Bool:=w.au.any fun p=>decide (nw w p=o)&&decide (p.aC.ad∈zs)
theorem aa4{w:cR}{zs:List Text}{o:Int}:Ea w zs o=true↔∃ p∈w.au,nw w p=o/\p.aC.ad∈zs:=by
 simp[Ea,List.any_eq_true]
def yp(w:cR)(zs:List Text)(k:Nat):List Int:=((List.range k).map Int.ofNat).filter (Ea w zs)
theorem aa5{w:cR}{zs:List Text}{k:Nat}{o:Int}:o∈yp w zs k↔(0<=o/\o<k)/\Ea w zs o=true:=by
 rw[yp,List.mem_filter,List.mem_map];constructor
 ·rintro⟨⟨a,h1,rfl⟩,h2⟩;rw[List.mem_range]at h1;exact⟨⟨Int.natCast_nonneg a,Int.ofNat_lt.2 h1⟩,h2⟩
 ·rintro⟨⟨h1,h2⟩,h3⟩;exact⟨⟨o.toNat,by rw[List.mem_range];omega,Int.toNat_of_nonneg h1⟩,h3⟩
theorem aa6{w:cR}{zs:List Text}{k:Nat}:(yp w zs k).Pairwise fun a b=>decide (a<b)=true:=by
 refine List.Pairwise.filter _ ?_;rw[List.pairwise_map];exact List.pairwise_lt_range.imp fun{a b} h=>by simpa using h
theorem aa7{l:List aH}{s:Text}{K L:List Text}(hK:K.Nodup)(hm:∀ z,z∈K↔z∈gY (eY l s))(hp:L.Perm K)(hs:L.Pairwise fun x y=>¬ bC y x<0):L=ik l s:=by
 refine DI P9 DT ?_ Zz fun z=>?_
 ·have h2:L.Nodup:=hp.nodup_iff.2 hK;rw[List.nodup_iff_pairwise_ne]at h2;exact(hs.and h2).imp fun{a b} h=>by
   simp only[lT,decide_eq_true_eq];rcases A3 h.2 with h3|h3
   ·exact h3
   ·exact absurd h3 h.1
 ·rw[hp.mem_iff,hm,r8]
def tP(a b:bP):Int:=oT [bC a.bw.name b.bw.name,gy a.bw.type b.bw.type,bC a.other b.other]
theorem aa8(a b:Int):gy a b<0↔a<b:=by
 unfold gy;split
 ·omega
 ·split<;>omega
theorem Q7(a b:Int):gy a b=0↔a=b:=by
 unfold gy;split
 ·omega
 ·split<;>omega
theorem tQ(a b:bP):tP a b<0↔dC a b=true:=by
 simp only[tP,oT,dC,Bool.or_eq_true,Bool.and_eq_true,decide_eq_true_eq];by_cases e1:a.bw.name=b.bw.name
 ·rw[e1,kp,if_pos rfl];by_cases e2:a.bw.type=b.bw.type
  ·rw[e2,(Q7 _ _).2 rfl,if_pos rfl];split
   ·rename_i h;rw[h];simp
   ·simp
  ·have h2:gy a.bw.type b.bw.type≠0:=fun h=>e2 ((Q7 _ _).1 h);rw[if_neg h2,aa8];simp[e2]
 ·have h1:bC a.bw.name b.bw.name≠0:=fun h=>e1 (oZ h);rw[if_neg h1];simp[e1]
theorem Q8{l:List aH}{s:Text}{L:List bP}{met:List Text}{b:Int}{dp:List aG}(hp:L.Perm (lS l s))(hs:L.Pairwise fun x y=>¬ tP y x<0):cB met b dp L=cB met b dp (gI l s).2:=by
 refine PS (lt:=fun a b=>dC a b=true) (fun a h=>by rw[IQ]at h;cases h) yc Zr (hs.imp fun{x y} h=>?_) fun x=>?_
 ·rw[tQ]at h;by_cases e:x=y
  ·exact .inr e
  ·exact .inl (DL y x (fun h=>e h.symm) (by simpa using h))
 ·rw[hp.mem_iff,A4]
def Bq(x:bP):Prop:=Nm.valid x.bw.name=true/\Nm.valid x.other=true
theorem aa9{l:List aH}(H:dY l){s:Text}(hs:Nm.valid s=true):∀ x∈lS l s,Bq x:=fun x hx=>by
 refine⟨?_,(A6 H hx).2⟩;rcases PX hx with⟨-,h2⟩|h1
 ·exact DR H (by decide) _ h2
 ·rw[h1];exact hs
def Br(w:cR)(s:Text):List Int:=if (eI w&&Nm.valid s)=true then yp w (ik w.au s) 32 else[]
theorem aa'{w:cR}(h:eI w=true):∀ p∈w.au,∃ x,w.cC[p.host.toNat]?=some x/\0<=p.host/\nw w p=x.owner/\0<=x.owner/\x.owner<32:=fun p hp=>by
 obtain⟨h1,h2,-⟩:=Qu.1 h;obtain⟨-,h3,-⟩:=Qt.1 h2;have h4:=h3 p hp;simp only[kz,Bool.and_eq_true,decide_eq_true_eq]at h4;obtain⟨x,hx⟩:=bd (l:=w.cC) (k:=p.host.toNat) (by omega);simp only[jn,Bool.and_eq_true,decide_eq_true_eq,List.all_eq_true]at h1;have h5:=h1.1.2 x (List.mem_of_getElem? hx);simp only[mv,Bool.and_eq_true,decide_eq_true_eq]at h5;exact⟨x,hx,h4.1.1,by rw[nw,hx],h5.1.1.2,h5.1.2⟩
theorem aba{l:List aH}{s:Text}(H:dY l)(hl:l.length<=4000):(ik l s).length<=2000000000:=by
 rw[ik,<- Q3];exact Nat.le_trans (Q6 fun z hz=>(Q5 H (s:=s) (i:=(eY l s).length) z (by rw[List.take_length];exact hz)).1) (aa3 H hl)
end Go.Proofs.YtcmnpelmmekdkaaGreatDoor.P
end
section
namespace Go.Proofs.YtcmnpelmmekdkaaGreatDoor.P
open Go Go.aA
set_option maxRecDepth 100000
section
variable {α:Type} [DecidableEq α] {en:α->DV}
theorem Q9(hk:∀ a b,fc (en a) (en b)=decide (a=b)){x:α}:∀ {l:List α},x∈l->cx (en x) (.bool true) (l.map fun a=>(en a,DV.bool true))=l.map fun a=>(en a,DV.bool true)
 |[],h=>by simp at h
 |y::l,h=>by
  show cx (en x) (.bool true) ((en y,DV.bool true)::l.map fun a=>(en a,DV.bool true))=_;simp only[cx,hk];by_cases e:y=x
  ·subst e;simp
  ·have hm:x∈l:=(List.mem_cons.1 h).resolve_left fun q=>e q.symm;have:=Q9 hk hm;first
    |rw[if_neg (by simpa using e),this];rfl
    |rw[if_neg (by simpa using fun q=>e q.symm),this];rfl
theorem Ra(hk:∀ a b,fc (en a) (en b)=decide (a=b)){x:α}:∀ {l:List α},x ∉ l->cx (en x) (.bool true) (l.map fun a=>(en a,DV.bool true))=(l++[x]).map fun a=>(en a,DV.bool true)
 |[],h=>rfl
 |y::l,h=>by
  have h1:y≠x:=fun e=>h (e ▸ List.mem_cons_self ..);have h2:x ∉ l:=fun e=>h (List.mem_cons_of_mem _ e);show cx (en x) (.bool true) ((en y,DV.bool true)::l.map fun a=>(en a,DV.bool true))=_;have:=Ra hk h2;simp only[cx,hk];first
   |rw[if_neg (by simpa using h1),this];rfl
   |rw[if_neg (by simpa using fun q=>h1 q.symm),this];rfl
theorem Rb(hk:∀ a b,fc (en a) (en b)=decide (a=b))(l:List α):fZ en l=(fO [] l).map fun a=>(en a,DV.bool true):=by
 have main:∀ (n:Nat),fZ en (l.take n)=(fO [] (l.take n)).map fun a=>(en a,DV.bool true):=by
  intro n
  induction n with
  |zero=>rfl
  |succ n ih =>
   cases h:l[n]? with
   |none =>
    have:l.length<=n:=by simpa using h
    rw[List.take_of_length_le (by omega),<- List.take_of_length_le this];exact ih
   |some x =>
    rw[Pf h,ih,ey h,Pg];split
    ·rename_i hm;exact Q9 hk hm
    ·rename_i hm;exact Ra hk hm
 have:=main l.length
 rwa [List.take_length]at this
end
section
variable {α:Type}
def k9(xs:List α)(seen:List Nat):List α:=seen.filterMap fun j=>xs[j]?
theorem Jn{xs:List α}{seen:List Nat}{j:Nat}{a:α}(h:xs[j]?=some a):k9 xs (seen++[j])=k9 xs seen++[a]:=by
 rw[k9,List.filterMap_append];simp[k9,h]
theorem Rc{xs:List α}{seen:List Nat}:(k9 xs seen).length<=seen.length:=List.length_filterMap_le ..
theorem abb(xs:List α):k9 xs (List.range xs.length)=xs:=by
 have main:∀ (n:Nat),n<=xs.length->k9 xs (List.range n)=xs.take n:=by
  intro n
  induction n with
  |zero=>intro _;simp[k9]
  |succ n ih =>
   intro h;obtain⟨a,ha⟩:=bd (l:=xs) (k:=n) (by omega);rw[List.range_succ,Jn ha,ih (by omega),ey ha]
 rw[main _ (Nat.le_refl _),List.take_length]
theorem Re{xs:List α}{seen:List Nat}(hn:seen.Nodup)(ai:∀ j∈seen,j<xs.length)(aX:∀ j,j<xs.length->j∈seen):(k9 xs seen).Perm xs:=by
 have h:seen.Perm (List.range xs.length):=(List.perm_ext_iff_of_nodup hn List.nodup_range).2 fun j=>by
  rw[List.mem_range];exact⟨ai j,aX j⟩
 have:=h.filterMap (fun j=>xs[j]?);have e:=abb xs;unfold k9 at e;rw[e]at this;exact this
theorem Eb{xs:List α}{seen:List Nat}(hn:seen.Nodup)(ai:∀ j∈seen,j<xs.length):seen.length<=xs.length:=by
 have:=ya hn (U:=List.range xs.length) fun j hj=>List.mem_range.2 (ai j hj)
 simpa using this
end
end Go.Proofs.YtcmnpelmmekdkaaGreatDoor.P
end
section
namespace Go.Proofs.YtcmnpelmmekdkaaGreatDoor.P
open Go Go.aA Go.Sort Go.RowKit
set_option maxRecDepth 100000
set_option maxHeartbeats 4000000
theorem Jy(a b:Text)(ha:Nm.valid a=true)(hb:Nm.valid b=true):az E 36 [.str a,.str b] (· = .int .i64 (bC a b)):=by
 have c1:=Dd a b ha hb;refine eP Tryz.func36 ?_;refine aj (c1) ?_;refine gO Tryz.func36 ?_
 with_reducible rfl
theorem abN(x y:bP)(hx:Bq x)(hy:Bq y):az E 130 [x.enc,y.enc] (· = .int .i64 (tP x y)):=by
 obtain⟨⟨xn,xt⟩,xo⟩:=x;obtain⟨⟨yn,yt⟩,yo⟩:=y;have c1:=Jy xn yn hx.1 hy.1;have c2:=Aa xt yt;have c3:=Jy xo yo hx.2 hy.2;show az E _ [DV.agg [.str xn,.int .i64 xt,.str xo],DV.agg [.str yn,.int .i64 yt,.str yo]] _;refine eP Tryz.func130 ?_;refine aa.draw ag bU 22 2000 (by kernel_rfl) ?_;conv=>whnf
 with_reducible refine bl (c1) ?_
 refine gD ?_
 with_reducible refine bl (c2) ?_
 refine gD ?_
 with_reducible refine bl (c3) ?_
 refine gD ?_;refine bl (MF [bC xn yn,gy xt yt,bC xo yo] (by simp)) ?_;refine gD ?_;refine gS ?_;refine gO Tryz.func130 ?_;rfl
theorem abO:Jt Tryz.prog 129 130 3 Rq:=fun n enc cf hk h1 hO blk cap d w hc hH hblk bT=>by
 have eg:∀ args w,(callFunc 130 args).run Tryz.prog w=.ok (.enter 130 args) w:=enters_of Tryz.func130 (by kernel_rfl) rfl;exact AnyQ.slices_SortFunc Tryz.Ru 3 Tryz.isAgg189 Tryz.sizeOf189 enc hk h1 cf hO 130 #[] blk 0 cap d w eg (fun m os dk hs x y=>hc m os dk hs x y) hH hblk bT
theorem abP:Jv Tryz.prog 74 36:=fun n enc cf h1 hO blk cap d w hc hH hblk bT=>by
 have eg:∀ args w,(callFunc 36 args).run Tryz.prog w=.ok (.enter 36 args) w:=enters_of Tryz.func36 (by kernel_rfl) rfl;exact Any.slices_SortFunc Tryz.abM enc h1 cf hO 36 #[] blk 0 cap d w eg (fun m os dk hs x y=>hc m os dk hs x y) hH hblk bT
def Rv(x y:DV):Int:=match x,y with
 | .agg [.str a,.int _ b,.str c],.agg [.str d,.int _ e,.str f]=>tP ⟨⟨a,b⟩,c⟩ ⟨⟨d,e⟩,f⟩
 |_,_=>0
theorem sh(x y:bP):Rv x.enc y.enc=tP x y:=rfl
theorem abQ{x y z:bP}(h1:¬ dC x y=true)(h2:¬ dC y z=true):¬ dC x z=true:=fun h=>by
 by_cases e:x=y
 ·subst e;exact h2 h
 ·have h3:=DL x y e (by simpa using h1);exact h2 (yc _ _ _ h3 h)
theorem abR(l:List bP)(hl:l≠[])(hlen:l.length<4611686018427387904)(hv:∀ x∈l,Bq x) :
  aB E 129 [.arr 0 (189,3) (l.map bP.enc)] [.own 0 0,.fn (.func 130) [] []] (fun a b=>a=.aK []/\∃ l':List bP,l'.Perm l/\l'.Pairwise (fun x y=>¬ tP y x<0)/\b=[.arr 0 (189,3) (l'.map bP.enc)]):=by
 have h:=Rs (E:=E) (t:=189) bP.enc Rv abO ⟨_,Tryz.func129,rfl,by decide⟩ l hl hlen (fun x hx=>rfl)
  ⟨fun x hx => by obtain⟨a, _, rfl⟩ := List.mem_map.1 hx;rw[sh, tQ, IQ];simp,
   fun x hx y hy z hz => by obtain⟨a, _, rfl⟩ := List.mem_map.1 hx;obtain⟨b, _, rfl⟩ := List.mem_map.1 hy;obtain⟨c, _, rfl⟩ := List.mem_map.1 hz;rw[sh, sh, sh, tQ, tQ, tQ];exact yc _ _ _,
   fun x hx y hy z hz => by obtain⟨a, _, rfl⟩ := List.mem_map.1 hx;obtain⟨b, _, rfl⟩ := List.mem_map.1 hy;obtain⟨c, _, rfl⟩ := List.mem_map.1 hz;rw[sh, sh, sh, tQ, tQ, tQ];exact abQ⟩
  (fun x hx=>abE _)
  (fun x hx y hy=>by rw[sh];exact abN x y (hv x hx) (hv y hy))
 exact h.mono fun a b ⟨ha,l',hp,hs,hb⟩=>⟨ha,l',hp,hs.imp fun{x y} h=>by rw[sh]at h;exact h,hb⟩
def abS(x y:DV):Int:=match x,y with
 | .str a,.str b=>bC a b
 |_,_=>0
theorem abT{x y z:Text}(h1:¬ bC x y<0)(h2:¬ bC y z<0):¬ bC x z<0:=fun h=>by
 by_cases e:x=y
 ·subst e;exact h2 h
 ·rcases A3 e with h3|h3
  ·exact h1 h3
  ·exact h2 (qb h3 h)
theorem abU(l:List Text)(hl:l≠[])(hlen:l.length<4611686018427387904)(hv:∀ x∈l,Nm.valid x=true) :
  aB E 74 [.arr 0 (9,1) (l.map .str)] [.own 0 0,.fn (.func 36) [] []] (fun a b=>a=.aK []/\∃ l':List Text,l'.Perm l/\l'.Pairwise (fun x y=>¬ bC y x<0)/\b=[.arr 0 (9,1) (l'.map .str)]):=by
 have h:=Rs (E:=E) (t:=9) DV.str abS abP.w ⟨_,Tryz.func74,rfl,by decide⟩ l hl hlen (fun x hx=>rfl)
  ⟨fun x hx => by obtain⟨a, _, rfl⟩ := List.mem_map.1 hx;show ¬ bC a a < 0;rw[kp];simp,
   fun x hx y hy z hz => by obtain⟨a, _, rfl⟩ := List.mem_map.1 hx;obtain⟨b, _, rfl⟩ := List.mem_map.1 hy;obtain⟨c, _, rfl⟩ := List.mem_map.1 hz;exact qb,
   fun x hx y hy z hz => by obtain⟨a, _, rfl⟩ := List.mem_map.1 hx;obtain⟨b, _, rfl⟩ := List.mem_map.1 hy;obtain⟨c, _, rfl⟩ := List.mem_map.1 hz;exact abT⟩
  (fun x hx=>abF _ rfl)
  (fun x hx y hy=>Jy x y (hv x hx) (hv y hy))
 exact h
theorem abV{g:FuncId}:aB E 129 [] [.d (.sl []),.fn (.func g) [] []] (fun a b=>a=.aK []/\b=[]):=by
 unfold aB;refine⟨⟨_,Tryz.func129,rfl,by decide⟩,oK rfl,fun c vs h1 h2 h3=>?_⟩;obtain⟨v1,v2,rfl⟩:∃ v1 v2,vs=[v1,v2]:=by
  have:=h3.1
  match vs,this with
  |[a,b],_=>exact⟨a,b,rfl⟩
 have iP:=h3.2 0 _ v1 rfl rfl;obtain⟨p,cap,rfl⟩:∃ p cap,v1=.slice p 0 cap:=by
  cases iP with
  |d _ _ h=>cases h<;>exact⟨_,_,rfl⟩
 refine(AnyF.slices_SortFunc_none Tryz.Ru p cap v2 c.w).mono fun e w' ⟨a1,a2⟩=>?_;subst a2;exact⟨c,.aK [],.tuple #[],a1,rfl,⟨rfl,h1⟩,.aK [] #[] rfl (fun j x v hx=>by simp at hx),h2,Rel.refl c (by rw[h1];exact oK rfl)⟩
theorem abW(l:List DV)(hl:l.length<=2147483648)(hc:∀ e∈l,e.cells.length=3):az E 128 [.sl l] (· = .sl l):=by
 by_cases h:l=[]
 ·subst h;refine az.norm ?_;refine eP F128 ?_;refine aa.vK ag rfl rfl rfl rfl (bg rfl) (fun b hb=>?_);cases b
  ·refine gO F128 ?_;refine aV ?_;refine gO F128 ?_;refine bB ⟨by decide,fun e he=>by cases he⟩ ?_;refine gO F128 ?_;rfl
  ·refine gO F128 ?_;refine bq ?_;refine gO F128 ?_;rfl
 ·refine eP F128 ?_;refine aa.vK ag rfl rfl rfl rfl (bg rfl) (fun b hb=>?_);obtain rfl:b=false:=by
   cases b
   ·rfl
   ·exact absurd (hb rfl) h
  refine gO F128 ?_;refine aV ?_;refine gO F128 ?_;refine bB ⟨by simp;omega,hc⟩ ?_;refine gO F128 ?_;rfl
theorem abX(l:List DV)(h:l≠[])(hl:l.length<=2147483648)(hc:∀ e∈l,e.cells.length=3):aB E 128 [] [.d (.sl l)] (fun a b=>a=.own 0 1/\b=[.arr 1 (189,3) l]):=by
 refine aB.run ag (fn:=Tryz.f128) Tryz.func128 (body:=Tryz.f128.body.getD .skip) rfl (by decide) 2000 rfl ?_;(conv=>whnf);refine aa.vK ag rfl rfl rfl rfl (bg rfl) (fun b hb=>?_);obtain rfl:b=false:=by
  cases b
  ·rfl
  ·exact absurd (hb rfl) h
 refine gO F128 ?_;refine aV ?_;refine gO F128 ?_;refine bB ⟨by simp;omega,hc⟩ ?_;refine gO F128 ?_;exact⟨rfl,rfl⟩
theorem abY(Z:List Text):aB E 87 [] [.d (v8 Z [])] (fun a b=>a=.fn (.func 133) [] [.ptr 1 0]/\b=[.cells [.d (.sl (Z.map .str)),.d (.sl [])],.cells [.d (.sl [])]]):=by
 have c1:=abW [] (by simp) (by simp);have c2:=abV (g:=130);show aB E _ [] [.d (DV.agg [.sl (Z.map .str),.sl []])] _;refine aB.run ag (fn:=Tryz.f87) Tryz.func87 (body:=Tryz.f87.body.getD .skip) rfl (by decide) 2000 rfl ?_;(conv=>whnf);refine aj (c1) ?_;refine gO Tryz.func87 ?_
 with_reducible refine bG (c2) ?_
 refine gO Tryz.func87 ?_;exact⟨rfl,rfl⟩
theorem abZ(Z:List Text)(F:List bP)(h0:F≠[])(hF:F.length<=1000000)(hv:∀ x∈F,Bq x):aB E 87 [] [.d (v8 Z F)] (fun a b=>∃ L:List bP,(L.Perm F/\L.Pairwise fun x y=>¬ tP y x<0)/\a=.fn (.func 133) [] [.ptr 2 0]/\b=[.cells [.d (.sl (Z.map .str)),.d (.sl (F.map bP.enc))],.gone,.cells [.d (.sl (L.map bP.enc))]]):=by
 have c1:=abX (F.map bP.enc) (by simpa using h0) (by simp;omega) (fun e he=>by obtain⟨x,-,rfl⟩:=List.mem_map.1 he;rfl);have c2:=abR F h0 (by omega) hv;show aB E _ [] [.d (DV.agg [.sl (Z.map .str),.sl (F.map bP.enc)])] _;refine aB.run ag (fn:=Tryz.f87) Tryz.func87 (body:=Tryz.f87.body.getD .skip) rfl (by decide) 2000 rfl ?_;(conv=>whnf);refine kI (c1) rfl ?_;refine gO Tryz.func87 ?_
 with_reducible refine sN (c2) ?_
 rintro r h1 ⟨e1,L,p1,p2,e2⟩;subst e1;subst e2;(conv=>whnf);refine aa.freeze 1 ?_;(conv=>whnf);refine gO Tryz.func87 ?_;exact⟨L,⟨p1,p2⟩,rfl,rfl⟩
end Go.Proofs.YtcmnpelmmekdkaaGreatDoor.P
end
section
namespace Go.Proofs.YtcmnpelmmekdkaaGreatDoor.P
open Go Go.aA
set_option maxRecDepth 100000
set_option maxHeartbeats 4000000
@[reducible] def oo (v : bu) : DV := .agg [.str v.name, .sl (v.au.map .str), .int .i64 v.before, .str v.bw.name, .int .i64 v.bw.type]
theorem Rx{b:Int}{dp:List aG}{met:List Text}:∀ (B A:List bP),(cB met b dp A).length<=(cB met b dp (A++B)).length
 |[],A=>by simp
 |x::B,A=>by
  have h:=Rx (b:=b) (dp:=dp) (met:=met) B (A++[x]);have e:=A2 (b:=b) (dp:=dp) (x:=x) (L:=A) (met:=met);rw[List.append_assoc]at h;have:(cB met b dp A).length<=(cB met b dp (A++[x])).length:=by rw[e];simp
  exact Nat.le_trans this h
theorem ab6{b:Int}{dp:List aG}{met:List Text}(L:List bP)(i:Nat):(cB met b dp (L.take i)).length<=(cB met b dp L).length:=by
 have:=Rx (b:=b) (dp:=dp) (met:=met) (L.drop i) (L.take i)
 rwa [List.take_append_drop]at this
theorem Ry{l:List aH}(H:dY l){s:Text}{done wait:List bu}(B:fP (gI l) s done wait):done.length+wait.length<=(univ l).length+1:=by
 have:=IN (U:=s::univ l) (List.mem_cons_self ..) (DS H s) B
 simpa using this
theorem Rz(l:List aH)(s:Text)(hf:∀ p∈l,p.aC.Fits)(H:dY l)(hu:(univ l).length<=2000000000)(hs:Nm.valid s=true):aB E 41 [.map (mB l)] [.map 0,.d (.str s)] (fun a b=>a=.d (.sl ((eY l s).map oo))/\b=[.map (mB l)]):=by
 have c1:=fun t ht=>aaI l t hf H ht;have c2:=ab1 ⟨s,[],-1,⟨[],0⟩,[]⟩;generalize mB l=es at c1 ⊢;apply aB.jP
 case hk=>rfl
 refine aB.run ag (fn:=Tryz.f41) Tryz.func41 (body:=Tryz.f41.body.getD .skip) rfl (by decide) 2000 rfl ?_;(conv=>whnf);refine gO F41 ?_;refine aa.insert ag rfl ?_;(conv=>whnf);refine bB ⟨⟨_,rfl⟩,fun p hp=>by cases hp⟩ ?_;refine gO F41 ?_
 with_reducible refine bG (c2) ?_
 refine gO F41 ?_;refine aa.tA 1 0 (96,5) (by decide) rfl rfl ?_;(conv=>whnf);refine aa.ZQ (b:=4) (off:=0) (j:=6) rfl (by simp) rfl rfl ?_;(conv=>whnf);refine aa.ab5 (κ:=Nat × List bu × List bu × Nat × Option Nat × List DV) [4,8,9,10,11,12,19,20,21,22,23,24,25,26,27,28,29,30,31,32,33,34,35,36,37,38,41,42,43,44,45,46,47,48,49,50,51,52,53] (fun x=>[]) (fun x=>[(1,.cells [.own 7 1]),(7,.arr 1 (96,5) (x.2.1.map oo)),(2,.map (fZ DV.str ((x.2.1++x.2.2.1).map bu.name))),(4,.cells [.cut 6 1 x.2.2.2.1 x.2.2.2.2.1]),(6,.arr 1 (96,5) x.2.2.2.2.2)]) (fun x=>fP (gI l) s x.2.1 x.2.2.1/\x.2.1.length+x.1=tH l/\eY l s=pd (gI l) x.1 x.2.1 x.2.2.1/\x.2.2.2.2.2.drop x.2.2.2.1=x.2.2.1.map ga/\x.2.2.2.2.2.length<=x.2.1.length+x.2.2.1.length) (fun x=>x.1) (tH l,[],[⟨s,[],-1,⟨[],0⟩,[]⟩],0,none,[ga ⟨s,[],-1,⟨[],0⟩,[]⟩]) ⟨fP.init,by simp,rfl,rfl,by simp⟩ rfl ?_ ?_
 ·(conv=>whnf);repeat (first|exact trivial|(refine sI ?_;conv=>whnf))
  refine And.intro rfl ?_;(conv=>whnf);repeat (first|exact trivial|(refine sI ?_;conv=>whnf))
  refine And.intro rfl ?_;exact sZ
 rintro D ⟨n,done,wait,k,q,lq⟩ ⟨B,hn,hv,hq,Ej⟩ IH;simp only at B hn hv hq Ej;have bQ:=QY H hs B;have hlen:=Ry H B;cases wait with
 |nil =>
  have c3:=aB.jP (ab3 k q lq hq) rfl;refine aa.head ag F41 2000 ?_;conv=>whnf
  with_reducible refine bG (c3) ?_
  refine gO F41 ?_;refine aJ (by decide) ?_;(conv=>whnf);refine aa.freeze 7 ?_;(conv=>whnf);refine aa.run ag F41 5 ?_;(conv=>whnf);have hn0:n≠0:=fun e=>by simp[tH]at hn;simp at hlen;omega
  obtain⟨n,rfl⟩:∃ m,n=m+1:=⟨n-1,by omega⟩;rw[hv];refine aa.H8 ag F41 rfl rfl rfl rfl (List.append_nil _).symm ?_;(conv=>whnf);exact⟨rfl,rfl⟩
 |cons v w =>
  have RA:=bQ v (by simp);have c3:=aB.jP (ab4 k q lq v (w.map ga) hq) rfl;have c4:=c1 v.name RA;refine aa.head ag F41 2000 ?_;conv=>whnf
  with_reducible refine bG (c3) ?_
  refine gO F41 ?_;refine aP (by decide) ?_;refine gO F41 ?_
  with_reducible refine bG (c4) ?_
  refine gO F41 ?_;refine bB ⟨by simp;omega,by simp[DV.cells]⟩ ?_;refine gO F41 ?_;have Fx:=aa9 H RA;have gj:(lS l v.name).length<=1000000:=Nat.le_trans (Jg H (s:=v.name) (n:=64) (ad:=[46])) (by decide);have pj:lq.drop (k+1)=w.map ga:=by have:=congrArg (List.drop 1) hq;simpa [List.drop_drop,Nat.add_comm]using this
  have B2:=B.next;have y7:=Ry H B2
  obtain⟨n, rfl⟩ : ∃ m, n=m+1 := ⟨n-1, by have : n ≠ 0 := fun e => by simp[tH]at hn;simp at hlen;omega
                                          omega⟩
  rw[pd]at hv;obtain⟨met,tL⟩:∃ x,(done++v::w).map bu.name=x:=⟨_,rfl⟩;obtain⟨N,hN⟩:∃ x,cB ((done++v::w).map bu.name) done.length v.list (gI l v.name).2=x:=⟨_,rfl⟩;rw[hN]at hv B2 y7;rw[tL]at hN;rw[tL];have s8:((done.map oo).length:Int)=done.length:=by simp
  by_cases hF:lS l v.name=[]
  ·have c5:=abY (dz l v.name 64 [46]).1;have hN0:N=[]:=by rw[<- hN,<- Q8 (L:=[]) (by rw[hF]) List.Pairwise.nil];rfl
   subst hN0;rw[hF];refine kI (c5) rfl ?_;refine gO F41 ?_;refine aa.rangeFunc (bg rfl) Tryz.func133 rfl (by decide) rfl (fun ll d t=>?_);refine gO F133 ?_;refine aa.uZ ?_;refine aa.run ag F133 2000 ?_;(conv=>whnf);refine aP (by decide) ?_;refine gO F133 ?_;refine aa.xX ag F133 rfl rfl rfl rfl (fun e=>nomatch e) ?_;(conv=>whnf);refine gO F41 ?_;refine aa.back (IH (_::D) (n,done++[{ v with au:=(gI l v.name).1 }],w++[],k+1,q,lq) ⟨B2,by simp;omega,hv,by rw[List.append_nil];exact pj,by simp at Ej ⊢;omega⟩ (by simp)) ?_;(conv=>whnf);repeat (first|exact trivial|(refine sI ?_;conv=>whnf))
   refine yr ?_ _;(conv=>whnf);repeat (first|exact trivial|(refine sI ?_;conv=>whnf))
   refine And.intro (congrArg _ (by rw[<- tL];simp)) ?_;(conv=>whnf);repeat (first|exact trivial|(refine sI ?_;conv=>whnf))
   refine And.intro (by simp;rfl) ?_;exact sZ
  ·have c5:=abZ (dz l v.name 64 [46]).1 (lS l v.name) hF gj Fx;refine w7 (ds:=[v8 (dz l v.name 64 [46]).1 (lS l v.name)]) c5 ?_;rintro r h1 ⟨L,⟨p1,p2⟩,e1,e2⟩;subst e1;subst e2;have RB:N=cB met done.length v.list L:=by rw[<- hN,Q8 p1 p2]
   have hle:∀ i,(cB met done.length v.list (L.take i)).length<=N.length:=fun i=>by rw[RB];exact ab6 L i
   have hLl:L.length<=1000000:=by rw[p1.length_eq];exact gj
   refine gO F41 ?_;refine aa.rangeFunc (bg rfl) Tryz.func133 rfl (by decide) rfl (fun ll d t=>?_);refine gO F133 ?_;refine aa.loop (κ:=Nat × Nat × Option Nat × List DV) [4,7,8,9,10,11,12,13,14,15,16,17,18] (fun x=>[(7,.d (.int .i64 x.1))]) (fun x=>[(2,.map (fZ DV.str (met++(cB met done.length v.list (L.take x.1)).map bu.name))),(4,.cells [.cut 6 1 x.2.1 x.2.2.1]),(6,.arr 1 (96,5) x.2.2.2)]) (fun x=>x.1<=L.length/\x.2.2.2.drop x.2.1=(w++cB met done.length v.list (L.take x.1)).map ga/\x.2.2.2.length<=lq.length+(cB met done.length v.list (L.take x.1)).length) (fun x=>L.length-x.1) (0,k+1,q,lq) ⟨Nat.zero_le _,by simp[cB,pj],by simp⟩ ?_ ?_
   ·(conv=>whnf);repeat (first|exact trivial|(refine sI ?_;conv=>whnf))
    refine yr ?_ _;(conv=>whnf);repeat (first|exact trivial|(refine sI ?_;conv=>whnf))
    refine And.intro (congrArg _ (by simp[cB])) ?_;exact sZ
   rintro⟨i,k2,q2,Jz⟩ ⟨hi,mh,dE⟩ IL;simp only at hi mh dE;refine aa.head ag F133 2000 ?_;(conv=>whnf);refine ar (fun h6=>?_) (fun h6=>?_)
   ·have ai:i<L.length:=by simpa using h6
    obtain⟨x,hx⟩:=bd ai;have bj:=A2 (b:=done.length) (dp:=v.list) (x:=x) (L:=L.take i) (met:=met);rw[<- ey hx]at bj;have hMi:=hle i;generalize cB met done.length v.list (L.take i)=M at mh dE bj hMi ⊢;obtain⟨pF,Bd⟩:=Dv rV (met++M.map bu.name) x.other;have dJ:=tK (tD rV (met++M.map bu.name)).1;refine gO F133 ?_;refine aD (e:=x.enc) (aU hx) rfl ?_;refine gO F133 ?_;refine aa.yield 0 rfl rfl rfl (bg rfl) (mw (bg rfl) (bg rfl)) rfl ?_;(conv=>whnf);refine gO F41 ?_;refine aa.begin 0 rfl rfl rfl ?_;(conv=>whnf);refine gO F41 ?_;refine jx (.bool false) (.bool false) ⟨_,rfl⟩ dJ (fun w=>by kernel_rfl) (fun _ _ => .bool _) pF Bd ?_;refine gO F41 ?_;by_cases hm:x.other∈met++M.map bu.name
    ·rw[if_pos hm,List.append_nil]at bj;refine aP (by simp[hm]) ?_;refine gO F41 ?_;refine aa.AI 0 rfl rfl rfl ?_;(conv=>whnf);refine gO F133 ?_;refine aP (by decide) ?_;refine gO F133 ?_;refine aa.back (IL (i+1,k2,q2,Jz) ⟨by simp only;omega,by simp only;rw[bj];exact mh,by simp only;rw[bj];exact dE⟩ (by simp only;omega)) ?_;rw[bj];(conv=>whnf);repeat (first|exact trivial|(refine sI ?_;conv=>whnf))
     refine yr ?_ _;exact sZ
    ·rw[if_neg hm]at bj;refine aJ (by simp[hm]) ?_;refine gO F41 ?_;refine bB ⟨⟨_,rfl⟩,dJ⟩ ?_;refine gO F41 ?_;refine sN (ab2 ⟨x.other,[],_,x.bw,v.list++[x.bw]⟩ k2 q2 Jz (by simp at Ej hlen y7;omega)) ?_;rintro r h1 ⟨k3,q3,RC,⟨e1,e2,e3⟩,e4,e5⟩;subst e4;subst e5;(conv=>whnf);refine gO F41 ?_;refine aa.AI 0 rfl rfl rfl ?_;(conv=>whnf);refine gO F133 ?_;refine aP (by decide) ?_;refine gO F133 ?_;have mS:RC.drop k3=(w++cB met done.length v.list (L.take (i+1))).map ga:=by
      rw[bj,e1,mh];have hw:IntKind.i64.wrap (((done.map oo++[DV.agg [.str v.name,.sl ((dz l v.name 64 [46]).1.map .str),.int .i64 v.before,.str v.bw.name,.int .i64 v.bw.type]]).length:Int)-1)=(done.length:Int):=by
       rw[wrap64 (by simp<;>omega) (by simp at hlen ⊢;omega)];simp
      show List.map ga (w++M)++[ga ⟨x.other,[],IntKind.i64.wrap (((done.map oo++[DV.agg [.str v.name,.sl ((dz l v.name 64 [46]).1.map .str),.int .i64 v.before,.str v.bw.name,.int .i64 v.bw.type]]).length:Int)-1),x.bw,v.list++[x.bw]⟩]=_;rw[hw];simp
     refine aa.back (IL (i+1,k3,q3,RC) ⟨by simp only;omega,mS,by simp only;rw[bj];simp;omega⟩ (by simp only;omega)) ?_;rw[bj];(conv=>whnf);repeat (first|exact trivial|(refine sI ?_;conv=>whnf))
     refine yr ?_ _;(conv=>whnf);repeat (first|exact trivial|(refine sI ?_;conv=>whnf))
     refine And.intro (by rw[List.map_append,<- List.append_assoc];exact(AO _ _).symm) ?_;exact sZ
   ·have aL:L.length<=i:=by simpa using h6
    rw[List.take_of_length_le aL,<- RB]at mh dE ⊢;refine gO F133 ?_;refine aa.xX ag F133 rfl rfl rfl rfl (fun e=>nomatch e) ?_;(conv=>whnf);refine gO F41 ?_;refine aa.back (IH (_::D) (n,done++[{ v with au:=(gI l v.name).1 }],w++N,k2,q2,Jz) ⟨B2,by simp;omega,hv,mh,by simp at Ej dE ⊢;omega⟩ (by simp)) ?_;(conv=>whnf);repeat (first|exact trivial|(refine sI ?_;conv=>whnf))
    refine yr ?_ _;(conv=>whnf);repeat (first|exact trivial|(refine sI ?_;conv=>whnf))
    refine And.intro (congrArg _ (by rw[<- tL];simp)) ?_;(conv=>whnf);repeat (first|exact trivial|(refine sI ?_;conv=>whnf))
    refine And.intro (by simp;rfl) ?_;exact sZ
theorem RD(w:cR)(s:Text)(hf:∀ p∈w.au,p.aC.Fits)(H:dY w.au)(hl:w.au.length<=4000)(hs:Nm.valid s=true):aB E 33 [] [.d w.enc,.d (.str s)] (fun a b=>a=.map 1/\b=[aa2 w,.map (fZ DV.str (gY (eY w.au s))),.cells (sa w 0).dropLast,.map (iX w.au (nv w.au) w.au.length),.map (mB w.au)]):=by
 have c1:=QB w hf H (by omega);have c2:=Rz w.au s hf H (Bp H hl) hs;have gd:=IY H s;have js:=Bp H hl;have Bv:∀ v∈eY w.au s,_:=fun v hv=>D9 H hv;generalize eY w.au s=V at *;generalize mB w.au=es at *;generalize iX w.au (nv w.au) w.au.length=rs at *;obtain⟨cC,l,anchor,hints⟩:=w;show aB E _ [] [.d (DV.agg [.sl (cC.map Host.enc),.sl (l.map aH.enc),.str anchor.name,.int .i64 anchor.type,.int .i64 anchor.jD,.sl (anchor.data.map Datum.enc),.sl (hints.map (.int .i64))]),.d (.str s)] _;refine aB.run ag (fn:=Tryz.f33) Tryz.func33 (body:=Tryz.f33.body.getD .skip) rfl (by decide) 2000 rfl ?_;(conv=>whnf);refine gO F33 ?_;refine kI (c1) rfl ?_;refine gO F33 ?_
 with_reducible refine bG (c2) ?_
 refine gO F33 ?_;refine aa.loop (κ:=Nat) ([7,9]++rg 16 15) (fun i=>[(16,.d (.int .i64 i))]) (fun i=>[(1,.map (fZ DV.str (gY (V.take i))))]) (fun i=>i<=V.length) (fun i=>V.length-i) 0 (Nat.zero_le _) ?_ ?_
 ·(conv=>whnf);repeat (first|exact trivial|(refine sI ?_;conv=>whnf))
  refine And.intro rfl ?_;exact sZ
 intro i hi IH;refine aa.head ag F33 2000 ?_;(conv=>whnf);refine ar (fun h5=>?_) (fun h5=>?_)
 ·have ai:i<V.length:=by simpa using h5
  obtain⟨v,hv⟩:=bd ai;have bj:=aaW hv;obtain⟨z1,z2,z3⟩:=Bv v (List.mem_of_getElem? hv);refine gO F33 ?_;refine aD (e:=oo v) (aU hv) rfl ?_;refine gO F33 ?_;refine aa.loop (κ:=Nat) ([9]++rg 23 7) (fun k=>[(23,.d (.int .i64 k))]) (fun k=>[(1,.map (fZ DV.str (gY (V.take i)++v.au.take k)))]) (fun k=>k<=v.au.length) (fun k=>v.au.length-k) 0 (Nat.zero_le _) ?_ ?_
  ·(conv=>whnf);repeat (first|exact trivial|(refine sI ?_;conv=>whnf))
   refine And.intro (by simp) ?_;exact sZ
  intro k hk IK;refine aa.head ag F33 2000 ?_;(conv=>whnf);refine ar (fun h6=>?_) (fun h6=>?_)
  ·have jK:k<v.au.length:=by simpa using h6
   obtain⟨z,hz⟩:=bd jK;have dJ:=tK (tD rV (gY (V.take i)++v.au.take k)).1;have RE:fZ DV.str (gY (V.take i)++v.au.take (k+1))=cx (.str z) (.bool true) (fZ DV.str (gY (V.take i)++v.au.take k)):=by rw[ey hz,<- List.append_assoc,AO]
   generalize fZ DV.str (gY (V.take i)++v.au.take k)=K8 at dJ RE ⊢;refine gO F33 ?_;refine aD (e := .str z) (aU hz) rfl ?_;refine gO F33 ?_;refine bB ⟨⟨_,rfl⟩,dJ⟩ ?_;refine gO F33 ?_;refine aa.back (IK (k+1) (by omega) (by omega)) ?_;rw[RE];exact sZ
  ·have aL:v.au.length<=k:=by simpa using h6
   rw[List.take_of_length_le aL,<- bj];refine gO F33 ?_;refine aa.back (IH (i+1) (by omega) (by omega)) ?_;exact sZ
 ·have aL:V.length<=i:=by simpa using h5
  rw[List.take_of_length_le aL];refine gO F33 ?_;exact⟨rfl,rfl⟩
end Go.Proofs.YtcmnpelmmekdkaaGreatDoor.P
end
section
namespace Go.Proofs.YtcmnpelmmekdkaaGreatDoor.P
open Go Go.aA Go.Sort
set_option maxRecDepth 100000
set_option maxHeartbeats 4000000
theorem acf:RF Tryz.prog 82:=fun blk cap zs w hH hblk bT=>AnyM.slices_Sort_int Tryz.sortInt blk 0 cap zs w hH hblk bT
theorem acg(l:List Int)(hl:l≠[])(hlen:l.length<4611686018427387904) :
  aB E 82 [.arr 0 (3,1) (l.map (DV.int .i64))] [.own 0 0] (fun a b=>a=.aK []/\b=[.arr 0 (3,1) ((jQ l).map (DV.int .i64))]) :=
 ace acf ⟨_,Tryz.func82,rfl,by decide⟩ l hl hlen
end Go.Proofs.YtcmnpelmmekdkaaGreatDoor.P
end
