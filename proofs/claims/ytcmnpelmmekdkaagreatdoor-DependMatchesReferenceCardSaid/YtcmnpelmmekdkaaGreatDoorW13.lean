/- Lemmas of mine. Conditions: as stated. -/
import Derived.Test.YtcmnpelmmekdkaaGreatDoorW10
import Derived.Test.YtcmnpelmmekdkaaGreatDoorW12
set_option linter.unusedVariables false
set_option linter.unusedSimpArgs false
section
namespace Go.Proofs.YtcmnpelmmekdkaaGreatDoor.P
open Go Go.aA
set_option maxRecDepth 100000
set_option maxHeartbeats 4000000
theorem AU(z:aP)(q:aM)(ps:List Int)(V:ey z)(hf:z.gY)(hp:lL z.ab ps)(hl:ps.length<=1000)(h0:0<=aq z.ab q)(hn:aq z.ab q ∉ ps):aB E 160 [.arr 0 (57,5) ((bM z.ab ps).map Signed.enc)] [.own 0 0,.d z.enc,.d (.str q.name),.d (.int .i64 q.type)] (fun a b=>a=.own 0 1/\b=[.arr 1 (57,5) ((bM z.ab (ps++[aq z.ab q])).map Signed.enc)]):=by
 have c:=Il z q (bM z.ab ps) hf (by have:=AE (l:=z.ab) (ps:=ps);omega);have e1:mz z q (bM z.ab ps)=1:=by
  rw[mz,Im V.sorted hp h0,if_pos ⟨h0,by simp[hn]⟩]
 have e2:lP z q (bM z.ab ps)=bM z.ab (ps++[aq z.ab q]):=by
  rw[Io V.sorted hp,du,if_neg (by rintro(e|e);omega;exact hn e)]
 rw[e1,e2]at c;exact c
theorem AX(z:aP)(q:aM)(ps:List Int)(V:ey z)(hf:z.gY)(hp:lL z.ab ps)(hl:ps.length<=1000)(h0:¬ 0<=aq z.ab q\/aq z.ab q∈ps):aB E 160 [.arr 0 (57,5) ((bM z.ab ps).map Signed.enc)] [.own 0 0,.d z.enc,.d (.str q.name),.d (.int .i64 q.type)] (fun a b=>a=.own 0 0/\b=[.arr 0 (57,5) ((bM z.ab ps).map Signed.enc)]):=by
 have c:=Il z q (bM z.ab ps) hf (by have:=AE (l:=z.ab) (ps:=ps);omega);have e1:mz z q (bM z.ab ps)=0:=by
  rw[mz];refine if_neg fun e=>?_;rcases h0 with h|h
  ·exact h e.1
  ·rw[Im V.sorted hp e.1,decide_eq_false_iff_not]at e;exact e.2 h
 have e2:lP z q (bM z.ab ps)=bM z.ab ps:=by
  rw[Io V.sorted hp,du,if_pos (h0.imp (by omega) id)]
 rw[e1,e2]at c;exact c
theorem AY{ps:List Int}{p:Int}(h0:0<=p)(hn:p ∉ ps):du ps p=ps++[p]:=by
 rw[du,if_neg (by rintro(e|e);omega;exact hn e)]
theorem DF{ps:List Int}{p:Int}(h:¬ 0<=p\/p∈ps):du ps p=ps:=by
 rw[du,if_pos (h.imp (by omega) id)]
theorem P2{l:List Signed}{n:Text}{s t:Int}(aV:s≠t)(h:0<=aq l ⟨n,s⟩):aq l ⟨n,s⟩≠aq l ⟨n,t⟩:=fun e=>by
 obtain⟨x,h1,h2⟩:=jH h;obtain⟨y,h3,h4⟩:=jH (l:=l) (q:=⟨n,t⟩) (by omega);rw[<- e,h1]at h3;cases h3;exact aV ((congrArg aM.type (qk h2)).trans (congrArg aM.type (qk h4)).symm)
theorem IE{l:List Signed}{c:Text}{a b:Int}{D:List Datum}{k:Nat}{d:Datum}(h:D[k]?=some d):b8 (a::b::dO l c (D.take (k+1)))=if Nm.under d.text c then du (b8 (a::b::dO l c (D.take k))) (aq l ⟨d.text,1⟩)else b8 (a::b::dO l c (D.take k)):=by
 rw[vO h];cases Nm.under d.text c
 ·simp
 ·rw[if_pos rfl,if_pos rfl,<- List.cons_append,<- List.cons_append,AD]
theorem Zy(z:aP)(cut:Text)(V:ey z)(hf:z.gY)(hc:Nm.valid cut=true)(h2:0<=aq z.ab ⟨cut,2⟩):au E 159 [z.enc,.str cut] (· = om 4 (bM z.ab (ia z.ab cut)) cut):=by
 obtain⟨s,hs,iF⟩:=jH h2;have a0:=PG z ⟨cut,2⟩ hf h2 hs;simp only at a0;have fZ:=Px (V.ab s (List.mem_of_getElem? hs)) (congrArg aM.type (qk iF)).symm;have s6:=(rD (V.ab s (List.mem_of_getElem? hs))).2.1;have kK:xV z.ab cut=s.set.data:=by rw[xV,hs]
 have jq:∀ r:List Int,(∀ p∈r,p<z.ab.length)->lL z.ab (b8 r):=fun r h=>X3 h;have IF:bM z.ab [aq z.ab ⟨cut,2⟩]=[s]:=by simp[bM,hs]
 have p9:lL z.ab [aq z.ab ⟨cut,2⟩]:=fun p hp=>by simp at hp;subst hp;exact⟨h2,ga.2⟩
 have IG:∀ D:List Datum,∀ p∈(aq z.ab ⟨cut,2⟩::ep z.ab cut::dO z.ab cut D),p<z.ab.length:=fun D p hp=>by
  rcases List.mem_cons.1 hp with rfl|hp
  ·exact ga.2
  rcases List.mem_cons.1 hp with rfl|hp
  ·unfold ep;split<;>exact ga.2
  exact vP hp
 have hlen:∀ D:List Datum,D.length<=8->(b8 (aq z.ab ⟨cut,2⟩::ep z.ab cut::dO z.ab cut D)).length<=10:=fun D hD=>by
  have h1:=HE (ps:=aq z.ab ⟨cut,2⟩::ep z.ab cut::dO z.ab cut D);have h3:=rW z.ab cut D;simp at h1;omega
 have nu:ia z.ab cut=b8 (aq z.ab ⟨cut,2⟩::ep z.ab cut::dO z.ab cut s.set.data):=by rw[ia,lM,kK];rfl
 have iA:b8 (aq z.ab ⟨cut,2⟩::ep z.ab cut::dO z.ab cut (s.set.data.take 0))=du [aq z.ab ⟨cut,2⟩] (ep z.ab cut):=by
  rw[List.take_zero];show b8 ([aq z.ab ⟨cut,2⟩]++[ep z.ab cut])=_;rw[AD,AO h2]
 rw[show[s.enc]=[s].map Signed.enc from rfl,<- IF]at a0;rw[nu];have uu:((bM z.ab [aq z.ab ⟨cut,2⟩]).map Signed.enc)[0]?=some s.enc:=by rw[IF];rfl
 have pS:((bM z.ab [aq z.ab ⟨cut,2⟩]).map Signed.enc).length=1:=by rw[IF];rfl
 refine eP F159 ?_;refine lA (a0) rfl ?_;refine gO F159 ?_;refine bA ⟨by omega,by rw[pS];decide⟩ ?_;refine gO F159 ?_;refine aC (e:=s.enc) ⟨by omega,uu⟩ rfl ?_;refine gO F159 ?_;by_cases h6:0<=aq z.ab ⟨cut,6⟩
 ·have P3:aq z.ab ⟨cut,6⟩ ∉ [aq z.ab ⟨cut,2⟩]:=fun e=>P2 (s:=6) (t:=2) (by decide) h6 (by simpa using e);have e6:du [aq z.ab ⟨cut,2⟩] (ep z.ab cut)=[aq z.ab ⟨cut,2⟩]++[aq z.ab ⟨cut,6⟩]:=by
   rw[ep,if_neg (by omega),AY h6 P3]
  have a6:=AU z ⟨cut,6⟩ _ V hf p9 (by simp) h6 P3;have Zz:((bM z.ab ([aq z.ab ⟨cut,2⟩]++[aq z.ab ⟨cut,6⟩])).map Signed.enc).length=2:=by
   obtain⟨y,hy,-⟩:=jH h6;simp[bM,hs,hy]
  with_reducible refine bJ (a6) ?_
  refine gO F159 ?_;refine aO (by rw[pS,Zz];decide) ?_;refine gO F159 ?_;refine aa.loop (κ:=Nat) ([5,8]++rg 31 21) (fun k=>[(8,.d (.int .i64 k)),(5,.own 2 7)]) (fun k=>[(2,.arr 7 (57,5) ((bM z.ab (b8 (aq z.ab ⟨cut,2⟩::ep z.ab cut::dO z.ab cut (s.set.data.take k)))).map Signed.enc))]) (fun k=>k<=s.set.data.length) (fun k=>s.set.data.length-k) 0 (Nat.zero_le _) ?_ ?_
  ·rw[iA,e6];exact sZ
  intro k hk IH;have hL:=hlen (s.set.data.take k) (by rw[List.length_take];omega);have hP:=jq _ (IG (s.set.data.take k));refine aa.head ag F159 2000 ?_;(conv=>whnf);refine ar (fun h5=>?_) (fun h5=>?_)
  ·have kr:k<s.set.data.length:=by simpa using h5
   obtain⟨d,hd⟩:=bd kr;have bw:=IE (l:=z.ab) (c:=cut) (a:=aq z.ab ⟨cut,2⟩) (b:=ep z.ab cut) hd;have hv:=fZ d (List.mem_of_getElem? hd);have c2:=pZ d.text cut (by have:=dK hv;omega) (by have:=dK hc;omega);generalize b8 (aq z.ab ⟨cut,2⟩::ep z.ab cut::dO z.ab cut (s.set.data.take k))=ps at hL hP bw ⊢;refine gO F159 ?_;refine aC (e:=d.enc) (aS hd) rfl ?_;refine gO F159 ?_;refine aj (c2) ?_;refine gO F159 ?_;cases hu:Nm.under d.text cut
   ·rw[hu,if_neg (by decide)]at bw;refine aY ?_;refine gO F159 ?_;refine aa.back (IH (k+1) (by omega) (by omega)) ?_;rw[bw];exact sZ
   ·rw[hu,if_pos rfl]at bw;refine bp ?_;refine gO F159 ?_;by_cases hq:0<=aq z.ab ⟨d.text,1⟩/\aq z.ab ⟨d.text,1⟩ ∉ ps
    ·have a1:=AU z ⟨d.text,1⟩ ps V hf hP (by omega) hq.1 hq.2;rw[AY hq.1 hq.2]at bw;refine aa.draw ag bN 7 2000 (by kernel_rfl) ?_;(conv=>whnf);refine aC (e:=d.enc) (aS hd) rfl ?_;refine gD ?_;refine gS ?_;refine oQ a1 ?_;refine gS ?_;refine gO F159 ?_;refine aa.back (IH (k+1) (by omega) (by omega)) ?_;rw[bw];exact sZ
    ·have pk:¬ 0<=aq z.ab ⟨d.text,1⟩\/aq z.ab ⟨d.text,1⟩∈ps:=by
      by_cases h:0<=aq z.ab ⟨d.text,1⟩
      ·exact .inr (Classical.not_not.1 fun e=>hq ⟨h,e⟩)
      ·exact .inl h
     have a1:=AX z ⟨d.text,1⟩ ps V hf hP (by omega) pk;rw[DF pk]at bw;refine aa.draw ag bN 7 2000 (by kernel_rfl) ?_;(conv=>whnf);refine aC (e:=d.enc) (aS hd) rfl ?_;refine gD ?_;refine gS ?_;refine oQ a1 ?_;refine gS ?_;refine gO F159 ?_;refine aa.back (IH (k+1) (by omega) (by omega)) ?_;rw[bw];exact sZ
  ·have aG:s.set.data.length<=k:=by simpa using h5
   rw[List.take_of_length_le aG];refine gO F159 ?_;rfl
 ·have a6:=AX z ⟨cut,6⟩ _ V hf p9 (by simp) (.inl h6)
  with_reducible refine bJ (a6) ?_
  refine gO F159 ?_;refine aI (by simp) ?_;refine gO F159 ?_;by_cases h8:0<=aq z.ab ⟨cut,8⟩
  ·have P4:aq z.ab ⟨cut,8⟩ ∉ [aq z.ab ⟨cut,2⟩]:=fun e=>P2 (s:=8) (t:=2) (by decide) h8 (by simpa using e);have e6:du [aq z.ab ⟨cut,2⟩] (ep z.ab cut)=[aq z.ab ⟨cut,2⟩]++[aq z.ab ⟨cut,8⟩]:=by
    rw[ep,if_pos (by omega),AY h8 P4]
   have a8:=AU z ⟨cut,8⟩ _ V hf p9 (by simp) h8 P4
   with_reducible refine bJ (a8) ?_
   refine gO F159 ?_;refine aa.loop (κ:=Nat) ([5,8]++rg 31 21) (fun k=>[(8,.d (.int .i64 k)),(5,.own 2 7)]) (fun k=>[(2,.arr 7 (57,5) ((bM z.ab (b8 (aq z.ab ⟨cut,2⟩::ep z.ab cut::dO z.ab cut (s.set.data.take k)))).map Signed.enc))]) (fun k=>k<=s.set.data.length) (fun k=>s.set.data.length-k) 0 (Nat.zero_le _) ?_ ?_
   ·rw[iA,e6];exact sZ
   intro k hk IH;have hL:=hlen (s.set.data.take k) (by rw[List.length_take];omega);have hP:=jq _ (IG (s.set.data.take k));refine aa.head ag F159 2000 ?_;(conv=>whnf);refine ar (fun h5=>?_) (fun h5=>?_)
   ·have kr:k<s.set.data.length:=by simpa using h5
    obtain⟨d,hd⟩:=bd kr;have bw:=IE (l:=z.ab) (c:=cut) (a:=aq z.ab ⟨cut,2⟩) (b:=ep z.ab cut) hd;have hv:=fZ d (List.mem_of_getElem? hd);have c2:=pZ d.text cut (by have:=dK hv;omega) (by have:=dK hc;omega);generalize b8 (aq z.ab ⟨cut,2⟩::ep z.ab cut::dO z.ab cut (s.set.data.take k))=ps at hL hP bw ⊢;refine gO F159 ?_;refine aC (e:=d.enc) (aS hd) rfl ?_;refine gO F159 ?_;refine aj (c2) ?_;refine gO F159 ?_;cases hu:Nm.under d.text cut
    ·rw[hu,if_neg (by decide)]at bw;refine aY ?_;refine gO F159 ?_;refine aa.back (IH (k+1) (by omega) (by omega)) ?_;rw[bw];exact sZ
    ·rw[hu,if_pos rfl]at bw;refine bp ?_;refine gO F159 ?_;by_cases hq:0<=aq z.ab ⟨d.text,1⟩/\aq z.ab ⟨d.text,1⟩ ∉ ps
     ·have a1:=AU z ⟨d.text,1⟩ ps V hf hP (by omega) hq.1 hq.2;rw[AY hq.1 hq.2]at bw;refine aa.draw ag bN 7 2000 (by kernel_rfl) ?_;(conv=>whnf);refine aC (e:=d.enc) (aS hd) rfl ?_;refine gD ?_;refine gS ?_;refine oQ a1 ?_;refine gS ?_;refine gO F159 ?_;refine aa.back (IH (k+1) (by omega) (by omega)) ?_;rw[bw];exact sZ
     ·have pk:¬ 0<=aq z.ab ⟨d.text,1⟩\/aq z.ab ⟨d.text,1⟩∈ps:=by
       by_cases h:0<=aq z.ab ⟨d.text,1⟩
       ·exact .inr (Classical.not_not.1 fun e=>hq ⟨h,e⟩)
       ·exact .inl h
      have a1:=AX z ⟨d.text,1⟩ ps V hf hP (by omega) pk;rw[DF pk]at bw;refine aa.draw ag bN 7 2000 (by kernel_rfl) ?_;(conv=>whnf);refine aC (e:=d.enc) (aS hd) rfl ?_;refine gD ?_;refine gS ?_;refine oQ a1 ?_;refine gS ?_;refine gO F159 ?_;refine aa.back (IH (k+1) (by omega) (by omega)) ?_;rw[bw];exact sZ
   ·have aG:s.set.data.length<=k:=by simpa using h5
    rw[List.take_of_length_le aG];refine gO F159 ?_;rfl
  ·have e6:du [aq z.ab ⟨cut,2⟩] (ep z.ab cut)=[aq z.ab ⟨cut,2⟩]:=by
    rw[ep,if_pos (by omega),DF (.inl h8)]
   have a8:=AX z ⟨cut,8⟩ _ V hf p9 (by simp) (.inl h8)
   with_reducible refine bJ (a8) ?_
   refine gO F159 ?_;refine aa.loop (κ:=Nat) ([5,8]++rg 31 21) (fun k=>[(8,.d (.int .i64 k)),(5,.own 2 7)]) (fun k=>[(2,.arr 7 (57,5) ((bM z.ab (b8 (aq z.ab ⟨cut,2⟩::ep z.ab cut::dO z.ab cut (s.set.data.take k)))).map Signed.enc))]) (fun k=>k<=s.set.data.length) (fun k=>s.set.data.length-k) 0 (Nat.zero_le _) ?_ ?_
   ·rw[iA,e6];exact sZ
   intro k hk IH;have hL:=hlen (s.set.data.take k) (by rw[List.length_take];omega);have hP:=jq _ (IG (s.set.data.take k));refine aa.head ag F159 2000 ?_;(conv=>whnf);refine ar (fun h5=>?_) (fun h5=>?_)
   ·have kr:k<s.set.data.length:=by simpa using h5
    obtain⟨d,hd⟩:=bd kr;have bw:=IE (l:=z.ab) (c:=cut) (a:=aq z.ab ⟨cut,2⟩) (b:=ep z.ab cut) hd;have hv:=fZ d (List.mem_of_getElem? hd);have c2:=pZ d.text cut (by have:=dK hv;omega) (by have:=dK hc;omega);generalize b8 (aq z.ab ⟨cut,2⟩::ep z.ab cut::dO z.ab cut (s.set.data.take k))=ps at hL hP bw ⊢;refine gO F159 ?_;refine aC (e:=d.enc) (aS hd) rfl ?_;refine gO F159 ?_;refine aj (c2) ?_;refine gO F159 ?_;cases hu:Nm.under d.text cut
    ·rw[hu,if_neg (by decide)]at bw;refine aY ?_;refine gO F159 ?_;refine aa.back (IH (k+1) (by omega) (by omega)) ?_;rw[bw];exact sZ
    ·rw[hu,if_pos rfl]at bw;refine bp ?_;refine gO F159 ?_;by_cases hq:0<=aq z.ab ⟨d.text,1⟩/\aq z.ab ⟨d.text,1⟩ ∉ ps
     ·have a1:=AU z ⟨d.text,1⟩ ps V hf hP (by omega) hq.1 hq.2;rw[AY hq.1 hq.2]at bw;refine aa.draw ag bN 7 2000 (by kernel_rfl) ?_;(conv=>whnf);refine aC (e:=d.enc) (aS hd) rfl ?_;refine gD ?_;refine gS ?_;refine oQ a1 ?_;refine gS ?_;refine gO F159 ?_;refine aa.back (IH (k+1) (by omega) (by omega)) ?_;rw[bw];exact sZ
     ·have pk:¬ 0<=aq z.ab ⟨d.text,1⟩\/aq z.ab ⟨d.text,1⟩∈ps:=by
       by_cases h:0<=aq z.ab ⟨d.text,1⟩
       ·exact .inr (Classical.not_not.1 fun e=>hq ⟨h,e⟩)
       ·exact .inl h
      have a1:=AX z ⟨d.text,1⟩ ps V hf hP (by omega) pk;rw[DF pk]at bw;refine aa.draw ag bN 7 2000 (by kernel_rfl) ?_;(conv=>whnf);refine aC (e:=d.enc) (aS hd) rfl ?_;refine gD ?_;refine gS ?_;refine oQ a1 ?_;refine gS ?_;refine gO F159 ?_;refine aa.back (IH (k+1) (by omega) (by omega)) ?_;rw[bw];exact sZ
   ·have aG:s.set.data.length<=k:=by simpa using h5
    rw[List.take_of_length_le aG];refine gO F159 ?_;rfl
theorem ZO(z:aP)(n:Text)(L:List Signed):qw z n L=0\/qw z n L=1:=by
 unfold qw mz;split
 ·split
  ·split
   ·exact .inr rfl
   ·exact .inl rfl
  ·exact .inl rfl
 ·exact .inl rfl
theorem DI(z:aP)(n:Text)(ps:List Int)(V:ey z)(hf:z.gY)(hn:Nm.valid n=true)(hp:lL z.ab ps)(hl:ps.length<=1000):∃ g,(g=0\/g=1)/\aB E 161 [.arr 0 (57,5) ((bM z.ab ps).map Signed.enc)] [.own 0 0,.d z.enc,.d (.str n)] (fun a b=>a=.own 0 g/\b=[.arr g (57,5) ((bM z.ab (du ps (cK z.ab n))).map Signed.enc)]):=by
 refine⟨_,ZO z n (bM z.ab ps),?_⟩;have c:=Zi z n (bM z.ab ps) V hf hn (by have:=AE (l:=z.ab) (ps:=ps);omega);rw[Zm V.sorted hp]at c;exact c
theorem P9{l:List Signed}{q:aM}{s:Signed}(hs:l[(aq l q).toNat]?=some s):[s.enc]=(bM l [aq l q]).map Signed.enc:=by simp[bM,hs]
theorem DJ{l:List Signed}{q:aM}(h:0<=aq l q):lL l [aq l q]:=fun p hp=>by simp at hp;subst hp;exact⟨h,ga.2⟩
theorem A0{a b:Int}(h:0<=a):b8 [a,b]=du [a] b:=by
 show b8 ([a]++[b])=_;rw[AD,AO h]
theorem ZP{a b c:Int}(h:0<=a):b8 [a,b,c]=du (du [a] b) c:=by
 show b8 ([a,b]++[c])=_;rw[AD,A0 h]
theorem ZQ{ps:List Int}{p:Int}:(du ps p).length<=ps.length+1:=by
 unfold du;split<;>simp
theorem vT(z:aP)(q:aM)(hf:z.gY)(h:0<=aq z.ab q):aB E 160 [] [.d .a7,.d z.enc,.d (.str q.name),.d (.int .i64 q.type)] (fun a b=>a=.own 0 1/\b=[.arr 1 (57,5) ((bM z.ab [aq z.ab q]).map Signed.enc),.cells [.d (.str z.ad),.d (vu z.ab)]]):=by
 obtain⟨s,hs,-⟩:=jH h;have:=PG z q hf h hs;rw[P9 hs]at this;exact this
theorem yb{l:List Signed}{q:aM}(h:0<=aq l q):((bM l [aq l q]).map Signed.enc).length=1:=by
 obtain⟨s,hs,-⟩:=jH h;rw[<- P9 hs];rfl
theorem ZR(l:List Signed):∀ (k:Nat) (n:Text),(Nm.labels n).length<=k->Nm.valid n=true->Nm.valid (qm l n)=true/\Nm.labels (qm l n)=kn l (Nm.labels n):=by
 intro k
 induction k with
 |zero =>
  intro n hk hv;have e:=List.eq_nil_of_length_eq_zero (Nat.le_zero.1 hk);rw[qm,e];exact⟨(by decide:Nm.valid [46]=true),(by decide:Nm.labels [46]=[])⟩
 |succ k ih =>
  intro n hk hv;by_cases hr:n=[46]
  ·subst hr;have e:qm l [46]=[46]:=rfl;rw[e];exact⟨by decide,rfl⟩
  cases h:gJ l n
  ·obtain⟨t1,t2⟩:=rV hv hr;have cB:=List.length_pos_iff.2 (H9 hr);have:=ih (fQ (Nm.labels n).tail) (by rw[t2,List.length_tail];omega) t1;rw[qm,t2]at this;rw[qm,Ih h];exact this
  ·rw[qm,Ig h,rR];exact⟨hv,rfl⟩
theorem ZS(z:aP)(q:aM)(hf:z.Fits)(hn:q.name.length<=maxLen):au E 104 [z.enc,q.enc] (· = .aJ [Dk (mr z q),.int .i64 (kU z q)]):=by
 have c0:=Nr z hf;have cq:=Y9 q hn;by_cases hq:eT z=true/\jJ q=true
 case neg =>
  have h1:kU z q=1:=by
   rw[kU];cases h1:eT z<;>cases h2:jJ q<;>simp_all
  rw[mr,h1,if_neg (by decide)];refine eP F104 ?_;refine aj (c0) ?_;refine gO F104 ?_;refine aj (cq) ?_;refine gO F104 ?_;cases h2:eT z
  ·repeat' (first|with_reducible(first|refine cY ?_|refine cN ?_|refine ar (fun _=>?_) (fun _=>?_))|refine gA F104 ?_|refine gB ?_|refine gC ?_|with_reducible rfl)
   all_goals rfl
  ·have h3:jJ q=false:=by simpa [h2]using hq
   rw[h3];repeat' (first|with_reducible(first|refine cY ?_|refine cN ?_|refine ar (fun _=>?_) (fun _=>?_))|refine gA F104 ?_|refine gB ?_|refine gC ?_|with_reducible rfl)
   all_goals rfl
 obtain⟨h2,h3⟩:=hq;have hN:kU z q=0:=by simp[kU,h2,h3]
 have V:=lN h2;have hS:=Hw h2;simp only[jJ,Bool.and_eq_true,decide_eq_true_eq]at h3;obtain⟨h4,h5,h6⟩:=h3;have h3:jJ q=true:=by simp[jJ,h4,h5,h6]
 rw[mr,hN,if_pos rfl];rw[h2]at c0;rw[h3]at cq;have fC:=dK h4;have p7:=dK V.ad;have ci:=pZ q.name z.ad (by omega) (by omega);refine eP F104 ?_;refine aj (c0) ?_;refine gO F104 ?_;refine aj (cq) ?_;refine gO F104 ?_;refine aY ?_;refine gO F104 ?_;refine aY ?_;refine gO F104 ?_;refine aj (ci) ?_;refine gO F104 ?_;cases hu:Nm.under q.name z.ad
 ·have e:bU z q=⟨7,[],[]⟩:=by rw[bU,hu];rfl
  rw[e];refine bp ?_;refine gO F104 ?_;rfl
 refine aY ?_;refine gO F104 ?_;have cc:=Y' z q.name V h4;by_cases pJ:∃ c,gZ z q.name=some c/\¬ (q.name=c/\(q.type=6\/q.type=8))
 ·obtain⟨c,hc,fZ⟩:=pJ;obtain⟨v1,v2⟩:=Dl V hc;have P':c≠[]:=fun e=>by rw[e]at v1;exact absurd v1 (by decide)
  have e:bU z q=⟨4,bM z.ab (ia z.ab c),c⟩:=by rw[bU,if_pos hu,hc];simp only[if_neg fZ]
  have cr:=Zy z c V hS v1 v2;rw[e];rw[hc]at cc;simp only[Option.getD_some]at cc;refine aj (cc) ?_;refine gO F104 ?_;by_cases t6:q.type=6
  ·refine aI (by simpa using t6) ?_;refine gO F104 ?_;refine aI (by simpa using P') ?_;refine gO F104 ?_;refine aI (by simp;exact fun e=>fZ ⟨e.symm,.inl t6⟩) ?_;refine gO F104 ?_;refine bp ?_;refine gO F104 ?_;refine aj (cr) ?_;refine gO F104 ?_;rfl
  ·refine aO (by simpa using t6) ?_;refine gO F104 ?_;refine aI (by simpa using P') ?_;refine gO F104 ?_;by_cases dS:c=q.name
   ·refine aO (by simpa using dS) ?_;refine gO F104 ?_;refine aI (by simp;exact fun t8=>fZ ⟨dS.symm,.inr t8⟩) ?_;refine gO F104 ?_;refine aj (cr) ?_;refine gO F104 ?_;rfl
   ·refine aI (by simpa using dS) ?_;refine gO F104 ?_;refine bp ?_;refine gO F104 ?_;refine aj (cr) ?_;refine gO F104 ?_;rfl
 have e:bU z q=ib z q:=by
  rw[bU,if_pos hu];cases hc:gZ z q.name with
  |none=>rfl
  |some c =>
   simp only;rw[if_pos];exact Classical.not_not.1 fun h=>pJ ⟨c,hc,h⟩
 rw[e];have aV:(gZ z q.name=none/\q.type=6)\/(gZ z q.name=none/\q.type≠6)\/(gZ z q.name=some q.name/\q.type=6)\/(gZ z q.name=some q.name/\q.type=8):=by
  cases hc:gZ z q.name with
  |none=>by_cases t:q.type=6<;>simp[t]
  |some c =>
   have:=Classical.not_not.1 fun h=>pJ ⟨c,hc,h⟩;obtain⟨rfl,t|t⟩:=this
   ·simp[t]
   ·simp[t]
 clear pJ e;have Qa:q.name≠[]:=fun e=>by rw[e]at h4;exact absurd h4 (by decide)
 apply DH
 case h =>
  intro tail;rcases aV with⟨hc,t6⟩|⟨hc,t6⟩|⟨hc,t6⟩|⟨hc,t8⟩
  ·rw[hc]at cc;simp only[Option.getD_none]at cc;refine aj (cc) ?_;refine gO F104 ?_;refine aI (by simpa using t6) ?_;refine gO F104 ?_;refine aO (by decide) ?_;refine gO F104 ?_;refine aY ?_;(conv=>whnf);refine aa.forget [0,1,2,3,4,5,6,7,8,9,10,11,12,13,14,15,16,17,18,19,20,21,22,23,24,25,26,27,28,29,30,31,32,33,34,35,36,37,38,39,40,41,42,43,44,45,46,47,48,49,50,51,52,53,54,55,56,57,58,59,60,61,62,63,64,65,66,67,68,69,70,71,72,73,74,75,76,77,78,79,80,81,82,83,84,85,86,87,88,89,90,91,92,93,94,95,96,97,98,99,100,101,102,103,104,105,106,107,108,109,110,111,112,113,114,115,116,117,118,119,120,121,122,123,124,125,126,127,128,129,130,131,132,133,134,135,136,137,138,139,140,141,142,143,144,145,146,147,148,149,150,151] [] [(2,.ptr 0 0),(3,.ptr 1 0),(4,.ptr 2 0)] [] ?_ ?_
   ·exact sZ
   (conv=>whnf);exact tail
  ·skip;rw[hc]at cc;simp only[Option.getD_none]at cc;refine aj (cc) ?_;refine gO F104 ?_;refine aO (by simpa using t6) ?_;refine gO F104 ?_;refine aO (by decide) ?_;refine gO F104 ?_;refine aY ?_;(conv=>whnf);refine aa.forget [0,1,2,3,4,5,6,7,8,9,10,11,12,13,14,15,16,17,18,19,20,21,22,23,24,25,26,27,28,29,30,31,32,33,34,35,36,37,38,39,40,41,42,43,44,45,46,47,48,49,50,51,52,53,54,55,56,57,58,59,60,61,62,63,64,65,66,67,68,69,70,71,72,73,74,75,76,77,78,79,80,81,82,83,84,85,86,87,88,89,90,91,92,93,94,95,96,97,98,99,100,101,102,103,104,105,106,107,108,109,110,111,112,113,114,115,116,117,118,119,120,121,122,123,124,125,126,127,128,129,130,131,132,133,134,135,136,137,138,139,140,141,142,143,144,145,146,147,148,149,150,151] [] [(2,.ptr 0 0),(3,.ptr 1 0),(4,.ptr 2 0)] [] ?_ ?_
   ·exact sZ
   (conv=>whnf);exact tail
  ·skip;rw[hc]at cc;simp only[Option.getD_some]at cc;refine aj (cc) ?_;refine gO F104 ?_;refine aI (by simpa using t6) ?_;refine gO F104 ?_;refine aI (by simpa using Qa) ?_;refine gO F104 ?_;refine aO (by simp) ?_;refine gO F104 ?_;refine aY ?_;(conv=>whnf);refine aa.forget [0,1,2,3,4,5,6,7,8,9,10,11,12,13,14,15,16,17,18,19,20,21,22,23,24,25,26,27,28,29,30,31,32,33,34,35,36,37,38,39,40,41,42,43,44,45,46,47,48,49,50,51,52,53,54,55,56,57,58,59,60,61,62,63,64,65,66,67,68,69,70,71,72,73,74,75,76,77,78,79,80,81,82,83,84,85,86,87,88,89,90,91,92,93,94,95,96,97,98,99,100,101,102,103,104,105,106,107,108,109,110,111,112,113,114,115,116,117,118,119,120,121,122,123,124,125,126,127,128,129,130,131,132,133,134,135,136,137,138,139,140,141,142,143,144,145,146,147,148,149,150,151] [] [(2,.ptr 0 0),(3,.ptr 1 0),(4,.ptr 2 0)] [] ?_ ?_
   ·exact sZ
   (conv=>whnf);exact tail
  ·skip;rw[hc]at cc;simp only[Option.getD_some]at cc;refine aj (cc) ?_;refine gO F104 ?_;refine aO (by simp[t8]) ?_;refine gO F104 ?_;refine aI (by simpa using Qa) ?_;refine gO F104 ?_;refine aO (by simp) ?_;refine gO F104 ?_;refine aO (by simp[t8]) ?_;(conv=>whnf);refine aa.forget [0,1,2,3,4,5,6,7,8,9,10,11,12,13,14,15,16,17,18,19,20,21,22,23,24,25,26,27,28,29,30,31,32,33,34,35,36,37,38,39,40,41,42,43,44,45,46,47,48,49,50,51,52,53,54,55,56,57,58,59,60,61,62,63,64,65,66,67,68,69,70,71,72,73,74,75,76,77,78,79,80,81,82,83,84,85,86,87,88,89,90,91,92,93,94,95,96,97,98,99,100,101,102,103,104,105,106,107,108,109,110,111,112,113,114,115,116,117,118,119,120,121,122,123,124,125,126,127,128,129,130,131,132,133,134,135,136,137,138,139,140,141,142,143,144,145,146,147,148,149,150,151] [] [(2,.ptr 0 0),(3,.ptr 1 0),(4,.ptr 2 0)] [] ?_ ?_
   ·exact sZ
   (conv=>whnf);exact tail
 refine gO F104 ?_;by_cases d1:0<=aq z.ab q
 ·have a:=vT z q hS d1;have hl:=yb d1;refine lA (a) rfl ?_;refine gO F104 ?_;refine aI (by rw[hl];decide) ?_;refine gO F104 ?_;rw[ib,if_pos d1];rfl
 have a1:=Dm z q hS d1;refine lA (a1) rfl ?_;refine gO F104 ?_;refine aO (by decide) ?_;refine gO F104 ?_;by_cases d2:0<=aq z.ab ⟨q.name,3⟩/\q.type≠8
 ·have a:=vT z ⟨q.name,3⟩ hS d2.1;have hl:=yb d2.1;simp only at a;refine lA (a) rfl ?_;refine gO F104 ?_;refine aI (by rw[hl];decide) ?_;refine gO F104 ?_;refine aI (by simpa using d2.2) ?_;refine gO F104 ?_;rw[ib,if_neg d1,if_pos d2];rfl
 apply DH
 case h =>
  intro tail;by_cases d3:0<=aq z.ab ⟨q.name,3⟩
  ·have t8:q.type=8:=Classical.not_not.1 fun h=>d2 ⟨d3,h⟩;have a:=vT z ⟨q.name,3⟩ hS d3;have hl:=yb d3;simp only at a;refine lA (a) rfl ?_;refine gO F104 ?_;refine aI (by rw[hl];decide) ?_;refine gO F104 ?_;refine aO (by simp[t8]) ?_;(conv=>whnf);refine aa.forget [0,1,2,3,4,5,6,7,8,9,10,11,12,13,14,15,16,17,18,19,20,21,22,23,24,25,26,27,28,29,30,31,32,33,34,35,36,37,38,39,40,41,42,43,44,45,46,47,48,49,50,51,52,53,54,55,56,57,58,59,60,61,62,63,64,65,66,67,68,69,70,71,72,73,74,75,76,77,78,79,80,81,82,83,84,85,86,87,88,89,90,91,92,93,94,95,96,97,98,99,100,101,102,103,104,105,106,107,108,109,110,111,112,113,114,115,116,117,118,119,120,121,122,123,124,125,126,127,128,129,130,131,132,133,134,135,136,137,138,139,140,141,142,143,144,145,146,147,148,149,150,151] [] [(2,.ptr 0 0),(3,.ptr 1 0),(4,.ptr 2 0)] [(3,.gone),(4,.gone),(5,.gone),(6,.gone)] ?_ ?_
   ·exact sZ
   (conv=>whnf);exact tail
  ·have a:=Dm z ⟨q.name,3⟩ hS d3;simp only at a;refine lA (a) rfl ?_;refine gO F104 ?_;refine aO (by decide) ?_;refine gO F104 ?_;refine aY ?_;(conv=>whnf);refine aa.forget [0,1,2,3,4,5,6,7,8,9,10,11,12,13,14,15,16,17,18,19,20,21,22,23,24,25,26,27,28,29,30,31,32,33,34,35,36,37,38,39,40,41,42,43,44,45,46,47,48,49,50,51,52,53,54,55,56,57,58,59,60,61,62,63,64,65,66,67,68,69,70,71,72,73,74,75,76,77,78,79,80,81,82,83,84,85,86,87,88,89,90,91,92,93,94,95,96,97,98,99,100,101,102,103,104,105,106,107,108,109,110,111,112,113,114,115,116,117,118,119,120,121,122,123,124,125,126,127,128,129,130,131,132,133,134,135,136,137,138,139,140,141,142,143,144,145,146,147,148,149,150,151] [] [(2,.ptr 0 0),(3,.ptr 1 0),(4,.ptr 2 0)] [(3,.gone),(4,.gone),(5,.gone),(6,.gone)] ?_ ?_
   ·exact sZ
   (conv=>whnf);exact tail
 have a4:=vT z ⟨z.ad,4⟩ hS V.start;obtain⟨g,hg,c4⟩:=DI z q.name [aq z.ab ⟨z.ad,4⟩] V hS h4 (DJ V.start) (by simp);simp only at a4;refine gO F104 ?_;apply DH
 case h =>
  intro tail;rcases hg with rfl|rfl
  ·refine aa.tw ag bN [0,1,2,4,5,6] [] 2000 (by kernel_rfl) ?_;(conv=>whnf);refine aU.run ag 2000 rfl rfl ?_;(conv=>whnf);refine Oj (a4) rfl ?_;(conv=>whnf);refine And.intro rfl ?_;(conv=>whnf);refine aU.run ag 2000 rfl rfl ?_;(conv=>whnf);refine oQ (c4) ?_;(conv=>whnf);refine And.intro rfl ?_;(conv=>whnf);refine aU.run ag 2000 rfl rfl ?_;(conv=>whnf);refine And.intro rfl ?_;(conv=>whnf);refine aU.run ag 2000 rfl rfl ?_;(conv=>whnf);(conv=>whnf);refine aa.forget [0,1,2,3,4,5,6,7,8,9,10,11,12,13,14,15,16,17,18,19,20,21,22,23,24,25,26,27,28,29,30,31,32,33,34,35,36,37,38,39,40,41,42,43,44,45,46,47,48,49,50,51,52,53,54,55,56,57,58,59,60,61,62,63,64,65,66,67,68,69,70,71,72,73,74,75,76,77,78,79,80,81,82,83,84,85,86,87,88,89,90,91,92,93,94,95,96,97,98,99,100,101,102,103,104,105,106,107,108,109,110,111,112,113,114,115,116,117,118,119,120,121,122,123,124,125,126,127,128,129,130,131,132,133,134,135,136,137,138,139,140,141,142,143,144,145,146,147,148,149,150,151] [] [(2,.ptr 0 0),(3,.ptr 1 0),(4,.ptr 2 0),(11,.own 7 7)] [(7,.arr 7 (57,5) ((bM z.ab (du [aq z.ab ⟨z.ad,4⟩] (cK z.ab q.name))).map Signed.enc)),(8,.gone)] ?_ ?_
   ·exact sZ
   (conv=>whnf);exact tail
  ·refine aa.tw ag bN [0,1,2,4,5,6] [] 2000 (by kernel_rfl) ?_;(conv=>whnf);refine aU.run ag 2000 rfl rfl ?_;(conv=>whnf);refine Oj (a4) rfl ?_;(conv=>whnf);refine And.intro rfl ?_;(conv=>whnf);refine aU.run ag 2000 rfl rfl ?_;(conv=>whnf);refine oQ (c4) ?_;(conv=>whnf);refine And.intro rfl ?_;(conv=>whnf);refine aU.run ag 2000 rfl rfl ?_;(conv=>whnf);refine And.intro rfl ?_;(conv=>whnf);refine aU.run ag 2000 rfl rfl ?_;(conv=>whnf);(conv=>whnf);refine aa.forget [0,1,2,3,4,5,6,7,8,9,10,11,12,13,14,15,16,17,18,19,20,21,22,23,24,25,26,27,28,29,30,31,32,33,34,35,36,37,38,39,40,41,42,43,44,45,46,47,48,49,50,51,52,53,54,55,56,57,58,59,60,61,62,63,64,65,66,67,68,69,70,71,72,73,74,75,76,77,78,79,80,81,82,83,84,85,86,87,88,89,90,91,92,93,94,95,96,97,98,99,100,101,102,103,104,105,106,107,108,109,110,111,112,113,114,115,116,117,118,119,120,121,122,123,124,125,126,127,128,129,130,131,132,133,134,135,136,137,138,139,140,141,142,143,144,145,146,147,148,149,150,151] [] [(2,.ptr 0 0),(3,.ptr 1 0),(4,.ptr 2 0),(11,.own 7 7)] [(7,.arr 7 (57,5) ((bM z.ab (du [aq z.ab ⟨z.ad,4⟩] (cK z.ab q.name))).map Signed.enc)),(8,.gone)] ?_ ?_
   ·exact sZ
   (conv=>whnf);exact tail
 refine gO F104 ?_;have c5:=Ik z q.name V h4;refine aj (c5) ?_;refine gO F104 ?_;cases he:gJ z.ab q.name
 case true =>
  refine bp ?_;refine gO F104 ?_;rw[ib,if_neg d1,if_neg d2,if_pos he,A0 V.start];rfl
 refine aY ?_;refine gO F104 ?_;have c6:=Zb z q.name V h4 hu;obtain⟨mO,eo⟩:=ZR z.ab _ q.name (Nat.le_refl _) h4;have c7:=Ze (qm z.ab q.name) mO;rw[eo]at c7;change au E _ _ (· = match pg z.ab q.name with|some t => .aJ [.str t,.bool true]|none => .aJ [.str [],.bool false])at c7;refine aj (c6) ?_;refine gO F104 ?_;cases hw:pg z.ab q.name with
 |none =>
  rw[hw]at c7;refine aj (c7) ?_;refine gO F104 ?_;refine bp ?_;refine gO F104 ?_;rw[ib,if_neg d1,if_neg d2,if_neg (by simp[he]),hw,A0 V.start];rfl
 |some w =>
  rw[hw]at c7;have tD:=PA hw;have hA:ib z q=if 0<=aq z.ab ⟨w,q.type⟩then⟨2,bM z.ab (b8 [aq z.ab ⟨w,q.type⟩,cK z.ab q.name]),[]⟩
    else if 0<=aq z.ab ⟨w,3⟩/\q.type≠8 then⟨3,bM z.ab (b8 [aq z.ab ⟨w,3⟩,cK z.ab q.name]),[]⟩
    else if gJ z.ab w then⟨5,bM z.ab (b8 [aq z.ab ⟨z.ad,4⟩,cK z.ab q.name,cK z.ab w]),[]⟩
    else⟨6,bM z.ab (b8 [aq z.ab ⟨z.ad,4⟩,cK z.ab q.name,cK z.ab w]),[]⟩:=by
   rw[ib,if_neg d1,if_neg d2,if_neg (by simp[he]),hw]
  rw[hA];refine aj (c7) ?_;refine gO F104 ?_;refine aY ?_;refine gO F104 ?_;by_cases d4:0<=aq z.ab ⟨w,q.type⟩
  ·have a:=vT z ⟨w,q.type⟩ hS d4;have hl:=yb d4;simp only at a;rw[if_pos d4,A0 d4];obtain⟨g,hg,c8⟩:=DI z q.name [aq z.ab ⟨w,q.type⟩] V hS h4 (DJ d4) (by simp);refine lA (a) rfl ?_;refine gO F104 ?_;refine aI (by rw[hl];decide) ?_;refine gO F104 ?_;rcases hg with rfl|rfl;all_goals
    with_reducible refine bJ (c8) ?_
    refine gO F104 ?_;rfl
  rw[if_neg d4];have a:=Dm z ⟨w,q.type⟩ hS d4;simp only at a;refine lA (a) rfl ?_;refine gO F104 ?_;refine aO (by decide) ?_;refine gO F104 ?_;by_cases d5:0<=aq z.ab ⟨w,3⟩/\q.type≠8
  ·have a:=vT z ⟨w,3⟩ hS d5.1;have hl:=yb d5.1;simp only at a;rw[if_pos d5,A0 d5.1];obtain⟨g,hg,c8⟩:=DI z q.name [aq z.ab ⟨w,3⟩] V hS h4 (DJ d5.1) (by simp);refine lA (a) rfl ?_;refine gO F104 ?_;refine aI (by rw[hl];decide) ?_;refine gO F104 ?_;refine aI (by simpa using d5.2) ?_;refine gO F104 ?_;rcases hg with rfl|rfl;all_goals
    with_reducible refine bJ (c8) ?_
    refine gO F104 ?_;rfl
  rw[if_neg d5];apply DH
  case h =>
   intro tail;by_cases d3:0<=aq z.ab ⟨w,3⟩
   ·have t8:q.type=8:=Classical.not_not.1 fun h=>d5 ⟨d3,h⟩;have a:=vT z ⟨w,3⟩ hS d3;have hl:=yb d3;simp only at a;refine lA (a) rfl ?_;refine gO F104 ?_;refine aI (by rw[hl];decide) ?_;refine gO F104 ?_;refine aO (by simp[t8]) ?_;(conv=>whnf);refine aa.forget [0,1,2,3,4,5,6,7,8,9,10,11,12,13,14,15,16,17,18,19,20,21,22,23,24,25,26,27,28,29,30,31,32,33,34,35,36,37,38,39,40,41,42,43,44,45,46,47,48,49,50,51,52,53,54,55,56,57,58,59,60,61,62,63,64,65,66,67,68,69,70,71,72,73,74,75,76,77,78,79,80,81,82,83,84,85,86,87,88,89,90,91,92,93,94,95,96,97,98,99,100,101,102,103,104,105,106,107,108,109,110,111,112,113,114,115,116,117,118,119,120,121,122,123,124,125,126,127,128,129,130,131,132,133,134,135,136,137,138,139,140,141,142,143,144,145,146,147,148,149,150,151] [] [(2,.ptr 0 0),(3,.ptr 1 0),(4,.ptr 2 0),(11,.own 7 7),(12,.d (.str w))] [(9,.gone),(10,.gone),(11,.gone),(12,.gone)] ?_ ?_
    ·exact sZ
    (conv=>whnf);exact tail
   ·have a:=Dm z ⟨w,3⟩ hS d3;simp only at a;refine lA (a) rfl ?_;refine gO F104 ?_;refine aO (by decide) ?_;refine gO F104 ?_;refine aY ?_;(conv=>whnf);refine aa.forget [0,1,2,3,4,5,6,7,8,9,10,11,12,13,14,15,16,17,18,19,20,21,22,23,24,25,26,27,28,29,30,31,32,33,34,35,36,37,38,39,40,41,42,43,44,45,46,47,48,49,50,51,52,53,54,55,56,57,58,59,60,61,62,63,64,65,66,67,68,69,70,71,72,73,74,75,76,77,78,79,80,81,82,83,84,85,86,87,88,89,90,91,92,93,94,95,96,97,98,99,100,101,102,103,104,105,106,107,108,109,110,111,112,113,114,115,116,117,118,119,120,121,122,123,124,125,126,127,128,129,130,131,132,133,134,135,136,137,138,139,140,141,142,143,144,145,146,147,148,149,150,151] [] [(2,.ptr 0 0),(3,.ptr 1 0),(4,.ptr 2 0),(11,.own 7 7),(12,.d (.str w))] [(9,.gone),(10,.gone),(11,.gone),(12,.gone)] ?_ ?_
    ·exact sZ
    (conv=>whnf);exact tail
  refine gO F104 ?_;obtain⟨g,hg,c8⟩:=DI z w (du [aq z.ab ⟨z.ad,4⟩] (cK z.ab q.name)) V hS tD ((DJ V.start).add tA.2) (by have:=ZQ (ps:=[aq z.ab ⟨z.ad,4⟩]) (p:=cK z.ab q.name);simp at this;omega);have c9:=Ik z w V tD;rw[ZP V.start];rcases hg with rfl|rfl;all_goals
   with_reducible refine bJ (c8) ?_
   refine gO F104 ?_;refine aj (c9) ?_;refine gO F104 ?_;cases he2:gJ z.ab w
   ·refine aY ?_;refine gO F104 ?_;rfl
   ·refine bp ?_;refine gO F104 ?_;rfl
theorem Z9(z:aP)(q:aM)(hf:z.Fits)(hn:q.name.length<=maxLen):au E 104 [z.enc,q.enc] (· = .aJ [(mr z q).enc,.int .i64 (kU z q)]):=by
 refine au.norm ?_;refine(ZS z q hf hn).mono fun r h=>?_;subst h;have:=PF (PE (z:=z) (q:=q));simp only[norm,sU,this]
structure pn(l:List aR)(V:Int->DV)(k:Nat)(es:List (DV × DV)):Prop where
 keys:lO DV.str es
 find:∀ a,findD (.str a) es=if 0<=ez l a k then some (V (ez l a k))else none
theorem pn.nil{l:List aR}{V:Int->DV}:pn l V 0 []:=⟨fun p hp=>by simp at hp,fun a=>rfl⟩
def nv(l:List aR)(p:aR)(k:Nat):Bool:=decide (ez l p.aE.ad k<0)||(match l[(ez l p.aE.ad k).toNat]? with|some q=>fh p q|none=>false)
theorem Qp{l:List aR}{k:Nat}{p:aR}(h:l[k]?=some p)(a:Text):ez l a (k+1)=if p.aE.ad=a/\nv l p k=true then(k:Int)else ez l a k:=by
 show xZ l a (ez l a k) k=_;unfold xZ;rw[h];simp only;by_cases e:p.aE.ad=a
 ·subst e;rw[if_pos rfl];unfold nv;by_cases h0:ez l p.aE.ad k<0
  ·rw[if_pos h0,if_pos (by simp[h0])]
  ·rw[if_neg h0];cases hq:l[(ez l p.aE.ad k).toNat]? with
   |none=>simp[h0]
   |some q=>cases hf:fh p q<;>simp[h0]
 ·rw[if_neg e,if_neg (fun h=>e h.1)]
theorem pn.put{l:List aR}{V:Int->DV}{k:Nat}{es:List (DV × DV)}(M:pn l V k es){p:aR}(h:l[k]?=some p)(hn:nv l p k=true):pn l V (k+1) (cx (.str p.aE.ad) (V k) es):=by
 refine⟨De M.keys,fun a=>?_⟩;rw[Df rS M.keys,Qp h];by_cases e:a=p.aE.ad
 ·subst e;have e2:(if p.aE.ad=p.aE.ad/\nv l p k=true then(k:Int)else ez l p.aE.ad k)=k:=if_pos ⟨rfl,hn⟩;rw[if_pos rfl,e2,if_pos (by omega)]
 ·have e2:(if p.aE.ad=a/\nv l p k=true then(k:Int)else ez l a k)=ez l a k:=if_neg fun h=>e h.1.symm;rw[if_neg e,e2];exact M.find a
theorem pn.skip{l:List aR}{V:Int->DV}{k:Nat}{es:List (DV × DV)}(M:pn l V k es){p:aR}(h:l[k]?=some p)(hn:nv l p k=false):pn l V (k+1) es:=by
 refine⟨M.keys,fun a=>?_⟩;have e2:(if p.aE.ad=a/\nv l p k=true then(k:Int)else ez l a k)=ez l a k:=if_neg fun h=>by rw[hn]at h;exact absurd h.2 (by decide)
 rw[Qp h,e2];exact M.find a
def jl(l:List aR)(V:Int->DV):Nat->List (DV × DV)
 |0=>[]
 |k+1=>match l[k]? with
  |some p=>if nv l p k then cx (.str p.aE.ad) (V k) (jl l V k)else jl l V k
  |none=>jl l V k
theorem IT{l:List aR}{V:Int->DV}{k:Nat}{p:aR}(h:l[k]?=some p):jl l V (k+1)=if nv l p k then cx (.str p.aE.ad) (V k) (jl l V k)else jl l V k:=by
 rw[jl,h]
theorem A2{l:List aR}{V:Int->DV}:∀ {k:Nat},k<=l.length->pn l V k (jl l V k)
 |0,_ => .nil
 |k+1,hk=>by
  obtain⟨p,hp⟩:=bd (l:=l) (k:=k) (by omega);have ih:=A2 (V:=V) (l:=l) (k:=k) (by omega);rw[IT hp];cases e:nv l p k
  ·exact ih.skip hp e
  ·exact ih.put hp e
theorem yd{es:List (DV × DV)}(h:lO DV.str es):∀ p∈es,ea E.T .string p.1:=fun p hp=>by
 obtain⟨a,e⟩:=h p hp;exact⟨a,e⟩
@[reducible] def Qs (w : cP) (b : Nat) : List AV := [.d (.sl (w.cI.map Host.enc)), .d (.sl (w.az.map aR.enc)), .d (.str w.anchor.name), .d (.int .i64 w.anchor.type), .d (.int .i64 w.anchor.kc), .d (.sl (w.anchor.data.map Datum.enc)), .d (.sl (w.hints.map (.int .i64))), .map b]
theorem aac{l:List aR}{ad:Text}{p:aR}{m:Nat}(h:ez l ad l.length=m)(hp:l[m]?=some p):gd l ad=some p.aE:=by
 unfold gd mB;rw[h,Int.toNat_natCast,hp];simp
theorem aad{l:List aR}{ad:Text}(h:¬ 0<=ez l ad l.length):gd l ad=none:=by
 unfold gd mB;split
 ·rw[if_neg h]
 ·rfl
theorem Qt{z:aP}{q:aM}(h:eT z=true)(hq:jJ q=true):mr z q=bU z q/\kU z q=0:=by
 have:kU z q=0:=by simp[kU,h,hq]
 exact⟨by rw[mr,if_pos this],this⟩
theorem tH{w:cP}(h:fK w=true):eG w.az/\w.az.length<=4000:=by
 obtain⟨-,h2,-⟩:=Qo.1 h;obtain⟨h3,h4,-⟩:=Qn.1 h2;refine⟨fun p hp=>?_,h3⟩;have:=h4 p hp;simp only[ku,Bool.and_eq_true]at this;exact this.2
theorem Qu{t:Text}(h:Nm.valid t=true):dep t<64:=by
 have:=(AM h).1;unfold dep;omega
theorem Qv{t:Text}(h:Nm.valid t=true):Nm.under t [46]=true:=by
 rw[s5];have:Nm.labels [46]=[]:=by decide
 rw[this];exact List.nil_prefix
def nw(l:List aR)(i:Int):DV:=match l[i.toNat]? with
 |some p => .agg [.int .i64 (iV p.aE),.int .i64 p.host]
 |none => .undef
def qy(l:List aR)(i:Int):DV:=match l[i.toNat]? with
 |some p=>p.aE.enc
 |none => .undef
def mE(l:List aR):List (DV × DV):=jl l (qy l) l.length
theorem aae(l:List aR):lO DV.str (mE l):=(A2 (Nat.le_refl _)).keys
theorem aaf(l:List aR)(a:Text):findD (.str a) (mE l)=match gd l a with|some z=>some z.enc|none=>none:=by
 have M:=A2 (l:=l) (V:=qy l) (Nat.le_refl l.length);have h:=M.find a;have ai:=IM (l:=l) (ad:=a) (n:=l.length);by_cases h0:0<=ez l a l.length
 ·obtain⟨m,hm⟩:∃ m:Nat,ez l a l.length=m:=⟨(ez l a l.length).toNat,by omega⟩;obtain⟨p,hp⟩:=bd (l:=l) (k:=m) (by omega);rw[if_pos h0,hm]at h;rw[mE,h,aac hm hp];simp only[qy,Int.toNat_natCast,hp]
 ·rw[if_neg h0]at h;rw[mE,h,aad h0]
theorem Qw(bad:Nat->Prop)(w:World):VD bad w (.agg [.int .i64 0,.int .i64 0]) (.agg #[.int .i64 0,.int .i64 0]) := .agg _ _ rfl fun j x v hx hv=>by
 match j with
 |0=>simp at hx hv;subst hx;subst hv;exact .int _ _
 |1=>simp at hx hv;subst hx;subst hv;exact .int _ _
 |j+2=>simp at hx
theorem Qx(bad:Nat->Prop)(w:World):VD bad w (.agg [.str [],.a7]) (.agg #[.string ⟨#[]⟩,.slice none 0 0]) := .agg _ _ rfl fun j x v hx hv=>by
 match j with
 |0=>simp at hx hv;subst hx;subst hv;exact .str []
 |1=>simp at hx hv;subst hx;subst hv;exact .a7
 |j+2=>simp at hx
theorem Qy(w:cP)(hf:∀ p∈w.az,p.aE.Fits)(H:eG w.az)(hl:w.az.length<=1000000):aB E 42 [] [.d w.enc] (fun a b=>a=.map 2/\b=[.cells (Qs w 0).dropLast,.map (jl w.az (nw w.az) w.az.length),.map (mE w.az)]):=by
 obtain⟨cI,l,anchor,hints⟩:=w;simp only at hf H hl;show aB E _ [] [.d (DV.agg [.sl (cI.map Host.enc),.sl (l.map aR.enc),.str anchor.name,.int .i64 anchor.type,.int .i64 anchor.kc,.sl (anchor.data.map Datum.enc),.sl (hints.map (.int .i64))])] _;refine aB.run ag (fn:=Tryz.f42) Tryz.func42 (body:=Tryz.f42.body.getD .skip) rfl (by decide) 2000 rfl ?_;(conv=>whnf);refine gO F42 ?_;refine gO F42 ?_;refine aa.loop (κ:=Nat) (rg 6 6++rg 17 51) (fun k=>[(17,.d (.int .i64 k))]) (fun k=>[(1,.map (jl l (nw l) k)),(2,.map (jl l (qy l) k))]) (fun k=>k<=l.length) (fun k=>l.length-k) 0 (Nat.zero_le _) ?_ ?_
 ·(conv=>whnf);repeat (first|exact trivial|(refine sI ?_;conv=>whnf))
  refine And.intro rfl ?_;(conv=>whnf);repeat (first|exact trivial|(refine sI ?_;conv=>whnf))
  refine And.intro rfl ?_;exact sZ
 intro k hk IH;refine aa.head ag F42 2000 ?_;(conv=>whnf);refine ar (fun h5=>?_) (fun h5=>?_)
 ·have ai:k<l.length:=by simpa using h5
  obtain⟨x,hx⟩:=bd ai;have nk:=IT (V:=nw l) hx;have jF:=IT (V:=qy l) hx;have v1:nw l k=.agg [.int .i64 (iV x.aE),.int .i64 x.host]:=by rw[nw,Int.toNat_natCast,hx]
  have v2:qy l k=x.aE.enc:=by rw[qy,Int.toNat_natCast,hx]
  rw[v1]at nk;rw[v2]at jF;have M1:pn l (nw l) k (jl l (nw l) k):=A2 hk;have M2:pn l (qy l) k (jl l (qy l) k):=A2 hk;have ff:=M1.find x.aE.ad;have ki:=IM (l:=l) (ad:=x.aE.ad) (n:=k);have A5:=yd M1.keys;have A6:=yd M2.keys;have sV:=List.mem_of_getElem? hx;have mY:nv l x k=(decide (ez l x.aE.ad k<0)||(match l[(ez l x.aE.ad k).toNat]? with|some q=>fh x q|none=>false)):=rfl;generalize ez l x.aE.ad k=b at ff ki mY;generalize jl l (nw l) k=es1 at *;generalize jl l (qy l) k=KZ at *;refine gO F42 ?_;refine aC (e:=x.enc) (aS hx) rfl ?_;refine gO F42 ?_;refine aj (X1 x.aE (hf x sV) (H x sV)) ?_;refine gO F42 ?_;by_cases h0:0<=b
  ·rw[if_pos h0]at ff;obtain⟨m,rfl⟩:∃ m:Nat,b=m:=⟨b.toNat,by omega⟩;obtain⟨y,hy⟩:=bd (l:=l) (k:=m) (by omega);have v3:nw l m=.agg [.int .i64 (iV y.aE),.int .i64 y.host]:=by rw[nw,Int.toNat_natCast,hy]
   rw[v3]at ff;rw[Int.toNat_natCast,hy]at mY;have IY:nv l x k=fh x y:=by
    have:¬ ((m:Int)<0):=by omega
    rw[mY];simp[this]
   clear mY;rw[IY]at nk jF;refine mb (.agg [.int .i64 0,.int .i64 0]) (.agg #[.int .i64 0,.int .i64 0]) (v := .agg [.int .i64 (iV y.aE),.int .i64 y.host]) (f:=true) ⟨_,rfl⟩ A5 (fun w=>by kernel_rfl) Qw (by rw[ff];rfl) (by rw[ff];rfl) ?_;refine gO F42 ?_;refine aY ?_;refine gO F42 ?_;by_cases g1:iV x.aE>iV y.aE
   ·have vU:fh x y=true:=by simp[fh];omega
    rw[vU,if_pos rfl]at nk jF;refine aI (decide_eq_true g1) ?_;refine gO F42 ?_;refine bp ?_;refine gO F42 ?_;refine bA ⟨⟨_,rfl⟩,A5⟩ ?_;refine gO F42 ?_;refine bA ⟨⟨_,rfl⟩,A6⟩ ?_;refine gO F42 ?_;refine aa.back (IH (k+1) (by omega) (by omega)) ?_;rw[nk,jF];exact sZ
   ·refine aO (decide_eq_false g1) ?_;refine gO F42 ?_;by_cases g2:iV x.aE=iV y.aE
    ·refine aI (by simpa using g2) ?_;refine gO F42 ?_;by_cases g3:x.host<y.host
     ·have vU:fh x y=true:=by simp[fh];omega
      rw[vU,if_pos rfl]at nk jF;refine aI (decide_eq_true g3) ?_;refine gO F42 ?_;refine bA ⟨⟨_,rfl⟩,A5⟩ ?_;refine gO F42 ?_;refine bA ⟨⟨_,rfl⟩,A6⟩ ?_;refine gO F42 ?_;refine aa.back (IH (k+1) (by omega) (by omega)) ?_;rw[nk,jF];exact sZ
     ·have vU:fh x y=false:=by simp[fh];omega
      rw[vU,if_neg (by decide)]at nk jF;refine aO (decide_eq_false g3) ?_;refine gO F42 ?_;refine aa.back (IH (k+1) (by omega) (by omega)) ?_;rw[nk,jF];exact sZ
    ·have vU:fh x y=false:=by simp[fh];omega
     rw[vU,if_neg (by decide)]at nk jF;refine aO (by simpa using g2) ?_;refine gO F42 ?_;refine aY ?_;refine gO F42 ?_;refine aa.back (IH (k+1) (by omega) (by omega)) ?_;rw[nk,jF];exact sZ
  ·rw[if_neg h0]at ff;have IY:nv l x k=true:=by rw[mY];simp;omega
   rw[IY,if_pos rfl]at nk jF;refine mb (.agg [.int .i64 0,.int .i64 0]) (.agg #[.int .i64 0,.int .i64 0]) (v := .agg [.int .i64 0,.int .i64 0]) (f:=false) ⟨_,rfl⟩ A5 (fun w=>by kernel_rfl) Qw (by rw[ff];rfl) (by rw[ff];rfl) ?_;refine gO F42 ?_;refine bp ?_;refine gO F42 ?_;refine bp ?_;refine gO F42 ?_;refine bp ?_;refine gO F42 ?_;refine bA ⟨⟨_,rfl⟩,A5⟩ ?_;refine gO F42 ?_;refine bA ⟨⟨_,rfl⟩,A6⟩ ?_;refine gO F42 ?_;refine aa.back (IH (k+1) (by omega) (by omega)) ?_;rw[nk,jF];exact sZ
 ·have aG:l.length<=k:=by simpa using h5
  obtain rfl:k=l.length:=by omega
  refine gO F42 ?_;exact⟨rfl,rfl⟩
@[reducible] def bR.enc (x : bR) : DV := .agg [.str x.bB.name, .int .i64 x.bB.type, .str x.other]
theorem aag{ad:Text}{l:List Signed}{k:Nat}{x:Signed}(h:l[k]?=some x):ec ad (l.take (k+1))=ec ad (l.take k)++if x.set.name=ad/\x.set.type=2 then fj ad x.set.data else[]:=by
 rw[dW h,ec,List.flatMap_append];simp[ec,fj]
theorem Qz{ad:Text}:∀ {l:List Signed},(∀ s∈l,s.set.data.length<=8)->(ec ad l).length<=8*l.length
 |[],_=>by simp[ec]
 |s::l,h=>by
  have ih:=Qz (ad:=ad) (l:=l) fun x hx=>h x (List.mem_cons_of_mem _ hx);have h1:=h s (List.mem_cons_self ..);have e:ec ad (s::l)=(if s.set.name=ad/\s.set.type=2 then s.set.data.map fun d=>(⟨⟨ad,2⟩,d.text⟩:bR)else[])++ec ad l:=by rw[ec,List.flatMap_cons];rfl
  rw[e,List.length_append,List.length_cons];split
  ·rw[List.length_map];omega
  ·rw[List.length_nil];omega
theorem QA{ad:Text}{D:List Datum}{k:Nat}{d:Datum}(h:D[k]?=some d):fj ad (D.take (k+1))=fj ad (D.take k)++[⟨⟨ad,2⟩,d.text⟩]:=by
 rw[dW h,fj,List.map_append];rfl
theorem QB(ad:Text)(l:List Signed)(Z:List Text)(F:List bR)(hd:∀ s∈l,s.set.data.length<=8)(hl:l.length<=1000000)(hF:F.length<=1000000000):aB E 127 [.cells [.own 1 0,.own 2 0],.arr 0 (9,1) (Z.map .str),.arr 0 (189,3) (F.map bR.enc)] [.d (.str ad),.d (.sl (l.map Signed.enc)),.ptr 0 0] (fun a b=>a=.aJ []/\b=[.cells [.own 1 0,.own 2 1],.arr 0 (9,1) (Z.map .str),.arr 1 (189,3) ((F++ec ad l).map bR.enc)]):=by
 refine aB.run ag (fn:=Tryz.f127) Tryz.func127 (body:=Tryz.f127.body.getD .skip) rfl (by decide) 2000 rfl ?_;(conv=>whnf);refine aa.loop (κ:=Nat) ([6,8]++rg 11 35) (fun k=>[(11,.d (.int .i64 k))]) (fun k=>[(0,.cells [.own 1 0,.own 2 1]),(2,.arr 1 (189,3) ((F++ec ad (l.take k)).map bR.enc))]) (fun k=>k<=l.length) (fun k=>l.length-k) 0 (Nat.zero_le _) ?_ ?_
 ·(conv=>whnf);repeat (first|exact trivial|(refine sI ?_;conv=>whnf))
  refine And.intro (by simp[ec]) ?_;exact sZ
 intro k hk IH;have eZ:=Qz (ad:=ad) (l:=l.take k) fun s hs=>hd s (List.mem_of_mem_take hs);rw[List.length_take]at eZ;refine aa.head ag F127 2000 ?_;(conv=>whnf);refine ar (fun h5=>?_) (fun h5=>?_)
 ·have ai:k<l.length:=by simpa using h5
  obtain⟨x,hx⟩:=bd ai;have bw:=aag (ad:=ad) hx;have xr:=hd x (List.mem_of_getElem? hx);generalize ec ad (l.take k)=G at eZ bw ⊢;refine gO F127 ?_;refine aC (e:=x.enc) (aS hx) rfl ?_;refine gO F127 ?_;by_cases h6:x.set.name=ad
  ·refine aI (by simpa using h6) ?_;refine gO F127 ?_;by_cases h7:x.set.type=2
   ·rw[if_pos ⟨h6,h7⟩]at bw;refine aI (by simpa using h7) ?_;refine gO F127 ?_;refine aa.loop (κ:=Nat) ([8]++rg 30 15) (fun j=>[(30,.d (.int .i64 j))]) (fun j=>[(0,.cells [.own 1 0,.own 2 1]),(2,.arr 1 (189,3) ((F++G++fj ad (x.set.data.take j)).map bR.enc))]) (fun j=>j<=x.set.data.length) (fun j=>x.set.data.length-j) 0 (Nat.zero_le _) ?_ ?_
    ·(conv=>whnf);repeat (first|exact trivial|(refine sI ?_;conv=>whnf))
     refine And.intro (by simp[fj]) ?_;exact sZ
    intro j hj JH;have mN:(fj ad (x.set.data.take j)).length<=8:=by simp[fj];omega
    refine aa.head ag F127 2000 ?_;(conv=>whnf);refine ar (fun h8=>?_) (fun h8=>?_)
    ·have IS:j<x.set.data.length:=by simpa using h8
     obtain⟨d,QC⟩:=bd IS;have QD:=QA (ad:=ad) QC;generalize fj ad (x.set.data.take j)=HL at mN QD ⊢;refine gO F127 ?_;refine aC (e:=d.enc) (aS QC) rfl ?_;refine gO F127 ?_;refine bA ⟨by simp;omega,by simp[DV.cells]⟩ ?_;refine gO F127 ?_;refine aa.back (JH (j+1) (by omega) (by omega)) ?_;rw[QD];(conv=>whnf);repeat (first|exact trivial|(refine sI ?_;conv=>whnf))
     refine And.intro (by simp) ?_;exact sZ
    ·have IP:x.set.data.length<=j:=by simpa using h8
     rw[List.take_of_length_le IP];refine gO F127 ?_;refine aa.back (IH (k+1) (by omega) (by omega)) ?_;rw[bw];(conv=>whnf);repeat (first|exact trivial|(refine sI ?_;conv=>whnf))
     refine And.intro (by simp) ?_;exact sZ
   ·rw[if_neg (fun h=>h7 h.2),List.append_nil]at bw;refine aO (by simpa using h7) ?_;refine gO F127 ?_;refine aa.back (IH (k+1) (by omega) (by omega)) ?_;rw[bw];exact sZ
  ·rw[if_neg (fun h=>h6 h.1),List.append_nil]at bw;refine aO (by simpa using h6) ?_;refine gO F127 ?_;refine aY ?_;refine gO F127 ?_;refine aa.back (IH (k+1) (by omega) (by omega)) ?_;rw[bw];exact sZ
 ·have aG:l.length<=k:=by simpa using h5
  rw[List.take_of_length_le aG];refine gO F127 ?_;exact⟨rfl,rfl⟩
theorem DM(l:List Text)(t:Text)(hl:l.length<=2147483648):au E 23 [.sl (l.map .str),.str t] (· = .bool (decide (t∈l))):=by
 refine eP F23 ?_;refine aa.loop (κ:=Nat) (rg 4 14) (fun k=>[(5,.d (.int .i64 k))]) (fun _=>[]) (fun k=>k<=l.length/\(t∈l↔t∈l.drop k)) (fun k=>l.length-k) 0 ⟨Nat.zero_le _,by simp⟩ ?_ ?_
 ·exact sZ
 rintro k ⟨hk,hm⟩ IH;refine aa.head ag F23 2000 ?_;(conv=>whnf);refine ar (fun h5=>?_) (fun h5=>?_)
 ·have ai:k<l.length:=by simpa using h5
  obtain⟨x,hx⟩:=bd ai;rw[xX hx,List.mem_cons]at hm;refine gO F23 ?_;refine aC (e := .str x) (aS hx) rfl ?_;refine gO F23 ?_;by_cases h6:x=t
  ·refine aI (by simpa using h6) ?_;refine gO F23 ?_;rw[decide_eq_true (hm.2 (.inl h6.symm))]
  ·refine aO (by simpa using h6) ?_;refine gO F23 ?_;refine aa.back (IH (k+1) ⟨by omega,hm.trans ⟨fun h=>h.resolve_left fun e=>h6 e.symm,.inr⟩⟩ (by omega)) ?_;exact sZ
 ·have aG:l.length<=k:=by simpa using h5
  rw[List.drop_eq_nil_of_le aG]at hm;refine gO F23 ?_;rw[decide_eq_false (fun h=>by have:=hm.1 h;simp at this)]
theorem QI(a b:List aM)(hl:a.length<=2147483648):au E 18 [.sl (a.map aM.enc),.sl (b.map aM.enc)] (· = .bool (decide (a=b))):=by
 refine eP F18 ?_;refine ar (fun h5=>?_) (fun h5=>?_)
 ·have aH:a.length≠b.length:=by simp at h5;omega
  refine gO F18 ?_;rw[decide_eq_false (fun e=>aH (by rw[e]))]
 have hlen:a.length=b.length:=by simp at h5;omega
 refine gO F18 ?_;refine aa.loop (κ:=Nat) ([4,5]++rg 11 15) (fun k=>[(5,.d (.int .i64 k))]) (fun _=>[]) (fun k=>k<=a.length/\a.take k=b.take k) (fun k=>a.length-k) 0 ⟨Nat.zero_le _,by simp⟩ ?_ ?_
 ·exact sZ
 rintro k ⟨hk,hm⟩ IH;refine aa.head ag F18 2000 ?_;(conv=>whnf);refine ar (fun h6=>?_) (fun h6=>?_)
 ·have ai:k<a.length:=by simpa using h6
  obtain⟨u,hu⟩:=bd ai;obtain⟨v,hv⟩:=bd (l:=b) (k:=k) (by omega);refine gO F18 ?_;refine aa.draw ag bN 8 2000 (by kernel_rfl) ?_;(conv=>whnf);refine aC (e:=u.enc) (aS hu) rfl ?_;refine gD ?_;refine aC (e:=v.enc) (aS hv) rfl ?_;refine gD ?_;refine gS ?_;refine gO F18 ?_;by_cases g:u=v
  ·refine aO (by subst g;simp) ?_;refine gO F18 ?_;refine aa.back (IH (k+1) ⟨by omega,by rw[List.take_add_one,List.take_add_one,hu,hv,hm,g]⟩ (by omega)) ?_;exact sZ
  ·refine aI (by obtain⟨un,ut⟩:=u;obtain⟨vn,vt⟩:=v;simp at g ⊢;exact Classical.or_iff_not_imp_left.2 fun h=>g (Classical.not_not.1 h)) ?_;refine gO F18 ?_;rw[decide_eq_false (fun e=>g (by subst e;exact Option.some.inj (hu.symm.trans hv)))]
 ·have aG:a.length<=k:=by simpa using h6
  rw[List.take_of_length_le aG,List.take_of_length_le (by omega)]at hm;refine gO F18 ?_;rw[decide_eq_true hm]
theorem aat(x y:bR)(h1:x.bB.name.length<=1000)(h2:y.bB.name.length<=1000)(h3:x.other.length<=1000)(h4:y.other.length<=1000):au E 165 [x.enc,y.enc] (· = .bool (dA x y)):=by
 obtain⟨⟨xn,xt⟩,xo⟩:=x;obtain⟨⟨yn,yt⟩,yo⟩:=y;simp only at h1 h2 h3 h4;have c1:=xq xn yn h1 h2;have c2:=xq xo yo h3 h4;show au E _ [DV.agg [.str xn,.int .i64 xt,.str xo],DV.agg [.str yn,.int .i64 yt,.str yo]] _;refine eP F165 ?_;refine aj (c1) ?_;refine gO F165 ?_;by_cases g1:bq xn yn=0
 ·have e:=oa g1;subst e;refine aO (by simpa using g1) ?_;refine gO F165 ?_;by_cases g2:xt=yt
  ·subst g2;refine aO (by simp) ?_;refine gO F165 ?_;refine aj (c2) ?_;refine gO F165 ?_;simp[dA,jE]
  ·refine aI (by simpa using g2) ?_;refine gO F165 ?_;simp[dA,jE,g2]
 ·refine aI (by simpa using g1) ?_;refine gO F165 ?_;have aH:xn≠yn:=fun e=>g1 (by rw[e,jE]);simp[dA,aH]
@[reducible] def pq (l : List bR) : DV := if l = [] then .a7 else .sl (l.map bR.enc)
def vV(x:bR):Prop:=x.bB.name.length<=1000/\x.other.length<=1000
theorem QJ(l:List bR)(x:bR)(hs:l.Pairwise fun a b=>dA a b=true)(hl:l.length<=1000000)(hx:vV x)(hL:∀ y∈l,vV y):au E 105 [pq l,x.enc] (· = .sl ((iD dA l x).map bR.enc)):=by
 by_cases h0:l=[]
 ·subst h0;show au E _ [.a7,DV.agg [.str x.bB.name,.int .i64 x.bB.type,.str x.other]] _;refine eP F105 ?_;refine aa.jV 5 (123,3) (by decide) rfl ?_;(conv=>whnf);refine aa.uW ?_;refine aa.run ag F105 2000 ?_;(conv=>whnf);refine aO (by decide) ?_;refine gO F105 ?_;refine bp ?_;refine gO F105 ?_;refine bA ⟨by simp,by simp[DV.cells]⟩ ?_;refine gO F105 ?_;rfl
 have e:pq l=.sl (l.map bR.enc):=if_neg h0;rw[e];show au E _ [_,DV.agg [.str x.bB.name,.int .i64 x.bB.type,.str x.other]] _;obtain⟨W,hW⟩:∃ W,iD dA l x=W:=⟨_,rfl⟩;rw[hW];refine eP F105 ?_;refine aa.jV 5 (123,3) (by decide) rfl ?_;(conv=>whnf);refine aa.loop (κ:=Nat × Bool × List bR) [4,5,6,7,8,9,10,11,12,13,14,15,16,17,18,19,20,21,22,23,24,25,26,27,28,29,30,31,32,33,34,35,36,37,38,39,40,41] (fun q=>[(7,.d (.int .i64 q.1)),(6,.d (.bool q.2.1)),(5,.own 1 1)]) (fun q=>[(1,.arr 1 (123,3) (q.2.2.map bR.enc))]) (fun q=>q.1<=l.length/\q.2.2.length<=q.1+1/\(q.2.1=true->W=q.2.2++l.drop q.1/\x ∉ l.drop q.1)/\(q.2.1=false->q.2.2=l.take q.1/\W=l.take q.1++iD dA (l.drop q.1) x)) (fun q=>l.length-q.1) (0,false,[]) ⟨Nat.zero_le _,by simp,by simp,fun _=>by simp[hW]⟩ ?_ ?_
 ·(conv=>whnf);repeat (first|exact trivial|(refine sI ?_;conv=>whnf))
  refine And.intro rfl ?_;exact sZ
 rintro⟨k,dn,A⟩ ⟨h1,h2,h3,h4⟩ IH;simp only at h1 h2 h3 h4;refine aa.head ag F105 2000 ?_;(conv=>whnf);refine ar (fun h5=>?_) (fun h5=>?_)
 ·have ai:k<l.length:=by simpa using h5
  obtain⟨y,hy⟩:=bd ai;have hd:=xX hy;have oV:=hL y (List.mem_of_getElem? hy);have c1:=aat x y hx.1 oV.1 hx.2 oV.2;refine gO F105 ?_;refine aa.draw ag bN 5 2000 (by kernel_rfl) ?_;(conv=>whnf);refine aC (e:=y.enc) (aS hy) rfl ?_;refine gD ?_;refine gS ?_;refine cJ.aas ag (by exact rfl) (by exact rfl) (by exact rfl) (by exact rfl) (by exact rfl) (by exact rfl) (by exact rfl) (by exact rfl) (by kernel_rfl) (by kernel_rfl) (l1:=[.str y.bB.name,.int .i64 y.bB.type]) (l2 := .str y.other) (m1:=[.str x.bB.name,.int .i64 x.bB.type]) (m2 := .str x.other) (bg (by exact rfl)) (bg (by exact rfl)) (by exact rfl) (by exact rfl) (by exact rfl) (by exact rfl) ?_;(conv=>whnf);refine gS ?_;have hq:((y.bB.name==x.bB.name&&(y.bB.type==x.bB.type&&true))&&y.other==x.other)=decide (y=x):=by
   obtain⟨⟨yn,yt⟩,yo⟩:=y;obtain⟨⟨xn,xt⟩,xo⟩:=x;rw[Bool.eq_iff_iff];simp
  refine gO F105 ?_;by_cases g:y=x
  ·refine aI (hq.trans (decide_eq_true g)) ?_;refine gO F105 ?_;subst g;have o9:dn=false:=by
    cases dn
    ·rfl
    ·exact absurd (by rw[hd];exact List.mem_cons_self ..) (h3 rfl).2
   obtain⟨-,e2⟩:=h4 o9;rw[e2,hd,iD,if_pos rfl,<- hd,List.take_append_drop]
  refine aO (hq.trans (decide_eq_false g)) ?_;cases dn
  ·obtain⟨e1,e2⟩:=h4 rfl;rw[hd,iD,if_neg g]at e2;have hlA:A.length=k:=by rw[e1];simp;omega
   refine gO F105 ?_;refine aa.draw ag bN 9 2000 (by kernel_rfl) ?_;(conv=>whnf);refine aI rfl ?_;refine gD ?_;refine aC (e:=y.enc) (aS hy) rfl ?_;refine gD ?_;refine bj (c1) ?_;refine gD ?_;refine gS ?_;refine gO F105 ?_;by_cases g2:dA x y=true
   ·refine aI g2 ?_;rw[if_pos g2]at e2;have bw:x ∉ l.drop (k+1):=fun hm=>by
     have h8:=hs.drop (i:=k);rw[hd]at h8;have h9:=(List.pairwise_cons.1 h8).1 x hm;have:=x8 x y x g2 h9;rw[Iu]at this;cases this
    refine gO F105 ?_;refine bA ⟨by simp;omega,by simp[DV.cells]⟩ ?_;refine gO F105 ?_;refine aC (e:=y.enc) (aS hy) rfl ?_;refine gO F105 ?_;refine bA ⟨by simp;omega,by simp[DV.cells]⟩ ?_;refine gO F105 ?_;refine aa.back (IH (k+1,true,A++[x]++[y]) (by refine⟨by simp only;omega,by simp;omega,fun q=>⟨by simp only;rw[e2,e1];simp,bw⟩,fun q=>absurd q (by simp)⟩) (by simp only;omega)) ?_;(conv=>whnf);repeat (first|exact trivial|(refine sI ?_;conv=>whnf))
    refine And.intro (by simp) ?_;exact sZ
   ·refine aO (by simpa using g2) ?_;rw[if_neg g2]at e2;refine gO F105 ?_;refine aC (e:=y.enc) (aS hy) rfl ?_;refine gO F105 ?_;refine bA ⟨by simp;omega,by simp[DV.cells]⟩ ?_;refine gO F105 ?_;refine aa.back (IH (k+1,false,A++[y]) (by refine⟨by simp only;omega,by simp;omega,fun q=>absurd q (by simp),fun q=>⟨by simp only;rw[dW hy,e1],by simp only;rw[e2,dW hy,List.append_assoc];rfl⟩⟩) (by simp only;omega)) ?_;(conv=>whnf);repeat (first|exact trivial|(refine sI ?_;conv=>whnf))
    refine And.intro (by simp) ?_;exact sZ
  ·obtain⟨e1,e2⟩:=h3 rfl;rw[hd]at e1 e2;refine gO F105 ?_;refine aa.draw ag bN 9 2000 (by kernel_rfl) ?_;(conv=>whnf);refine aO rfl ?_;refine gD ?_;refine gS ?_;refine gO F105 ?_;refine aO rfl ?_;refine gO F105 ?_;refine aC (e:=y.enc) (aS hy) rfl ?_;refine gO F105 ?_;refine bA ⟨by simp;omega,by simp[DV.cells]⟩ ?_;refine gO F105 ?_;refine aa.back (IH (k+1,true,A++[y]) (by refine⟨by simp only;omega,by simp;omega,fun q=>⟨by simp only;rw[e1];simp,fun hm=>e2 (List.mem_cons_of_mem _ hm)⟩,fun q=>absurd q (by simp)⟩) (by simp only;omega)) ?_;(conv=>whnf);repeat (first|exact trivial|(refine sI ?_;conv=>whnf))
   refine And.intro (by simp) ?_;exact sZ
 ·have aG:l.length<=k:=by simpa using h5
  rw[List.drop_eq_nil_of_le aG]at h3 h4;cases dn
  ·obtain⟨e1,e2⟩:=h4 rfl;refine gO F105 ?_;refine bp ?_;refine gO F105 ?_;refine bA ⟨by simp;omega,by simp[DV.cells]⟩ ?_;refine gO F105 ?_;rw[e2,e1];simp[iD]
  ·obtain⟨e1,-⟩:=h3 rfl;refine gO F105 ?_;refine aY ?_;refine gO F105 ?_;rw[e1];simp
theorem aau{z:aP}{q:aM}(V:ey z)(h4:(bU z q).kind=4):(bU z q).ab.length<=10:=by
 obtain⟨-,c,h1,h2⟩:=IA h4;obtain⟨-,g2⟩:=Dl V h1;obtain⟨s,hs,-⟩:=jH g2;have hd:=(rD (V.ab s (List.mem_of_getElem? hs))).2.1;rw[h2];have e1:=AE (l:=z.ab) (ps:=ia z.ab c);have e2:=HE (ps:=aq z.ab ⟨c,2⟩::ep z.ab c::lM z.ab c);have e3:(lM z.ab c).length<=8:=by
  have e:lM z.ab c=dO z.ab c s.set.data:=by rw[lM,xV,hs];rfl
  rw[e];exact Nat.le_trans (rW ..) hd
 have e4:(ia z.ab c).length<=10:=by
  rw[ia];simp only[List.length_cons]at e2;omega
 simp only;omega
theorem rX{z:aP}(V:ey z):∀ s∈z.ab,s.set.data.length<=8:=fun s hs=>(rD (V.ab s hs)).2.1
@[reducible] def vW (Z : List Text) (F : List bR) : DV := .agg [.sl (Z.map .str), .sl (F.map bR.enc)]
theorem DN{l:List aR}{s ad:Text}{n:Nat}{z:aP}(h:gd l ad=some z)(h4:(bU z ⟨s,1⟩).kind=4):dL l s (n+1) ad=(ad::(dL l s n (bU z ⟨s,1⟩).cut).1,ec ad z.ab++(ec (bU z ⟨s,1⟩).cut (bU z ⟨s,1⟩).ab++(dL l s n (bU z ⟨s,1⟩).cut).2)):=by
 rw[dL,h];simp only;rw[if_pos h4]
theorem DO{l:List aR}{s ad:Text}{n:Nat}{z:aP}(h:gd l ad=some z)(h4:¬ (bU z ⟨s,1⟩).kind=4):dL l s (n+1) ad=([ad],ec ad z.ab++qx s (bU z ⟨s,1⟩)):=by
 rw[dL,h];simp only;rw[if_neg h4]
theorem DP{l:List aR}{s ad:Text}{n:Nat}(h:gd l ad=none):dL l s (n+1) ad=([ad],[]):=by
 rw[dL,h]
theorem aav(l:List aR)(s:Text)(hf:∀ p∈l,p.aE.Fits)(H:eG l)(hs:Nm.valid s=true):aB E 86 [.map (mE l)] [.map 0,.d (.str s)] (fun a b=>a=.d (vW (dL l s 64 [46]).1 (lQ l s))/\b=[.map (mE l)]):=by
 have F:=PT H;have eJ:=yd (aae l);have ma:=aaf l;have eZ:=dK hs;have hq:jJ ⟨s,1⟩=true:=by simp[jJ,hs]
 obtain⟨JR,QK⟩:∃ x,dL l s 64 [46]=x:=⟨_,rfl⟩;rw[lQ,QK];generalize mE l=es at eJ ma ⊢;apply aB.kV
 case hk=>rfl
 refine aB.run ag (fn:=Tryz.f86) Tryz.func86 (body:=Tryz.f86.body.getD .skip) rfl (by decide) 2000 rfl ?_;(conv=>whnf);refine aa.tz 2 0 (9,1) (by decide) rfl rfl ?_;(conv=>whnf);refine aa.tz 2 1 (189,3) (by decide) rfl rfl ?_;(conv=>whnf);refine aa.loop (κ:=Nat × Text × List Text × List bR) [7,8,9,10,11,12,14,15,16,17,18,19,20,21,22,23,24,25,26,27,28,29,30,31,32,33,34,35,36,37,38,39,40,41,42,43,44,45,46,47,48,49,50,51,52,53,54,55,56,57,58,59,60,61,62,63,64,65,66,67,68,69,70,71,72,73] (fun x=>[(7,.d (.str x.2.1))]) (fun x=>[(2,.cells [.own 3 1,.own 4 1]),(3,.arr 1 (9,1) (x.2.2.1.map .str)),(4,.arr 1 (189,3) (x.2.2.2.map bR.enc))]) (fun x=>Nm.under s x.2.1=true/\dep s<x.1+dep x.2.1/\x.2.2.1.length+x.1=64/\x.2.2.2.length+16*x.1<=1024/\JR=(x.2.2.1++(dL l s x.1 x.2.1).1,x.2.2.2++(dL l s x.1 x.2.1).2)) (fun x=>x.1) (64,[46],[],[]) ⟨Qv hs,by have:=Qu hs;simp only;omega,rfl,by simp,by simp[QK]⟩ ?_ ?_
 ·(conv=>whnf);repeat (first|exact trivial|(refine sI ?_;conv=>whnf))
  refine And.intro rfl ?_;(conv=>whnf);repeat (first|exact trivial|(refine sI ?_;conv=>whnf))
  refine And.intro rfl ?_;exact sZ
 rintro⟨n,ad,Z,G⟩ ⟨h1,h2,h3,h4,h5⟩ IH;simp only at h1 h2 h3 h4 h5;obtain⟨n,rfl⟩:∃ m,n=m+1:=⟨n-1,by have:=PO h1;omega⟩;have ff:=ma ad;refine aa.head ag F86 2000 ?_;(conv=>whnf);refine bA ⟨by simp;omega,by simp[DV.cells]⟩ ?_;refine gO F86 ?_;cases e:gd l ad with
 |none =>
  rw[e]at ff;rw[DP e]at h5;subst h5;refine mb (.agg [.str [],.a7]) (.agg #[.string ⟨#[]⟩,.slice none 0 0]) (v := .agg [.str [],.a7]) (f:=false) ⟨_,rfl⟩ eJ (fun w=>by kernel_rfl) Qx (by simp only[ff];rfl) (by simp only[ff];rfl) ?_;refine gO F86 ?_;refine bp ?_;(conv=>whnf);refine aa.freeze 3 ?_;(conv=>whnf);refine aa.freeze 4 ?_;(conv=>whnf);refine gO F86 ?_;exact⟨by simp[vW],rfl⟩
 |some z =>
  rw[e]at ff;obtain⟨hz,vX⟩:=H.at_ e;obtain⟨-,p,hp,rfl⟩:=Dx e;have V:=lN hz;refine mb (.agg [.str [],.a7]) (.agg #[.string ⟨#[]⟩,.slice none 0 0]) (v:=p.aE.enc) (f:=true) ⟨_,rfl⟩ eJ (fun w=>by kernel_rfl) Qx (by simp only[ff];rfl) (by simp only[ff];rfl) ?_;refine gO F86 ?_;refine aY ?_;refine gO F86 ?_;have bS:=V.len;have c1:=QB ad p.aE.ab (Z++[ad]) G (rX V) (by omega) (by omega);rw[List.map_append,List.map_singleton]at c1;obtain⟨a1,a2⟩:=Qt (q:=⟨s,1⟩) hz hq;have c2:=Zg p.aE ⟨s,1⟩ (hf p hp) (oF (show s.length<=2147483648 by omega));rw[a1,a2]at c2;have uT:(ec ad p.aE.ab).length<=8:=by
   have AF:p.aE.ad=ad:=vX;by_cases h0:0<=aq p.aE.ab ⟨ad,2⟩
   ·obtain⟨y,hy,-⟩:=jH h0;rw[IC V.sorted h0 hy];simp[fj];exact rX V y (List.mem_of_getElem? hy)
   ·have:ec ad p.aE.ab=[]:=by
     rw[ec,List.flatMap_eq_nil_iff];intro y hy;refine if_neg fun⟨b1,b2⟩=>h0 ?_;obtain⟨i,hi⟩:=List.getElem?_of_mem hy;have:=xT V.sorted hi;rw[b1,b2]at this;omega
    rw[this];simp
  with_reducible refine bJ (c1) ?_
  refine gO F86 ?_;refine aj (c2) ?_;refine gO F86 ?_;by_cases k4:(bU p.aE ⟨s,1⟩).kind=4
  ·have k3:¬ (bU p.aE ⟨s,1⟩).kind=3:=by omega
   obtain⟨f1,f2⟩:=F ad p.aE ⟨s,1⟩ e k4;obtain⟨y,m,g1,g2,g3,g4,g5⟩:=Dy V k4;have iF:(ec (bU p.aE ⟨s,1⟩).cut (bU p.aE ⟨s,1⟩).ab).length<=8:=by
    rw[g5];simp[fj];exact rX V y g2
   have c3:=QB (bU p.aE ⟨s,1⟩).cut (bU p.aE ⟨s,1⟩).ab (Z++[ad]) (G++ec ad p.aE.ab) (fun y hy=>rX V y (PV hy)) (by have:=aau V k4;omega) (by simp;omega);rw[List.map_append,List.map_singleton]at c3;rw[DN e k4]at h5;refine aO (by simpa using k3) ?_;refine gO F86 ?_;refine aO (by simpa using k4) ?_;refine gO F86 ?_
   with_reducible refine bJ (c3) ?_
   refine gO F86 ?_;refine aa.back (IH (n,(bU p.aE ⟨s,1⟩).cut,Z++[ad],G++ec ad p.aE.ab++ec (bU p.aE ⟨s,1⟩).cut (bU p.aE ⟨s,1⟩).ab) ⟨f1,by simp only;omega,by simp;omega,by simp;omega,by rw[h5];simp⟩ (by simp)) ?_;(conv=>whnf);repeat (first|exact trivial|(refine sI ?_;conv=>whnf))
   refine And.intro (by simp) ?_;exact sZ
  ·rw[DO e k4]at h5;subst h5;by_cases k3:(bU p.aE ⟨s,1⟩).kind=3
   ·obtain⟨y,m,d,D,g1,g2,g3,g5,g6,g7⟩:=ID V k3;refine aI (by simpa using k3) ?_;refine gO F86 ?_;refine aa.draw ag bN 14 2000 (by kernel_rfl) ?_;(conv=>whnf);refine aC (e:=y.enc) ⟨by omega,by rw[g1];rfl⟩ rfl ?_;refine gD ?_;refine aC (e:=d.enc) ⟨by omega,by rw[g5];rfl⟩ rfl ?_;refine gD ?_;refine gS ?_;refine bA ⟨by simp;omega,by simp[DV.cells]⟩ ?_;refine gS ?_;refine gO F86 ?_;refine aI (by simpa using k4) ?_;(conv=>whnf);refine aa.freeze 3 ?_;(conv=>whnf);refine aa.freeze 4 ?_;(conv=>whnf);refine gO F86 ?_;exact⟨by simp[vW,qx,k3,g6],rfl⟩
   ·refine aO (by simpa using k3) ?_;refine gO F86 ?_;refine aI (by simpa using k4) ?_;(conv=>whnf);refine aa.freeze 3 ?_;(conv=>whnf);refine aa.freeze 4 ?_;(conv=>whnf);refine gO F86 ?_;exact⟨by simp[vW,qx,k3],rfl⟩
end Go.Proofs.YtcmnpelmmekdkaaGreatDoor.P
end
