/- Lemmas of mine. Conditions: as stated. -/
import Derived.Test.YtcmnpelmmekdkaaGreatDoorW9
import Derived.Test.YtcmnpelmmekdkaaGreatDoorW11
import Derived.Calls
import Derived.Shelf.SortM.SortNone
set_option linter.unusedVariables false
set_option linter.unusedSimpArgs false
section
namespace Go.Proofs.YtcmnpelmmekdkaaGreatDoor.P
open Go Go.aA
set_option maxRecDepth 100000
theorem PR(z:aP)(q:aM):(ib z q).kind≠4:=by
 unfold ib;repeat' split
 all_goals simp
theorem IA{z:aP}{q:aM}(h:(bU z q).kind=4):Nm.under q.name z.ad=true/\∃ c,gZ z q.name=some c/\bU z q=⟨4,bM z.ab (ia z.ab c),c⟩:=by
 unfold bU at h ⊢;by_cases hu:Nm.under q.name z.ad=true
 ·rw[if_pos hu]at h;rw[if_pos hu];refine⟨hu,?_⟩;cases hc:gZ z q.name with
  |none=>rw[hc]at h;exact absurd h (PR z q)
  |some c =>
   rw[hc]at h;simp only at h ⊢;by_cases e:q.name=c/\(q.type=6\/q.type=8)
   ·rw[if_pos e]at h;exact absurd h (PR z q)
   ·exact⟨c,rfl,by rw[if_neg e]⟩
 ·rw[if_neg hu]at h;simp at h
theorem Zp{c a:Text}(hu:Nm.under c a=true)(aH:c≠a):dep a<dep c:=by
 have h1:=s5.1 hu;have h2:=h1.length_le;rcases Nat.lt_or_ge (dep a) (dep c)with h|h
 ·exact h
 ·exfalso;have e:=h1.eq_of_length (by simp[dep]at h h2 ⊢;omega);apply aH;have e2:Nm.labels a=Nm.labels c:=by simpa using e
  rw[<- rR c,<- e2,rR]
theorem PS{z:aP}{q:aM}(V:ey z)(h:(bU z q).kind=4):Nm.under q.name (bU z q).cut=true/\dep z.ad<dep (bU z q).cut/\Nm.valid (bU z q).cut=true:=by
 obtain⟨-,c,h1,h2⟩:=IA h;rw[h2];have h3:Nm.under q.name c=true:=by have:=List.find?_some h1;simpa using this
 obtain⟨s,hs,e,hc⟩:=n4 (List.mem_of_find?_eq_some h1);simp only[iJ,Bool.and_eq_true,beq_iff_eq,bne_iff_ne]at hc;have:=V.under s hs;subst e;exact⟨h3,Zp this hc.2,V.names s hs⟩
theorem Dx{l:List aR}{ad:Text}{z:aP}(h:gd l ad=some z):z.ad=ad/\∃ p∈l,p.aE=z:=by
 obtain⟨k,q,-,h2,rfl⟩:=PN h;exact⟨h2.home,q,List.mem_of_getElem? h2.at_,rfl⟩
def eG(l:List aR):Prop:=∀ p∈l,eT p.aE=true
theorem eG.at_{l:List aR}(H:eG l){ad:Text}{z:aP}(h:gd l ad=some z):eT z=true/\z.ad=ad:=by
 obtain⟨e,p,hp,rfl⟩:=Dx h;exact⟨H p hp,e⟩
theorem PT{l:List aR}(H:eG l):Fair l:=fun ad z q hz h4=>by
 obtain⟨h0,e⟩:=H.at_ hz;obtain⟨h1,h2,-⟩:=PS (lN h0) h4;exact⟨h1,by rw[<- e];exact h2⟩
theorem PU{l:List Signed}{ps:List Int}{s:Signed}(h:s∈bM l ps):s∈l:=by
 obtain⟨p,-,e⟩:=get_mem.1 h;exact List.mem_of_getElem? e
theorem Zq{z:aP}{q:aM}{s:Signed}:s∈(ib z q).ab->s∈z.ab:=by
 unfold ib;repeat' split
 all_goals exact PU
theorem PV{z:aP}{q:aM}{s:Signed}:s∈(bU z q).ab->s∈z.ab:=by
 unfold bU;repeat' split
 all_goals first|exact Zq|exact PU|(intro h;simp at h)
theorem Zr{p:Int}{r:List Int}(h:0<=p):∃ r',b8 (p::r)=p::r':=by
 have main:∀ (r acc:List Int),∃ r',r.foldl du (p::acc)=p::r':=by
  intro r
  induction r with
  |nil=>intro acc;exact⟨acc,rfl⟩
  |cons x r ih =>
   intro acc;rw[List.foldl_cons];unfold du;split
   ·exact ih acc
   ·exact ih (acc++[x])
 have e:du [] p=[p]:=by unfold du;rw[if_neg (by rintro(e|e);omega;simp at e)];rfl
 rw[b8,List.foldl_cons,e];exact main r []
theorem PW{l:List Signed}{q:aM}{r:List Int}(h:0<=aq l q):∃ s r' m,b8 (aq l q::r)=aq l q::r'/\m=bM l r'/\bM l (b8 (aq l q::r))=s::m/\s∈l/\cC q s=true/\l[(aq l q).toNat]?=some s:=by
 obtain⟨s,h1,h2⟩:=jH h;obtain⟨r',e⟩:=Zr (r:=r) h;refine⟨s,r',bM l r',e,rfl,?_,List.mem_of_getElem? h1,h2,h1⟩;rw[e,bM,List.filterMap_cons,h1];rfl
theorem Zs{z:aP}{q:aM}:(ib z q).kind=3->∃ s m,(ib z q).ab=s::m/\s∈z.ab/\s.set.type=3:=by
 have key:∀ (n:Text) (r:List Int),0<=aq z.ab ⟨n,3⟩->∃ s m,bM z.ab (b8 (aq z.ab ⟨n,3⟩::r))=s::m/\s∈z.ab/\s.set.type=3:=fun n r h=>by
  obtain⟨s,r',m,-,-,e,h1,h2,-⟩:=PW (r:=r) h;exact⟨s,m,e,h1,(congrArg aM.type (qk h2)).symm⟩
 unfold ib;by_cases h1:0<=aq z.ab q
 ·rw[if_pos h1];intro h;simp at h
 rw[if_neg h1];by_cases h2:0<=aq z.ab ⟨q.name,3⟩/\q.type≠8
 ·rw[if_pos h2];intro _;have:=key q.name [] h2.1;rw[AO h2.1]at this;exact this
 rw[if_neg h2];by_cases h3:gJ z.ab q.name=true
 ·rw[if_pos h3];intro h;simp at h
 rw[if_neg h3];cases hw:pg z.ab q.name with
 |none=>intro h;simp at h
 |some w =>
  simp only;by_cases h4:0<=aq z.ab ⟨w,q.type⟩
  ·rw[if_pos h4];intro h;simp at h
  rw[if_neg h4];by_cases h5:0<=aq z.ab ⟨w,3⟩/\q.type≠8
  ·rw[if_pos h5];intro _;exact key w _ h5.1
  rw[if_neg h5];split<;>(intro h;simp at h)
theorem Zt{z:aP}{q:aM}(h:(bU z q).kind=3):∃ s m,(bU z q).ab=s::m/\s∈z.ab/\s.set.type=3:=by
 revert h
 unfold bU;repeat' split
 all_goals first|exact Zs|(intro h;simp at h)
theorem Zu{ps:List Int}:(b8 ps).Nodup:=by
 have main:∀ (ps acc:List Int),acc.Nodup->(ps.foldl du acc).Nodup:=by
  intro ps
  induction ps with
  |nil=>intro acc h;exact h
  |cons x ps ih =>
   intro acc h;rw[List.foldl_cons];apply ih;unfold du;split
   ·exact h
   ·rename_i hn;rw[List.nodup_append];exact⟨h,by simp,fun a ha c hc e=>by simp at hc;subst hc;subst e;exact hn (.inr ha)⟩
 exact main ps [] List.nodup_nil
theorem IB{α β:Type}{f:α->List β}{s:α}:∀ {l:List α} {k:Nat},l[k]?=some s->(∀ i x,l[i]?=some x->i≠k->f x=[])->l.flatMap f=f s
 |[],k,h,_=>by simp at h
 |x::l,0,h,ho=>by
  simp at h;subst h;rw[List.flatMap_cons];have:l.flatMap f=[]:=by
   rw[List.flatMap_eq_nil_iff];intro y hy;obtain⟨i,hi⟩:=List.getElem?_of_mem hy;exact ho (i+1) y (by simpa using hi) (by omega)
  rw[this,List.append_nil]
 |x::l,k+1,h,ho=>by
  rw[List.flatMap_cons,ho 0 x rfl (by omega),List.nil_append];exact IB (k:=k) (by simpa using h) fun i y hi hn=>ho (i+1) y (by simpa using hi) (by omega)
def fj(ad:Text)(D:List Datum):List bR:=D.map fun d=>⟨⟨ad,2⟩,d.text⟩
theorem IC{l:List Signed}{ad:Text}{s:Signed}(hs:fe l)(h:0<=aq l ⟨ad,2⟩)(hx:l[(aq l ⟨ad,2⟩).toNat]?=some s):ec ad l=fj ad s.set.data:=by
 obtain⟨s',h1,h2⟩:=jH h;rw[hx]at h1;cases h1;have e:=qk h2;have e1:s.set.name=ad:=(congrArg aM.name e).symm;have e2:s.set.type=2:=(congrArg aM.type e).symm;rw[ec,IB hx]
 ·rw[if_pos ⟨e1,e2⟩];rfl
 ·intro i x hi hn;refine if_neg fun⟨c1,c2⟩=>hn ?_;have:=xT hs hi;rw[c1,c2]at this;omega
theorem Dy{z:aP}{q:aM}(V:ey z)(h4:(bU z q).kind=4):∃ s m,(bU z q).ab=s::m/\s∈z.ab/\s.set.name=(bU z q).cut/\s.set.type=2/\ec (bU z q).cut (bU z q).ab=fj (bU z q).cut s.set.data:=by
 obtain⟨-,c,h1,h2⟩:=IA h4;rw[h2];simp only;obtain⟨-,g2⟩:=Dl V h1;obtain⟨s,r',m,e1,rfl,e2,h3,h5,h6⟩:=PW (r:=ep z.ab c::lM z.ab c) g2;have e:=qk h5;have n1:s.set.name=c:=(congrArg aM.name e).symm;have n2:s.set.type=2:=(congrArg aM.type e).symm;refine⟨s,_,e2,h3,n1,n2,?_⟩;rw[ia,e2,ec,IB (k:=0) rfl]
 ·rw[if_pos ⟨n1,n2⟩];rfl
 ·intro i x hi hn;refine if_neg fun⟨c1,c2⟩=>?_;obtain⟨i,rfl⟩:∃ j,i=j+1:=⟨i-1,by omega⟩;have hm:x∈bM z.ab r':=List.mem_of_getElem? (by simpa using hi);obtain⟨p,hp,hx⟩:=get_mem.1 hm;have PX:=xT V.sorted hx;rw[c1,c2]at PX;have fG:=Zu (ps:=aq z.ab ⟨c,2⟩::ep z.ab c::lM z.ab c);have cB:=(Hz.1 (show p∈b8 (aq z.ab ⟨c,2⟩::ep z.ab c::lM z.ab c) by rw[e1];exact List.mem_cons_of_mem _ hp)).1;rw[e1,List.nodup_cons]at fG;apply fG.1;rw[PX,Int.toNat_of_nonneg cB];exact hp
theorem PY{s:eD}(h:fa s=true)(ht:s.type=2\/s.type=3):∀ d∈s.data,Nm.valid d.text=true:=fun d hd=>by
 simp only[fa,Bool.and_eq_true]at h;have:=CF h.2 d hd;rcases ht with ht|ht;all_goals
  rw[ht]at this;simp only[jB,Bool.and_eq_true]at this;have:=this.2;simp[mj,fO]at this;exact this.1
def univ(l:List aR):List Text:=l.flatMap fun p=>p.aE.ab.flatMap fun s=>s.set.data.map (·.text)
theorem PZ{l:List aR}{t:Text}:t∈univ l↔∃ p∈l,∃ s∈p.aE.ab,∃ d∈s.set.data,d.text=t:=by simp[univ,List.mem_flatMap]
theorem ID{z:aP}{q:aM}(V:ey z)(h:(bU z q).kind=3):∃ s m d D,(bU z q).ab=s::m/\s∈z.ab/\s.set.type=3/\s.set.data=d::D/\Iw (bU z q)=d.text/\Nm.valid d.text=true:=by
 obtain⟨s,m,h1,h2,h3⟩:=Zt h;have aN:=V.ab s h2;have hlen:=(rD aN).2.2.1;obtain⟨d,D,hd⟩:∃ d D,s.set.data=d::D:=by
  cases e:s.set.data with
  |nil=>rw[e]at hlen;simp at hlen
  |cons d D=>exact⟨d,D,rfl⟩
 refine⟨s,m,d,D,h1,h2,h3,hd,?_,PY aN (.inr h3) d (by rw[hd];simp)⟩;rw[Iw,h1];simp only;rw[hd]
theorem Dz{l:List aR}(H:eG l){s:Text}:∀ {n:Nat} {ad:Text} {x:bR},x∈(dL l s n ad).2->x.other∈univ l/\Nm.valid x.other=true
 |0,ad,x,h=>by simp[dL]at h
 |n+1,ad,x,h=>by
  rw[dL]at h;cases e:gd l ad with
  |none=>rw[e]at h;simp at h
  |some Y =>
   rw[e]at h;simp only at h;obtain⟨-,p,hp,rfl⟩:=Dx e;have V:=lN (H p hp);have sv:∀ {a:Text} {L:List Signed},(∀ y∈L,y∈p.aE.ab)->x∈ec a L->x.other∈univ l/\Nm.valid x.other=true:=fun hL hx=>by
    obtain⟨-,y,hy,-,ht,d,hd,ev⟩:=Dw.1 hx;exact⟨PZ.2 ⟨p,hp,y,hL y hy,d,hd,ev⟩,by rw[<- ev];exact PY (V.ab y (hL y hy)) (.inl ht) d hd⟩
   split at h
   ·rename_i h4;simp only[List.mem_append]at h;rcases h with h|h|h
    ·exact sv (fun y hy=>hy) h
    ·exact sv (fun y hy=>PV hy) h
    ·exact Dz H h
   ·rcases List.mem_append.1 h with h|h
    ·exact sv (fun y hy=>hy) h
    ·unfold qx at h;split at h
     ·rename_i h3;simp at h;subst h;obtain⟨y,m,d,D,g1,g2,g3,g4,g5,g6⟩:=ID V h3;simp only;rw[g5];exact⟨PZ.2 ⟨p,hp,y,g2,d,by rw[g4];simp,rfl⟩,g6⟩
     ·simp at h
theorem DA{l:List aR}(H:eG l){s:Text}:∀ {n:Nat} {ad:Text},Nm.valid ad=true->∀ z∈(dL l s n ad).1,Nm.valid z=true
 |0,ad,ha,z,h=>by simp[dL]at h;subst h;exact ha
 |n+1,ad,ha,z,h=>by
  rw[dL]at h;cases e:gd l ad with
  |none=>rw[e]at h;simp at h;subst h;exact ha
  |some Y =>
   rw[e]at h;simp only at h;split at h
   ·rename_i h4;rcases List.mem_cons.1 h with h|h
    ·subst h;exact ha
    ·exact DA H (PS (lN (H.at_ e).1) h4).2.2 z h
   ·simp at h;subst h;exact ha
theorem DB{l:List aR}(H:eG l)(s:Text):AP (ic l) (s::univ l):=fun n _ x hx=>List.mem_cons_of_mem _ (Dz H (Iy.1 hx)).1
def tF(l:List aR):Nat:=(univ l).length+2
def eH(l:List aR)(s:Text):List bu:=ph (ic l) (tF l) [] [⟨s,[],-1,⟨[],0⟩,[]⟩]
theorem vQ{l:List aR}(H:eG l)(s:Text):fS (ic l) s (eH l s) []:=PH (U:=s::univ l) (List.mem_cons_self ..) (DB H s) _ _ _ fS.init (by simp[tF])
theorem AT{l:List aR}(H:eG l)(s:Text):(eH l s).length<=(univ l).length+1:=by
 have:=Is (U:=s::univ l) (List.mem_cons_self ..) (DB H s) (vQ H s)
 simpa using this
def lR(a b:Text):Bool:=decide (bq a b<0)
def eA(l:List aR)(s:Text):List Text:=fJ (lt:=lR) [] (fg (eH l s))
theorem DD(a b c:Text)(h:lR a b=true)(k:lR b c=true):lR a c=true:=by
 simp only[lR,decide_eq_true_eq]at *;exact o7 h k
theorem P0(a b:Text)(aH:a≠b)(h:lR a b=false):lR b a=true:=by
 simp only[lR,decide_eq_true_eq,decide_eq_false_iff_not]at *;rcases AS aH with h1|h1
 ·exact absurd h1 h
 ·exact h1
theorem P1(a:Text):lR a a=false:=by simp[lR,jE]
theorem vR{l:List aR}{s z:Text}:z∈eA l s↔z∈fg (eH l s):=by
 rw[eA,Dr];simp
theorem Zv{l:List aR}{s:Text}:(eA l s).Pairwise fun a b=>lR a b=true:=Ds DD P0 List.Pairwise.nil
theorem Zw{l:List aR}{s:Text}(H:eG l):s∈(eH l s).map bu.name:=by simpa using(vQ H s).start
theorem DE{l:List aR}{s:Text}(H:eG l):[46]∈eA l s:=vR.2 ((vQ H s).PJ.2 ⟨s,Zw H,Iz⟩)
theorem Zx{l:List aR}{s:Text}(H:eG l):∀ z∈eA l s,Nm.valid z=true:=fun z hz=>by
 obtain⟨n,-,h⟩:=(vQ H s).PJ.1 (vR.1 hz);exact DA H (by decide) z h
end Go.Proofs.YtcmnpelmmekdkaaGreatDoor.P
end
section
namespace Go.Proofs.YtcmnpelmmekdkaaGreatDoor.P
open Go Go.aA
set_option maxRecDepth 100000
set_option maxHeartbeats 4000000
theorem IM{l:List aR}{ad:Text}{n:Nat} : -1<=ez l ad n/\ez l ad n<n:=by
 rcases x7 (l:=l) (ad:=ad) n with⟨h,-⟩|⟨k,q,h,h2⟩
 ·omega
 ·have:=h2.lt;omega
theorem Qb(l:List aR)(ad:Text)(H:eG l)(hl:l.length<=1000000):au E 21 [.sl (l.map aR.enc),.str ad] (· = .int .i64 (mB l ad)):=by
 refine eP F21 ?_;refine aa.loop (κ:=Nat) (rg 5 55) (fun k=>[(6,.d (.int .i64 k)),(5,.d (.int .i64 (ez l ad k)))]) (fun _=>[]) (fun k=>k<=l.length) (fun k=>l.length-k) 0 (Nat.zero_le _) ?_ ?_
 ·(conv=>whnf);repeat (first|exact trivial|(refine sI ?_;conv=>whnf))
  refine And.intro rfl ?_;exact sZ
 intro k hk IH;have hb:=IM (l:=l) (ad:=ad) (n:=k);have bw:ez l ad (k+1)=xZ l ad (ez l ad k) k:=rfl;have gp:=x7 (l:=l) (ad:=ad) k;generalize zb:ez l ad k=b at hb bw gp ⊢;refine aa.head ag F21 2000 ?_;(conv=>whnf);refine ar (fun h5=>?_) (fun h5=>?_)
 ·have ai:k<l.length:=by simpa using h5
  obtain⟨p,hp⟩:=bd ai;have hz:=H p (List.mem_of_getElem? hp);rw[xZ,hp]at bw;simp only at bw;refine gO F21 ?_;refine aC (e:=p.enc) (aS hp) rfl ?_;refine gO F21 ?_;by_cases ha:p.aE.ad=ad
  ·rw[if_pos ha]at bw;refine aO (by simpa using ha) ?_;refine gO F21 ?_;by_cases h0:b<0
   ·rw[if_pos h0]at bw;refine aI (decide_eq_true h0) ?_;refine gO F21 ?_;refine aa.back (IH (k+1) (by omega) (by omega)) ?_;rw[bw];exact sZ
   ·rw[if_neg h0]at bw;obtain⟨m,rfl⟩:∃ m:Nat,b=m:=⟨b.toNat,by omega⟩;obtain⟨q,hq⟩:=bd (l:=l) (k:=m) (by omega);have ZT:=H q (List.mem_of_getElem? hq);rw[Int.toNat_natCast,hq]at bw;simp only at bw;refine aO (decide_eq_false h0) ?_;refine gO F21 ?_;refine aC (e:=p.enc) (aS hp) rfl ?_;refine gO F21 ?_;refine aj (OQ p.aE hz) ?_;refine gO F21 ?_;refine aC (e:=q.enc) (aS hq) rfl ?_;refine gO F21 ?_;refine aj (OQ q.aE ZT) ?_;refine gO F21 ?_;by_cases h1:iV p.aE>iV q.aE
    ·have hf:fh p q=true:=by simp[fh];omega
     rw[hf,if_pos rfl]at bw;refine aa.draw ag bN 20 2000 (by kernel_rfl) ?_;(conv=>whnf);refine aI (decide_eq_true h1) ?_;refine gD ?_;refine gS ?_;refine gO F21 ?_;refine bp ?_;refine gO F21 ?_;refine aa.back (IH (k+1) (by omega) (by omega)) ?_;rw[bw];exact sZ
    ·refine aa.draw ag bN 20 2000 (by kernel_rfl) ?_;(conv=>whnf);refine aO (decide_eq_false h1) ?_;refine gD ?_;by_cases h2:iV p.aE=iV q.aE
     ·refine aI (by simpa using h2) ?_;refine gD ?_;refine aC (e:=p.enc) (aS hp) rfl ?_;refine gD ?_;refine aC (e:=q.enc) (aS hq) rfl ?_;refine gD ?_;refine gS ?_;refine gO F21 ?_;by_cases h3:p.host<q.host
      ·have hf:fh p q=true:=by simp[fh];omega
       rw[hf,if_pos rfl]at bw;refine aI (decide_eq_true h3) ?_;refine gO F21 ?_;refine aa.back (IH (k+1) (by omega) (by omega)) ?_;rw[bw];exact sZ
      ·have hf:fh p q=false:=by simp[fh];omega
       rw[hf,if_neg (by decide)]at bw;refine aO (decide_eq_false h3) ?_;refine gO F21 ?_;refine aa.back (IH (k+1) (by omega) (by omega)) ?_;rw[bw];exact sZ
     ·have hf:fh p q=false:=by simp[fh];omega
      rw[hf,if_neg (by decide)]at bw;refine aO (by simpa using h2) ?_;refine gD ?_;refine gS ?_;refine gO F21 ?_;refine aY ?_;refine gO F21 ?_;refine aa.back (IH (k+1) (by omega) (by omega)) ?_;rw[bw];exact sZ
  ·rw[if_neg ha]at bw;refine aI (by simpa using ha) ?_;refine gO F21 ?_;refine aa.back (IH (k+1) (by omega) (by omega)) ?_;rw[bw];exact sZ
 ·have aG:l.length<=k:=by simpa using h5
  obtain rfl:k=l.length:=by omega
  refine gO F21 ?_;rw[<- zb];rfl
end Go.Proofs.YtcmnpelmmekdkaaGreatDoor.P
end
section
namespace Go.aA
open Go Go.RowKit
section
variable {E:Env} {ops:Array Oper} {F:List Nat} {P:List af->Prop}
def I9(ops:Array Oper)(F:List Nat):Bool :=
 Nat.blt 0 ops.size && !bV (ops.size-1) F&&(List.range (ops.size-1)).all fun i=>((bits ops.toList []).getD (ops.size-1) 0).testBit i
theorem I'(h:I9 ops F=true):0<ops.size/\bV (ops.size-1) F=false/\∀ i,i<ops.size-1->kH ops i (ops.size-1):=by
 simp only[I9,Bool.and_eq_true,Bool.not_eq_true']at h;obtain⟨⟨h1,h2⟩,h3⟩:=h;exact⟨sy h1,h2,fun i hi=>zD ops ops.toList [] rfl (fun j i h=>by simp at h) _ i (List.all_eq_true.1 h3 i (List.mem_range.2 hi))⟩
def cE(E:Env)(ops:Array Oper)(F:List Nat)(P:List af->Prop)(K:List AV->List af->Prop):Nat->List Oper->List AV->List af->Prop
 |_,[],s,h=>K s h
 |j,o::l,s,h=>match bV j F with
  |true=>∃ v,(∀ h',P h'->dz E ops o s h' v)/\cE E ops F P K (j+1) l (bL s o.dst v) h
  |false=>∃ v h',dm E ops o s h v h'/\(l=[]\/P h')/\cE E ops F P K (j+1) l (bL s o.dst v) h'
structure LP(E:Env)(ops:Array Oper)(F:List Nat)(P:List af->Prop)(i0:Nat)(s:List AV)(pl:List (Oper × AV))(hp:Nat->List af):Prop where
 mf:∀ j o v,bV (i0+j) F=true->pl[j]?=some (o,v)->(∀ h',P h'->dz E ops o (cur pl (fun k=>decide (k<j)) 0 s) h' v)/\hp (j+1)=hp j
 tr:∀ j o v,bV (i0+j) F=false->pl[j]?=some (o,v)->dm E ops o (cur pl (fun k=>decide (k<j)) 0 s) (hp j) v (hp (j+1))
 hid:∀ j,j<pl.length->P (hp j)
theorem cE.lay{K:List AV->List af->Prop}:∀ {l:List Oper} {i0:Nat} {s:List AV} {h:List af},(l=[]\/P h)->cE E ops F P K i0 l s h ->
  ∃ (pl:List (Oper × AV)) (hp:Nat->List af),pl.map (·.1)=l/\hp 0=h/\K (cur pl (fun k=>decide (k<pl.length)) 0 s) (hp pl.length)/\LP E ops F P i0 s pl hp
 |[],i0,s,h,hX,H=>⟨[],fun _=>h,rfl,rfl,H,⟨fun j o v _ hj=>by simp at hj,fun j o v _ hj=>by simp at hj,fun j hj=>by simp at hj⟩⟩
 |o::l,i0,s,h,hX,H=>by
  simp only[cE]at H;have shift:∀ (pl:List (Oper × AV)) (n:Nat) (s:List AV),cur pl (fun k=>decide (k<n+1)) (0+1) s=cur pl (fun k=>decide (k<n)) 0 s:=fun pl n s=>by
   rw[xe 1]
   congr 1
   funext k;simp
  have build:∀ (v:AV) (h':List af),(l=[]\/P h')->cE E ops F P K (i0+1) l (bL s o.dst v) h'->(bV i0 F=true->(∀ h',P h'->dz E ops o s h' v)/\h'=h)->(bV i0 F=false->dm E ops o s h v h') ->
    ∃ (pl:List (Oper × AV)) (hp:Nat->List af),pl.map (·.1)=o::l/\hp 0=h/\K (cur pl (fun k=>decide (k<pl.length)) 0 s) (hp pl.length)/\LP E ops F P i0 s pl hp:=by
   intro v h' Aq H' f1 f2;obtain⟨pl,hp,k1,k2,k3,k4⟩:=cE.lay Aq H';refine⟨(o,v)::pl,fun n=>match n with|0=>h|n+1=>hp n,by simp[k1],rfl,?_,⟨fun j o' v' hm hj=>?_,fun j o' v' hm hj=>?_,fun j hj=>?_⟩⟩
   ·rw[cur];simp only[List.length_cons,Nat.zero_lt_succ,decide_true,if_true];rw[shift];exact k3
   ·cases j with
    |zero =>
     simp at hj;obtain⟨rfl,rfl⟩:=hj;rw[jY _ _ _ _ (fun k _=>decide_eq_false (by omega))];obtain⟨g1,g2⟩:=f1 hm;exact⟨g1,k2.trans g2⟩
    |succ j =>
     have:=k4.mf j o' v' (by rwa [show i0+1+j=i0+(j+1) by omega]) (by simpa using hj);rw[cur];simp only[Nat.zero_lt_succ,decide_true,if_true];rw[shift];exact this
   ·cases j with
    |zero =>
     simp at hj;obtain⟨rfl,rfl⟩:=hj;rw[jY _ _ _ _ (fun k _=>decide_eq_false (by omega))];simp only[k2];exact f2 hm
    |succ j =>
     have:=k4.tr j o' v' (by rwa [show i0+1+j=i0+(j+1) by omega]) (by simpa using hj);rw[cur];simp only[Nat.zero_lt_succ,decide_true,if_true];rw[shift];exact this
   ·cases j with
    |zero=>exact hX.resolve_left (by simp)
    |succ j=>exact k4.hid j (by simpa using hj)
  split at H
  ·rename_i q;obtain⟨v,h1,h2⟩:=H;exact build v h (.inr (hX.resolve_left (by simp))) h2 (fun _=>⟨h1,rfl⟩) (fun e=>by rw[q]at e;cases e)
  ·rename_i q;obtain⟨v,h',h1,h2,h3⟩:=H;exact build v h' h2 h3 (fun e=>by rw[q]at e;cases e) (fun _=>h1)
theorem aaL{J0:Nat}(hc:xM ops F J0)(gX:0<ops.size)(Ja:bV (ops.size-1) F=false)(aaM:∀ i,i<ops.size-1->kH ops i (ops.size-1)){s0:List AV}{pl:List (Oper × AV)}{hp:Nat->List af}(jq:pl.map (·.1)=ops.toList)(hx  : LP E ops F P 0 s0 pl hp)
  {Q:Exit->Act->World->Prop} {Kf:List AV->List af->Prop} {c0:Cx} (fM:Kf (cur pl (fun k=>decide (k<pl.length)) 0 s0) (hp ops.size))
  (hQ:∀ (a:Act) (c:Cx) (s:List AV) (h:List af),Kf s h->aD E.G c->c.heap=h->a.defers=[]->VS c s a.tmps->Step c0 c->Q .normal a c.w) :
  ∀ (f:Nat) (listed:Array Bool) (a:Act) (c:Cx) (J:Nat),J0<=J->J<=ops.size->aD E.G c->c.heap=hp J->a.defers=[]->VS c (cur pl (aT listed) 0 s0) a.tmps->Step c0 c->DC ops listed ->
   (∀ i,i<ops.size->i<J->bV i F=false->aT listed i=true)->(∀ i,J<=i->bV i F=false->aT listed i=false)->(∀ i,ops.size<=i->aT listed i=false)->eh (aT listed) ops.size<=f->wpAny E.P .any ops Q f listed a c.w:=by
 obtain⟨hlen,dF⟩:=rn jq;have same:∀ d J,J+d<=ops.size->(∀ i,J<=i->i<J+d->bV i F=true)->hp (J+d)=hp J:=by
  intro d
  induction d with
  |zero=>intro J _ _;rfl
  |succ d ih =>
   intro J hJ hm;have h1:=ih J (by omega) (fun i h1 h2=>hm i h1 (by omega));have ai:J+d<pl.length:=by omega
   have h2:=(hx.mf (J+d) (pl[J+d]).1 (pl[J+d]).2 (by rw[Nat.zero_add];exact hm (J+d) (by omega) (by omega)) (by simp[ai])).2;rw[show J+(d+1)=J+d+1 by omega,h2,h1]
 have pd:∀ i,bV i F=true\/bV i F=false:=fun i=>by cases bV i F<;>simp
 have done:∀ (listed:Array Bool) (a:Act) (c:Cx) (J:Nat),J<=ops.size->aD E.G c->c.heap=hp J->a.defers=[]->VS c (cur pl (aT listed) 0 s0) a.tmps->Step c0 c->(∀ i,J<=i->bV i F=false->aT listed i=false)->(∀ i,ops.size<=i->aT listed i=false)->(∀ i,i<ops.size->aT listed i=true)->Q .normal a c.w:=by
  intro listed a c J hJ h1 h2 h3 h4 h5 hn ho aW
  have hs:hp (J+(ops.size-J))=hp J:=same (ops.size-J) J (by omega) (fun i g1 g2=>by
   rcases pd i with h|h
   ·exact h
   ·have:=hn i g1 h;rw[aW i (by omega)]at this;cases this)
  rw[show J+(ops.size-J)=ops.size by omega]at hs;have e:cur pl (aT listed) 0 s0=cur pl (fun k=>decide (k<pl.length)) 0 s0:=by
   congr 1
   funext i;rcases Nat.lt_or_ge i ops.size with h|h
   ·rw[aW i h];simp[hlen,h]
   ·rw[ho i h];simp[hlen];omega
  rw[e]at h4;exact hQ a c _ _ fM h1 (h2.trans hs.symm) h3 h4 h5
 intro f
 induction f with
 |zero =>
  intro listed a c J tu hJ h1 h2 h3 h4 h5 hd gW fw ho iR;have aW:∀ i,i<ops.size->aT listed i=true:=fun i hi=>zH iR hi;refine⟨?_,done listed a c J hJ h1 h2 h3 h4 h5 fw ho aW⟩;apply List.eq_nil_iff_forall_not_mem.2;intro i hi;obtain⟨k1,k2⟩:=mX hd hi;rw[aW i k2]at k1;cases k1
 |succ f ih =>
  intro listed a c J tu hJ h1 h2 h3 h4 h5 hd gW fw ho iR;refine⟨fun hr=>?_,fun i hi=>?_⟩
  ·refine done listed a c J hJ h1 h2 h3 h4 h5 fw ho (fun i hi=>?_);cases hl:aT listed i with
   |true=>rfl
   |false =>
    obtain⟨k,-,hk⟩:=uZ hc.pO hd hi hl;rw[hr]at hk;cases hk
  obtain⟨dC,dN⟩:=mX hd hi;obtain⟨⟨o,v⟩,dj⟩:∃ p,pl[i]?=some p:=⟨pl[i]'(by omega),by rw[List.getElem?_eq_getElem]⟩;have dZ:=dF i o v dj;obtain⟨lG,kJ⟩:=xd hc.pair dF hd hi dj h4;have bS:i<listed.size:=by rw[hd.1];exact dN
  have cQ:=fun q=>sO (i:=q) bS;have mg:eh (aT (listed.setIfInBounds i true)) ops.size<=f:=by
   have:=(va (L:=aT listed) (L':=aT (listed.setIfInBounds i true)) (j:=i) (fun q hq=>by rw[cQ];simp[hq]) dC (by rw[cQ];simp) ops.size).1 dN;omega
  have mZ:∀ u:Value,(a.put o.dst u).defers=[]:=fun u=>by cases iB:o.dst<;>simp[Act.put,h3]
  have cU:∀ q,ops.size<=q->aT (listed.setIfInBounds i true) q=false:=fun q hq=>by rw[cQ,ho q hq];simp;omega
  rcases pd i with hm|hm
  ·have adB:J<ops.size:=by
    rcases Nat.lt_or_ge J ops.size with h|h
    ·exact h
    ·have h6:=gW (ops.size-1) (by omega) (by omega) Ja;have aH:i≠ops.size-1:=fun e=>by subst e;rw[hm]at Ja;cases Ja
     have h7:=hd.dep (aaM i (by omega)) h6;rw[dC]at h7;cases h7
   have rl:=(hx.mf i o v (by rw[Nat.zero_add];exact hm) dj).1 (hp J) (hx.hid J (by omega));refine rl c a h1 h2 h3 kJ i dZ _ _ (fun c' u k1 k2 k3 k4=>?_);refine ih _ _ c' J tu hJ k1 k2 (mZ u) (lG c' u (fun _ _=>k3.vr) k4) (h5.trans k3) (hd.set hi) (fun q hq oS eF=>by rw[cQ,gW q hq oS eF];simp) (fun q hq eF=>?_) cU mg;rw[cQ,fw q hq eF];have:q≠i:=fun e=>by subst e;rw[hm]at eF;cases eF
   simp[this]
  ·have aG:J<=i:=by
    rcases Nat.lt_or_ge i J with h|h
    ·have:=gW i dN h hm;rw[dC]at this;cases this
    ·exact h
   have tv:∀ q,J<=q->q<i->bV q F=true:=fun q g1 g2=>by
    rcases pd q with h|h
    ·exact h
    ·have ai:q<ops.size:=by omega
     have h6:=hd.ready hi (hc.spine q i ops[q] o (by omega) g2 (by simp[ai]) dZ h hm);rw[fw q g1 h]at h6;cases h6
   have hs:hp (J+(i-J))=hp J:=same (i-J) J (by omega) (fun q g1 g2=>tv q g1 (by omega));rw[show J+(i-J)=i by omega]at hs;refine(hx.tr i o v (by rw[Nat.zero_add];exact hm) dj) c a h1 (h2.trans hs.symm) h3 kJ i dZ _ _ (fun c' u k1 k2 k3 k4=>?_);refine ih _ _ c' (i+1) (by omega) (by omega) k1 k2 (mZ u) (lG c' u (fun _ _=>k3.vr) k4) (h5.trans k3) (hd.set hi) (fun q hq oS eF=>?_) (fun q hq eF=>by rw[cQ,fw q (by omega) eF];simp;omega) cU mg;by_cases mh:q=i
   ·subst mh;rw[cQ];simp
   ·rcases Nat.lt_or_ge q J with h|h
    ·rw[cQ,gW q hq h eF];simp
    ·have:=tv q h (by omega);rw[eF]at this;cases this
end
section
variable {E:Env} {ae:FuncId} {R:bZ} {ops:Array Oper} {k:List aK} {F:List Nat} {P:List af->Prop} {lits:List Nat} {s:List AV} {h:List af}
theorem Jb:∀ {l:List Oper} {j:Nat} {s:List AV} {h:List af},cE E ops F P (fun s2 h2=>aa E ae R [] k s2 h2) j l s h->cE E ops F P (fun s2 h2=>AW E R.fx.f0 ⟨⟨ae,R.fx.cG,R.fx.aL⟩,k,s2⟩ R.fx.cls h2 R) j l s h
 |[],_,_,_,H=>aa.to H
 |o::l,j,s,h,H=>by
  unfold cE at H ⊢;split at H
  ·obtain⟨v,h1,h2⟩:=H;exact⟨v,h1,Jb h2⟩
  ·obtain⟨v,h',h1,h2,h3⟩:=H;exact⟨v,h',h1,h2,Jb h3⟩
theorem aa.Q4(hE:E.OK)(hm:E.P.follows .mixedOrders=true)(F:List Nat)(P:List af->Prop){id:Nat}(ka:C' ops F=true)(Jc:I9 ops F=true)(h0:P h)
  (H:cE E ops F P (fun s2 h2=>aa E ae R [] k s2 h2) 0 ops.toList s h) (dJ:R.fx.cG=none:=by rfl) (dH:R.fx.aL=[]:=by rfl):aa E ae R lits (.code (.region id ops true)::k) s h:=by
 obtain⟨pl,hp,p1,p2,p3,p4⟩:=cE.lay (E:=E) (ops:=ops) (F:=F) (.inr h0) (Jb H);obtain⟨hlen,dF⟩:=rn p1;refine .of (AW.zJ hm dJ dH fun c t Q hQ h1 h2 h4=>?_);rw[hlen]at p3;refine aaL (Hh ka) (I' Jc).1 (I' Jc).2.1 (I' Jc).2.2 p1 p4 (Kf:=fun s2 h2=>AW E R.fx.f0 ⟨⟨ae,R.fx.cG,R.fx.aL⟩,k,s2⟩ R.fx.cls h2 R) (by rw[hlen];exact p3) hQ ops.size _ ⟨t,[]⟩ c 0 (Nat.le_refl _) (Nat.zero_le _) h1 (h2.trans p2.symm) rfl ?_ (Step.refl c h1.bE) ⟨by simp,fun j o e _ hl=>by rw[kL]at hl;cases hl⟩ (fun i _ hi=>by omega) (fun i _ _=>kL _ i) (fun i _=>kL _ i) (Cn _ _);rw[jY _ 0 s _ (fun i _=>kL _ _)];exact h4
theorem cE.float{K:List AV->List af->Prop}{j:Nat}{o:Oper}{l:List Oper}(v:AV)(hF:bV j F=true)(hg:o.guard=none)(hf:∀ h',P h'->aQ E o.op (bY (ca ops o) 0 s) h' v h')(H:bK s o.dst v fun s'=>cE E ops F P K (j+1) l s' h):cE E ops F P K j (o::l) s h:=by
 rw[df]at H;unfold cE;rw[hF];exact⟨v,fun h' hp=>dz.of (eC hg) (hf h' hp),H⟩
theorem cE.op{K:List AV->List af->Prop}{j:Nat}{o:Oper}{l:List Oper}(v:AV)(h':List af)(hF:bV j F=false)(hg:o.guard=none)(hf:aQ E o.op (bY (ca ops o) 0 s) h v h')(hP:l=[]\/P h')(H:bK s o.dst v fun s'=>cE E ops F P K (j+1) l s' h'):cE E ops F P K j (o::l) s h:=by
 rw[df]at H;unfold cE;rw[hF];exact⟨v,h',dm.of (eC hg) hf,hP,H⟩
theorem cE.fin{K:List AV->List af->Prop}{j:Nat}(H:K s h):cE E ops F P K j [] s h:=H
end
attribute [irreducible] cE
end Go.aA
end
section
namespace Go.Proofs.YtcmnpelmmekdkaaGreatDoor.P
open Go Go.aA Go.Sort Go.RowKit
theorem gV{α:Type}[Inhabited α]{K:Nat}(enc:α->List Value)(d:Array α)(i k:Nat)(hk:k<K)(x:α)(h:d[i]?=some x):(flatK enc K d)[i*K+k]! = (enc x)[k]! := by
 have hi:i<d.size:=by
  rcases Nat.lt_or_ge i d.size with h'|h'
  ·exact h'
  ·rw[Array.getElem?_eq_none h']at h;cases h
 have hx:d[i]! = x:=by simp[getElem!_pos d i hi];rw[Array.getElem?_eq_getElem hi]at h;exact Option.some.inj h
 have ai:i*K+k<d.size*K:=by
  have:(i+1)*K<=d.size*K:=Nat.mul_le_mul_right K hi;rw[Nat.succ_mul]at this;omega
 rw[get_flatK _ _ _ _ ai,show(i*K+k) / K=i by rw[Nat.mul_comm,Nat.mul_add_div (by omega),Nat.div_eq_of_lt hk];rfl,show(i*K+k) % K=k by rw[Nat.mul_comm,Nat.mul_add_mod,Nat.mod_eq_of_lt hk],hx]
theorem Rk{α:Type}[Inhabited α]{enc:α->List Value}{K:Nat}{w:World}{blk n:Nat}{d:Array α}{os:Array Obj}{vs:Array Value}{ty:TypeId}(hb:w.heap[blk]?=some (.cells vs ty (0,0))) :
  let w':=sortWorldK enc K w blk 0 n d os
  w'.os=w.os/\w'.tape=w.tape/\w'.output=w.output/\w.heap.size<=w'.heap.size/\(∀ b,b<w.heap.size->b≠blk->w'.heap[b]?=w.heap[b]?)/\w'.heap[blk]?=some (.cells (putCells id 0 (flatK enc K d) vs) ty (0,0)):=by
 intro w';have ai:blk<w.heap.size:=by
  rcases Nat.lt_or_ge blk w.heap.size with h|h
  ·exact h
  ·rw[Array.getElem?_eq_none h]at hb;cases hb
 have bS:(putRowK enc K (Sort.ahead w n) blk 0 d).heap.size=w.heap.size:=by simp[putRowK,putRow,mapBlock]
 refine⟨rfl,rfl,rfl,?_,fun b cT aH=>?_,?_⟩
 ·show w.heap.size<=(grow _ os).heap.size;rw[size_grow,bS];omega
 ·show(grow _ os).heap[b]?=_;rw[heap_grow_old _ _ (by rw[bS];exact cT)];simp[putRowK,putRow,mapBlock,Array.getElem?_modify,Ne.symm aH]
 ·show(grow _ os).heap[blk]?=_;rw[heap_grow_old _ _ (by rw[bS];exact ai)];simp[putRowK,putRow,mapBlock,Array.getElem?_modify,hb,onCells]
structure aa3(cmp:DV->DV->Int)(l:List DV):Prop where
 irrefl:∀ x∈l,¬ cmp x x<0
 trans:∀ x∈l,∀ y∈l,∀ z∈l,cmp x y<0->cmp y z<0->cmp x z<0
 ntrans:∀ x∈l,∀ y∈l,∀ z∈l,¬ cmp x y<0->¬ cmp y z<0->¬ cmp x z<0
end Go.Proofs.YtcmnpelmmekdkaaGreatDoor.P
end
section
namespace Go
def Result.world{α:Type}:Result α->World
 | .ok _ w=>w
 | .halt _ w=>w
theorem aa4{p:Program}{w w':World}{a k:Addr}{u:TypeId}{v:Value}{at_:Bool}{l:List Addr}(h:w.viewStore p a u k v at_=.ok (w',l)):w'.drawn=w.drawn:=by
 unfold World.viewStore at h;simp only[bind,Except.bind,pure,Except.pure]at h;repeat' split at h
 all_goals first|(cases h;rfl)|(simp at h;done)|skip
theorem aa5{p:Program}{w w':World}{a:Addr}{v:Value}{at_:Bool}{l:List Addr}(h:w.farStore p a v at_=.ok (w',l)):w'.drawn=w.drawn:=by
 unfold World.farStore at h;split at h
 ·split at h
  ·rename_i hv;cases h;exact aa4 hv
  ·cases h
 ·cases h
theorem aa6{α:Type}:∀ (x:Ask α) (w:World),w.drawn<=(w.ask x).2.drawn:=by
 intro x
 induction x with
 |done a=>intro w;exact Nat.le_refl _
 |ask adD range k ih =>
  intro w;unfold World.ask;dsimp only;split
  ·exact ih _ _
  ·exact Nat.le_trans (Nat.le_succ _) (ih _ { w with drawn:=w.drawn+1 })
theorem Rl(w:World)(c:Sys):w.drawn<=(w.sys c).2.drawn:=by
 unfold World.sys;have:=aa6 (Kernel.perform c w.os) w;split
 ·exact Nat.le_refl _
 ·rename_i h;rw[h]at this;exact this
theorem aa7(w:World)(a:Addr)(n:Nat):(w.freeze a n).drawn=w.drawn:=by unfold World.freeze;split<;>rfl
theorem Sem.DX{α:Type}(p:Program)(x:Sem α):∀ (w:World),w.drawn<=(x.run p w).world.drawn:=by
 induction x with
 |pure a=>intro w;exact Nat.le_refl _
 |halt h=>intro w;exact Nat.le_refl _
 |load m a k ih =>
  intro w;unfold Sem.run;repeat' split
  all_goals first|exact Nat.le_refl _|exact ih _ w
 |store m a v k ih =>
  intro w;cases v;all_goals first
   |exact Nat.le_refl _
   |(unfold Sem.run
     repeat' split
     all_goals first|exact Nat.le_refl _|exact ih (w.setCell a _)|(rename_i h;exact Nat.le_trans (Nat.le_of_eq (aa5 h).symm) (ih _)))
 |new o k ih=>intro w;exact ih _ { w with heap:=w.heap.push o }
 |shape r k ih=>intro w;exact ih _ w
 |freeze a n k ih=>intro w;exact Nat.le_trans (Nat.le_of_eq (aa7 w a n).symm) (ih (w.freeze a n))
 |frozen a k ih=>intro w;exact ih _ w
 |getObj r k ih =>
  intro w;unfold Sem.run;repeat' split
  all_goals first|exact Nat.le_refl _|exact ih _ w
 |setObj r o k ih =>
  intro w;unfold Sem.run;repeat' split
  all_goals first|exact Nat.le_refl _|exact ih { w with heap:=w.heap.setIfInBounds r o }
 |choose q k ih =>
  intro w;unfold Sem.run;split
  ·exact ih _ w
  ·exact Nat.le_trans (Nat.le_succ _) (ih _ { w with drawn:=w.drawn+1 })
 |sys c k ih=>intro w;exact Nat.le_trans (Rl w c) (ih _ _)
 |program k ih=>intro w;exact ih p w
 |mark m k ih=>intro w;exact ih w
theorem Sem.aa8{α:Type}(p:Program)(x:Sem α):∀ (w:World) (es:Array Event),(x.runT p w es).1=x.run p w:=by
 induction x with
 |pure a=>intro w es;rfl
 |halt h=>intro w es;rfl
 |load m a k ih =>
  intro w es;unfold Sem.runT Sem.run;repeat' split
  all_goals first|rfl|exact ih _ _ _|simp_all
 |store m a v k ih =>
  intro w es;cases v;all_goals first
   |rfl
   |(unfold Sem.runT Sem.run
     repeat' split
     all_goals first|rfl|exact ih _ _|simp_all)
 |new o k ih=>intro w es;exact ih _ _ _
 |shape r k ih=>intro w es;exact ih _ _ _
 |freeze a n k ih=>intro w es;exact ih _ _
 |frozen a k ih=>intro w es;exact ih _ _ _
 |getObj r k ih =>
  intro w es;unfold Sem.runT Sem.run;repeat' split
  all_goals first|rfl|exact ih _ _ _|simp_all
 |setObj r o k ih =>
  intro w es;unfold Sem.runT Sem.run;repeat' split
  all_goals first|rfl|exact ih _ _|simp_all
 |choose q k ih =>
  intro w es;unfold Sem.runT Sem.run;split
  ·exact ih _ _ _
  ·exact ih _ _ _
 |sys c k ih=>intro w es;exact ih _ _ _
 |program k ih=>intro w es;exact ih _ _ _
 |mark m k ih=>intro w es;exact ih _ _
theorem Sem.Be{α:Type}(p:Program)(x:Sem α)(w:World)(es:Array Event):w.drawn<=(x.runT p w es).1.world.drawn:=by
 rw[Sem.aa8];exact x.DX p w
def GStep.world:GStep->World
 | .go _ w _=>w
 | .comm _ _ _ _ w _=>w
 | .spawn _ _ w _=>w
 | .count _ w _=>w
 | .timer _ _ w _=>w
 | .alone _ _ w _=>w
 | .newcoro _ _ _ w _=>w
 | .coroswitch _ _ _ w _=>w
 | .collect _ w _=>w
 | .watch _ w _=>w
 | .ended _ w _=>w
theorem GStep.aa9(es:Array Event)(s:GStep):(s.after es).world=s.world:=by cases s<;>rfl
def dc(d:Nat)(s:GStep):Prop:=d<=s.world.drawn
theorem aa'{d:Nat}{c:Prop}[Decidable c]{a b:GStep}(h:dc d a)(k:dc d b):dc d (if c then a else b):=by split<;>assumption
theorem dc.after{d:Nat}{es:Array Event}{s:GStep}(h:dc d s):dc d (s.after es):=by unfold dc;rw[GStep.aa9];exact h
theorem iL{α:Type}{p:Program}{x:Sem α}{w w':World}{a:α}(h:x.run p w=.ok a w'):w.drawn<=w'.drawn:=by have:=x.DX p w;rw[h]at this;exact this
theorem sa{α:Type}{p:Program}{x:Sem α}{w w':World}{a:Halt}(h:x.run p w=.halt a w'):w.drawn<=w'.drawn:=by have:=x.DX p w;rw[h]at this;exact this
theorem DY{α:Type}{p:Program}{x:Sem α}{w w':World}{es er:Array Event}{a:α}(h:x.runT p w es=(.ok a w',er)):w.drawn<=w'.drawn:=by have:=x.Be p w es;rw[h]at this;exact this
theorem DZ{α:Type}{p:Program}{x:Sem α}{w w':World}{es er:Array Event}{a:Halt}(h:x.runT p w es=(.halt a w',er)):w.drawn<=w'.drawn:=by have:=x.Be p w es;rw[h]at this;exact this
theorem mF{α:Type}{p:Program}{x:Sem α}{w w':World}{es:Array Event}{a:α}(h:(x.runT p w es).1=.ok a w'):w.drawn<=w'.drawn:=by have:=x.Be p w es;rw[h]at this;exact this
theorem nz{α:Type}{p:Program}{x:Sem α}{w w':World}{es:Array Event}{a:Halt}(h:(x.runT p w es).1=.halt a w'):w.drawn<=w'.drawn:=by have:=x.Be p w es;rw[h]at this;exact this
theorem Rm{w w':World}{c:Sys}{r:SysRet}(h:w.sys c=(r,w')):w.drawn<=w'.drawn:=by have:=Rl w c;rw[h]at this;exact this
theorem aba(w:World)(fd:Nat)(t:ByteArray)(o:Outcome):dc w.drawn (endWith w fd t o):=by
 unfold endWith;dsimp only;repeat' split
 all_goals
  first
   |exact Nat.le_refl _
   |exact Rm (by assumption)
   |exact iL (by assumption)
   |exact sa (by assumption)
   |exact DY (by assumption)
   |exact DZ (by assumption)
theorem Bf(fr:Frame)(m:String)(w:World):dc w.drawn (endThrow fr m w):=Nat.le_refl _
theorem yi(p:Program)(fr:Frame)(v:Value)(w:World):dc w.drawn (endPrinting p fr v w):=by
 unfold endPrinting;dsimp only;repeat' split
 all_goals
  first
   |exact Nat.le_refl _
   |exact Rm (by assumption)
   |exact iL (by assumption)
   |exact sa (by assumption)
   |exact DY (by assumption)
   |exact DZ (by assumption)
theorem dc.up{d e:Nat}{s:GStep}(h:d<=e)(k:dc e s):dc d s:=Nat.le_trans h k
theorem Jh(p:Program)(fr:Frame)(callers:List Frame)(dying:Option Dying)(m:String)(w:World):dc w.drawn (endFatal p fr callers dying m w):=by
 unfold endFatal;dsimp only;split
 ·exact iL (by assumption)
 ·exact sa (by assumption)
 ·exact sa (by assumption)
theorem abb(p:Program)(fr:Frame)(d:Dying)(f:Fatal)(w:World):dc w.drawn (writeOn p fr d f w):=by
 unfold writeOn;dsimp only;split
 ·exact Nat.le_refl _
 ·split;all_goals first|exact DY (by assumption)|exact DZ (by assumption)
theorem abc(p:Program)(fr:Frame)(d:Dying)(w:World):dc w.drawn (die p fr d w):=by
 unfold die;split
 ·exact abb ..
 ·split
  ·split
   ·exact Nat.le_refl _
   ·exact aba ..
  ·dsimp only;split
   ·exact Nat.le_refl _
   ·split
    ·exact iL (by assumption)
    ·exact sa (by assumption)
   ·apply dc.after;split;all_goals first|exact Nat.le_refl _|exact mF (by assumption)|exact nz (by assumption)|exact dc.up (nz (by assumption)) (yi ..)
   ·exact Nat.le_refl _
theorem D0(p:Program)(main:Bool)(fr:Frame)(callers:List Frame)(dying:Option Dying)(v:Value)(w:World):dc w.drawn (doReturn p main fr callers dying v w):=by
 unfold doReturn;dsimp only;repeat' split
 all_goals exact Nat.le_refl _
theorem abd(p:Program)(fr:Frame)(callers:List Frame)(dying:Option Dying)(d:Deferred)(w:World):dc w.drawn (callDeferred p fr callers dying d w):=by
 unfold callDeferred;dsimp only;refine aa' (Nat.le_refl _) ?_
 ·apply dc.after;repeat' split
  all_goals
  first
   |exact Nat.le_refl _
   |exact mF (by assumption)
   |exact nz (by assumption)
   |exact dc.up (mF (by assumption)) (yi ..)
   |exact dc.up (nz (by assumption)) (yi ..)
   |exact dc.up (nz (by assumption)) (Jh ..)
   |exact dc.up (nz (by assumption)) (Bf ..)
   |exact dc.up (mF (by assumption)) (Bf ..)
   |exact dc.up (mF (by assumption)) (D0 ..)
theorem abe(p:Program)(main:Bool)(fr:Frame)(callers:List Frame)(dying:Option Dying)(w:World):dc w.drawn (unwind p main fr callers dying w):=by
 unfold unwind;dsimp only;split
 ·apply dc.after;split
  ·exact mF (by assumption)
  ·exact nz (by assumption)
 ·exact abd ..
 ·split
  ·exact Nat.le_refl _
  ·repeat' split
   all_goals first|exact Nat.le_refl _|exact iL (by assumption)|exact sa (by assumption)|exact yi ..
  ·split
   ·exact D0 ..
   ·apply dc.after;split;all_goals
    first
     |exact Nat.le_refl _
     |exact mF (by assumption)
     |exact nz (by assumption)
     |exact dc.up (mF (by assumption)) (yi ..)
     |exact dc.up (nz (by assumption)) (yi ..)
     |exact dc.up (nz (by assumption)) (Jh ..)
     |exact dc.up (nz (by assumption)) (Bf ..)
     |exact dc.up (mF (by assumption)) (Bf ..)
     |exact dc.up (mF (by assumption)) (D0 ..)
theorem abf(p:Program)(fr:Frame)(callers:List Frame)(dying:Option Dying)(g:Nat)(w:World):dc w.drawn (early p fr callers dying g w):=by
 unfold early;dsimp only;repeat' split
 all_goals first|exact Nat.le_refl _|exact(iL ‹Sem.run p _ w=.ok _ _› :)|exact iL (by assumption)|exact sa (by assumption)|exact DY (by assumption)|exact DZ (by assumption)
theorem D1(p:Program)(listen:Bool)(fr:Frame)(callers:List Frame)(dying:Option Dying)(s:Sem Next)(w:World):dc w.drawn (stepG.apply p listen fr callers dying s w):=by
 unfold stepG.apply;dsimp only;apply dc.after;obtain⟨r,hr,hw⟩:∃ r,(if listen=true then s.runT p w #[]else(s.run p w,#[])).1=r/\w.drawn<=r.world.drawn:=⟨_,rfl,by split;exact s.Be p w #[];exact s.DX p w⟩;rw[hr];clear hr;repeat' split
 all_goals first|exact hw|exact dc.up hw (Bf ..)|exact dc.up hw (Jh ..)|exact dc.up hw (abf ..)
theorem Rn(p:Program)(listen:Bool)(fr:Frame)(callers:List Frame)(dying:Option Dying)(w:World):dc w.drawn (stepG.oper p listen fr callers dying w):=by
 unfold stepG.oper;repeat' split
 all_goals first|exact Nat.le_refl _|exact D1 ..
theorem Ro{α:Type}{d:Nat}{o:Option α}{a:GStep}{f:α->GStep}(h:dc d a)(k:∀ x,dc d (f x)):dc d (o.elim a f):=by cases o;exact h;exact k _
theorem abg(p:Program)(main listen:Bool)(fr:Frame)(callers:List Frame)(dying:Option Dying)(w:World):dc w.drawn (stepG.exec p main listen fr callers dying w):=by
 unfold stepG.exec;dsimp only;split;all_goals first
  |exact Nat.le_refl _
  |exact D1 ..
  |(split<;>exact Nat.le_refl _)
  |skip
 all_goals (try refine Ro ?_ fun _=>Nat.le_refl _)
 all_goals first
  |exact Ro (Nat.le_refl _) fun _=>D1 ..
  |(split
    all_goals first
    |exact Nat.le_refl _
    |(split<;>exact Nat.le_refl _)
    |(apply dc.after
      split
      all_goals first|exact nz (by assumption)|exact(mF (by assumption) :)|exact dc.up (mF (by assumption)) (D0 ..)))
  |(apply dc.after
    split
    all_goals first|exact nz (by assumption)|exact mF (by assumption)|exact dc.up (mF (by assumption)) (D1 ..))
  |(split
    all_goals first
    |exact Nat.le_refl _
    |exact Rn ..
    |(split<;>first|exact iL (by assumption)|exact sa (by assumption)|exact Rn .. |exact Nat.le_refl _))
theorem abh(p:Program)(main:Bool)(g:Goroutine)(w:World)(listen:Bool):dc w.drawn (stepG p main g w listen):=by
 unfold stepG;dsimp only;split
 ·exact abc ..
 ·exact abg ..
 ·exact abe ..
def kY(d:Nat):Stepped->Prop
 | .next m=>d<=m.world.drawn
 | .ended .. => True
theorem kY.up{d e:Nat}{s:Stepped}(h:d<=e)(k:kY e s):kY d s:=by cases s;exact Nat.le_trans h k;trivial
theorem abi{rest:Rest}{cases:Array CommCase}{w w':World}(h:waitingAt rest cases w=some w'):w.drawn<=w'.drawn:=by
 unfold waitingAt at h;split at h
 ·split at h
  ·cases h;exact Nat.le_refl _
  ·cases h
 ·cases h;exact Nat.le_refl _
theorem Ji{d:Nat}{c:Prop}[Decidable c]{a b:Stepped × Array MemOp}(h:kY d a.1)(k:kY d b.1):kY d (if c then a else b).1:=by split<;>assumption
theorem abj(p:Program)(rest:Rest)(gs:Array Goroutine)(i:Nat)(g:Goroutine)(cases:Array CommCase)(abk:Bool)(shape:CommShape)(w:World):kY w.drawn (communicate p rest gs i g cases abk shape w).1:=by
 unfold communicate;dsimp only;refine Ji trivial (Ji (Ji ?_ (Nat.le_refl _)) ?_)
 ·split
  ·exact abi (by assumption)
  ·trivial
 ·split
  ·trivial
  ·repeat' split
   all_goals first
    |trivial
    |exact(iL ‹Sem.run p _ w=.ok _ _› :)
    |exact Nat.le_trans (iL ‹Sem.run p _ w=.ok _ _› :) (iL (by assumption) :)
    |(rename_i h _ _ _ k;exact Nat.le_trans (iL h :) (sa k :))
theorem abl(p:Program)(m:Machine)(k:Nat):kY m.world.drawn (serve p m k):=by
 unfold serve;split
 ·trivial
 ·exact Nat.le_refl _
 ·dsimp only;split
  ·trivial
  ·exact Nat.le_refl _
theorem abm(w:World)(c:Nat):(drain w c).2.drawn=w.drawn:=by unfold drain;split<;>rfl
theorem Rp(m:Machine)(k:Nat)(t:Timer)(a b:Nat):(retime m k t a b).2.world.drawn=m.world.drawn:=by
 unfold retime;split;rename_i h;split at h
 ·rename_i c _;have:=abm m.world c;rw[h]at this;exact this
 ·cases h;rfl
theorem Rq{m m':Machine}{a:Addr}(h:timerOp.opened m a=some m'):m'.world.drawn=m.world.drawn:=by
 unfold timerOp.opened at h;split at h
 ·split at h
  ·cases h;rfl
  ·cases h
 ·cases h;rfl
theorem Rr{m m':Machine}{a:Addr}{f:Nat->Timer->Value × Machine}{v:Value}(h:timerOp.named m a f=.ok (v,m'))(k:∀ x y,(f x y).2.world.drawn=m.world.drawn):m'.world.drawn=m.world.drawn:=by
 unfold timerOp.named at h;split at h
 ·have e:=Except.ok.inj h;have:=congrArg (fun x:Value × Machine=>x.2.world.drawn) e;exact this.symm.trans (k _ _)
 ·cases h
theorem abn{m m':Machine}{o:TimerOp}{v:Value}(h:timerOp m o=.ok (v,m')):m'.world.drawn=m.world.drawn:=by
 unfold timerOp at h;split at h
 ·split at h
  ·cases h;rfl
  ·split at h
   ·split at h
    ·cases h
    ·cases h;rfl
   ·cases h
 ·exact Rr h fun _ _=>Rp ..
 ·split at h
  ·rename_i e;exact(Rr h fun _ _=>(Rp ..).trans (by first|rfl|exact Rq e|exact(Rq e).symm))
  ·cases h
 ·cases h;rfl
theorem Jj(p:Program)(gs:Array Goroutine)(rest:Rest)(w:World):kY w.drawn (look p gs rest w):=by
 unfold look;split
 ·dsimp only;split
  ·trivial
  ·split
   ·trivial
   ·split
    ·exact(iL ‹Sem.run p _ w=.ok _ _› :)
    ·trivial
    ·trivial
 ·trivial
theorem Rs{fr:Frame}{m:String}{w w':World}{g:Goroutine}{es:Array Event}(h:endThrow fr m w=.go g w' es):w'.drawn=w.drawn:=by
 unfold endThrow dieOf at h;cases h;rfl
theorem abo(p:Program)(m:Machine)(i:Nat)(l:Bool):kY m.world.drawn (runT p m i l).1:=by
 unfold runT;dsimp only;generalize m.gs.swapAt! i _=sw;have hs:=abh p (i==0) sw.1 m.world l;split;all_goals (rename_i heq;rw[heq]at hs)
 ·trivial
 ·exact kY.up hs (abj ..)
 ·exact hs
 ·exact hs
 ·dsimp only;split
  ·trivial
  ·exact hs
 ·exact hs
 ·exact kY.up hs (Jj ..)
 ·exact hs
 ·exact hs
 ·dsimp only;split
  ·exact hs
  ·split
   ·exact Nat.le_trans hs (Nat.le_of_eq (Rs (by assumption)).symm)
   ·trivial
  ·trivial
 ·dsimp only;split
  ·rename_i h;exact Nat.le_trans hs (Nat.le_of_eq (abn h).symm)
  ·split
   ·exact Nat.le_trans hs (Nat.le_of_eq (Rs (by assumption)).symm)
   ·trivial
  ·trivial
  ·trivial
def lV(d:Nat):Move->Prop
 | .goroutine m _=>d<=m.world.drawn
 | .machine s _=>kY d s
theorem lV.up{d e:Nat}{s:Move}(h:d<=e)(k:lV e s):lV d s:=by cases s;exact Nat.le_trans h k;exact kY.up h k
theorem Bg{d:Nat}{c:Prop}[Decidable c]{a b:Move}(h:lV d a)(k:lV d b):lV d (if c then a else b):=by split<;>assumption
theorem Jk(p : Program)(m : Machine)(rs : List Nat) : lV m.world.drawn (match (choose (.sched rs.length)).run p m.world with
      | .halt _ w => .machine (.ended (.stuck "sched" "") w)
      | .ok k world =>
        if rs.length <= 1 then .goroutine { m with world } (rs.getD k 0)else
        match (choose (.extern "sched.slice" 65536)).run p world with
        | .halt _ w => .machine (.ended (.stuck "sched.slice" "") w)
        | .ok n world => .goroutine { m with world, rest := { m.rest with slice := if n=0 then none else some (rs.getD k 0, n) } } (rs.getD k 0)) := by
 split
 ·trivial
 ·have e:=iL (by assumption);refine Bg e ?_;split
  ·trivial
  ·exact Nat.le_trans e (iL (by assumption))
theorem Jl(p:Program)(m:Machine):lV m.world.drawn (askOn p m):=by
 unfold askOn;dsimp only;split
 ·trivial
 ·have e:=iL (by assumption);refine Bg (kY.up e (abl ..)) ?_;split
  ·split
   ·exact e
   ·refine Bg e ?_;split<;>trivial
  ·split
   ·exact lV.up e (Jk p { m with world:=_ } _)
   ·split
    ·trivial
    ·exact lV.up (Nat.le_trans e (iL (by assumption))) (Jk p { m with world:=_ } _)
    ·rename_i h;exact Nat.le_trans e (iL h :)
    ·rename_i h;exact lV.up (Nat.le_trans e (iL h :)) (Jk p (Machine.advanceTo { m with world:=_ } _) _)
theorem Rt(p:Program)(m:Machine):lV m.world.drawn (ask p m):=by
 unfold ask;split
 ·split
  ·trivial
  ·have e:=iL (by assumption);split
   ·rename_i w1 _ _ _ h;have l:=Jj p m.gs m.rest w1;rw[h]at l;exact lV.up (Nat.le_trans e l) (Jl ..)
   ·exact kY.up e (Jj ..)
  ·exact lV.up (iL (by assumption)) (Jl p { m with world:=_ })
 ·exact Jl ..
theorem abp(p:Program)(m:Machine):lV m.world.drawn (move p m):=by
 unfold move;split
 ·exact Bg (Nat.le_refl _) trivial
 ·split
  ·exact Bg (Nat.le_refl _) (Rt p { m with rest:=_ })
  ·exact Rt ..
theorem abq{p:Program}{m m':Machine}(h:step p m=.next m'):m.world.drawn<=m'.world.drawn:=by
 have k:=abp p m;unfold step stepT at h;split at h
 ·rename_i m1 i e;rw[e]at k;have r:=abo p m1 i true;rw[h]at r;exact Nat.le_trans k r
 ·rename_i e;rw[e]at k;dsimp only at h;rw[h]at k;exact k
theorem Ru{p:Program}:∀ {n:Nat} {m m':Machine},runN p n m=.next m'->m.world.drawn<=m'.world.drawn
 |0,m,m',h=>by cases h;exact Nat.le_refl _
 |n+1,m,m',h=>by
  unfold runN at h;split at h
  ·exact Nat.le_trans (abq (by assumption)) (Ru h)
  ·rename_i k;exact absurd h (k _)
theorem Steps.drawn{p:Program}{m m':Machine}(h:Steps p m m'):m.world.drawn<=m'.world.drawn:=h.elim fun _=>Ru
theorem Calls.drawn{P:Program}{f:FuncId}{args:Array Value}{w:World}{R:Ending->World->Prop}(h:Calls P f args w R)(hr:∀ e w',R e w'->∃ v,e=.returned v):Calls P f args w fun e w'=>R e w'/\w.drawn<=w'.drawn:=by
 intro cs;obtain⟨e,w',fr,r,c,k⟩:=h cs;obtain⟨v,rfl⟩:=hr e w' r;exact⟨_,w',fr,⟨r,Steps.drawn (m:=lone _ cs w) (m':=lone fr cs w') c⟩,c,k⟩
end Go
end
section
namespace Go.Proofs.YtcmnpelmmekdkaaGreatDoor.P
open Go Go.aA Go.Sort Go.RowKit
theorem grown_of{w w':World}(hx:Ext w w')(hd:w.drawn<=w'.drawn):∃ q vZ,w'=grow (w.drewN q) vZ:=by
 refine⟨w'.drawn-w.drawn,w'.heap.extract w.heap.size w'.heap.size,?_⟩;obtain⟨h1,h2,h3,h4,h5⟩:=hx;cases w with|mk a b c d e=>cases w' with|mk a' b' c' d' e' =>
 simp only at h1 h2 h3 h4 h5 hd;subst h1;subst h2;subst h3;simp only[grow,World.drewN,World.mk.injEq,true_and,and_true];refine⟨?_,by omega⟩;apply Array.ext_getElem?;intro k;rw[Array.getElem?_append];split
 ·rename_i hk;exact h5 k hk
 ·rw[Array.getElem?_extract];split
  ·congr 1;omega
  ·rw[Array.getElem?_eq_none];omega
theorem abr{E:Env}{c:Cx}{W:World}{g:FuncId}{xs:List DV}{r0:DV}{v0:Value}{vs:List Value}(xA:aD E.G c)(bS:c.w.heap.size<=W.heap.size)(oE:∀ b,b<c.w.heap.size->¬ c.bad b->W.heap[b]?=c.w.heap[b]?)
  (hp:au E g xs (· = r0)) (hv:jT c.bad W xs vs) (hr:∀ w v,VD c.bad w r0 v->v=v0) :
  Calls E.P g vs.toArray W fun e w'=>e=.returned v0/\∃ q vZ,w'=grow (W.drewN q) vZ:=by
 unfold au at hp;have eN:∀ b,c.bad b->b<W.heap.size:=fun b hb=>Nat.lt_of_lt_of_le (hb.elim (xA.bE b) fun⟨j,n,hj⟩=>(xA.bH j b n hj).1) bS;have Ho:∀ b,b<c.w.heap.size->¬ c.bad b->¬ c.bad b/\W.heap[b]?=c.w.heap[b]? := fun b hb hn=>⟨hn,oE b hb hn⟩;have yO:uj E.G c.bad W:=fun g e hg=>by
  have h:=xA.fB g e hg;generalize hq:(Value.pointer (some ⟨g,0,none⟩))=p at h ⊢;cases h with
  |b9 _ _ blk o' fv k1 k2 k3 k4 =>
   have ai:blk<c.w.heap.size:=by
    obtain⟨x,r,hx⟩:=List.exists_cons_of_ne_nil k2;exact World.block_lt_of_cell? _ _ (k3 0 x (by rw[hx];rfl))
   refine .b9 _ _ blk o' fv (fun hb=>k1 (wy.1 hb)) k2 (fun j x hx=>?_) (fun j x hx=>wz ((k4 j x hx).mono Ho));have:=k3 j x hx;simp only[World.cell?]at this ⊢;rw[oE blk ai k1];exact this
 refine(Calls.drawn (hp.2 c.bad W vs eN yO hv) fun e w' ⟨v,r,h,_⟩=>⟨v,h⟩).mono fun e w' ⟨⟨v,r,e1,e2,e3,e4⟩,hd⟩=>?_;subst e2;refine⟨?_,grown_of e4 hd⟩;rw[e1,hr _ _ e3]
def Jm(P:Program)(f g K:Nat)(mk:List Value->Value):Prop:=∀ (n:Nat) (enc:Fin (n+1)->List Value) (cf:Fin (n+1)->Fin (n+1)->Int),(∀ i,(enc i).length=K)->(∀ i,∀ v∈enc i,v.oneCell'=true)->SWO (ltOf cf) ->
 ∀ (blk cap:Nat) (d:Array (Fin (n+1))) (w:World),
 (∀ (m:Nat) (os:Array Obj) (dk:Array (Fin (n+1))),dk.size=d.size->∀ i j,Calls P g #[mk (enc i),mk (enc j)] (sortWorldK enc K w blk 0 m dk os) fun e w'=>e=.returned (.int .i64 (cf i j))/\∃ q vZ,w'=grow ((sortWorldK enc K w blk 0 m dk os).drewN q) vZ) ->
 HoldsK enc K w blk 0 d->blk<w.heap.size->d.size<4611686018427387904 ->
 Calls P f #[.slice (some ⟨blk,0,none⟩) d.size cap,.func (.func g) #[] #[]] w fun e w'=>e=.returned (.tuple #[])/\∃ d' m os,PermIn 0 d.size d d'/\SortedIn (ltOf cf) 0 d.size d'/\w'=sortWorldK enc K w blk 0 m d' os
def Jn(mk:List Value->Value)(x:DV):Prop:=∀ (bad:Nat->Prop) (w:World) (vs:List Value),x.cells.length=vs.length->(∀ (j:Nat) (c:DV) (v:Value),x.cells[j]?=some c->vs[j]?=some v->VD bad w c v)->VD bad w x (mk vs)
def Rv(vs:List Value):Value := .agg vs.toArray
def mkOne(vs:List Value):Value:=vs[0]!
theorem abt(c:List DV):Jn Rv (.agg c):=fun bad w vs h k => .agg c _ (by have h:c.length=vs.length:=h;simpa using h) fun j x v hx hv=>k j x v hx (by simpa using hv)
theorem abu(x:DV)(hx:x.cells=[x]):Jn mkOne x:=fun bad w vs h k=>by
 rw[hx]at h k
 match vs,h with
 |[v],_=>exact k 0 x v rfl rfl
theorem BM{α:Type}[Inhabited α](enc:α->Value)(d:Array α):putCells id 0 (flatK (fun i=>[enc i]) 1 d)=putCells enc 0 d:=by
 funext c;unfold putCells
 congr 1
 funext k x;simp only[Nat.sub_zero,size_flatK,Nat.mul_one,id];split
 ·rename_i h;rw[get_flatK _ _ _ _ (by omega)];simp[Nat.mod_one]
 ·rfl
theorem Rw{α:Type}[Inhabited α](enc:α->Value)(w:World)(blk n:Nat)(d:Array α)(os:Array Obj):sortWorldK (fun i=>[enc i]) 1 w blk 0 n d os=sortWorld enc w blk 0 n d os:=by
 unfold sortWorldK sortWorld putRowK putRow;rw[BM]
theorem holds_one{α:Type}[Inhabited α](enc:α->Value)(w:World)(blk:Nat)(d:Array α)(h:HoldsK (fun i=>[enc i]) 1 w blk 0 d):Holds enc w blk 0 d:=fun j hj=>by
 have:=h j (by rw[size_flatK];omega);rw[get_flatK _ _ _ _ (by omega)]at this
 simpa [Nat.mod_one]using this
def Jo(P:Program)(f g:Nat):Prop:=∀ (n:Nat) (enc:Fin (n+1)->Value) (cf:Fin (n+1)->Fin (n+1)->Int),(∀ i,(enc i).oneCell'=true)->SWO (ltOf cf) ->
 ∀ (blk cap:Nat) (d:Array (Fin (n+1))) (w:World),
 (∀ (m:Nat) (os:Array Obj) (dk:Array (Fin (n+1))),dk.size=d.size->∀ i j,Calls P g #[enc i,enc j] (sortWorld enc w blk 0 m dk os) fun e w'=>e=.returned (.int .i64 (cf i j))/\∃ q vZ,w'=grow ((sortWorld enc w blk 0 m dk os).drewN q) vZ) ->
 Holds enc w blk 0 d->blk<w.heap.size->d.size<4611686018427387904 ->
 Calls P f #[.slice (some ⟨blk,0,none⟩) d.size cap,.func (.func g) #[] #[]] w fun e w'=>e=.returned (.tuple #[])/\∃ d' m os,PermIn 0 d.size d d'/\SortedIn (ltOf cf) 0 d.size d'/\w'=sortWorld enc w blk 0 m d' os
theorem Jo.w{P:Program}{f g:Nat}(h:Jo P f g):Jm P f g 1 mkOne:=fun n enc cf h1 h2 h3 blk cap d w h4 h5 h6 h7=>by
 obtain⟨e1,rfl⟩:∃ e1:Fin (n+1)->Value,enc=fun i=>[e1 i]:=⟨fun i=>(enc i)[0]!,by
  funext i;have:=h1 i;show enc i=[(enc i)[0]!];generalize enc i=e at this ⊢
  match e,this with
  |[v],_=>rfl⟩
 have hc:=h n e1 cf (fun i=>h2 i _ (List.mem_singleton.2 rfl)) h3 blk cap d w (fun m os dk hs i j=>by
  have:=h4 m os dk hs i j;rw[Rw]at this
  exact this) (holds_one _ _ _ _ h5) h6 h7
 refine hc.mono fun e w' ⟨a,d',m,os,b1,b2,b3⟩=>⟨a,d',m,os,b1,b2,?_⟩;rw[Rw];exact b3
theorem Rx{E:Env}{f g:FuncId}{t K:Nat}{mk:List Value->Value}{α:Type}(en:α->DV)(cmp:DV->DV->Int)(hS:Jm E.P f g K mk)(ie:qM E.P f)(l:List α)(hl:l≠[])(hlen:l.length<4611686018427387904)(hK:∀ x∈l,(en x).cells.length=K)(ho:aa3 cmp (l.map en))
  (hA:∀ x∈l,Jn mk (en x)) (hc:∀ x∈l,∀ y∈l,au E g [en x,en y] (· = .int .i64 (cmp (en x) (en y)))) :
  aB E f [.arr 0 (t,K) (l.map en)] [.own 0 0,.fn (.func g) [] []] (fun a b=>a=.aJ []/\∃ l':List α,l'.Perm l/\l'.Pairwise (fun x y=>¬ cmp (en y) (en x)<0)/\b=[.arr 0 (t,K) (l'.map en)]):=by
 unfold aB;refine⟨ie,oO rfl,fun c vs h1 h2 h3=>?_⟩;obtain⟨v1,v2,rfl⟩:∃ v1 v2,vs=[v1,v2]:=by
  have:=h3.1
  match vs,this with
  |[a,b],_=>exact⟨a,b,rfl⟩
 have iP:=h3.2 0 _ v1 rfl rfl;have uX:=h3.2 1 _ v2 rfl rfl;have dT:c.heap[0]?=some (.arr 0 (t,K) (l.map en)):=by rw[h1];rfl
 obtain⟨u1,u2,rfl,e2,e3⟩:=l8 uX;obtain rfl:u1=[]:=List.eq_nil_of_length_eq_zero (by have:=e2.1;simpa using this.symm);obtain rfl:u2=[]:=List.eq_nil_of_length_eq_zero (by have:=e3.1;simpa using this.symm);rcases nK dT iP with⟨blk,cap,r1,rfl⟩|⟨sP,-,-⟩
 case inr=>exact absurd (List.map_eq_nil_iff.1 sP) hl
 obtain⟨q0,q1,q2⟩:=h2.box 0 _ dT;rcases q2 with⟨q2,-⟩|⟨la,jN,cR,q2,q3,q4,q5,q6,q7⟩
 ·rw[r1]at q2;cases q2
 rw[r1]at q2;cases q2;simp only at q3 q4 q7;obtain⟨n,hn⟩:∃ n,l.length=n+1:=⟨l.length-1,by have:=List.length_pos_iff.2 hl;omega⟩
 let at_:Fin (n+1)->α:=fun i=>l[i.1]'(by have:=i.2;omega)
 have dF:∀ i:Fin (n+1),l[i.1]?=some (at_ i):=fun i=>List.getElem?_eq_getElem _;have im:∀ i,at_ i∈l:=fun i=>List.mem_of_getElem? (dF i)
 let enc:Fin (n+1)->List Value:=fun i=>(List.range K).map fun j=>cR[i.1*K+j]!
 have Jp:∀ i,(enc i).length=K:=fun i=>by simp[enc]
 have dP:∀ (i:Fin (n+1)) (j:Nat),j<K->∃ x v,(en (at_ i)).cells[j]?=some x/\cR[i.1*K+j]?=some v/\(enc i)[j]?=some v/\v.oneCell'=true/\VD c.bad c.w x v:=fun i j hj=>by
  obtain⟨x,hx⟩:∃ x,(en (at_ i)).cells[j]?=some x:=⟨(en (at_ i)).cells[j]'(by rw[hK _ (im i)];exact hj),List.getElem?_eq_getElem _⟩;obtain⟨v,a1,a2,a3⟩:=q7 i.1 j (en (at_ i)) x (by rw[List.getElem?_map,dF i];rfl) hx;refine⟨x,v,hx,a1,?_,a2,a3⟩;simp only[enc,List.getElem?_map,List.getElem?_range hj,Option.map_some];rw[getElem!_def,a1]
 let cf:Fin (n+1)->Fin (n+1)->Int:=fun i j=>cmp (en (at_ i)) (en (at_ j))
 have hO:SWO (ltOf cf):={
  irrefl:=fun x=>by simpa [ltOf,cf]using ho.irrefl _ (List.mem_map_of_mem (im x))
  trans:=fun x y z h1 h2=>by
   simp only[ltOf,cf,decide_eq_true_eq]at h1 h2 ⊢;exact ho.trans _ (List.mem_map_of_mem (im x)) _ (List.mem_map_of_mem (im y)) _ (List.mem_map_of_mem (im z)) h1 h2
  ntrans:=fun x y z h1 h2=>by
   simp only[ltOf,cf,decide_eq_false_iff_not]at h1 h2 ⊢
   exact ho.ntrans _ (List.mem_map_of_mem (im x)) _ (List.mem_map_of_mem (im y)) _ (List.mem_map_of_mem (im z)) h1 h2 }
 let d:Array (Fin (n+1)):=(List.finRange (n+1)).toArray
 have gT:d.size=l.length:=by simp[d,hn]
 have hd:∀ i:Fin (n+1),d[i.1]?=some i:=fun i=>by simp[d]
 have Ry:∀ (i:Fin (n+1)) (j:Nat) (v:Value),(enc i)[j]?=some v->(enc i)[j]! = v:=fun i j v h=>by rw[getElem!_def,h]
 have hH:HoldsK enc K c.w blk 0 d:=by
  intro j hj;simp only[size_flatK,gT]at hj;have abv:0<K:=Nat.pos_of_ne_zero fun h=>by subst h;simp at hj
  have hi:j / K<n+1:=by rw[<- hn];exact Nat.div_lt_of_lt_mul (by rw[Nat.mul_comm];exact hj)
  have hm:j % K<K:=Nat.mod_lt _ abv;have ej:j / K*K+j % K=j:=by rw[Nat.mul_comm];exact Nat.div_add_mod j K
  have f1:=gV (K:=K) enc d (j / K) (j % K) hm ⟨j / K,hi⟩ (hd ⟨j / K,hi⟩);obtain⟨x,v,b1,b2,b3,b4,b5⟩:=dP ⟨j / K,hi⟩ (j % K) hm;rw[ej,Ry _ _ _ b3]at f1;simp only[ej]at b2;refine⟨?_,by simp[World.frozen?,q3]⟩;show _=some ((flatK enc K d)[j]!);rw[f1];exact mM q3 _ _ (by simpa using b2)
 have hblk:=(h2.bH 0 blk cap r1).1
 have jd:=hS n enc cf Jp (fun i v hv=>by
  obtain⟨j,hj⟩:=List.getElem?_of_mem hv;have D2:j<K:=by have:=aX hj;rwa [Jp]at this
  obtain⟨x',v',b1,b2,b3,b4,b5⟩:=dP i j D2;rw[b3]at hj;cases hj;exact b4) hO blk cap d c.w (fun m os dk hs i j=>by
   obtain⟨a1,a2,a3,a4,a5,a6⟩:=Rk (enc:=enc) (K:=K) (n:=m) (d:=dk) (os:=os) q3;generalize sortWorldK enc K c.w blk 0 m dk os=W at a1 a2 a3 a4 a5 a6 ⊢;have oE:∀ b,b<c.w.heap.size->¬ c.bad b->W.heap[b]?=c.w.heap[b]? := fun b hb hn=>a5 b hb (fun e=>hn (e ▸ .inr ⟨0,cap,r1⟩))
   have fV:∀ i,VD c.bad W (en (at_ i)) (mk (enc i)):=fun i=>hA _ (im i) c.bad W (enc i) (by rw[hK _ (im i),Jp]) (fun j x v hx hv=>by
    have hj:j<K:=by have:=aX hx;rwa [hK _ (im i)]at this
    obtain⟨x',v',b1,b2,b3,b4,b5⟩:=dP i j hj;rw[b1]at hx;cases hx;rw[b3]at hv;cases hv
    exact b5.mono fun b hb hn=>⟨hn,oE b hb hn⟩)
   exact abr (vs:=[mk (enc i),mk (enc j)]) h2 a4 oE (hc _ (im i) _ (im j)) ⟨rfl,fun k x v hx hv=>by
    match k,hx,hv with
    |0,hx,hv=>cases hx;cases hv;exact fV i
    |1,hx,hv=>cases hx;cases hv;exact fV j⟩ (fun w v hv=>by cases hv;rfl)) hH hblk (by rw[gT];exact hlen)
 rw[gT]at jd;have jU:([Value.slice (some ⟨blk,0,none⟩) (l.map en).length cap,.func (.func g) ([]:List Value).toArray ([]:List Value).toArray]:List Value).toArray = #[.slice (some ⟨blk,0,none⟩) l.length cap,.func (.func g) #[] #[]]:=by simp
 rw[jU];refine jd.mono fun e w' ⟨he,d',m,os,hp,hs,hw⟩=>?_;subst he;obtain⟨p1,-,p3⟩:=hp;have fX:d'.size=l.length:=by rw[p1,gT]
 have abw:d'.toList.Perm (List.finRange (n+1)):=by
  have ex:∀ (a:Array (Fin (n+1))),a.size=l.length->(a.extract 0 l.length).toList=a.toList:=fun a ha=>by rw[<- ha,Array.extract_size]
  rw[ex d' fX,ex d gT]at p3
  simpa [d]using p3
 have gX:(List.finRange (n+1)).map at_=l:=by
  apply List.ext_getElem?;intro i;rw[List.getElem?_map];rcases Nat.lt_or_ge i (n+1)with hi|hi
  ·have:=dF ⟨i,hi⟩;simp only at this;rw[this,List.getElem?_eq_getElem (by simpa using hi)];simp
  ·rw[List.getElem?_eq_none (by simpa using hi),List.getElem?_eq_none (by omega)];rfl
 have nA:(d'.toList.map at_).Perm l:=by
  have:=abw.map at_
  rwa [gX]at this
 have abx:(d'.toList.map at_).Pairwise (fun x y=>¬ cmp (en y) (en x)<0):=by
  rw[List.pairwise_map];refine List.pairwise_iff_getElem.2 fun i j hi hj dq=>?_;have cS:i<d'.size:=by simpa using hi
  have dI:j<d'.size:=by simpa using hj
  have:=hs i j (Nat.zero_le _) dq (by omega);rw[getElem!_pos d' j dI,getElem!_pos d' i cS]at this
  simpa [ltOf,cf]using this
 obtain⟨a1,a2,a3,a4,a5,a6⟩:=Rk (enc:=enc) (K:=K) (n:=m) (d:=d') (os:=os) q3;rw[<- hw]at a1 a2 a3 a4 a5 a6
 let c':Cx:={ c with heap:=[.arr 0 (t,K) ((d'.toList.map at_).map en)],w:=w' }
 have cj:∀ i bx,c.heap[i]?=some bx->i=0/\bx=.arr 0 (t,K) (l.map en):=fun i bx hi=>by
  rw[h1]at hi;cases i with
  |zero=>simp at hi;exact⟨rfl,hi.symm⟩
  |succ i=>simp at hi
 have lk:((d'.toList.map at_).map en).length=(l.map en).length:=by simp[fX]
 have aV:Step c c':=⟨rfl,h2.bE,a1,a2,a3,a4,fun b hb hn=>a5 b hb (fun e=>by subst e;exact hn 0 cap r1),fun i b n hi _=>⟨n,hi⟩,fun i bx hi=>by
  obtain⟨rfl,rfl⟩:=cj i bx hi
  exact .inl ⟨0,_,rfl,.inr ⟨rfl,lk,rfl⟩⟩⟩
 have aN:aD E.G c':=h2.next aV (fun i b n hi=>by
   have:=h2.bH i b n hi;refine⟨Nat.lt_of_lt_of_le this.1 a4,?_⟩;have h0:c.heap.length=1:=by rw[h1];rfl
   show i<1;omega) h2.inj (fun i bx hi=>by
  right;cases i with
  |succ i=>simp[c']at hi
  |zero =>
   simp[c']at hi;subst hi;refine⟨q0,fun i e he=>?_,.inr ⟨blk,cap,_,r1,a6,?_,?_,q6,fun i j e x he hx=>?_⟩⟩
   ·rw[<- List.map_map]at he;have:=(nA.map en).mem_iff.1 (List.mem_of_getElem? he);obtain⟨i2,lH⟩:=List.getElem?_of_mem this;exact q1 i2 e lH
   ·simp[putCells,q4]
   ·rw[<- List.map_map,lk];exact q5
   ·simp only[List.getElem?_map]at he;cases hq:d'.toList[i]? with
    |none=>rw[hq]at he;cases he
    |some y =>
     rw[hq]at he;cases he;have hi:i<l.length:=by have:=aX hq;simpa [fX]using this
     have uB:d'[i]?=some y:=by simpa using hq
     have hx:(en (at_ y)).cells[j]?=some x:=hx;have D2:j<K:=by have:=aX hx;rwa [hK _ (im y)]at this
     have f1:=gV (K:=K) enc d' i j D2 y uB;obtain⟨x',v,b1,b2,b3,b4,b5⟩:=dP y j D2;rw[b1]at hx;cases hx;rw[Ry _ _ _ b3]at f1;have gM:cR.size=cap*K:=q4;have tB:l.length<=cap:=by have:=q5;rwa [List.length_map]at this
     have h5:i*K+j<cR.size:=by
      have h6:(i+1)*K<=cap*K:=Nat.mul_le_mul_right K (by omega);rw[Nat.succ_mul]at h6;omega
     have h7:i*K+j<l.length*K:=by
      have h6:(i+1)*K<=l.length*K:=Nat.mul_le_mul_right K (by omega);rw[Nat.succ_mul]at h6;omega
     refine⟨v,?_,b4,aV.vd b5⟩;simp only[putCells,Array.getElem?_mapIdx,Array.getElem?_eq_getElem h5,Option.map_some];rw[if_pos ⟨Nat.zero_le _,by rw[size_flatK,fX];omega⟩]
     exact congrArg some f1)
 refine⟨c',.aJ [],.tuple #[],rfl,rfl,⟨rfl,_,nA,abx,rfl⟩,.aJ [] #[] rfl (fun j x v hx=>by simp at hx),aN,?_⟩
 exact⟨rfl,a1,a2,a3,a4,fun b hb hn=>a5 b hb (fun e=>by subst e;exact hn 0 cap r1),fun i b n hi _=>⟨n,hi⟩,fun i bx hi=>by
  obtain⟨rfl,rfl⟩:=cj i bx hi
  exact .inl ⟨0,_,rfl,.inr ⟨rfl,lk,rfl⟩⟩⟩
end Go.Proofs.YtcmnpelmmekdkaaGreatDoor.P
end
section
namespace Go.Proofs.YtcmnpelmmekdkaaGreatDoor.P
open Go Go.aA
set_option maxRecDepth 100000
set_option maxHeartbeats 4000000
@[reducible] def gg (v : bu) : DV := .agg [.str v.name, .a7, .int .i64 v.before, .str v.bB.name, .int .i64 v.bB.type]
theorem abP{b g k cp:Nat}{l m:List DV}(hk:k<=l.length):∃ k' q' l',ya b g l m k cp=.cut b (g+1) k' q'/\x9 l m k cp=l'/\l'.drop k'=l.drop k++m/\k'<=l'.length/\l'.length<=l.length+m.length:=by
 unfold ya x9;by_cases h:l.length+m.length<=cp
 ·rw[if_pos h,if_pos h];exact⟨k,some cp,_,rfl,rfl,by rw[List.drop_append_of_le_length hk],by simp;omega,by simp⟩
 ·rw[if_neg h,if_neg h];exact⟨0,none,_,rfl,rfl,by simp,by simp,by simp⟩
theorem abQ(v:bu):aB E 84 [.cells [.d .a7]] [.ptr 0 0,.d (gg v)] (fun a b=>a=.aJ []/\b=[.cells [.own 2 1],.cells [.d (.str v.name),.d .a7,.d (.int .i64 v.before),.d (.str v.bB.name),.d (.int .i64 v.bB.type)],.arr 1 (96,5) [gg v]]):=by
 refine aB.run ag (fn:=Tryz.f84) Tryz.func84 (body:=Tryz.f84.body.getD .skip) rfl (by decide) 2000 rfl ?_;(conv=>whnf);refine aa.QF ag bN [0,1,2,3,5,6,8,9] (fun h=>h∈[[.cells [.d .a7],.cells [.d (.str v.name),.d .a7,.d (.int .i64 v.before),.d (.str v.bB.name),.d (.int .i64 v.bB.type)]],[.cells [.d .a7],.cells [.d (.str v.name),.d .a7,.d (.int .i64 v.before),.d (.str v.bB.name),.d (.int .i64 v.bB.type)],.arr 1 (96,5) [gg v]],[.cells [.own 2 1],.cells [.d (.str v.name),.d .a7,.d (.int .i64 v.before),.d (.str v.bB.name),.d (.int .i64 v.bB.type)],.arr 1 (96,5) [gg v]]]) (by kernel_rfl) (by simp) ?_;refine dv.float (.ptr 0 0) rfl rfl (fun h' hh=>?_) ?_
 ·simp only[List.mem_cons,List.not_mem_nil,or_false]at hh;rcases hh with rfl|rfl|rfl<;>(refine aQ.run ag ?_;(conv=>whnf);exact⟨rfl,rfl⟩)
 refine dv.float (.ptr 0 0) rfl rfl (fun h' hh=>?_) ?_
 ·simp only[List.mem_cons,List.not_mem_nil,or_false]at hh;rcases hh with rfl|rfl|rfl<;>(refine aQ.run ag ?_;(conv=>whnf);exact⟨rfl,rfl⟩)
 refine dv.float (.ptr 0 0) rfl rfl (fun h' hh=>?_) ?_
 ·simp only[List.mem_cons,List.not_mem_nil,or_false]at hh;rcases hh with rfl|rfl|rfl<;>(refine aQ.run ag ?_;(conv=>whnf);exact⟨rfl,rfl⟩)
 refine dv.float (.ptr 0 0) rfl rfl (fun h' hh=>?_) ?_
 ·simp only[List.mem_cons,List.not_mem_nil,or_false]at hh;rcases hh with rfl|rfl|rfl<;>(refine aQ.run ag ?_;(conv=>whnf);exact⟨rfl,rfl⟩)
 refine dv.op (.d .a7) ([.cells [.d .a7],.cells [.d (.str v.name),.d .a7,.d (.int .i64 v.before),.d (.str v.bB.name),.d (.int .i64 v.bB.type)]]) rfl rfl ?_ (by simp) ?_
 ·refine aQ.run ag ?_;(conv=>whnf);exact⟨rfl,rfl⟩
 refine dv.float (.d (gg v)) rfl rfl (fun h' hh=>?_) ?_
 ·simp only[List.mem_cons,List.not_mem_nil,or_false]at hh;rcases hh with rfl|rfl|rfl<;>(refine aQ.run ag ?_;(conv=>whnf);exact⟨rfl,rfl⟩)
 refine dv.float (.d (.sl [gg v])) rfl rfl (fun h' hh=>?_) ?_
 ·simp only[List.mem_cons,List.not_mem_nil,or_false]at hh;rcases hh with rfl|rfl|rfl<;>(refine aQ.run ag ?_;(conv=>whnf);exact⟨rfl,rfl⟩)
 refine dv.op (.own 2 1) ([.cells [.d .a7],.cells [.d (.str v.name),.d .a7,.d (.int .i64 v.before),.d (.str v.bB.name),.d (.int .i64 v.bB.type)],.arr 1 (96,5) [gg v]]) rfl rfl ?_ (by simp) ?_
 ·refine aQ.run ag ?_;(conv=>whnf);refine bA ⟨by simp,by simp[DV.cells]⟩ ?_;(conv=>whnf);exact⟨rfl,rfl⟩
 refine dv.float (.ptr 0 0) rfl rfl (fun h' hh=>?_) ?_
 ·simp only[List.mem_cons,List.not_mem_nil,or_false]at hh;rcases hh with rfl|rfl|rfl<;>(refine aQ.run ag ?_;(conv=>whnf);exact⟨rfl,rfl⟩)
 refine dv.float (.ptr 0 0) rfl rfl (fun h' hh=>?_) ?_
 ·simp only[List.mem_cons,List.not_mem_nil,or_false]at hh;rcases hh with rfl|rfl|rfl<;>(refine aQ.run ag ?_;(conv=>whnf);exact⟨rfl,rfl⟩)
 refine dv.op (.d .undef) ([.cells [.own 2 1],.cells [.d (.str v.name),.d .a7,.d (.int .i64 v.before),.d (.str v.bB.name),.d (.int .i64 v.bB.type)],.arr 1 (96,5) [gg v]]) rfl rfl ?_ (by simp) ?_
 ·refine aQ.run ag ?_;(conv=>whnf);exact⟨rfl,rfl⟩
 refine dv.fin ?_;refine gO Tryz.func84 ?_;exact⟨rfl,rfl⟩
theorem abR(v:bu)(k:Nat)(q:Option Nat)(l:List DV)(hl:l.length<=2147483647):aB E 84 [.cells [.cut 1 0 k q],.arr 0 (96,5) l] [.ptr 0 0,.d (gg v)] (fun a b=>∃ k' q' l',(l'.drop k'=l.drop k++[gg v]/\k'<=l'.length/\l'.length<=l.length+1)/\a=.aJ []/\b=[.cells [.cut 1 1 k' q'],.arr 1 (96,5) l',.cells [.d (.str v.name),.d .a7,.d (.int .i64 v.before),.d (.str v.bB.name),.d (.int .i64 v.bB.type)]]):=by
 refine aB.run ag (fn:=Tryz.f84) Tryz.func84 (body:=Tryz.f84.body.getD .skip) rfl (by decide) 2000 rfl ?_;(conv=>whnf);refine aa.ZL (b:=0) (off:=0) (j:=1) rfl rfl rfl fun cp hk=>?_;(conv=>whnf);obtain⟨k',q',l',e1,e2,e3,e4,e5⟩:=abP (b:=1) (g:=0) (k:=k) (cp:=cp) (l:=l) (m:=[gg v]) hk;refine aa.QF ag bN [0,1,2,3,5,6,8,9] (fun h=>h∈[[.cells [.cut 1 0 k (some cp)],.arr 0 (96,5) l,.cells [.d (.str v.name),.d .a7,.d (.int .i64 v.before),.d (.str v.bB.name),.d (.int .i64 v.bB.type)]],[.cells [.cut 1 0 k (some cp)],.arr 1 (96,5) l',.cells [.d (.str v.name),.d .a7,.d (.int .i64 v.before),.d (.str v.bB.name),.d (.int .i64 v.bB.type)]],[.cells [.cut 1 1 k' q'],.arr 1 (96,5) l',.cells [.d (.str v.name),.d .a7,.d (.int .i64 v.before),.d (.str v.bB.name),.d (.int .i64 v.bB.type)]]]) (by kernel_rfl) (by simp) ?_;refine dv.float (.ptr 0 0) rfl rfl (fun h' hh=>?_) ?_
 ·simp only[List.mem_cons,List.not_mem_nil,or_false]at hh;rcases hh with rfl|rfl|rfl<;>(refine aQ.run ag ?_;(conv=>whnf);exact⟨rfl,rfl⟩)
 refine dv.float (.ptr 0 0) rfl rfl (fun h' hh=>?_) ?_
 ·simp only[List.mem_cons,List.not_mem_nil,or_false]at hh;rcases hh with rfl|rfl|rfl<;>(refine aQ.run ag ?_;(conv=>whnf);exact⟨rfl,rfl⟩)
 refine dv.float (.ptr 0 0) rfl rfl (fun h' hh=>?_) ?_
 ·simp only[List.mem_cons,List.not_mem_nil,or_false]at hh;rcases hh with rfl|rfl|rfl<;>(refine aQ.run ag ?_;(conv=>whnf);exact⟨rfl,rfl⟩)
 refine dv.float (.ptr 0 0) rfl rfl (fun h' hh=>?_) ?_
 ·simp only[List.mem_cons,List.not_mem_nil,or_false]at hh;rcases hh with rfl|rfl|rfl<;>(refine aQ.run ag ?_;(conv=>whnf);exact⟨rfl,rfl⟩)
 refine dv.op (.cut 1 0 k (some cp)) ([.cells [.cut 1 0 k (some cp)],.arr 0 (96,5) l,.cells [.d (.str v.name),.d .a7,.d (.int .i64 v.before),.d (.str v.bB.name),.d (.int .i64 v.bB.type)]]) rfl rfl ?_ (by simp) ?_
 ·refine aQ.run ag ?_;(conv=>whnf);exact⟨rfl,rfl⟩
 refine dv.float (.d (gg v)) rfl rfl (fun h' hh=>?_) ?_
 ·simp only[List.mem_cons,List.not_mem_nil,or_false]at hh;rcases hh with rfl|rfl|rfl<;>(refine aQ.run ag ?_;(conv=>whnf);exact⟨rfl,rfl⟩)
 refine dv.float (.d (.sl [gg v])) rfl rfl (fun h' hh=>?_) ?_
 ·simp only[List.mem_cons,List.not_mem_nil,or_false]at hh;rcases hh with rfl|rfl|rfl<;>(refine aQ.run ag ?_;(conv=>whnf);exact⟨rfl,rfl⟩)
 refine dv.op (.cut 1 1 k' q') ([.cells [.cut 1 0 k (some cp)],.arr 1 (96,5) l',.cells [.d (.str v.name),.d .a7,.d (.int .i64 v.before),.d (.str v.bB.name),.d (.int .i64 v.bB.type)]]) rfl rfl ?_ (by simp) ?_
 ·rw[<- e1,<- e2];exact ZJ ag rfl rfl rfl rfl rfl rfl rfl rfl rfl rfl rfl rfl (bg rfl) (bg rfl) rfl (by simp[DV.cells]) (by simp) (by simp;omega)
 refine dv.float (.ptr 0 0) rfl rfl (fun h' hh=>?_) ?_
 ·simp only[List.mem_cons,List.not_mem_nil,or_false]at hh;rcases hh with rfl|rfl|rfl<;>(refine aQ.run ag ?_;(conv=>whnf);exact⟨rfl,rfl⟩)
 refine dv.float (.ptr 0 0) rfl rfl (fun h' hh=>?_) ?_
 ·simp only[List.mem_cons,List.not_mem_nil,or_false]at hh;rcases hh with rfl|rfl|rfl<;>(refine aQ.run ag ?_;(conv=>whnf);exact⟨rfl,rfl⟩)
 refine dv.op (.d .undef) ([.cells [.cut 1 1 k' q'],.arr 1 (96,5) l',.cells [.d (.str v.name),.d .a7,.d (.int .i64 v.before),.d (.str v.bB.name),.d (.int .i64 v.bB.type)]]) rfl rfl ?_ (by simp) ?_
 ·refine aQ.run ag ?_;(conv=>whnf);exact⟨rfl,rfl⟩
 refine dv.fin ?_;refine gO Tryz.func84 ?_;exact⟨k',q',l',⟨e3,e4,by simpa using e5⟩,rfl,rfl⟩
theorem abS(k:Nat)(q:Option Nat)(l:List DV)(h:l.drop k=[]):aB E 85 [.cells [.cut 1 0 k q],.arr 0 (96,5) l] [.ptr 0 0] (fun a b=>a=.aJ [.d (gg ⟨[],[],0,⟨[],0⟩,[]⟩),.d (.bool false)]/\cX 2 [] 0 b=[.cells [.cut 1 0 k q],.arr 0 (96,5) l]):=by
 refine aB.run ag (fn:=Tryz.f85) Tryz.func85 (body:=Tryz.f85.body.getD .skip) rfl (by decide) 2000 rfl ?_;(conv=>whnf);refine aa.P6 ag rfl rfl rfl rfl rfl rfl (bg rfl) rfl ?_;intro hk;have e0:l.length-k=0:=by have:=congrArg List.length h;simpa using this
 (conv=>whnf);refine gO F85 ?_;refine aI (by rw[e0];rfl) ?_;refine gO F85 ?_;exact⟨rfl,rfl⟩
theorem abT(k:Nat)(q:Option Nat)(l:List DV)(v:bu)(r:List DV)(h:l.drop k=gg v::r):aB E 85 [.cells [.cut 1 0 k q],.arr 0 (96,5) l] [.ptr 0 0] (fun a b=>a=.aJ [.d (gg v),.d (.bool true)]/\cX 2 [] 0 b=[.cells [.cut 1 0 (k+1) q],.arr 0 (96,5) l]):=by
 have hlen:l.length-k=r.length+1:=by have:=congrArg List.length h;simpa using this
 have dF:l[k]?=some (gg v):=by
  have:=congrArg (·[0]?) h
  simpa using this
 refine aB.run ag (fn:=Tryz.f85) Tryz.func85 (body:=Tryz.f85.body.getD .skip) rfl (by decide) 2000 rfl ?_;(conv=>whnf);refine aa.P6 ag rfl rfl rfl rfl rfl rfl (bg rfl) rfl ?_;intro hk;(conv=>whnf);refine gO F85 ?_;refine aO (by rw[hlen];simp;omega) ?_;refine gO F85 ?_;refine aa.ZB ag (n:=0) rfl rfl rfl rfl rfl rfl (bg rfl) qp rfl (by omega) ?_;(conv=>whnf);refine gO F85 ?_;refine fu (gg v) (by omega) (by simpa using dF) rfl ?_;refine gO F85 ?_;refine aa.ZC ag (n:=1) rfl rfl rfl rfl rfl rfl (bg rfl) qp rfl (by omega) ?_;(conv=>whnf);refine gO F85 ?_;exact⟨rfl,rfl⟩
end Go.Proofs.YtcmnpelmmekdkaaGreatDoor.P
end
section
namespace Go.aA
open Go Go.RowKit
section
variable {E:Env} {s:List AV} {h:List af}
def RB(E:Env)(s:List AV)(h:List af)(o:Oper)(k:List AV->List af->Prop):Prop:=match o.op with
 | .insert t m x v=>aZ E.T t False fun ti=>match ti.k with
  | .map kt _=>cL E.G s m False fun
   | .map b=>aZ h b False fun
    | .map es=>cL E.G s x False fun
     | .d y=>cL E.G s v False fun
      | .d z=>zc E kt False fun kd=>need (ea E.T kd y/\∀ p∈es,ea E.T kd p.1) (fL h b (.map (cx y z es)) fun h'=>bK s o.dst (.d .undef) fun s'=>k s' h')
      |_=>False
     |_=>False
    |_=>False
   |_=>False
  |_=>False
 |_=>False
theorem aa.insert(hE:E.OK){ae:FuncId}{R:bZ}{ops:Array Oper}{td:List aK}{lits:List Nat}{o:Oper}{r:List Oper}(hg:o.guard=none)
  (H:RB E s h o fun s' h'=>aa E ae R lits (.bF ops r::td) s' h'):aa E ae R lits (.bF ops (o::r)::td) s h:=by
 unfold RB at H;split at H
 case h_2=>exact H.elim
 rename_i t m x v bX;rcases bl H with H|⟨ti,cm,H⟩
 ·exact H.elim
 split at H
 case h_2=>exact H.elim
 rename_i kt e hk;rcases cM H with H|⟨a,ha,H⟩
 ·exact H.elim
 split at H
 case h_2=>exact H.elim
 rename_i b;rcases bl H with H|⟨bx,hb,H⟩
 ·exact H.elim
 split at H
 case h_2=>exact H.elim
 rename_i es;rcases cM H with H|⟨y,hy,H⟩
 ·exact H.elim
 split at H
 case h_2=>exact H.elim
 rename_i y;rcases cM H with H|⟨z,hz,H⟩
 ·exact H.elim
 split at H
 case h_2=>exact H.elim
 rename_i z;rcases Fe H with H|⟨kd,hT,H⟩
 ·exact H.elim
 obtain⟨⟨f1,f2⟩,H⟩:=nH H;rw[gL,df]at H;exact .of (.op (eC hg) (Ky hE (.inr bX) cm hk hT hb ha hy hz f1 f2) H.to)
end
theorem yj{h h':List af}{K:Prop}(H:K):∀ (D:List Nat),w5 h h' (D.map .mark) K
 |[]=>H
 |_::D=>yj H D
section
variable {E:Env} {ae:FuncId} {R:bZ} {k:List aK} {s:List AV} {h:List af}
@[reducible] def D3 (R : bZ) (D : List Nat) : bZ := ⟨R.n, R.Q, R.rows, ⟨R.fx.f0, none, D, [], D.map .mark, R.fx.inl⟩⟩
theorem aa.abU{lits:List Nat}{b:Code}{κ:Type}(fE:List Nat)(vars:κ->List (Nat × AV))(boxes:κ->List (Nat × af))(Φ:κ->Prop)(μ:κ->Nat)(x0:κ)(h0:Φ x0)(hR:R=D3 R [])
  (sM:ri fE (mW (boxes x0)) (vars x0) (boxes x0) s h fun s' h'=>uR R.n h s h' s')
  (sN:∀ (D:List Nat) x,Φ x->(∀ (D':List Nat) y,Φ y->μ y<μ x->aa E ae (D3 R D') [] (.inLoop b::k) (lD (vars y) (anyS fE (lF (mW (boxes x0)) s))) (lE (boxes y) h))->aa E ae (D3 R D) [] (.code b :: .inLoop b::k) (lD (vars x) (anyS fE (lF (mW (boxes x0)) s))) (lE (boxes x) h)) :
  aa E ae R lits (.code (.loop b)::k) s h:=by
 have main:∀ n (D:List Nat) x,μ x<n->Φ x->aa E ae (D3 R D) [] (.inLoop b::k) (lD (vars x) (anyS fE (lF (mW (boxes x0)) s))) (lE (boxes x) h):=by
  intro n
  induction n with
  |zero=>intro D x hx;omega
  |succ n ih=>intro D x hx hP;exact .of (.inLoop (sN D x hP fun D' y hy hm=>ih D' y (by omega) hy).to)
 rw[w8]at sM;rw[hR];exact .of (.loop (.weaken sM (sN [] x0 h0 fun D' y hy _=>main (μ y+1) D' y (by omega) hy).to))
end
end Go.aA
end
section
namespace Go.Proofs.YtcmnpelmmekdkaaGreatDoor.P
open Go Go.aA Go.Sort
set_option maxRecDepth 100000
set_option maxHeartbeats 4000000
theorem ab4:RJ Tryz.prog 82:=fun blk cap zs w hH hblk bS=>AnyM.slices_Sort_int Tryz.sortInt blk 0 cap zs w hH hblk bS
theorem ab5(l:List Int)(hl:l≠[])(hlen:l.length<4611686018427387904) :
  aB E 82 [.arr 0 (3,1) (l.map (DV.int .i64))] [.own 0 0] (fun a b=>a=.aJ []/\b=[.arr 0 (3,1) ((jL l).map (DV.int .i64))]) :=
 ab3 ab4 ⟨_,Tryz.func82,rfl,by decide⟩ l hl hlen
end Go.Proofs.YtcmnpelmmekdkaaGreatDoor.P
end
section
namespace Go.aA
open Go Go.RowKit
theorem acu{c:Cx}{f:Fn}{v:Value}(hv:VR c (.d (.fn f)) v):VR c (.fn f [] []) v:=by
 cases hv with
 |d _ _ h=>cases h;exact .fn _ [] [] #[] #[] rfl rfl (fun j x v hx=>by simp at hx) (fun j x v hx=>by simp at hx)
theorem acv{c:Cx}{f:Fn}{v:Value}(hv:VR c (.fn f [] []) v):VR c (.d (.fn f)) v:=by
 obtain⟨v1,v2,rfl,e1,e2⟩:=l8 hv;obtain rfl:v1=[]:=List.eq_nil_of_length_eq_zero (by have:=e1.1;simpa using this.symm);obtain rfl:v2=[]:=List.eq_nil_of_length_eq_zero (by have:=e2.1;simpa using this.symm);exact .d _ _ (.fn f)
theorem acw{G:List (Nat × DV)}{s:List AV}{x:Operand}{f:Fn}(h:bh G s x (.d (.fn f))):bh G s x (.fn f [] []):=fun c a h3 h4=>acu (h c a h3 h4)
section
variable {E:Env} {s:List AV} {h:List af}
theorem aa.RM{ae:FuncId}{R:bZ}{lits:List Nat}{td:List aK}{b off:Nat}{f:Fn}{cs:List AV}(hb:h[b]?=some (.cells cs))(hd:cs[off]?=some (.fn f [] []))
  (H:aa E ae R lits td s (h.set b (.cells (cs.set off (.d (.fn f)))))):aa E ae R lits td s h:=by
 replace H:=H.to;refine .of (.jS (fun c t dX h1 h2 h3 h4 h5=>?_) H);subst h2;have eu:=aX hb
 let c':Cx:={ c with heap:=c.heap.set b (.cells (cs.set off (.d (.fn f)))) }
 have pf:c'.heap[b]?=some (.cells (cs.set off (.d (.fn f)))):=by
  show(c.heap.set b _)[b]?=_;rw[List.getElem?_set_self eu]
 have nt:∀ i,i≠b->c'.heap[i]?=c.heap[i]? := fun i hi=>by
  show(c.heap.set b _)[i]?=_;rw[List.getElem?_set_ne (Ne.symm hi)]
 have aV:Step c c':=⟨rfl,h3.bE,rfl,rfl,rfl,Nat.le_refl _,fun _ _ _=>rfl,fun i x n hi _=>⟨n,hi⟩,fun i bx hi=>by
  by_cases bP:i=b
  ·subst bP;rw[hb]at hi;cases hi;exact .inl ⟨_,pf,rfl,by simp⟩
  ·exact mQ hi (nt i bP) rfl⟩
 have aN:aD E.G c':=h3.next aV (fun i x n hi=>by
   have:=h3.bH i x n hi;refine⟨this.1,?_⟩;show i<(c.heap.set b _).length;simp;omega) h3.inj (fun i bx hi=>by
  by_cases bP:i=b
  ·subst bP;rw[pf]at hi;cases hi;right;obtain⟨blk,cap,vs,ty,g1,g2,g3,g4⟩:=h3.box i _ hb;refine⟨blk,cap,vs,ty,g1,g2,by simpa using g3,fun q x v hx hv=>?_⟩;by_cases hq:q=off
   ·subst hq;rw[List.getElem?_set_self (aX hd)]at hx;cases hx;exact acv (aV.vr (g4 q _ v hd hv))
   ·rw[List.getElem?_set_ne (Ne.symm hq)]at hx;exact aV.vr (g4 q x v hx hv)
  ·rw[nt i bP]at hi
   exact .inl ⟨hi,rfl,fun _ _ _=>rfl⟩)
 exact⟨c',t,dX,h1,rfl,aN,aV.vs h4,aV.cr h5,aV,fun _ => .refl _ _⟩
theorem aa.D7{ae:FuncId}{R:bZ}{lits:List Nat}{td:List aK}{ops:Array Oper}{o:Oper}{l:List Oper}{fx:Operand}{args:Array Operand}{ts:Array TypeId}{f:FuncId}{ds:List DV}{r:DV}(hg:o.guard=none)(ho:o.op=.call { callee := .value fx,args:=args,argTypes:=ts })
  (hf:bh E.G s fx (.d (.fn (.func f)))) (ha:iy E.G s args.toList (ds.map .d)) (hc:au E f ds (· = r))
  (H:bK s o.dst (.d r) fun s'=>aa E ae R lits (.bF ops l::td) s' h):aa E ae R lits (.bF ops (o::l)::td) s h:=by
 rw[df]at H;exact .of (.call (eC hg) ho (acw hf) ha (by simp) hc fun r1 e=>by subst e;exact H.to)
end
end Go.aA
end
