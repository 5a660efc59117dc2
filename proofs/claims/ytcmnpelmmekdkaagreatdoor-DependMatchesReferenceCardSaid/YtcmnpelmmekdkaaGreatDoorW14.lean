/- Lemmas of mine. Conditions: as stated. -/
import Derived.Test.YtcmnpelmmekdkaaGreatDoorW13
import Derived.Shelf.SlSortCmp.NoneTotal
set_option linter.unusedVariables false
set_option linter.unusedSimpArgs false
section
namespace Go.Proofs.YtcmnpelmmekdkaaGreatDoor.P
open Go Go.aA
set_option maxRecDepth 100000
set_option maxHeartbeats 4000000
theorem A9{α:Type}[DecidableEq α]{lt:α->α->Bool}(l a b:List α):fJ (lt:=lt) l (a++b)=fJ (lt:=lt) (fJ (lt:=lt) l a) b:=by
 simp[fJ,List.foldl_append]
theorem DQ{α:Type}[DecidableEq α]{lt:α->α->Bool}:∀ (xs l:List α),(fJ (lt:=lt) l xs).length<=l.length+xs.length:=by
 have one:∀ (l:List α) (x:α),(iD lt l x).length<=l.length+1:=by
  intro l x
  induction l with
  |nil=>simp[iD]
  |cons y r ih=>rw[iD];split<;>(try split)<;>simp<;>omega
 intro xs
 induction xs with
 |nil=>intro l;simp[fJ]
 |cons x xs ih =>
  intro l;have h1:=ih (iD lt l x);have h2:=one l x;rw[fJ,List.foldl_cons];rw[fJ]at h1;simp;omega
theorem QL{l:List bR}(h:l≠[]):pq l=.sl (l.map bR.enc):=if_neg h
theorem QM{l:List bR}{x:bR}:iD dA l x≠[]:=fun e=>by
 have:=AQ (lt:=dA) (l:=l) (x:=x) (y:=x);rw[e]at this;simp at this
def pr(l:List bR):Prop:=l.Pairwise (fun a b=>dA a b=true)/\∀ y∈l,vV y
theorem pr.with{l:List bR}(h:pr l){x:bR}(hx:vV x):pr (iD dA l x):=⟨It x8 Dv h.1,fun y hy=>(AQ.1 hy).elim (h.2 y) fun e=>e ▸ hx⟩
theorem pr.all{l:List bR}(h:pr l):∀ {xs:List bR},(∀ x∈xs,vV x)->pr (fJ (lt:=dA) l xs)
 |[],_=>h
 |x::xs,hx=>by
  rw[fJ,List.foldl_cons];exact pr.all (h.with (hx x (List.mem_cons_self ..))) fun y hy=>hx y (List.mem_cons_of_mem _ hy)
theorem aaw{ad:Text}{L:List bR}{D:List Datum}{k:Nat}{d:Datum}(h:D[k]?=some d):fJ (lt:=dA) L (fj ad (D.take (k+1)))=iD dA (fJ (lt:=dA) L (fj ad (D.take k))) ⟨⟨ad,2⟩,d.text⟩:=by
 rw[QA h,A9];rfl
theorem QN(L:List bR)(ad:Text)(s:eD)(hL:pr L)(hl:L.length<=900000)(ha:ad.length<=1000)(hd:s.data.length<=8)(ht:∀ d∈s.data,d.text.length<=1000):au E 103 [pq L,.str ad,s.enc] (· = pq (fJ (lt:=dA) L (fj ad s.data))):=by
 obtain⟨sn,st,sl,D⟩:=s;simp only at hd ht;show au E _ [pq L,.str ad,DV.agg [.str sn,.int .i64 st,.int .i64 sl,.sl (D.map Datum.enc)]] _;have hsh:∀ k,∀ x∈fj ad (D.take k),vV x:=fun k x hx=>by
  obtain⟨d,hdm,rfl⟩:=List.mem_map.1 hx;exact⟨ha,ht d (List.mem_of_mem_take hdm)⟩
 refine eP Tryz.func103 ?_;refine aa.loop (κ:=Nat) ([0]++rg 7 19) (fun k=>[(7,.d (.int .i64 k)),(0,.d (pq (fJ (lt:=dA) L (fj ad (D.take k)))))]) (fun _=>[]) (fun k=>k<=D.length) (fun k=>D.length-k) 0 (Nat.zero_le _) ?_ ?_
 ·(conv=>whnf);repeat (first|exact trivial|(refine sI ?_;conv=>whnf))
  refine And.intro rfl ?_;exact sZ
 intro k hk IH;have aN:=hL.all (hsh k);have hlen:=DQ (lt:=dA) (fj ad (D.take k)) L;have hlh:(fj ad (D.take k)).length<=8:=by simp[fj];omega
 refine aa.head ag Tryz.func103 2000 ?_;(conv=>whnf);refine ar (fun h5=>?_) (fun h5=>?_)
 ·have ai:k<D.length:=by simpa using h5
  obtain⟨d,I1⟩:=bd ai;have bw:=aaw (ad:=ad) (L:=L) I1;have c1:=QJ (fJ (lt:=dA) L (fj ad (D.take k))) ⟨⟨ad,2⟩,d.text⟩ aN.1 (by omega) ⟨ha,ht d (List.mem_of_getElem? I1)⟩ aN.2;rw[<- QL QM,<- bw]at c1;refine gO Tryz.func103 ?_;refine aC (e:=d.enc) (aS I1) rfl ?_;refine gO Tryz.func103 ?_;refine aj (c1) ?_;refine gO Tryz.func103 ?_;refine aa.back (IH (k+1) (by omega) (by omega)) ?_;exact sZ
 ·have aG:D.length<=k:=by simpa using h5
  rw[List.take_of_length_le aG];refine gO Tryz.func103 ?_
  with_reducible rfl
theorem I2{z:aP}(h:eT z=true):0<=aq z.ab ⟨z.ad,2⟩:=by
 simp only[eT,rH,Bool.and_eq_true,Bool.not_eq_true',decide_eq_false_iff_not]at h;omega
theorem aaz{l:List aR}{ad:Text}(h:gd l ad=none):mB l ad<0:=by
 rcases x7 (l:=l) (ad:=ad) l.length with⟨h1,h2⟩|⟨k,q,h1,h2⟩
 ·unfold mB;rw[h1];decide
 ·exact absurd h2.home (PM.1 h q (List.mem_of_getElem? h2.at_))
theorem QO{s:eD}(h:fa s=true):∀ d∈s.data,d.text.length<=1000:=fun d hd=>by
 have:=(rD h).2.2.2 d hd;omega
theorem QP{ad:Text}{D:List Datum}(ha:ad.length<=1000)(ht:∀ d∈D,d.text.length<=1000):∀ x∈fj ad D,vV x:=fun x hx=>by
 obtain⟨d,hd,rfl⟩:=List.mem_map.1 hx;exact⟨ha,ht d hd⟩
theorem aaA(l:List aR)(s:Text)(hf:∀ p∈l,p.aE.Fits)(H:eG l)(hl:l.length<=1000000)(hs:Nm.valid s=true):au E 65 [.sl (l.map aR.enc),.str s] (· = .aJ [.sl ((ic l s).1.map .str),pq (ic l s).2]):=by
 have F:=PT H;have eZ:=dK hs;have hq:jJ ⟨s,1⟩=true:=by simp[jJ,hs]
 obtain⟨JZ,QQ⟩:∃ x,(ic l s).1=x:=⟨_,rfl⟩;obtain⟨JL,QR⟩:∃ x,(ic l s).2=x:=⟨_,rfl⟩;rw[QQ,QR];have c0:=Qb l [46] H hl;refine au.run ag (fn:=Tryz.f65) Tryz.func65 (body:=Tryz.f65.body.getD .skip) rfl (by decide) 1 ?_;(conv=>whnf);repeat ((fail_if_success (refine aa.kM ag rfl ?_;(conv=>whnf);refine aa.run ag F65 1 ?_));(refine aa.run ag F65 1 ?_);(conv=>whnf))
 refine aa.kM ag rfl ?_;refine gO F65 ?_;refine aj (c0) ?_;refine gO F65 ?_;refine aa.loop (κ:=Nat × Text × Int × List Text × List bR) [6,7,8,9,10,11,12,13,18,19,20,21,22,23,24,25,26,27,28,29,30,31,32,33,34,35,36,37,38,39,40,41,42,43,44,45,46,47,48,49,50,51,52,53,54,55,56,57,58,59,60,61,62,63,64,65,66,67,68,69,70,71,72,73,74,75,76,77,78,79,80,81] (fun x=>[(9,.d (.int .i64 x.2.2.1)),(8,.d (.str x.2.1)),(7,.d (pq x.2.2.2.2)),(6,.own 0 1)]) (fun x=>[(0,.arr 1 (9,1) (x.2.2.2.1.map .str))]) (fun x=>x.2.2.1=mB l x.2.1/\Nm.under s x.2.1=true/\dep s<x.1+dep x.2.1/\x.2.2.2.1.length+x.1=65/\(pr x.2.2.2.2/\x.2.2.2.2.length+16*x.1<=1024)/\(∃ Z0,x.2.2.2.1=Z0++[x.2.1]/\JZ=Z0++(dL l s x.1 x.2.1).1)/\JL=fJ (lt:=dA) x.2.2.2.2 (dL l s x.1 x.2.1).2) (fun x=>x.1) (64,[46],mB l [46],[[46]],[]) ⟨rfl,?_,?_,rfl,⟨⟨List.Pairwise.nil,by simp⟩,by simp⟩,⟨[],rfl,QQ.symm⟩,QR.symm⟩ ?_ ?_
 ·exact Qv hs
 ·have:=Qu hs;simp only;omega
 ·(conv=>whnf);repeat (first|exact trivial|(refine sI ?_;conv=>whnf))
  refine And.intro rfl ?_;(conv=>whnf);repeat (first|exact trivial|(refine sI ?_;conv=>whnf))
  refine And.intro rfl ?_;exact sZ
 rintro⟨n,ad,I,Z,L⟩ ⟨h0,h1,h2,h3,⟨h4,h4'⟩,⟨Z0,A',h5⟩,h6⟩ IH;simp only at h0 h1 h2 h3 h4 h4' A' h5 h6;obtain⟨n,rfl⟩:∃ m,n=m+1:=⟨n-1,by have:=PO h1;omega⟩;cases e:gd l ad with
 |none =>
  have hI:I<0:=h0 ▸ aaz e;rw[DP e]at h5 h6;refine aa.head ag F65 2000 ?_;(conv=>whnf);refine aO (by simpa using hI) ?_;refine gO F65 ?_;rw[h5,h6,<- A'];rfl
 |some z =>
  obtain⟨k,p,g1,g2,rfl⟩:=PN e;obtain⟨hz,vX⟩:=H.at_ e;have V:=lN hz;have hp:=List.mem_of_getElem? g2.at_;have AF:ad.length<=1000:=by rw[<- vX];have:=dK V.ad;omega
  rw[g1]at h0;subst h0;have fZ:=I2 hz;rw[vX]at fZ;obtain⟨w,hw,-⟩:=jH fZ;have uf:=List.mem_of_getElem? hw;have QS:=rX V w uf;have QT:=QO (V.ab w uf);have rm:=IC V.sorted fZ hw;have c1:=vz p.aE ⟨ad,2⟩ (by have:=V.len;omega);have c2:=Z9 p.aE ⟨s,1⟩ (hf p hp) (oF (show s.length<=2147483648 by omega));obtain⟨a1,a2⟩:=Qt (q:=⟨s,1⟩) hz hq;rw[a1,a2]at c2;have c3:=QN L ad w.set h4 (by omega) AF QS QT;obtain⟨L1,jy⟩:∃ x,fJ (lt:=dA) L (fj ad w.set.data)=x:=⟨_,rfl⟩;have o1:pr L1:=jy ▸ h4.all (QP AF QT);have n1:L1.length<=L.length+8:=by rw[<- jy];exact Nat.le_trans (DQ _ _) (Nat.add_le_add_left (by simp[fj];exact QS) _)
  rw[jy]at c3;refine aa.head ag F65 2000 ?_;(conv=>whnf);refine aI (by simp) ?_;refine gO F65 ?_;refine aC (e:=p.enc) (aS g2.at_) rfl ?_;refine gO F65 ?_;refine aj (c1) ?_;refine gO F65 ?_;refine aC (e:=w.enc) ⟨by omega,by rw[List.getElem?_map,hw];rfl⟩ rfl ?_;refine gO F65 ?_;refine aj (c3) ?_;refine gO F65 ?_;refine aj (c2) ?_;refine gO F65 ?_;by_cases k4:(bU p.aE ⟨s,1⟩).kind=4
  ·have k3:¬ (bU p.aE ⟨s,1⟩).kind=3:=by omega
   obtain⟨f1,f2⟩:=F ad p.aE ⟨s,1⟩ e k4;obtain⟨y,m,q1,q2,q3,q4,q5⟩:=Dy V k4;have s9:=rX V y q2;have QU:=QO (V.ab y q2);have hcut:(bU p.aE ⟨s,1⟩).cut.length<=1000:=by rw[<- q3];have:=(rD (V.ab y q2)).1;omega
   obtain⟨L2,DR⟩:∃ x,fJ (lt:=dA) L1 (fj (bU p.aE ⟨s,1⟩).cut y.set.data)=x:=⟨_,rfl⟩;have o2:pr L2:=DR ▸ o1.all (QP hcut QU);have n2:L2.length<=L1.length+8:=by rw[<- DR];exact Nat.le_trans (DQ _ _) (Nat.add_le_add_left (by simp[fj];exact s9) _)
   have c4:=QN L1 (bU p.aE ⟨s,1⟩).cut y.set o1 (by omega) hcut s9 QU;have c5:=Qb l (bU p.aE ⟨s,1⟩).cut H hl;rw[DR]at c4;rw[DN e k4]at h5 h6;refine aO (by simpa using k3) ?_;refine gO F65 ?_;refine aO (by simpa using k4) ?_;refine gO F65 ?_;refine bA ⟨by simp;omega,by simp[DV.cells]⟩ ?_;refine gO F65 ?_;refine aC (e:=y.enc) ⟨by omega,by rw[q1];rfl⟩ rfl ?_;refine gO F65 ?_;refine aj (c4) ?_;refine gO F65 ?_;refine aj (c5) ?_;refine gO F65 ?_;refine aa.back (IH (n,(bU p.aE ⟨s,1⟩).cut,mB l (bU p.aE ⟨s,1⟩).cut,Z++[(bU p.aE ⟨s,1⟩).cut],L2) (by refine⟨rfl,f1,by simp only;omega,by simp;omega,⟨o2,by simp only;omega⟩,⟨Z,rfl,by simp only;rw[h5,A'];simp⟩,?_⟩;simp only;rw[h6,rm,q5,A9,A9,jy,DR]) (by simp)) ?_;(conv=>whnf);repeat (first|exact trivial|(refine sI ?_;conv=>whnf))
   refine And.intro (by simp) ?_;exact sZ
  ·rw[DO e k4]at h5 h6;simp only at h5 h6;by_cases k3:(bU p.aE ⟨s,1⟩).kind=3
   ·obtain⟨y,m,d,D,q1,q2,q3,q5,q6,q7⟩:=ID V k3;have s6:d.text.length<=1000:=by have:=dK q7;omega
    have c6:=QJ L1 ⟨⟨s,3⟩,d.text⟩ o1.1 (by omega) ⟨by simp only;omega,s6⟩ o1.2;rw[<- QL QM]at c6;refine aI (by simpa using k3) ?_;refine gO F65 ?_;refine aC (e:=y.enc) ⟨by omega,by rw[q1];rfl⟩ rfl ?_;refine gO F65 ?_;refine aC (e:=d.enc) ⟨by omega,by rw[q5];rfl⟩ rfl ?_;refine gO F65 ?_;refine aj (c6) ?_;refine gO F65 ?_;refine aI (by simpa using k4) ?_;refine gO F65 ?_;rw[h5,h6,<- A',rm,A9,jy,qx,if_pos k3,q6];rfl
   ·refine aO (by simpa using k3) ?_;refine gO F65 ?_;refine aI (by simpa using k4) ?_;refine gO F65 ?_;rw[h5,h6,<- A',rm,A9,jy,qx,if_neg k3];rfl
def rY(l:List aM):DV:=if l=[]then .a7 else .sl (l.map aM.enc)
def nx(l:List Text):DV:=if l=[]then .a7 else .sl (l.map .str)
@[reducible] def bu.enc (v : bu) : DV := .agg [.str v.name, rY v.list, nx v.az]
theorem QV{l:List aR}{s:Text}:(ic l s).1≠[]:=fun e=>by
 have:[46]∈(ic l s).1:=Iz;rw[e]at this;cases this
theorem QW{l:List aR}(H:eG l){s:Text}(hs:Nm.valid s=true){D W:List bu}(K:fS (ic l) s D W):∀ v∈D++W,Nm.valid v.name=true:=fun v hv=>by
 have:=K.least ((s::univ l).filter fun t=>Nm.valid t) (by simp[hs]) (fun n _ x hx=>by
  obtain⟨h1,h2⟩:=Dz H (Iy.1 hx)
  simp[h1,h2]) v hv
 simpa using(List.mem_filter.1 this).2
theorem QX{D W:List bu}{v:bu}{Z:List Text}(h:Z≠[]){i:Int}(hi:i=D.length):((D++v::W).map bu.enc).set i.toNat (.agg [.str v.name,rY v.list,.sl (Z.map .str)])=(D++[{ v with az:=Z }]++W).map bu.enc:=by
 subst hi;have:nx Z=.sl (Z.map .str):=if_neg h;simp[List.set_append,bu.enc,this]
theorem aaD{J:mA}{s:Text}{D W:List bu}(H:fS J s D W):∀ {j:Nat} {v:bu},(D++W)[j]?=some v->v.list.length<=j:=by
 intro j
 induction j using Nat.strongRecOn with
 |_ j ih =>
  intro v hv;rcases H.prev j v hv with⟨-,e,-⟩|⟨b,u,x,-,h2,h3,h4,-,-,-,e⟩
  ·rw[e];simp
  ·have:=ih b h2 (v:=u) (by rw[List.getElem?_append_left h3];exact h4);rw[e];simp;omega
theorem I3{b:Int}{dp:List aM}:∀ {L:List bR} {met:List Text},(cy met b dp L).length<=L.length
 |[],met=>by simp[cy]
 |x::r,met=>by
  rw[cy];split
  ·exact Nat.le_trans I3 (by simp)
  ·simp only[List.length_cons];exact Nat.succ_le_succ I3
theorem aaE{z:aP}(h:eT z=true):(ec z.ad z.ab).length<=8:=by
 have V:=lN h;obtain⟨y,hy,-⟩:=jH (I2 h);rw[IC V.sorted (I2 h) hy];simp[fj];exact rX V y (List.mem_of_getElem? hy)
theorem I4{l:List aR}(H:eG l){s:Text}:∀ {n:Nat} {ad:Text},(dL l s n ad).2.length<=16*n
 |0,ad=>by simp[dL]
 |n+1,ad=>by
  cases e:gd l ad with
  |none=>rw[DP e];simp
  |some z =>
   obtain⟨hz,vX⟩:=H.at_ e;have h1:=aaE hz;rw[vX]at h1;by_cases k4:(bU z ⟨s,1⟩).kind=4
   ·obtain⟨y,m,q1,q2,q3,q4,q5⟩:=Dy (lN hz) k4;have h2:(ec (bU z ⟨s,1⟩).cut (bU z ⟨s,1⟩).ab).length<=8:=by
     rw[q5];simp[fj];exact rX (lN hz) y q2
    have h3:=I4 H (s:=s) (n:=n) (ad:=(bU z ⟨s,1⟩).cut);rw[DN e k4];simp only[List.length_append];omega
   ·rw[DO e k4];have:(qx s (bU z ⟨s,1⟩)).length<=1:=by unfold qx;split<;>simp
    simp only[List.length_append];omega
theorem aaF{l:List aR}(H:eG l){s:Text}:(ic l s).2.length<=1100:=by
 have h1:=I4 H (s:=s) (n:=64) (ad:=[46]);have h2:=DQ (lt:=dA) (lQ l s) [];simp only[lQ,List.length_nil]at h2;show(fJ (lt:=dA) [] (lQ l s)).length<=_;rw[lQ];omega
theorem aaG{l:List bu}{k:Nat}{v:bu}(h:l[k]?=some v)(h0:v.list=[]):kP (l.map bu.enc) (k:Int) (.agg [.str v.name,.a7,nx v.az]):=by
 have:=aS (f:=bu.enc) h;rw[bu.enc,show rY v.list=.a7 from if_pos h0]at this;exact this
theorem aaH{l:List bu}{k:Nat}{v:bu}(h:l[k]?=some v)(h0:¬ v.list=[]):kP (l.map bu.enc) (k:Int) (.agg [.str v.name,.sl (v.list.map aM.enc),nx v.az]):=by
 have:=aS (f:=bu.enc) h;rw[bu.enc,show rY v.list=.sl (v.list.map aM.enc)from if_neg h0]at this;exact this
theorem QY(t:Text)(b:Int)(q:aM)(l:List aM):bu.enc ⟨t,[],b,q,l++[q]⟩=.agg [.str t,.sl (l.map aM.enc++[q.enc]),.a7]:=by
 have h1:rY (l++[q])=.sl ((l++[q]).map aM.enc):=if_neg (by simp);have h2:nx []=.a7:=if_pos rfl;simp[bu.enc,h1,h2]
theorem QZ(w:cP)(s:Text)(hf:∀ p∈w.az,p.aE.Fits)(H:eG w.az)(hl:w.az.length<=1000000)(hu:(univ w.az).length<=2000000000)(hs:Nm.valid s=true):au E 28 [w.enc,.str s] (· = .sl ((eH w.az s).map bu.enc)):=by
 obtain⟨V,hV⟩:∃ x,eH w.az s=x:=⟨_,rfl⟩;rw[hV];refine au.run ag (fn:=Tryz.f28) Tryz.func28 (body:=Tryz.f28.body.getD .skip) rfl (by decide) 1 ?_;(conv=>whnf);repeat ((fail_if_success (refine aa.kM ag rfl ?_;(conv=>whnf);refine aa.run ag F28 1 ?_));(refine aa.run ag F28 1 ?_);(conv=>whnf))
 refine aa.kM ag rfl ?_;(conv=>whnf);repeat ((fail_if_success (refine aa.kM ag rfl ?_;(conv=>whnf);refine aa.run ag F28 1 ?_));(refine aa.run ag F28 1 ?_);(conv=>whnf))
 refine aa.kM ag rfl ?_;refine gO F28 ?_;refine aa.loop (κ:=Nat × List bu × List bu) [5,6,7,8,9,10,11,17,18,19,20,21,22,23,24,25,26,27,28,29,30,31,32,33,34,35,36,37,38,39,40,41,42,43,44,45,46,47,48,49,50,51,52,53,54,55,56,57,58,59,60,61,62,63,64,65,66,67,68,69,70,71,72,73,74,75,76,77,78,79,80,81,82,83] (fun x=>[(7,.d (.int .i64 x.2.1.length)),(5,.own 1 1),(6,.own 2 1)]) (fun x=>[(1,.arr 1 (75,3) ((x.2.1++x.2.2).map bu.enc)),(2,.arr 1 (9,1) ((x.2.1++x.2.2).map fun v => .str v.name))]) (fun x=>fS (ic w.az) s x.2.1 x.2.2/\V=ph (ic w.az) x.1 x.2.1 x.2.2/\(univ w.az).length+1<x.2.1.length+x.1) (fun x=>x.1) (tF w.az,[],[⟨s,[],-1,⟨[],0⟩,[]⟩]) ⟨fS.init,hV.symm,by simp[tF]⟩ ?_ ?_
 ·(conv=>whnf);repeat (first|exact trivial|(refine sI ?_;conv=>whnf))
  refine And.intro rfl ?_;(conv=>whnf);repeat (first|exact trivial|(refine sI ?_;conv=>whnf))
  refine And.intro rfl ?_;(conv=>whnf);repeat (first|exact trivial|(refine sI ?_;conv=>whnf))
  refine And.intro rfl ?_;exact sZ
 rintro⟨n,D,W⟩ ⟨h1,h2,h3⟩ IH;simp only at h1 h2 h3;have h4:=Is (U:=s::univ w.az) (List.mem_cons_self ..) (DB H s) h1;simp only[List.length_cons]at h4;obtain⟨n,rfl⟩:∃ m,n=m+1:=⟨n-1,by omega⟩;have bW:=QW H hs h1;cases W with
 |nil =>
  refine aa.head ag F28 2000 ?_;(conv=>whnf);refine aO (by simp) ?_;refine gO F28 ?_;rw[h2];simp[ph]
 |cons v W =>
  have c1:=aaA w.az v.name hf H hl (bW v (by simp));obtain⟨Z,hZ⟩:∃ Z,(ic w.az v.name).1=Z:=⟨_,rfl⟩;obtain⟨L,hL⟩:∃ L,(ic w.az v.name).2=L:=⟨_,rfl⟩;rw[hZ,hL]at c1;have hLl:L.length<=1100:=hL ▸ aaF H;have Q0:Z≠[]:=hZ ▸ QV;obtain⟨v1,iP⟩:∃ v1:bu,{ v with az:=Z }=v1:=⟨_,rfl⟩;have DS:IntKind.i64.wrap ((D.length:Int)+1)=((D++[v1]).length:Int):=by rw[wrap64 (by omega) (by omega)];simp
  obtain⟨met,tI⟩:∃ met:List Text,(D++v::W).map bu.name=met:=⟨_,rfl⟩;refine aa.head ag F28 2000 ?_;(conv=>whnf);refine aI (by simp;omega) ?_;refine gO F28 ?_;have Ba:(D++v::W)[D.length]?=some v:=by simp
  refine aa.tw ag bN [0,1,2,3,4,5,6,9,10] [] 2000 (by kernel_rfl) ?_;(conv=>whnf);refine aU.run ag 2000 rfl rfl ?_;(conv=>whnf);refine bA ⟨by simp,by simp;omega⟩ ?_;(conv=>whnf);refine aU.run ag 2000 rfl rfl ?_;(conv=>whnf);refine aC (e:=v.enc) (aS Ba) rfl ?_;(conv=>whnf);refine aU.run ag 2000 rfl rfl ?_;(conv=>whnf);refine Xz (c1) ?_;(conv=>whnf);refine aU.run ag 2000 rfl rfl ?_;(conv=>whnf);refine And.intro rfl ?_;(conv=>whnf);refine aU.run ag 2000 rfl rfl ?_;(conv=>whnf);refine And.intro rfl ?_;(conv=>whnf);refine aU.run ag 2000 rfl rfl ?_;(conv=>whnf);refine And.intro rfl ?_;(conv=>whnf);refine aU.run ag 2000 rfl rfl ?_;(conv=>whnf);refine gO F28 ?_;refine bA ⟨by simp,by simp;omega⟩ ?_;refine gO F28 ?_;refine aC (e:=v.enc) (aS Ba) rfl ?_;refine gO F28 ?_;by_cases lT:L=[]
  ·rw[show pq L=.a7 from if_pos lT];subst lT;refine aa.uW ?_;refine aa.run ag F28 2000 ?_;(conv=>whnf);refine aO (by decide) ?_;refine gO F28 ?_;refine aa.back (IH (n,D++[v1],W) ⟨by have:=h1.next;rw[hL]at this;simpa [cy,iP,hZ]using this,by simp only;rw[h2,ph,hL];simp[cy,iP,hZ],by simp;omega⟩ (by simp)) ?_;(conv=>whnf);repeat (first|exact trivial|(refine sI ?_;conv=>whnf))
   refine And.intro (iP ▸ QX Q0 rfl) ?_;(conv=>whnf);repeat (first|exact trivial|(refine sI ?_;conv=>whnf))
   refine And.intro (by simp[<- iP]) ?_;exact sZ
  ·rw[show pq L=.sl (L.map bR.enc)from if_neg lT];refine aa.loop (κ:=Nat) ([5,6,10,11]++rg 39 45) (fun k=>[(10,.d (.int .i64 k)),(5,.own 1 1),(6,.own 2 1)]) (fun k=>[(1,.arr 1 (75,3) ((D++[v1]++W++cy met D.length v.list (L.take k)).map bu.enc)),(2,.arr 1 (9,1) ((D++[v1]++W++cy met D.length v.list (L.take k)).map fun v => .str v.name))]) (fun k=>k<=L.length) (fun k=>L.length-k) 0 (Nat.zero_le _) ?_ ?_
   ·(conv=>whnf);repeat (first|exact trivial|(refine sI ?_;conv=>whnf))
    refine And.intro (by simp only[List.take_zero,cy,List.append_nil];exact iP ▸ QX Q0 rfl) ?_;(conv=>whnf);repeat (first|exact trivial|(refine sI ?_;conv=>whnf))
    refine And.intro (by simp[cy,<- iP]) ?_;exact sZ
   intro k hk IK;refine aa.head ag F28 2000 ?_;(conv=>whnf);refine ar (fun h5=>?_) (fun h5=>?_)
   ·have ai:k<L.length:=by simpa using h5
    obtain⟨x,hx⟩:=bd ai;refine gO F28 ?_;refine aC (e:=x.enc) (aS hx) rfl ?_;refine gO F28 ?_;have bw:cy met D.length v.list (L.take (k+1))=cy met D.length v.list (L.take k)++if x.other∈met++(cy met D.length v.list (L.take k)).map bu.name then[]else[⟨x.other,[],D.length,x.bB,v.list++[x.bB]⟩]:=by rw[dW hx,AR]
    obtain⟨N,hN⟩:∃ N,cy met D.length v.list (L.take k)=N:=⟨_,rfl⟩;rw[hN]at bw ⊢;have oP:(D++[v1]++W++N).map bu.name=met++N.map bu.name:=by rw[<- tI,<- iP];simp
    have nL:N.length<=k:=by rw[<- hN];exact Nat.le_trans I3 (by simp;omega)
    have c2:au E 23 [.sl ((D++[v1]++W++N).map fun v => .str v.name),.str x.other] (· = .bool (decide (x.other∈met++N.map bu.name))):=by
     have:=DM ((D++[v1]++W++N).map bu.name) x.other (by simp only[List.length_cons]at h4;simp;omega);rw[List.map_map,oP]at this;exact this
    refine Lh (c2) rfl rfl rfl rfl ?_;refine gO F28 ?_;by_cases dN:x.other∈met++N.map bu.name
    ·rw[if_pos dN,List.append_nil]at bw;refine aI (decide_eq_true dN) ?_;refine gO F28 ?_;refine aa.back (IK (k+1) (by omega) (by omega)) ?_;rw[bw];exact sZ
    ·rw[if_neg dN]at bw;refine aO (decide_eq_false dN) ?_;refine gO F28 ?_;refine aC (e:=x.enc) (aS hx) rfl ?_;refine gO F28 ?_;refine bA ⟨by simp only[List.length_cons]at h4;simp;omega,by simp[DV.cells]⟩ ?_;(conv=>whnf);repeat ((fail_if_success (first|(refine aa.jV 11 (54,2) (by decide) rfl ?_)|fail));(refine aa.run ag F28 1 ?_);(conv=>whnf))
     refine aa.jV 11 (54,2) (by decide) rfl ?_;(conv=>whnf);refine gO F28 ?_;refine bA ⟨by simp,by simp;omega⟩ ?_;refine gO F28 ?_;have uX:(D++[v1]++W++N)[D.length]?=some v1:=by simp
     have fC:v1.list.length<=2000000001:=by
      have h8:=aaD h1 (j:=D.length) (v:=v) (by simp);rw[<- iP];simp only[List.length_cons]at h4 ⊢;omega
     have Q1:v1.list=v.list:=by rw[<- iP]
     by_cases I5:v1.list=[]
     ·refine aC (aaG uX I5) rfl ?_;refine gO F28 ?_;refine aa.aaC ag (by exact rfl) (by exact rfl) (by exact rfl) (by exact rfl) (by exact rfl) (by exact rfl) (by exact rfl) (by exact rfl) (by exact rfl) (by exact rfl) (by exact rfl) (by exact rfl) (ts:=(54,2)) (l:=[]) (by exact rfl) (by exact rfl) (bg (by exact rfl)) (bg (by exact rfl)) (by exact rfl) (by simp) ?_;refine gO F28 ?_;refine aa.tw ag bN [0,1,2,3,4,5,6,7,8,9,10,11,12] [1,3] 2000 (by kernel_rfl) ?_;(conv=>whnf);refine aU.run ag 2000 rfl rfl ?_;(conv=>whnf);refine aC (e:=x.enc) (aS hx) rfl ?_;(conv=>whnf);refine aU.run ag 2000 rfl rfl ?_;(conv=>whnf);refine aC (e:=x.enc) (aS hx) rfl ?_;(conv=>whnf);refine aU.run ag 1 rfl rfl ?_;(conv=>whnf);refine aU.run ag 1 rfl rfl ?_;(conv=>whnf);refine aU.run ag 1 rfl rfl ?_;(conv=>whnf);refine aU.QE ag (by first|exact rfl|fail) (by first|exact rfl|fail) (by first|exact rfl|fail) (by first|exact rfl|fail) (by first|exact rfl|fail) (by first|exact rfl|fail) (by first|exact rfl|fail) (by first|exact rfl|fail) (by first|exact rfl|fail) (by first|exact rfl|fail) (by first|exact rfl|fail) (by first|exact rfl|fail) (by first|exact rfl|fail) (by first|exact rfl|fail) (by first|exact rfl|fail) (ts:=(54,2)) (l:=[]) (m:=[DV.agg [.str x.bB.name,.int .i64 x.bB.type]]) (bg (by first|exact rfl|fail)) (bg (by first|exact rfl|fail)) (by first|exact rfl|fail) (by simp[DV.cells]) (by simp) ?_;(conv=>whnf);refine And.intro rfl ?_;(conv=>whnf);refine aU.run ag 2000 rfl rfl ?_;(conv=>whnf);refine And.intro rfl ?_;(conv=>whnf);refine aU.run ag 2000 rfl rfl ?_;(conv=>whnf);refine And.intro rfl ?_;(conv=>whnf);refine aU.run ag 2000 ?_ ?_ ?_
      ·rfl
      ·rfl
      (conv=>whnf);refine bA ⟨by simp only[List.length_cons]at h4;simp;omega,by simp[DV.cells]⟩ ?_;(conv=>whnf);refine And.intro rfl ?_;(conv=>whnf);refine aU.run ag 2000 rfl rfl ?_;(conv=>whnf);refine And.intro rfl ?_;(conv=>whnf);refine aU.run ag 2000 rfl rfl ?_;(conv=>whnf);refine gO F28 ?_;refine aa.back (IK (k+1) (by omega) (by omega)) ?_;rw[bw];(conv=>whnf);repeat (first|exact trivial|(refine sI ?_;conv=>whnf))
      refine And.intro (by rw[<- List.append_assoc (D++[v1]++W),List.map_append (f:=bu.enc) (l₁ := D++[v1]++W++N),List.map_singleton,QY,<- Q1,I5];rfl) ?_;(conv=>whnf);repeat (first|exact trivial|(refine sI ?_;conv=>whnf))
      refine And.intro (by simp) ?_;exact sZ
     ·refine aC (aaH uX I5) rfl ?_;refine gO F28 ?_;refine bA ⟨by simp;omega,by simp[DV.cells]⟩ ?_;refine gO F28 ?_;refine aa.tw ag bN [0,1,2,3,4,5,6,7,8,9,10,11,12] [1,3] 2000 (by kernel_rfl) ?_;(conv=>whnf);refine aU.run ag 2000 rfl rfl ?_;(conv=>whnf);refine aC (e:=x.enc) (aS hx) rfl ?_;(conv=>whnf);refine aU.run ag 2000 rfl rfl ?_;(conv=>whnf);refine aC (e:=x.enc) (aS hx) rfl ?_;(conv=>whnf);refine aU.run ag 1 rfl rfl ?_;(conv=>whnf);refine aU.run ag 1 rfl rfl ?_;(conv=>whnf);refine aU.run ag 1 rfl rfl ?_;(conv=>whnf);refine aU.QE ag (by first|exact rfl|fail) (by first|exact rfl|fail) (by first|exact rfl|fail) (by first|exact rfl|fail) (by first|exact rfl|fail) (by first|exact rfl|fail) (by first|exact rfl|fail) (by first|exact rfl|fail) (by first|exact rfl|fail) (by first|exact rfl|fail) (by first|exact rfl|fail) (by first|exact rfl|fail) (by first|exact rfl|fail) (by first|exact rfl|fail) (by first|exact rfl|fail) (ts:=(54,2)) (l:=[]++v1.list.map aM.enc) (m:=[DV.agg [.str x.bB.name,.int .i64 x.bB.type]]) (bg (by first|exact rfl|fail)) (bg (by first|exact rfl|fail)) (by first|exact rfl|fail) (by simp[DV.cells]) (by simp;omega) ?_;(conv=>whnf);refine And.intro rfl ?_;(conv=>whnf);refine aU.run ag 2000 rfl rfl ?_;(conv=>whnf);refine And.intro rfl ?_;(conv=>whnf);refine aU.run ag 2000 rfl rfl ?_;(conv=>whnf);refine And.intro rfl ?_;(conv=>whnf);refine aU.run ag 2000 ?_ ?_ ?_
      ·rfl
      ·rfl
      (conv=>whnf);refine bA ⟨by simp only[List.length_cons]at h4;simp;omega,by simp[DV.cells]⟩ ?_;(conv=>whnf);refine And.intro rfl ?_;(conv=>whnf);refine aU.run ag 2000 rfl rfl ?_;(conv=>whnf);refine And.intro rfl ?_;(conv=>whnf);refine aU.run ag 2000 rfl rfl ?_;(conv=>whnf);refine gO F28 ?_;refine aa.back (IK (k+1) (by omega) (by omega)) ?_;rw[bw];(conv=>whnf);repeat (first|exact trivial|(refine sI ?_;conv=>whnf))
      refine And.intro (by rw[<- List.append_assoc (D++[v1]++W),List.map_append (f:=bu.enc) (l₁ := D++[v1]++W++N),List.map_singleton,QY,<- Q1,List.nil_append]) ?_;(conv=>whnf);repeat (first|exact trivial|(refine sI ?_;conv=>whnf))
      refine And.intro (by simp) ?_;exact sZ
   ·have aG:L.length<=k:=by simpa using h5
    rw[List.take_of_length_le aG];refine gO F28 ?_;refine aa.back (IH (n,D++[v1],W++cy met D.length v.list L) ⟨by have:=h1.next;rw[hL,hZ,iP,tI]at this;exact this,by simp only;rw[h2,ph,hL,hZ,iP,tI],by simp;omega⟩ (by simp)) ?_;(conv=>whnf);repeat (first|exact trivial|(refine sI ?_;conv=>whnf))
    refine And.intro (by simp) ?_;(conv=>whnf);repeat (first|exact trivial|(refine sI ?_;conv=>whnf))
    refine And.intro (by simp) ?_;exact sZ
theorem I6(Z:List Text):mD Z=fJ (lt:=lR) [] Z:=by
 obtain⟨h1,h2⟩:=IQ Z;refine Dt (lt:=lR) P1 DD (h1.imp fun h=>by simpa [lR]using h) (Ds DD P0 List.Pairwise.nil) fun x=>?_;rw[h2,Dr];simp
theorem Q2{R:List bu}{i:Nat}{v:bu}(h:R[i]?=some v):fg (R.take (i+1))=fg (R.take i)++v.az:=by
 rw[dW h,fg,fg,List.flatMap_append];simp
def qz(l:List aR):List Text:=[46]::l.flatMap fun p=>p.aE.ab.map fun s=>s.set.name
theorem aaJ{l:List aR}{p:aR}{s:Signed}(hp:p∈l)(hs:s∈p.aE.ab):s.set.name∈qz l:=List.mem_cons_of_mem _ (List.mem_flatMap.2 ⟨p,hp,List.mem_map.2 ⟨s,hs,rfl⟩⟩)
theorem Q3{l:List aR}(H:eG l){s:Text}:∀ {n:Nat} {ad:Text},ad∈qz l->(dL l s n ad).1.length<=n+1/\∀ z∈(dL l s n ad).1,z∈qz l
 |0,ad,ha=>by simp[dL];exact ha
 |n+1,ad,ha=>by
  cases e:gd l ad with
  |none=>rw[DP e];simp;exact ha
  |some z =>
   obtain⟨hz,vX⟩:=H.at_ e;obtain⟨-,p,hp,rfl⟩:=Dx e;by_cases k4:(bU p.aE ⟨s,1⟩).kind=4
   ·obtain⟨y,m,q1,q2,q3,q4,q5⟩:=Dy (lN hz) k4;have h3:=Q3 H (s:=s) (n:=n) (ad:=(bU p.aE ⟨s,1⟩).cut) (q3 ▸ aaJ hp q2);rw[DN e k4];refine⟨by simp;exact h3.1,fun z tJ=>?_⟩;rcases List.mem_cons.1 tJ with rfl|h
    ·exact ha
    ·exact h3.2 z h
   ·rw[DO e k4];simp;exact ha
theorem Bb{l:List aR}(H:eG l){s:Text}{v:bu}(hv:v∈eH l s):v.az≠[]/\v.az.length<=65/\∀ z∈v.az,z∈qz l/\z.length<=1000:=by
 have e:=((vQ H s).shut v hv).1;rw[e];have h:=Q3 H (s:=v.name) (n:=64) (ad:=[46]) (List.mem_cons_self ..);refine⟨QV,h.1,fun z hz=>⟨h.2 z hz,?_⟩⟩;have:=dK (DA H (by decide) z hz);omega
theorem I7{l:List aR}(H:eG l){s:Text}{i:Nat}:∀ z∈fg ((eH l s).take i),z∈qz l/\z.length<=1000:=fun z hz=>by
 obtain⟨v,hv,y7⟩:=List.mem_flatMap.1 hz;exact(Bb H (List.mem_of_mem_take hv)).2.2 z y7
theorem I8{Z U:List Text}(h:∀ z∈Z,z∈U):(mD Z).length<=U.length:=by
 obtain⟨h1,h2⟩:=IQ Z;refine xY ?_ fun x hx=>h x ((h2 x).1 hx);rw[List.nodup_iff_pairwise_ne];refine h1.imp fun{a b} yS e=>?_;subst e;rw[jE]at yS;omega
theorem DT{l:List bu}{k:Nat}{v:bu}(h:l[k]?=some v)(h0:v.az≠[]):kP (l.map bu.enc) (k:Int) (.agg [.str v.name,rY v.list,.sl (v.az.map .str)]):=by
 have:=aS (f:=bu.enc) h;rw[bu.enc,show nx v.az=.sl (v.az.map .str)from if_neg h0]at this;exact this
theorem aaK{Z:List Text}{x:Text}:mD (Z++[x])=mC (mD Z) x:=by
 rw[mD,List.foldl_append];rfl
@[reducible] def yf (w : cP) : af := .cells [.d (.sl (w.cI.map Host.enc)), .d (.sl (w.az.map aR.enc)), .d (.str w.anchor.name), .d (.int .i64 w.anchor.type), .d (.int .i64 w.anchor.kc), .d (.sl (w.anchor.data.map Datum.enc)), .d (.sl (w.hints.map (.int .i64)))]
theorem aaN(w:cP)(s:Text)(hf:∀ p∈w.az,p.aE.Fits)(H:eG w.az)(hl:w.az.length<=1000000)(hu:(univ w.az).length<=2000000000)(hz:(qz w.az).length<=2000000000)(hs:Nm.valid s=true):au E 38 [w.enc,.str s] (· = .sl ((eA w.az s).map .str)):=by
 have c0:=QZ w s hf H hl hu hs;have fT:=fun i=>I7 H (s:=s) (i:=i);have fC:=AT H s;have rZ:∀ v∈eH w.az s,_:=fun v hv=>Bb H hv;rw[eA,<- I6];obtain⟨V,hV⟩:∃ x,eH w.az s=x:=⟨_,rfl⟩;rw[hV]at c0 fT fC rZ ⊢;refine au.run ag (fn:=Tryz.f38) Tryz.func38 (body:=Tryz.f38.body.getD .skip) rfl (by decide) 1 ?_;(conv=>whnf);(conv=>whnf);repeat ((fail_if_success (first|(refine aa.jV 5 (9,1) (by decide) rfl ?_)|fail));(refine aa.run ag F38 1 ?_);(conv=>whnf))
 refine aa.jV 5 (9,1) (by decide) rfl ?_;(conv=>whnf);refine gO F38 ?_;refine aj (c0) ?_;refine gO F38 ?_;refine aa.loop (κ:=Nat) ([5]++rg 7 4++rg 14 67) (fun i=>[(7,.d (.int .i64 i)),(5,.own 1 1)]) (fun i=>[(1,.arr 1 (9,1) ((mD (fg (V.take i))).map .str))]) (fun i=>i<=V.length) (fun i=>V.length-i) 0 (Nat.zero_le _) ?_ ?_
 ·(conv=>whnf);repeat (first|exact trivial|(refine sI ?_;conv=>whnf))
  refine And.intro rfl ?_;exact sZ
 intro i hi IH;refine aa.head ag F38 2000 ?_;(conv=>whnf);refine ar (fun h5=>?_) (fun h5=>?_)
 ·have ai:i<V.length:=by simpa using h5
  obtain⟨v,hv⟩:=bd ai;obtain⟨z1,z2,z3⟩:=rZ v (List.mem_of_getElem? hv);have bw:=Q2 hv;refine gO F38 ?_;refine aa.loop (κ:=Nat) ([5,8,9,10]++rg 20 61) (fun k=>[(8,.d (.int .i64 k)),(5,.own 1 1)]) (fun k=>[(1,.arr 1 (9,1) ((mD (fg (V.take i)++v.az.take k)).map .str))]) (fun k=>k<=v.az.length) (fun k=>v.az.length-k) 0 (Nat.zero_le _) ?_ ?_
  ·(conv=>whnf);repeat (first|exact trivial|(refine sI ?_;conv=>whnf))
   refine And.intro (by simp) ?_;exact sZ
  intro k hk IK;refine aa.head ag F38 2000 ?_;(conv=>whnf);refine aC (DT hv z1) rfl ?_;refine gO F38 ?_;refine ar (fun h6=>?_) (fun h6=>?_)
  ·have ki:k<v.az.length:=by simpa using h6
   obtain⟨z,Jd⟩:=bd ki;obtain⟨hzu,aaO⟩:=z3 z (List.mem_of_getElem? Jd);refine gO F38 ?_;refine aC (DT hv z1) rfl ?_;refine gO F38 ?_;refine aC (e := .str z) (aS Jd) rfl ?_;refine gO F38 ?_;have dN:∀ x∈fg (V.take i)++v.az.take k,x∈qz w.az/\x.length<=1000:=fun x hx=>(List.mem_append.1 hx).elim (fT i x) fun h=>z3 x (List.mem_of_mem_take h);have tK:mD (fg (V.take i)++v.az.take (k+1))=mC (mD (fg (V.take i)++v.az.take k)) z:=by rw[dW Jd,<- List.append_assoc,aaK]
   obtain⟨hS,hM⟩:=IQ (fg (V.take i)++v.az.take k);have hC:=I8 (fun x hx=>(dN x hx).1);have C5:∀ x∈mD (fg (V.take i)++v.az.take k),x.length<=1000:=fun x hx=>(dN x ((hM x).1 hx)).2;generalize mD (fg (V.take i)++v.az.take k)=A at hS hM hC tK C5 ⊢;have c2:=DM A z (by omega);refine Lh (c2) rfl rfl rfl rfl ?_;refine gO F38 ?_;by_cases qA:z∈A
   ·have e:mC A z=A:=by rw[mC,if_pos qA]
    rw[e]at tK;refine aI (decide_eq_true qA) ?_;refine gO F38 ?_;refine aa.back (IK (k+1) (by omega) (by omega)) ?_;rw[tK];exact sZ
   refine aO (decide_eq_false qA) ?_;refine gO F38 ?_;refine bA ⟨by simp;omega,by simp[DV.cells]⟩ ?_;refine gO F38 ?_;refine aa.loop (κ:=Nat) ([10]++rg 48 33) (fun n=>[(10,.d (.int .i64 n)),(5,.own 1 2)]) (fun n=>[(1,.arr 2 (9,1) ((A.take n++z::A.drop n).map .str))]) (fun n=>n<=A.length/\∀ m x,n<=m->A[m]?=some x->bq z x<0) (fun n=>n) A.length ⟨Nat.le_refl _,fun m x h hx=>by have:=aX hx;omega⟩ ?_ ?_
   ·(conv=>whnf);repeat (first|exact trivial|(refine sI ?_;conv=>whnf))
    refine And.intro (by simp) ?_;(conv=>whnf);repeat (first|exact trivial|(refine sI ?_;conv=>whnf))
    refine And.intro (congrArg (DV.int .i64) ((wrap64 (by simp<;>omega) (by simp<;>omega)).trans (by simp only[List.length_append,List.length_map,List.length_singleton];omega))) ?_;exact sZ
   rintro n ⟨hn,DK⟩ IN;have qi:∀ x,A[n]?=some x->¬ bq x z<0:=fun x hx=>by
    have h1:=DK n x (Nat.le_refl _) hx;have h2:=tg x z;omega
   have aH:A[n]? ≠ some z:=fun e=>qA (List.mem_of_getElem? e);have yg:(A.take n++z::A.drop n)[n]?=some z:=by simp[List.getElem?_append_right,List.length_take,Nat.min_eq_left hn]
   have Je:(A.take n++z::A.drop n).length=A.length+1:=by simp;omega
   refine aa.head ag F38 2000 ?_;(conv=>whnf);by_cases Q5:n=0
   ·subst Q5;have Jf:=(Qk hS (Nat.zero_le _) (fun m x h=>absurd h (by omega)) qi aH).2;refine aa.draw ag bN 14 2000 (by kernel_rfl) ?_;(conv=>whnf);refine aO (by simp) ?_;refine gD ?_;refine gS ?_;refine gO F38 ?_;refine aO rfl ?_;refine gO F38 ?_;refine aa.back (IK (k+1) (by omega) (by omega)) ?_;rw[tK,Jf];exact sZ
   ·obtain⟨y,hy⟩:=bd (l:=A) (k:=n-1) (by omega);have hyn:(A.take n++z::A.drop n)[n-1]?=some y:=by rw[List.getElem?_append_left (by simp;omega),List.getElem?_take,if_pos (by omega),hy]
    have DS:IntKind.i64.wrap ((n:Int)-1)=((n-1:Nat):Int):=by rw[wrap64 (by omega) (by omega)];omega
    have c3:=xq z y aaO (C5 y (List.mem_of_getElem? hy));have a1:=aS (f:=DV.str) yg;have a2:=aS (f:=DV.str) hyn;refine aa.draw ag bN 14 2000 (by kernel_rfl) ?_;(conv=>whnf);refine aI (by simp;omega) ?_;refine gD ?_;refine bA ⟨by simp,by rw[List.length_map,Je];omega⟩ ?_;refine gD ?_;refine aC (e := .str z) a1 rfl ?_;refine gD ?_;rw[DS];refine bA ⟨by simp,by rw[List.length_map,Je];omega⟩ ?_;refine gD ?_;refine aC (e := .str y) a2 rfl ?_;refine gD ?_;refine bj (c3) ?_;refine gD ?_;refine gS ?_;refine gO F38 ?_;by_cases AL:bq z y<0
    ·refine aI (by simpa using AL) ?_;refine gO F38 ?_;obtain⟨L0,lT⟩:∃ L0,(A.take n++z::A.drop n).map DV.str=L0:=⟨_,rfl⟩;obtain⟨L1,jy⟩:∃ L1,L0.set n (.str y)=L1:=⟨_,rfl⟩;have gX:L0.length=A.length+1:=by rw[<- lT,List.length_map,Je]
     have gh:L1.length=A.length+1:=by rw[<- jy,List.length_set,gX]
     have b0:kP L0 ((n-1:Nat):Int) (.str y):=lT ▸ a2;have b1:kP L1 ((n-1:Nat):Int) (.str y):=⟨b0.1,by rw[<- jy];simp only[Int.toNat_natCast];rw[List.getElem?_set_ne (by omega)];simpa using b0.2⟩;have b2:kP L0 (n:Int) (.str z):=lT ▸ a1;rw[lT];refine aa.Q4 ag bN [0,1,2,3,4,5,6,7,8,9,10,11,12,14,16] (fun h=>h=[yf w,.arr 2 (9,1) L0]\/h=[yf w,.arr 2 (9,1) L1]) (by kernel_rfl) (by kernel_rfl) (.inl rfl) ?_;refine cE.float (.own 1 2) rfl rfl (fun h' hh=>?_) ?_
     ·rcases hh with rfl|rfl<;>(refine aQ.run ag ?_;(conv=>whnf);exact⟨rfl,rfl⟩)
     (conv=>whnf);refine cE.float (.d (.int .i64 (n:Int))) rfl rfl (fun h' hh=>?_) ?_
     ·rcases hh with rfl|rfl<;>(refine aQ.run ag ?_;(conv=>whnf);exact⟨rfl,rfl⟩)
     (conv=>whnf);refine cE.float (.own 1 2) rfl rfl (fun h' hh=>?_) ?_
     ·rcases hh with rfl|rfl<;>(refine aQ.run ag ?_;(conv=>whnf);exact⟨rfl,rfl⟩)
     (conv=>whnf);refine cE.float (.d (.int .i64 (n:Int))) rfl rfl (fun h' hh=>?_) ?_
     ·rcases hh with rfl|rfl<;>(refine aQ.run ag ?_;(conv=>whnf);exact⟨rfl,rfl⟩)
     (conv=>whnf);refine cE.float (.d (.int .i64 ((n-1:Nat):Int))) rfl rfl (fun h' hh=>?_) ?_
     ·rcases hh with rfl|rfl<;>(refine aQ.run ag ?_;(conv=>whnf);exact⟨by rw[DS],rfl⟩)
     (conv=>whnf);refine cE.float (.own 1 2) rfl rfl (fun h' hh=>?_) ?_
     ·rcases hh with rfl|rfl<;>(refine aQ.run ag ?_;(conv=>whnf);exact⟨rfl,rfl⟩)
     (conv=>whnf);refine cE.float (.d (.int .i64 (n:Int))) rfl rfl (fun h' hh=>?_) ?_
     ·rcases hh with rfl|rfl<;>(refine aQ.run ag ?_;(conv=>whnf);exact⟨rfl,rfl⟩)
     (conv=>whnf);refine cE.float (.d (.int .i64 ((n-1:Nat):Int))) rfl rfl (fun h' hh=>?_) ?_
     ·rcases hh with rfl|rfl<;>(refine aQ.run ag ?_;(conv=>whnf);exact⟨by rw[DS],rfl⟩)
     (conv=>whnf);refine cE.float (.cD 1 2 (n-1) 0) rfl rfl (fun h' hh=>?_) ?_
     ·rcases hh with rfl|rfl<;>(refine aQ.run ag ?_;(conv=>whnf);refine bA ⟨by omega,by(first|rw[gX]|rw[gh]);omega⟩ ?_;exact⟨by rw[Int.toNat_natCast],rfl⟩)
     (conv=>whnf);refine cE.float (.d (.str y)) rfl rfl (fun h' hh=>?_) ?_
     ·rcases hh with rfl|rfl
      ·refine aQ.run ag ?_;(conv=>whnf);refine aC (e := .str y) b0 rfl ?_;(conv=>whnf);exact⟨rfl,rfl⟩
      ·refine aQ.run ag ?_;(conv=>whnf);refine aC (e := .str y) b1 rfl ?_;(conv=>whnf);exact⟨rfl,rfl⟩
     (conv=>whnf);refine cE.float (.own 1 2) rfl rfl (fun h' hh=>?_) ?_
     ·rcases hh with rfl|rfl<;>(refine aQ.run ag ?_;(conv=>whnf);exact⟨rfl,rfl⟩)
     (conv=>whnf);refine cE.float (.d (.int .i64 (n:Int))) rfl rfl (fun h' hh=>?_) ?_
     ·rcases hh with rfl|rfl<;>(refine aQ.run ag ?_;(conv=>whnf);exact⟨rfl,rfl⟩)
     (conv=>whnf);refine cE.float (.cD 1 2 n 0) rfl rfl (fun h' hh=>?_) ?_
     ·rcases hh with rfl|rfl<;>(refine aQ.run ag ?_;(conv=>whnf);refine bA ⟨by omega,by(first|rw[gX]|rw[gh]);omega⟩ ?_;exact⟨by rw[Int.toNat_natCast],rfl⟩)
     (conv=>whnf);refine cE.op (.d (.str z)) [yf w,.arr 2 (9,1) L0] rfl rfl ?_ (.inr (.inl rfl)) ?_
     ·refine aQ.run ag ?_;(conv=>whnf);refine aC (e := .str z) b2 rfl ?_;(conv=>whnf);exact⟨rfl,rfl⟩
     (conv=>whnf);refine cE.float (.cD 1 2 n 0) rfl rfl (fun h' hh=>?_) ?_
     ·rcases hh with rfl|rfl<;>(refine aQ.run ag ?_;(conv=>whnf);refine bA ⟨by omega,by(first|rw[gX]|rw[gh]);omega⟩ ?_;exact⟨by rw[Int.toNat_natCast],rfl⟩)
     (conv=>whnf);refine cE.op (.d .undef) [yf w,.arr 2 (9,1) L1] rfl rfl ?_ (.inr (.inr rfl)) ?_
     ·refine aQ.run ag ?_;(conv=>whnf);refine aC (e := .str z) b2 rfl ?_;(conv=>whnf);subst jy;exact⟨rfl,rfl⟩
     (conv=>whnf);refine cE.float (.cD 1 2 (n-1) 0) rfl rfl (fun h' hh=>?_) ?_
     ·rcases hh with rfl|rfl<;>(refine aQ.run ag ?_;(conv=>whnf);refine bA ⟨by omega,by(first|rw[gX]|rw[gh]);omega⟩ ?_;exact⟨by rw[Int.toNat_natCast],rfl⟩)
     (conv=>whnf);refine cE.op (.d .undef) [yf w,.arr 2 (9,1) (L1.set (n-1) (.str z))] rfl rfl ?_ (.inl rfl) ?_
     ·refine aQ.run ag ?_;(conv=>whnf);refine aC (e := .str y) b1 rfl ?_;(conv=>whnf);exact⟨rfl,rfl⟩
     (conv=>whnf);refine cE.fin ?_;refine gO F38 ?_;have xE:L1.set (n-1) (.str z)=(A.take (n-1)++z::A.drop (n-1)).map DV.str:=by
      have e1:=Z5 (y:=z) hy (by omega);have e2:=Qm (A:=A) (n:=n-1) (y:=y) (a:=z) (by omega);rw[Int.toNat_natCast]at e1 e2;rw[<- jy,<- lT,e1,e2]
     rw[xE];refine aa.back (IN (n-1) ⟨by omega,fun m x hm hx=>?_⟩ (by omega)) ?_
     ·by_cases e:m=n-1
      ·subst e;rw[hy]at hx;cases hx;exact AL
      ·exact DK m x (by omega) hx
     exact sZ
    ·refine aO (by simpa using AL) ?_;have lJ:∀ m x,m<n->A[m]?=some x->bq x z<0:=fun m x hm hx=>by
      have Q6:bq y z<0:=by
       have h1:=tg y z;rcases Int.lt_trichotomy (bq y z) 0 with q|q|q
       ·exact q
       ·have:=oa q;subst this;exact absurd (List.mem_of_getElem? hy) qA
       ·omega
      by_cases e:m=n-1
      ·subst e;rw[hy]at hx;cases hx;exact Q6
      ·exact o7 (Qj hS (show m<n-1 by omega) hx hy) Q6
     have Jf:=(Qk hS hn lJ qi aH).2;refine gO F38 ?_;refine aa.back (IK (k+1) (by omega) (by omega)) ?_;rw[tK,Jf];exact sZ
  ·have aG:v.az.length<=k:=by simpa using h6
   rw[List.take_of_length_le aG,<- bw];refine gO F38 ?_;refine aa.back (IH (i+1) (by omega) (by omega)) ?_;exact sZ
 ·have aG:V.length<=i:=by simpa using h5
  rw[List.take_of_length_le aG];refine gO F38 ?_
  with_reducible rfl
theorem Bc{α β:Type}{f:α->List β}{c:Nat}:∀ {l:List α},(∀ x∈l,(f x).length<=c)->(l.flatMap f).length<=l.length*c
 |[],_=>by simp
 |x::l,h=>by
  have h1:=h x (List.mem_cons_self ..);have h2:=Bc (l:=l) fun y hy=>h y (List.mem_cons_of_mem _ hy);rw[List.flatMap_cons,List.length_append,List.length_cons,Nat.add_mul];omega
theorem yh{l:List aR}(H:eG l)(hl:l.length<=4000):(univ l).length<=2000000000:=by
 have:(univ l).length<=l.length*(20000*8):=Bc fun p hp=>by
  have V:=lN (H p hp);have h1:(p.aE.ab.flatMap fun s=>s.set.data.map (·.text)).length<=p.aE.ab.length*8:=Bc fun s hs=>by simp;exact rX V s hs
  have h2:=Nat.mul_le_mul_right 8 V.len;exact Nat.le_trans h1 h2
 have:=Nat.mul_le_mul_right (20000*8) hl;omega
def iE(w:cP)(s z:Text):List aM × Int:=if (fK w&&(Nm.valid s&&Nm.valid z))=true then(match (eH w.az s).find? (fun v=>decide (z∈v.az))with|some v=>(v.list,0)|none=>([],4))else([],1)
theorem aaQ(w:cP)(s z:Text)(hf:w.Fits)(hh:w.hints.length<=1000000)(eZ:s.length<=maxLen)(fT:z.length<=maxLen):au E 16 [w.enc,.str s,.str z] (· = .aJ [rY (iE w s z).1,.int .i64 (iE w s z).2]):=by
 have cw:=Qr w hf hh;have cs:=fF s eZ;have cz:=fF z fT;refine eP F16 ?_;refine aj (cw) ?_;refine gO F16 ?_;refine aj (cs) ?_;refine gO F16 ?_;refine aj (cz) ?_;refine gO F16 ?_;have fk:fK w=false\/Nm.valid s=false\/Nm.valid z=false->iE w s z=([],1):=fun h=>by
  rw[iE,if_neg];rcases h with h|h|h<;>simp[h]
 cases h1:fK w
 ·rw[fk (.inl h1)];refine bp ?_;refine gO F16 ?_;refine bp ?_;refine gO F16 ?_;refine bp ?_;refine gO F16 ?_;rfl
 cases h2:Nm.valid s
 ·rw[fk (.inr (.inl h2))];refine aY ?_;refine gO F16 ?_;refine bp ?_;refine gO F16 ?_;refine bp ?_;refine gO F16 ?_;rfl
 cases h3:Nm.valid z
 ·rw[fk (.inr (.inr h3))];refine aY ?_;refine gO F16 ?_;refine aY ?_;refine gO F16 ?_;refine bp ?_;refine gO F16 ?_;rfl
 obtain⟨H,hl⟩:=tH h1;have hu:=yh H hl;have c0:=QZ w s hf.az H (by omega) hu h2;have fC:=AT H s;have rZ:∀ v∈eH w.az s,_:=fun v hv=>Bb H hv;have hR:iE w s z=(match (eH w.az s).find? (fun v=>decide (z∈v.az))with|some v=>(v.list,0)|none=>([],4)):=by rw[iE,if_pos (by simp[h1,h2,h3])]
 obtain⟨V,hV⟩:∃ x,eH w.az s=x:=⟨_,rfl⟩;rw[hV]at c0 fC rZ hR;rw[hR];clear hR;refine aY ?_;refine gO F16 ?_;refine aY ?_;refine gO F16 ?_;refine aY ?_;refine gO F16 ?_;refine aj (c0) ?_;refine gO F16 ?_;refine aa.loop (κ:=Nat) ([6,7,12]++rg 32 18) (fun k=>[(12,.d (.int .i64 k))]) (fun _=>[]) (fun k=>k<=V.length/\V.find? (fun v=>decide (z∈v.az))=(V.drop k).find? (fun v=>decide (z∈v.az))) (fun k=>V.length-k) 0 ⟨Nat.zero_le _,rfl⟩ ?_ ?_
 ·exact sZ
 rintro k ⟨hk,he⟩ IH;refine aa.head ag F16 2000 ?_;(conv=>whnf);refine ar (fun h5=>?_) (fun h5=>?_)
 ·have ai:k<V.length:=by simpa using h5
  obtain⟨v,hv⟩:=bd ai;obtain⟨z1,z2,-⟩:=rZ v (List.mem_of_getElem? hv);have c1:=DM v.az z (by omega);have hd:=xX hv;rw[hd,List.find?_cons]at he;refine gO F16 ?_;refine aC (DT hv z1) rfl ?_;refine gO F16 ?_;refine aj (c1) ?_;refine gO F16 ?_;by_cases qA:z∈v.az
  ·rw[decide_eq_true qA]at he;refine aI (decide_eq_true qA) ?_;refine gO F16 ?_;refine aC (DT hv z1) rfl ?_;refine gO F16 ?_;rw[he]
  ·rw[decide_eq_false qA]at he;refine aO (decide_eq_false qA) ?_;refine gO F16 ?_;refine aa.back (IH (k+1) ⟨by omega,he⟩ (by omega)) ?_;exact sZ
 ·have aG:V.length<=k:=by simpa using h5
  rw[List.drop_eq_nil_of_le aG]at he;refine gO F16 ?_;rw[he];rfl
theorem Q7{l:List aR}(H:eG l)(hl:l.length<=4000):(qz l).length<=2000000000:=by
 have:(l.flatMap fun p=>p.aE.ab.map fun s=>s.set.name).length<=l.length*20000:=Bc fun p hp=>by simp;exact(lN (H p hp)).len
 have:=Nat.mul_le_mul_right 20000 hl;simp only[qz,List.length_cons];omega
def jK(w:cP)(s:Text):Int:=if (fK w&&Nm.valid s)=true then 0 else 1
def kv(w:cP)(s:Text):List Text:=if (fK w&&Nm.valid s)=true then eA w.az s else[]
theorem Q8(w:cP)(s:Text)(hf:w.Fits)(hh:w.hints.length<=1000000)(eZ:s.length<=maxLen):au E 12 [w.enc,.str s] (· = .aJ [nx (kv w s),.int .i64 (jK w s)]):=by
 have cw:=Qr w hf hh;have cs:=fF s eZ;have fk:fK w=false\/Nm.valid s=false->kv w s=[]/\jK w s=1:=fun h=>by
  have:¬ (fK w&&Nm.valid s)=true:=by rcases h with h|h<;>simp[h]
  exact⟨if_neg this,if_neg this⟩
 refine eP F12 ?_;refine aj (cw) ?_;refine gO F12 ?_;refine aj (cs) ?_;refine gO F12 ?_;cases h1:fK w
 ·obtain⟨e1,e2⟩:=fk (.inl h1);rw[e1,e2];refine bp ?_;refine gO F12 ?_;refine bp ?_;refine gO F12 ?_;rfl
 cases h2:Nm.valid s
 ·obtain⟨e1,e2⟩:=fk (.inr h2);rw[e1,e2];refine aY ?_;refine gO F12 ?_;refine bp ?_;refine gO F12 ?_;rfl
 obtain⟨H,hl⟩:=tH h1;have c0:=aaN w s hf.az H (by omega) (yh H hl) (Q7 H hl) h2;have e1:kv w s=eA w.az s:=if_pos (by simp[h1,h2]);have e2:jK w s=0:=if_pos (by simp[h1,h2]);have aH:eA w.az s≠[]:=fun e=>by
  have:=DE (s:=s) H;rw[e]at this;cases this
 have e3:nx (eA w.az s)=.sl ((eA w.az s).map .str):=if_neg aH;rw[e1,e2,e3];refine aY ?_;refine gO F12 ?_;refine aY ?_;refine gO F12 ?_;refine aj (c0) ?_;refine gO F12 ?_
 with_reducible rfl
def lU(w:cP)(p:aR):Int:=match w.cI[p.host.toNat]? with
 |some h=>h.owner
 |none=>0
def r8(w:cP)(zs:List Text)(o:Int)(i:Nat):Bool:=(w.az.take i).any fun p=>decide (lU w p=o)&&decide (p.aE.ad∈zs)
def r9(w:cP)(zs:List Text)(o:Int):Bool:=w.az.any fun p=>decide (lU w p=o)&&decide (p.aE.ad∈zs)
theorem aaR{w:cP}{zs:List Text}{o:Int}{i:Nat}{p:aR}(h:w.az[i]?=some p):r8 w zs o (i+1)=(r8 w zs o i||(decide (lU w p=o)&&decide (p.aE.ad∈zs))):=by
 rw[r8,dW h,List.any_append];simp[r8]
theorem aaS{w:cP}{zs:List Text}{o:Int}{i:Nat}(h:w.az.length<=i):r8 w zs o i=r9 w zs o:=by rw[r8,List.take_of_length_le h,r9]
theorem aaT{w:cP}{zs:List Text}{o:Int}:r9 w zs o=true↔∃ p∈w.az,lU w p=o/\p.aE.ad∈zs:=by
 simp[r9,List.any_eq_true]
def ny(w:cP)(zs:List Text)(k:Nat):List Int:=((List.range k).map Int.ofNat).filter (r9 w zs)
theorem aaU{w:cP}{zs:List Text}{k:Nat}:ny w zs (k+1)=ny w zs k++if r9 w zs k then[(k:Int)]else[]:=by
 rw[ny,List.range_succ,List.map_append,List.filter_append];show _++List.filter _ [(k:Int)]=_;rw[List.filter_cons];split<;>rfl
theorem aaV{w:cP}{zs:List Text}{k:Nat}{o:Int}:o∈ny w zs k↔(0<=o/\o<k)/\r9 w zs o=true:=by
 rw[ny,List.mem_filter,List.mem_map];constructor
 ·rintro⟨⟨a,h1,rfl⟩,h2⟩;rw[List.mem_range]at h1;exact⟨⟨Int.natCast_nonneg a,Int.ofNat_lt.2 h1⟩,h2⟩
 ·rintro⟨⟨h1,h2⟩,h3⟩;exact⟨⟨o.toNat,by rw[List.mem_range];omega,Int.toNat_of_nonneg h1⟩,h3⟩
theorem Q9{w:cP}{zs:List Text}{k:Nat}:(ny w zs k).length<=k:=by
 have:=List.length_filter_le (r9 w zs) ((List.range k).map Int.ofNat)
 simpa [ny]using this
theorem aaW{w:cP}{zs:List Text}{k:Nat}:(ny w zs k).Pairwise fun a b=>decide (a<b)=true:=by
 refine List.Pairwise.filter _ ?_;rw[List.pairwise_map];exact List.pairwise_lt_range.imp fun{a b} h=>by simpa using h
theorem aaX{l:List aR}{s:Text}{K L:List Text}(hK:K.Nodup)(hm:∀ z,z∈K↔z∈fg (eH l s))(hp:L.Perm K)(hs:L.Pairwise fun x y=>¬ bq y x<0):L=eA l s:=by
 refine Dt P1 DD ?_ Zv fun z=>?_
 ·have h2:L.Nodup:=hp.nodup_iff.2 hK;rw[List.nodup_iff_pairwise_ne]at h2;exact(hs.and h2).imp fun{a b} h=>by
   simp only[lR,decide_eq_true_eq];rcases AS h.2 with h3|h3
   ·exact h3
   ·exact absurd h3 h.1
 ·rw[hp.mem_iff,hm,vR]
def tL(a b:bR):Int:=oW [bq a.bB.name b.bB.name,gF a.bB.type b.bB.type,bq a.other b.other]
theorem aaY(a b:Int):gF a b<0↔a<b:=by
 unfold gF;split
 ·omega
 ·split<;>omega
theorem Ra(a b:Int):gF a b=0↔a=b:=by
 unfold gF;split
 ·omega
 ·split<;>omega
theorem tM(a b:bR):tL a b<0↔dA a b=true:=by
 simp only[tL,oW,dA,Bool.or_eq_true,Bool.and_eq_true,decide_eq_true_eq];by_cases e1:a.bB.name=b.bB.name
 ·rw[e1,jE,if_pos rfl];by_cases e2:a.bB.type=b.bB.type
  ·rw[e2,(Ra _ _).2 rfl,if_pos rfl];split
   ·rename_i h;rw[h];simp
   ·simp
  ·have h2:gF a.bB.type b.bB.type≠0:=fun h=>e2 ((Ra _ _).1 h);rw[if_neg h2,aaY];simp[e2]
 ·have h1:bq a.bB.name b.bB.name≠0:=fun h=>e1 (oa h);rw[if_neg h1];simp[e1]
theorem Rb{l:List aR}{s:Text}{L:List bR}{met:List Text}{b:Int}{dp:List aM}(hp:L.Perm (lQ l s))(hs:L.Pairwise fun x y=>¬ tL y x<0):cy met b dp L=cy met b dp (ic l s).2:=by
 refine PI (lt:=fun a b=>dA a b=true) (fun a h=>by rw[Iu]at h;cases h) x8 Zo (hs.imp fun{x y} h=>?_) fun x=>?_
 ·rw[tM]at h;by_cases e:x=y
  ·exact .inr e
  ·exact .inl (Dv y x (fun h=>e h.symm) (by simpa using h))
 ·rw[hp.mem_iff,Iy]
def Bd(x:bR):Prop:=Nm.valid x.bB.name=true/\Nm.valid x.other=true
theorem aaZ{l:List aR}(H:eG l){s:Text}(hs:Nm.valid s=true):∀ x∈lQ l s,Bd x:=fun x hx=>by
 refine⟨?_,(Dz H hx).2⟩;rcases PQ hx with⟨-,h2⟩|h1
 ·exact DA H (by decide) _ h2
 ·rw[h1];exact hs
def pt(w:cP)(s:Text):List Int:=if (fK w&&Nm.valid s)=true then ny w (eA w.az s) 32 else[]
theorem Rc{w:cP}(h:fK w=true):∀ p∈w.az,∃ x,w.cI[p.host.toNat]?=some x/\0<=p.host/\lU w p=x.owner/\0<=x.owner/\x.owner<32:=fun p hp=>by
 obtain⟨h1,h2,-⟩:=Qo.1 h;obtain⟨-,h3,-⟩:=Qn.1 h2;have h4:=h3 p hp;simp only[ku,Bool.and_eq_true,decide_eq_true_eq]at h4;obtain⟨x,hx⟩:=bd (l:=w.cI) (k:=p.host.toNat) (by omega);simp only[jk,Bool.and_eq_true,decide_eq_true_eq,List.all_eq_true]at h1;have h5:=h1.1.2 x (List.mem_of_getElem? hx);simp only[mv,Bool.and_eq_true,decide_eq_true_eq]at h5;exact⟨x,hx,h4.1.1,by rw[lU,hx],h5.1.1.2,h5.1.2⟩
theorem Re{l:List aR}{s:Text}(H:eG l)(hl:l.length<=4000):(eA l s).length<=2000000000:=by
 rw[eA,<- I6];exact Nat.le_trans (I8 fun z hz=>(I7 H (s:=s) (i:=(eH l s).length) z (by rw[List.take_length];exact hz)).1) (Q7 H hl)
theorem aa0(w:cP)(s:Text)(hf:w.Fits)(hh:w.hints.length<=1000000)(eZ:s.length<=maxLen):au E 14 [w.enc,.str s] (· = .aJ [DV.sl ((pt w s).map (.int .i64)),.int .i64 (jK w s)]):=by
 have c0:=Q8 w s hf hh eZ;by_cases hv:(fK w&&Nm.valid s)=true
 case neg =>
  have e1:kv w s=[]:=if_neg hv;have e2:jK w s=1:=if_neg hv;have e3:pt w s=[]:=if_neg hv;rw[e1,e2]at c0;rw[e2,e3];refine au.norm ?_;refine eP F14 ?_;refine aj (c0) ?_;refine gO F14 ?_;refine aI (by decide) ?_;refine gO F14 ?_;rfl
 have e1:kv w s=eA w.az s:=if_pos hv;have e2:jK w s=0:=if_pos hv;have e3:pt w s=ny w (eA w.az s) 32:=if_pos hv;simp only[Bool.and_eq_true]at hv;obtain⟨H,hl⟩:=tH hv.1;have DU:=Rc hv.1;have aH:eA w.az s≠[]:=fun e=>by
  have:=DE (s:=s) H;rw[e]at this;cases this
 have fT:(eA w.az s).length<=2147483648:=Nat.le_trans (Re H hl) (by decide);have e4:nx (eA w.az s)=.sl ((eA w.az s).map .str):=if_neg aH;rw[e1,e2,e4]at c0;rw[e2,e3];generalize eA w.az s=zs at *;refine eP F14 ?_;refine aj (c0) ?_;refine gO F14 ?_;refine aO (by decide) ?_;(conv=>whnf);repeat ((fail_if_success (first|(refine aa.jV 8 (3,1) (by decide) rfl ?_)|fail));(refine aa.run ag F14 1 ?_);(conv=>whnf))
 refine aa.jV 8 (3,1) (by decide) rfl ?_;(conv=>whnf);refine gO F14 ?_;refine aa.loop (κ:=Nat) (rg 8 4++rg 21 43) (fun o=>[(9,.d (.int .i64 o)),(8,.own 1 1)]) (fun o=>[(1,.arr 1 (3,1) ((ny w zs o).map (.int .i64)))]) (fun o=>o<=32) (fun o=>32-o) 0 (Nat.zero_le _) ?_ ?_
 ·(conv=>whnf);repeat (first|exact trivial|(refine sI ?_;conv=>whnf))
  refine And.intro rfl ?_;exact sZ
 intro o ho IO;have bw:=aaU (w:=w) (zs:=zs) (k:=o);have wE:=Q9 (w:=w) (zs:=zs) (k:=o);refine aa.head ag F14 2000 ?_;(conv=>whnf);refine ar (fun h5=>?_) (fun h5=>?_)
 ·have ve:o<32:=by have:=of_decide_eq_true h5;omega
  refine gO F14 ?_;refine aa.loop (κ:=Nat) ([10,11]++rg 25 34) (fun i=>[(11,.d (.int .i64 i)),(10,.d (.bool (r8 w zs o i)))]) (fun _=>[]) (fun i=>i<=w.az.length) (fun i=>w.az.length-i) 0 (Nat.zero_le _) ?_ ?_
  ·(conv=>whnf);repeat (first|exact trivial|(refine sI ?_;conv=>whnf))
   refine And.intro (by simp[r8]) ?_;exact sZ
  intro i hi II;refine aa.head ag F14 2000 ?_;(conv=>whnf);refine ar (fun h6=>?_) (fun h6=>?_)
  ·have ai:i<w.az.length:=by simpa using h6
   obtain⟨p,hp⟩:=bd ai;obtain⟨x,hx,q1,q2,q3,q4⟩:=DU p (List.mem_of_getElem? hp);have vY:=aaR (zs:=zs) (o:=(o:Int)) hp;have c1:=DM zs p.aE.ad fT;generalize r8 w zs o i=b at vY ⊢;cases b
   ·refine gO F14 ?_;refine aa.draw ag bN 28 2000 (by kernel_rfl) ?_;(conv=>whnf);refine aY ?_;refine gD ?_;refine aC (e:=p.enc) (aS hp) rfl ?_;refine gD ?_;refine aC (e:=x.enc) ⟨q1,by rw[List.getElem?_map,hx];rfl⟩ rfl ?_;refine gD ?_;by_cases g:x.owner=(o:Int)
    ·refine aI (by simpa using g) ?_;refine gD ?_;refine aC (e:=p.enc) (aS hp) rfl ?_;refine gD ?_;refine bj (c1) ?_;refine gD ?_;refine gS ?_;refine gO F14 ?_;rw[q2,g,decide_eq_true rfl,Bool.true_and,Bool.false_or]at vY;refine aa.back (II (i+1) (by omega) (by omega)) ?_;rw[vY];exact sZ
    ·refine aO (by simpa using g) ?_;refine gD ?_;refine gS ?_;refine gO F14 ?_;rw[q2,decide_eq_false g,Bool.false_and,Bool.false_or]at vY;refine aa.back (II (i+1) (by omega) (by omega)) ?_;rw[vY];exact sZ
   ·refine gO F14 ?_;refine aa.draw ag bN 28 2000 (by kernel_rfl) ?_;(conv=>whnf);refine bp ?_;refine gD ?_;refine gS ?_;refine gO F14 ?_;rw[Bool.true_or]at vY;refine aa.back (II (i+1) (by omega) (by omega)) ?_;rw[vY];exact sZ
  ·have aG:w.az.length<=i:=by simpa using h6
   have aW:=aaS (zs:=zs) (o:=(o:Int)) aG;refine gO F14 ?_;rw[aW];by_cases hb:r9 w zs o=true
   ·rw[if_pos hb]at bw;refine aI hb ?_;refine gO F14 ?_;refine bA ⟨by simp;omega,by simp[DV.cells]⟩ ?_;refine gO F14 ?_;refine aa.back (IO (o+1) (by omega) (by omega)) ?_;rw[bw];(conv=>whnf);repeat (first|exact trivial|(refine sI ?_;conv=>whnf))
    refine And.intro (by simp) ?_;exact sZ
   ·rw[if_neg hb,List.append_nil]at bw;refine aO (by simpa using hb) ?_;refine gO F14 ?_;refine aa.back (IO (o+1) (by omega) (by omega)) ?_;rw[bw];exact sZ
 ·have aG:o=32:=by have:=of_decide_eq_false h5;omega
  subst aG;refine gO F14 ?_
  with_reducible rfl
end Go.Proofs.YtcmnpelmmekdkaaGreatDoor.P
end
section
namespace Go.Proofs.YtcmnpelmmekdkaaGreatDoor.P
open Go Go.aA
set_option maxRecDepth 100000
section
variable {α:Type} [DecidableEq α] {en:α->DV}
theorem Rf(hk:∀ a b,eW (en a) (en b)=decide (a=b)){x:α}:∀ {l:List α},x∈l->cx (en x) (.bool true) (l.map fun a=>(en a,DV.bool true))=l.map fun a=>(en a,DV.bool true)
 |[],h=>by simp at h
 |y::l,h=>by
  show cx (en x) (.bool true) ((en y,DV.bool true)::l.map fun a=>(en a,DV.bool true))=_;simp only[cx,hk];by_cases e:y=x
  ·subst e;simp
  ·have hm:x∈l:=(List.mem_cons.1 h).resolve_left fun q=>e q.symm;have:=Rf hk hm;first
    |rw[if_neg (by simpa using e),this];rfl
    |rw[if_neg (by simpa using fun q=>e q.symm),this];rfl
theorem Rg(hk:∀ a b,eW (en a) (en b)=decide (a=b)){x:α}:∀ {l:List α},x ∉ l->cx (en x) (.bool true) (l.map fun a=>(en a,DV.bool true))=(l++[x]).map fun a=>(en a,DV.bool true)
 |[],h=>rfl
 |y::l,h=>by
  have h1:y≠x:=fun e=>h (e ▸ List.mem_cons_self ..);have h2:x ∉ l:=fun e=>h (List.mem_cons_of_mem _ e);show cx (en x) (.bool true) ((en y,DV.bool true)::l.map fun a=>(en a,DV.bool true))=_;have:=Rg hk h2;simp only[cx,hk];first
   |rw[if_neg (by simpa using h1),this];rfl
   |rw[if_neg (by simpa using fun q=>h1 q.symm),this];rfl
theorem Rh(hk:∀ a b,eW (en a) (en b)=decide (a=b))(l:List α):gb en l=(fR [] l).map fun a=>(en a,DV.bool true):=by
 have main:∀ (n:Nat),gb en (l.take n)=(fR [] (l.take n)).map fun a=>(en a,DV.bool true):=by
  intro n
  induction n with
  |zero=>rfl
  |succ n ih =>
   cases h:l[n]? with
   |none =>
    have:l.length<=n:=by simpa using h
    rw[List.take_of_length_le (by omega),<- List.take_of_length_le this];exact ih
   |some x =>
    rw[O8 h,ih,dW h,O9];split
    ·rename_i hm;exact Rf hk hm
    ·rename_i hm;exact Rg hk hm
 have:=main l.length
 rwa [List.take_length]at this
end
section
variable {α:Type}
def kX(xs:List α)(seen:List Nat):List α:=seen.filterMap fun j=>xs[j]?
theorem Jg{xs:List α}{seen:List Nat}{j:Nat}{a:α}(h:xs[j]?=some a):kX xs (seen++[j])=kX xs seen++[a]:=by
 rw[kX,List.filterMap_append];simp[kX,h]
theorem Ri{xs:List α}{seen:List Nat}:(kX xs seen).length<=seen.length:=List.length_filterMap_le ..
theorem aa1(xs:List α):kX xs (List.range xs.length)=xs:=by
 have main:∀ (n:Nat),n<=xs.length->kX xs (List.range n)=xs.take n:=by
  intro n
  induction n with
  |zero=>intro _;simp[kX]
  |succ n ih =>
   intro h;obtain⟨a,ha⟩:=bd (l:=xs) (k:=n) (by omega);rw[List.range_succ,Jg ha,ih (by omega),dW ha]
 rw[main _ (Nat.le_refl _),List.take_length]
theorem Rj{xs:List α}{seen:List Nat}(hn:seen.Nodup)(ai:∀ j∈seen,j<xs.length)(aW:∀ j,j<xs.length->j∈seen):(kX xs seen).Perm xs:=by
 have h:seen.Perm (List.range xs.length):=(List.perm_ext_iff_of_nodup hn List.nodup_range).2 fun j=>by
  rw[List.mem_range];exact⟨ai j,aW j⟩
 have:=h.filterMap (fun j=>xs[j]?);have e:=aa1 xs;unfold kX at e;rw[e]at this;exact this
theorem DW{xs:List α}{seen:List Nat}(hn:seen.Nodup)(ai:∀ j∈seen,j<xs.length):seen.length<=xs.length:=by
 have:=xY hn (U:=List.range xs.length) fun j hj=>List.mem_range.2 (ai j hj)
 simpa using this
end
end Go.Proofs.YtcmnpelmmekdkaaGreatDoor.P
end
section
namespace Go.Proofs.YtcmnpelmmekdkaaGreatDoor.P
open Go Go.aA Go.Sort Go.RowKit
set_option maxRecDepth 100000
set_option maxHeartbeats 4000000
theorem Jq(a b:Text)(ha:Nm.valid a=true)(hb:Nm.valid b=true):au E 36 [.str a,.str b] (· = .int .i64 (bq a b)):=by
 have c1:=C0 a b ha hb;refine eP Tryz.func36 ?_;refine aj (c1) ?_;refine gO Tryz.func36 ?_
 with_reducible rfl
theorem abC(x y:bR)(hx:Bd x)(hy:Bd y):au E 130 [x.enc,y.enc] (· = .int .i64 (tL x y)):=by
 obtain⟨⟨xn,xt⟩,xo⟩:=x;obtain⟨⟨yn,yt⟩,yo⟩:=y;have c1:=Jq xn yn hx.1 hy.1;have c2:=zV xt yt;have c3:=Jq xo yo hx.2 hy.2;show au E _ [DV.agg [.str xn,.int .i64 xt,.str xo],DV.agg [.str yn,.int .i64 yt,.str yo]] _;refine eP Tryz.func130 ?_;refine aa.draw ag bN 22 2000 (by kernel_rfl) ?_;conv=>whnf
 with_reducible refine bj (c1) ?_
 refine gD ?_
 with_reducible refine bj (c2) ?_
 refine gD ?_
 with_reducible refine bj (c3) ?_
 refine gD ?_;refine bj (Mz [bq xn yn,gF xt yt,bq xo yo] (by simp)) ?_;refine gD ?_;refine gS ?_;refine gO Tryz.func130 ?_;rfl
theorem abD:Jm Tryz.prog 129 130 3 Rv:=fun n enc cf hk h1 hO blk cap d w hc hH hblk bS=>by
 have eg:∀ args w,(callFunc 130 args).run Tryz.prog w=.ok (.enter 130 args) w:=enters_of Tryz.func130 (by kernel_rfl) rfl;exact AnyQ.slices_SortFunc Tryz.Rz 3 Tryz.isAgg189 Tryz.sizeOf189 enc hk h1 cf hO 130 #[] blk 0 cap d w eg (fun m os dk hs x y=>hc m os dk hs x y) hH hblk bS
theorem abE:Jo Tryz.prog 74 36:=fun n enc cf h1 hO blk cap d w hc hH hblk bS=>by
 have eg:∀ args w,(callFunc 36 args).run Tryz.prog w=.ok (.enter 36 args) w:=enters_of Tryz.func36 (by kernel_rfl) rfl;exact Any.slices_SortFunc Tryz.abB enc h1 cf hO 36 #[] blk 0 cap d w eg (fun m os dk hs x y=>hc m os dk hs x y) hH hblk bS
def RA(x y:DV):Int:=match x,y with
 | .agg [.str a,.int _ b,.str c],.agg [.str d,.int _ e,.str f]=>tL ⟨⟨a,b⟩,c⟩ ⟨⟨d,e⟩,f⟩
 |_,_=>0
theorem sb(x y:bR):RA x.enc y.enc=tL x y:=rfl
theorem abF{x y z:bR}(h1:¬ dA x y=true)(h2:¬ dA y z=true):¬ dA x z=true:=fun h=>by
 by_cases e:x=y
 ·subst e;exact h2 h
 ·have h3:=Dv x y e (by simpa using h1);exact h2 (x8 _ _ _ h3 h)
theorem abG(l:List bR)(hl:l≠[])(hlen:l.length<4611686018427387904)(hv:∀ x∈l,Bd x) :
  aB E 129 [.arr 0 (189,3) (l.map bR.enc)] [.own 0 0,.fn (.func 130) [] []] (fun a b=>a=.aJ []/\∃ l':List bR,l'.Perm l/\l'.Pairwise (fun x y=>¬ tL y x<0)/\b=[.arr 0 (189,3) (l'.map bR.enc)]):=by
 have h:=Rx (E:=E) (t:=189) bR.enc RA abD ⟨_,Tryz.func129,rfl,by decide⟩ l hl hlen (fun x hx=>rfl)
  ⟨fun x hx => by obtain⟨a, _, rfl⟩ := List.mem_map.1 hx;rw[sb, tM, Iu];simp,
   fun x hx y hy z hz => by obtain⟨a, _, rfl⟩ := List.mem_map.1 hx;obtain⟨b, _, rfl⟩ := List.mem_map.1 hy;obtain⟨c, _, rfl⟩ := List.mem_map.1 hz;rw[sb, sb, sb, tM, tM, tM];exact x8 _ _ _,
   fun x hx y hy z hz => by obtain⟨a, _, rfl⟩ := List.mem_map.1 hx;obtain⟨b, _, rfl⟩ := List.mem_map.1 hy;obtain⟨c, _, rfl⟩ := List.mem_map.1 hz;rw[sb, sb, sb, tM, tM, tM];exact abF⟩
  (fun x hx=>abt _)
  (fun x hx y hy=>by rw[sb];exact abC x y (hv x hx) (hv y hy))
 exact h.mono fun a b ⟨ha,l',hp,hs,hb⟩=>⟨ha,l',hp,hs.imp fun{x y} h=>by rw[sb]at h;exact h,hb⟩
def abH(x y:DV):Int:=match x,y with
 | .str a,.str b=>bq a b
 |_,_=>0
theorem abI{x y z:Text}(h1:¬ bq x y<0)(h2:¬ bq y z<0):¬ bq x z<0:=fun h=>by
 by_cases e:x=y
 ·subst e;exact h2 h
 ·rcases AS e with h3|h3
  ·exact h1 h3
  ·exact h2 (o7 h3 h)
theorem abJ(l:List Text)(hl:l≠[])(hlen:l.length<4611686018427387904)(hv:∀ x∈l,Nm.valid x=true) :
  aB E 74 [.arr 0 (9,1) (l.map .str)] [.own 0 0,.fn (.func 36) [] []] (fun a b=>a=.aJ []/\∃ l':List Text,l'.Perm l/\l'.Pairwise (fun x y=>¬ bq y x<0)/\b=[.arr 0 (9,1) (l'.map .str)]):=by
 have h:=Rx (E:=E) (t:=9) DV.str abH abE.w ⟨_,Tryz.func74,rfl,by decide⟩ l hl hlen (fun x hx=>rfl)
  ⟨fun x hx => by obtain⟨a, _, rfl⟩ := List.mem_map.1 hx;show ¬ bq a a < 0;rw[jE];simp,
   fun x hx y hy z hz => by obtain⟨a, _, rfl⟩ := List.mem_map.1 hx;obtain⟨b, _, rfl⟩ := List.mem_map.1 hy;obtain⟨c, _, rfl⟩ := List.mem_map.1 hz;exact o7,
   fun x hx y hy z hz => by obtain⟨a, _, rfl⟩ := List.mem_map.1 hx;obtain⟨b, _, rfl⟩ := List.mem_map.1 hy;obtain⟨c, _, rfl⟩ := List.mem_map.1 hz;exact abI⟩
  (fun x hx=>abu _ rfl)
  (fun x hx y hy=>Jq x y (hv x hx) (hv y hy))
 exact h
theorem abK{g:FuncId}:aB E 129 [] [.d (.sl []),.fn (.func g) [] []] (fun a b=>a=.aJ []/\b=[]):=by
 unfold aB;refine⟨⟨_,Tryz.func129,rfl,by decide⟩,oO rfl,fun c vs h1 h2 h3=>?_⟩;obtain⟨v1,v2,rfl⟩:∃ v1 v2,vs=[v1,v2]:=by
  have:=h3.1
  match vs,this with
  |[a,b],_=>exact⟨a,b,rfl⟩
 have iP:=h3.2 0 _ v1 rfl rfl;obtain⟨p,cap,rfl⟩:∃ p cap,v1=.slice p 0 cap:=by
  cases iP with
  |d _ _ h=>cases h<;>exact⟨_,_,rfl⟩
 refine(AnyF.slices_SortFunc_none Tryz.Rz p cap v2 c.w).mono fun e w' ⟨a1,a2⟩=>?_;subst a2;exact⟨c,.aJ [],.tuple #[],a1,rfl,⟨rfl,h1⟩,.aJ [] #[] rfl (fun j x v hx=>by simp at hx),h2,Rel.refl c (by rw[h1];exact oO rfl)⟩
theorem abL(l:List DV)(hl:l.length<=2147483648)(hc:∀ e∈l,e.cells.length=3):au E 128 [.sl l] (· = .sl l):=by
 by_cases h:l=[]
 ·subst h;refine au.norm ?_;refine eP F128 ?_;refine aa.vH ag rfl rfl rfl rfl (bg rfl) (fun b hb=>?_);cases b
  ·refine gO F128 ?_;refine aY ?_;refine gO F128 ?_;refine bA ⟨by decide,fun e he=>by cases he⟩ ?_;refine gO F128 ?_;rfl
  ·refine gO F128 ?_;refine bp ?_;refine gO F128 ?_;rfl
 ·refine eP F128 ?_;refine aa.vH ag rfl rfl rfl rfl (bg rfl) (fun b hb=>?_);obtain rfl:b=false:=by
   cases b
   ·rfl
   ·exact absurd (hb rfl) h
  refine gO F128 ?_;refine aY ?_;refine gO F128 ?_;refine bA ⟨by simp;omega,hc⟩ ?_;refine gO F128 ?_;rfl
theorem abM(l:List DV)(h:l≠[])(hl:l.length<=2147483648)(hc:∀ e∈l,e.cells.length=3):aB E 128 [] [.d (.sl l)] (fun a b=>a=.own 0 1/\b=[.arr 1 (189,3) l]):=by
 refine aB.run ag (fn:=Tryz.f128) Tryz.func128 (body:=Tryz.f128.body.getD .skip) rfl (by decide) 2000 rfl ?_;(conv=>whnf);refine aa.vH ag rfl rfl rfl rfl (bg rfl) (fun b hb=>?_);obtain rfl:b=false:=by
  cases b
  ·rfl
  ·exact absurd (hb rfl) h
 refine gO F128 ?_;refine aY ?_;refine gO F128 ?_;refine bA ⟨by simp;omega,hc⟩ ?_;refine gO F128 ?_;exact⟨rfl,rfl⟩
theorem abN(Z:List Text):aB E 87 [] [.d (vW Z [])] (fun a b=>a=.fn (.func 133) [] [.ptr 1 0]/\b=[.cells [.d (.sl (Z.map .str)),.d (.sl [])],.cells [.d (.sl [])]]):=by
 have c1:=abL [] (by simp) (by simp);have c2:=abK (g:=130);show aB E _ [] [.d (DV.agg [.sl (Z.map .str),.sl []])] _;refine aB.run ag (fn:=Tryz.f87) Tryz.func87 (body:=Tryz.f87.body.getD .skip) rfl (by decide) 2000 rfl ?_;(conv=>whnf);refine aj (c1) ?_;refine gO Tryz.func87 ?_
 with_reducible refine bJ (c2) ?_
 refine gO Tryz.func87 ?_;exact⟨rfl,rfl⟩
theorem abO(Z:List Text)(F:List bR)(h0:F≠[])(hF:F.length<=1000000)(hv:∀ x∈F,Bd x):aB E 87 [] [.d (vW Z F)] (fun a b=>∃ L:List bR,(L.Perm F/\L.Pairwise fun x y=>¬ tL y x<0)/\a=.fn (.func 133) [] [.ptr 2 0]/\b=[.cells [.d (.sl (Z.map .str)),.d (.sl (F.map bR.enc))],.gone,.cells [.d (.sl (L.map bR.enc))]]):=by
 have c1:=abM (F.map bR.enc) (by simpa using h0) (by simp;omega) (fun e he=>by obtain⟨x,-,rfl⟩:=List.mem_map.1 he;rfl);have c2:=abG F h0 (by omega) hv;show aB E _ [] [.d (DV.agg [.sl (Z.map .str),.sl (F.map bR.enc)])] _;refine aB.run ag (fn:=Tryz.f87) Tryz.func87 (body:=Tryz.f87.body.getD .skip) rfl (by decide) 2000 rfl ?_;(conv=>whnf);refine lA (c1) rfl ?_;refine gO Tryz.func87 ?_
 with_reducible refine sJ (c2) ?_
 rintro r h1 ⟨e1,L,p1,p2,e2⟩;subst e1;subst e2;(conv=>whnf);refine aa.freeze 1 ?_;(conv=>whnf);refine gO Tryz.func87 ?_;exact⟨L,⟨p1,p2⟩,rfl,rfl⟩
end Go.Proofs.YtcmnpelmmekdkaaGreatDoor.P
end
section
namespace Go.Proofs.YtcmnpelmmekdkaaGreatDoor.P
open Go Go.aA
set_option maxRecDepth 100000
set_option maxHeartbeats 4000000
@[reducible] def ou (v : bu) : DV := .agg [.str v.name, .sl (v.az.map .str), .int .i64 v.before, .str v.bB.name, .int .i64 v.bB.type]
theorem RC{b:Int}{dp:List aM}{met:List Text}:∀ (B A:List bR),(cy met b dp A).length<=(cy met b dp (A++B)).length
 |[],A=>by simp
 |x::B,A=>by
  have h:=RC (b:=b) (dp:=dp) (met:=met) B (A++[x]);have e:=AR (b:=b) (dp:=dp) (x:=x) (L:=A) (met:=met);rw[List.append_assoc]at h;have:(cy met b dp A).length<=(cy met b dp (A++[x])).length:=by rw[e];simp
  exact Nat.le_trans this h
theorem abV{b:Int}{dp:List aM}{met:List Text}(L:List bR)(i:Nat):(cy met b dp (L.take i)).length<=(cy met b dp L).length:=by
 have:=RC (b:=b) (dp:=dp) (met:=met) (L.drop i) (L.take i)
 rwa [List.take_append_drop]at this
theorem RD{l:List aR}(H:eG l){s:Text}{done wait:List bu}(B:fS (ic l) s done wait):done.length+wait.length<=(univ l).length+1:=by
 have:=Is (U:=s::univ l) (List.mem_cons_self ..) (DB H s) B
 simpa using this
theorem RE(l:List aR)(s:Text)(hf:∀ p∈l,p.aE.Fits)(H:eG l)(hu:(univ l).length<=2000000000)(hs:Nm.valid s=true):aB E 41 [.map (mE l)] [.map 0,.d (.str s)] (fun a b=>a=.d (.sl ((eH l s).map ou))/\b=[.map (mE l)]):=by
 have c1:=fun t ht=>aav l t hf H ht;have c2:=abQ ⟨s,[],-1,⟨[],0⟩,[]⟩;generalize mE l=es at c1 ⊢;apply aB.kV
 case hk=>rfl
 refine aB.run ag (fn:=Tryz.f41) Tryz.func41 (body:=Tryz.f41.body.getD .skip) rfl (by decide) 2000 rfl ?_;(conv=>whnf);refine gO F41 ?_;refine aa.insert ag rfl ?_;(conv=>whnf);refine bA ⟨⟨_,rfl⟩,fun p hp=>by cases hp⟩ ?_;refine gO F41 ?_
 with_reducible refine bJ (c2) ?_
 refine gO F41 ?_;refine aa.tz 1 0 (96,5) (by decide) rfl rfl ?_;(conv=>whnf);refine aa.ZN (b:=4) (off:=0) (j:=6) rfl (by simp) rfl rfl ?_;(conv=>whnf);refine aa.abU (κ:=Nat × List bu × List bu × Nat × Option Nat × List DV) [4,8,9,10,11,12,19,20,21,22,23,24,25,26,27,28,29,30,31,32,33,34,35,36,37,38,41,42,43,44,45,46,47,48,49,50,51,52,53] (fun x=>[]) (fun x=>[(1,.cells [.own 7 1]),(7,.arr 1 (96,5) (x.2.1.map ou)),(2,.map (gb DV.str ((x.2.1++x.2.2.1).map bu.name))),(4,.cells [.cut 6 1 x.2.2.2.1 x.2.2.2.2.1]),(6,.arr 1 (96,5) x.2.2.2.2.2)]) (fun x=>fS (ic l) s x.2.1 x.2.2.1/\x.2.1.length+x.1=tF l/\eH l s=ph (ic l) x.1 x.2.1 x.2.2.1/\x.2.2.2.2.2.drop x.2.2.2.1=x.2.2.1.map gg/\x.2.2.2.2.2.length<=x.2.1.length+x.2.2.1.length) (fun x=>x.1) (tF l,[],[⟨s,[],-1,⟨[],0⟩,[]⟩],0,none,[gg ⟨s,[],-1,⟨[],0⟩,[]⟩]) ⟨fS.init,by simp,rfl,rfl,by simp⟩ rfl ?_ ?_
 ·(conv=>whnf);repeat (first|exact trivial|(refine sI ?_;conv=>whnf))
  refine And.intro rfl ?_;(conv=>whnf);repeat (first|exact trivial|(refine sI ?_;conv=>whnf))
  refine And.intro rfl ?_;exact sZ
 rintro D ⟨n,done,wait,k,q,lq⟩ ⟨B,hn,hv,hq,D4⟩ IH;simp only at B hn hv hq D4;have bW:=QW H hs B;have hlen:=RD H B;cases wait with
 |nil =>
  have c3:=aB.kV (abS k q lq hq) rfl;refine aa.head ag F41 2000 ?_;conv=>whnf
  with_reducible refine bJ (c3) ?_
  refine gO F41 ?_;refine aI (by decide) ?_;(conv=>whnf);refine aa.freeze 7 ?_;(conv=>whnf);refine aa.run ag F41 5 ?_;(conv=>whnf);have Q5:n≠0:=fun e=>by simp[tF]at hn;simp at hlen;omega
  obtain⟨n,rfl⟩:∃ m,n=m+1:=⟨n-1,by omega⟩;rw[hv];refine aa.Ht ag F41 rfl rfl rfl rfl (List.append_nil _).symm ?_;(conv=>whnf);exact⟨rfl,rfl⟩
 |cons v w =>
  have RF:=bW v (by simp);have c3:=aB.kV (abT k q lq v (w.map gg) hq) rfl;have c4:=c1 v.name RF;refine aa.head ag F41 2000 ?_;conv=>whnf
  with_reducible refine bJ (c3) ?_
  refine gO F41 ?_;refine aO (by decide) ?_;refine gO F41 ?_
  with_reducible refine bJ (c4) ?_
  refine gO F41 ?_;refine bA ⟨by simp;omega,by simp[DV.cells]⟩ ?_;refine gO F41 ?_;have Fc:=aaZ H RF;have gq:(lQ l v.name).length<=1000000:=Nat.le_trans (I4 H (s:=v.name) (n:=64) (ad:=[46])) (by decide);have pk:lq.drop (k+1)=w.map gg:=by have:=congrArg (List.drop 1) hq;simpa [List.drop_drop,Nat.add_comm]using this
  have B2:=B.next;have yW:=RD H B2
  obtain⟨n, rfl⟩ : ∃ m, n=m+1 := ⟨n-1, by have : n ≠ 0 := fun e => by simp[tF]at hn;simp at hlen;omega
                                          omega⟩
  rw[ph]at hv;obtain⟨met,tI⟩:∃ x,(done++v::w).map bu.name=x:=⟨_,rfl⟩;obtain⟨N,hN⟩:∃ x,cy ((done++v::w).map bu.name) done.length v.list (ic l v.name).2=x:=⟨_,rfl⟩;rw[hN]at hv B2 yW;rw[tI]at hN;rw[tI];have s6:((done.map ou).length:Int)=done.length:=by simp
  by_cases hF:lQ l v.name=[]
  ·have c5:=abN (dL l v.name 64 [46]).1;have hN0:N=[]:=by rw[<- hN,<- Rb (L:=[]) (by rw[hF]) List.Pairwise.nil];rfl
   subst hN0;rw[hF];refine lA (c5) rfl ?_;refine gO F41 ?_;refine aa.rangeFunc (bg rfl) Tryz.func133 rfl (by decide) rfl (fun ll d t=>?_);refine gO F133 ?_;refine aa.uW ?_;refine aa.run ag F133 2000 ?_;(conv=>whnf);refine aO (by decide) ?_;refine gO F133 ?_;refine aa.xR ag F133 rfl rfl rfl rfl (fun e=>nomatch e) ?_;(conv=>whnf);refine gO F41 ?_;refine aa.back (IH (_::D) (n,done++[{ v with az:=(ic l v.name).1 }],w++[],k+1,q,lq) ⟨B2,by simp;omega,hv,by rw[List.append_nil];exact pk,by simp at D4 ⊢;omega⟩ (by simp)) ?_;(conv=>whnf);repeat (first|exact trivial|(refine sI ?_;conv=>whnf))
   refine yj ?_ _;(conv=>whnf);repeat (first|exact trivial|(refine sI ?_;conv=>whnf))
   refine And.intro (congrArg _ (by rw[<- tI];simp)) ?_;(conv=>whnf);repeat (first|exact trivial|(refine sI ?_;conv=>whnf))
   refine And.intro (by simp;rfl) ?_;exact sZ
  ·have c5:=abO (dL l v.name 64 [46]).1 (lQ l v.name) hF gq Fc;refine wW (ds:=[vW (dL l v.name 64 [46]).1 (lQ l v.name)]) c5 ?_;rintro r h1 ⟨L,⟨p1,p2⟩,e1,e2⟩;subst e1;subst e2;have RG:N=cy met done.length v.list L:=by rw[<- hN,Rb p1 p2]
   have hle:∀ i,(cy met done.length v.list (L.take i)).length<=N.length:=fun i=>by rw[RG];exact abV L i
   have hLl:L.length<=1000000:=by rw[p1.length_eq];exact gq
   refine gO F41 ?_;refine aa.rangeFunc (bg rfl) Tryz.func133 rfl (by decide) rfl (fun ll d t=>?_);refine gO F133 ?_;refine aa.loop (κ:=Nat × Nat × Option Nat × List DV) [4,7,8,9,10,11,12,13,14,15,16,17,18] (fun x=>[(7,.d (.int .i64 x.1))]) (fun x=>[(2,.map (gb DV.str (met++(cy met done.length v.list (L.take x.1)).map bu.name))),(4,.cells [.cut 6 1 x.2.1 x.2.2.1]),(6,.arr 1 (96,5) x.2.2.2)]) (fun x=>x.1<=L.length/\x.2.2.2.drop x.2.1=(w++cy met done.length v.list (L.take x.1)).map gg/\x.2.2.2.length<=lq.length+(cy met done.length v.list (L.take x.1)).length) (fun x=>L.length-x.1) (0,k+1,q,lq) ⟨Nat.zero_le _,by simp[cy,pk],by simp⟩ ?_ ?_
   ·(conv=>whnf);repeat (first|exact trivial|(refine sI ?_;conv=>whnf))
    refine yj ?_ _;(conv=>whnf);repeat (first|exact trivial|(refine sI ?_;conv=>whnf))
    refine And.intro (congrArg _ (by simp[cy])) ?_;exact sZ
   rintro⟨i,k2,q2,Jr⟩ ⟨hi,mh,dC⟩ IL;simp only at hi mh dC;refine aa.head ag F133 2000 ?_;(conv=>whnf);refine ar (fun h6=>?_) (fun h6=>?_)
   ·have ai:i<L.length:=by simpa using h6
    obtain⟨x,hx⟩:=bd ai;have bw:=AR (b:=done.length) (dp:=v.list) (x:=x) (L:=L.take i) (met:=met);rw[<- dW hx]at bw;have hMi:=hle i;generalize cy met done.length v.list (L.take i)=M at mh dC bw hMi ⊢;obtain⟨pG,A3⟩:=Dg rS (met++M.map bu.name) x.other;have eJ:=yd (tC rS (met++M.map bu.name)).1;refine gO F133 ?_;refine aC (e:=x.enc) (aS hx) rfl ?_;refine gO F133 ?_;refine aa.yield 0 rfl rfl rfl (bg rfl) (mw (bg rfl) (bg rfl)) rfl ?_;(conv=>whnf);refine gO F41 ?_;refine aa.begin 0 rfl rfl rfl ?_;(conv=>whnf);refine gO F41 ?_;refine mb (.bool false) (.bool false) ⟨_,rfl⟩ eJ (fun w=>by kernel_rfl) (fun _ _ => .bool _) pG A3 ?_;refine gO F41 ?_;by_cases hm:x.other∈met++M.map bu.name
    ·rw[if_pos hm,List.append_nil]at bw;refine aO (by simp[hm]) ?_;refine gO F41 ?_;refine aa.Ay 0 rfl rfl rfl ?_;(conv=>whnf);refine gO F133 ?_;refine aO (by decide) ?_;refine gO F133 ?_;refine aa.back (IL (i+1,k2,q2,Jr) ⟨by simp only;omega,by simp only;rw[bw];exact mh,by simp only;rw[bw];exact dC⟩ (by simp only;omega)) ?_;rw[bw];(conv=>whnf);repeat (first|exact trivial|(refine sI ?_;conv=>whnf))
     refine yj ?_ _;exact sZ
    ·rw[if_neg hm]at bw;refine aI (by simp[hm]) ?_;refine gO F41 ?_;refine bA ⟨⟨_,rfl⟩,eJ⟩ ?_;refine gO F41 ?_;refine sJ (abR ⟨x.other,[],_,x.bB,v.list++[x.bB]⟩ k2 q2 Jr (by simp at D4 hlen yW;omega)) ?_;rintro r h1 ⟨k3,q3,RH,⟨e1,e2,e3⟩,e4,e5⟩;subst e4;subst e5;(conv=>whnf);refine gO F41 ?_;refine aa.Ay 0 rfl rfl rfl ?_;(conv=>whnf);refine gO F133 ?_;refine aO (by decide) ?_;refine gO F133 ?_;have mU:RH.drop k3=(w++cy met done.length v.list (L.take (i+1))).map gg:=by
      rw[bw,e1,mh];have hw:IntKind.i64.wrap (((done.map ou++[DV.agg [.str v.name,.sl ((dL l v.name 64 [46]).1.map .str),.int .i64 v.before,.str v.bB.name,.int .i64 v.bB.type]]).length:Int)-1)=(done.length:Int):=by
       rw[wrap64 (by simp<;>omega) (by simp at hlen ⊢;omega)];simp
      show List.map gg (w++M)++[gg ⟨x.other,[],IntKind.i64.wrap (((done.map ou++[DV.agg [.str v.name,.sl ((dL l v.name 64 [46]).1.map .str),.int .i64 v.before,.str v.bB.name,.int .i64 v.bB.type]]).length:Int)-1),x.bB,v.list++[x.bB]⟩]=_;rw[hw];simp
     refine aa.back (IL (i+1,k3,q3,RH) ⟨by simp only;omega,mU,by simp only;rw[bw];simp;omega⟩ (by simp only;omega)) ?_;rw[bw];(conv=>whnf);repeat (first|exact trivial|(refine sI ?_;conv=>whnf))
     refine yj ?_ _;(conv=>whnf);repeat (first|exact trivial|(refine sI ?_;conv=>whnf))
     refine And.intro (by rw[List.map_append,<- List.append_assoc];exact(AG _ _).symm) ?_;exact sZ
   ·have aG:L.length<=i:=by simpa using h6
    rw[List.take_of_length_le aG,<- RG]at mh dC ⊢;refine gO F133 ?_;refine aa.xR ag F133 rfl rfl rfl rfl (fun e=>nomatch e) ?_;(conv=>whnf);refine gO F41 ?_;refine aa.back (IH (_::D) (n,done++[{ v with az:=(ic l v.name).1 }],w++N,k2,q2,Jr) ⟨B2,by simp;omega,hv,mh,by simp at D4 dC ⊢;omega⟩ (by simp)) ?_;(conv=>whnf);repeat (first|exact trivial|(refine sI ?_;conv=>whnf))
    refine yj ?_ _;(conv=>whnf);repeat (first|exact trivial|(refine sI ?_;conv=>whnf))
    refine And.intro (congrArg _ (by rw[<- tI];simp)) ?_;(conv=>whnf);repeat (first|exact trivial|(refine sI ?_;conv=>whnf))
    refine And.intro (by simp;rfl) ?_;exact sZ
theorem RI(w:cP)(s:Text)(hf:∀ p∈w.az,p.aE.Fits)(H:eG w.az)(hl:w.az.length<=4000)(hs:Nm.valid s=true):aB E 33 [] [.d w.enc,.d (.str s)] (fun a b=>a=.map 1/\b=[yf w,.map (gb DV.str (fg (eH w.az s))),.cells (Qs w 0).dropLast,.map (jl w.az (nw w.az) w.az.length),.map (mE w.az)]):=by
 have c1:=Qy w hf H (by omega);have c2:=RE w.az s hf H (yh H hl) hs;have fC:=AT H s;have jO:=yh H hl;have rZ:∀ v∈eH w.az s,_:=fun v hv=>Bb H hv;generalize eH w.az s=V at *;generalize mE w.az=es at *;generalize jl w.az (nw w.az) w.az.length=rs at *;obtain⟨cI,l,anchor,hints⟩:=w;show aB E _ [] [.d (DV.agg [.sl (cI.map Host.enc),.sl (l.map aR.enc),.str anchor.name,.int .i64 anchor.type,.int .i64 anchor.kc,.sl (anchor.data.map Datum.enc),.sl (hints.map (.int .i64))]),.d (.str s)] _;refine aB.run ag (fn:=Tryz.f33) Tryz.func33 (body:=Tryz.f33.body.getD .skip) rfl (by decide) 2000 rfl ?_;(conv=>whnf);refine gO F33 ?_;refine lA (c1) rfl ?_;refine gO F33 ?_
 with_reducible refine bJ (c2) ?_
 refine gO F33 ?_;refine aa.loop (κ:=Nat) ([7,9]++rg 16 15) (fun i=>[(16,.d (.int .i64 i))]) (fun i=>[(1,.map (gb DV.str (fg (V.take i))))]) (fun i=>i<=V.length) (fun i=>V.length-i) 0 (Nat.zero_le _) ?_ ?_
 ·(conv=>whnf);repeat (first|exact trivial|(refine sI ?_;conv=>whnf))
  refine And.intro rfl ?_;exact sZ
 intro i hi IH;refine aa.head ag F33 2000 ?_;(conv=>whnf);refine ar (fun h5=>?_) (fun h5=>?_)
 ·have ai:i<V.length:=by simpa using h5
  obtain⟨v,hv⟩:=bd ai;have bw:=Q2 hv;obtain⟨z1,z2,z3⟩:=rZ v (List.mem_of_getElem? hv);refine gO F33 ?_;refine aC (e:=ou v) (aS hv) rfl ?_;refine gO F33 ?_;refine aa.loop (κ:=Nat) ([9]++rg 23 7) (fun k=>[(23,.d (.int .i64 k))]) (fun k=>[(1,.map (gb DV.str (fg (V.take i)++v.az.take k)))]) (fun k=>k<=v.az.length) (fun k=>v.az.length-k) 0 (Nat.zero_le _) ?_ ?_
  ·(conv=>whnf);repeat (first|exact trivial|(refine sI ?_;conv=>whnf))
   refine And.intro (by simp) ?_;exact sZ
  intro k hk IK;refine aa.head ag F33 2000 ?_;(conv=>whnf);refine ar (fun h6=>?_) (fun h6=>?_)
  ·have ki:k<v.az.length:=by simpa using h6
   obtain⟨z,hz⟩:=bd ki;have eJ:=yd (tC rS (fg (V.take i)++v.az.take k)).1;have tK:gb DV.str (fg (V.take i)++v.az.take (k+1))=cx (.str z) (.bool true) (gb DV.str (fg (V.take i)++v.az.take k)):=by rw[dW hz,<- List.append_assoc,AG]
   generalize gb DV.str (fg (V.take i)++v.az.take k)=KZ at eJ tK ⊢;refine gO F33 ?_;refine aC (e := .str z) (aS hz) rfl ?_;refine gO F33 ?_;refine bA ⟨⟨_,rfl⟩,eJ⟩ ?_;refine gO F33 ?_;refine aa.back (IK (k+1) (by omega) (by omega)) ?_;rw[tK];exact sZ
  ·have aG:v.az.length<=k:=by simpa using h6
   rw[List.take_of_length_le aG,<- bw];refine gO F33 ?_;refine aa.back (IH (i+1) (by omega) (by omega)) ?_;exact sZ
 ·have aG:V.length<=i:=by simpa using h5
  rw[List.take_of_length_le aG];refine gO F33 ?_;exact⟨rfl,rfl⟩
theorem D5{G:List (Nat × DV)}{s:List AV}:bh G s (.const (.slice none 0 0)) (.d .a7):=fun c a _ _ => .d _ _ .a7
theorem abY(es:List (DV × DV)):aB E 35 [.map es] [.map 0] (fun a b=>a=.fn (.func 75) [] [.ptr 1 0]/\b=[.map es,.cells [.map 0]]):=by
 refine aB.run ag (fn:=Tryz.f35) Tryz.func35 (body:=Tryz.f35.body.getD .skip) rfl (by decide) 2000 rfl ?_;(conv=>whnf);exact⟨rfl,rfl⟩
theorem Js(w:cP)(s:Text)(hf:w.Fits)(eZ:s.length<=maxLen):au E 11 [w.enc,.str s] (· = .aJ [nx (kv w s),.int .i64 (jK w s)]):=by
 have cw:=IV w hf;have cs:=nd s eZ;have fk:fK w=false\/Nm.valid s=false->kv w s=[]/\jK w s=1:=fun h=>by
  have:¬ (fK w&&Nm.valid s)=true:=by rcases h with h|h<;>simp[h]
  exact⟨if_neg this,if_neg this⟩
 cases h1:fK w
 ·obtain⟨e1,e2⟩:=fk (.inl h1);rw[h1]at cw;rw[e1,e2];refine eP F11 ?_;refine aj (cw) ?_;refine gO F11 ?_;refine bp ?_;refine gO F11 ?_;refine bp ?_;refine gO F11 ?_;rfl
 cases h2:Nm.valid s
 ·obtain⟨e1,e2⟩:=fk (.inr h2);rw[h1]at cw;rw[h2]at cs;rw[e1,e2];refine eP F11 ?_;refine aj (cw) ?_;refine gO F11 ?_;refine aY ?_;refine gO F11 ?_;refine aj (cs) ?_;refine gO F11 ?_;refine bp ?_;refine gO F11 ?_;rfl
 rw[h1]at cw;rw[h2]at cs;obtain⟨H,hl⟩:=tH h1;have e1:kv w s=eA w.az s:=if_pos (by simp[h1,h2]);have e2:jK w s=0:=if_pos (by simp[h1,h2]);have aH:eA w.az s≠[]:=fun e=>by
  have:=DE (s:=s) H;rw[e]at this;cases this
 have e3:nx (eA w.az s)=.sl ((eA w.az s).map .str):=if_neg aH;rw[e1,e2,e3];have c0:=RI w s hf.az H hl h2;have tN:=Rh rS (fg (eH w.az s));obtain⟨Z,hZ⟩:∃ x,fR [] (fg (eH w.az s))=x:=⟨_,rfl⟩;have tJ:∀ z,z∈Z↔z∈fg (eH w.az s):=fun z=>by rw[<- hZ,AH];simp
 have yg:Z.Nodup:=by rw[<- hZ];exact HW List.nodup_nil
 rw[hZ]at tN;rw[tN]at c0;clear tN hZ;have fT:Z.length<=2000000000:=by
  have h:=Re (s:=s) H hl;exact Nat.le_trans (xY yg fun x hx=>vR.2 ((tJ x).1 hx)) h
 have y7:∀ z∈Z,Nm.valid z=true:=fun z hz=>Zx H z (vR.2 ((tJ z).1 hz));obtain⟨es,v7⟩:∃ es,(Z.map fun a=>(DV.str a,DV.bool true))=es:=⟨_,rfl⟩;rw[v7]at c0;refine eP F11 ?_;refine aj (cw) ?_;refine gO F11 ?_;refine aY ?_;refine gO F11 ?_;refine aj (cs) ?_;refine gO F11 ?_;refine aY ?_;refine gO F11 ?_;refine wW (ds:=[w.enc,.str s]) c0 ?_;rintro r b ⟨rfl,rfl⟩;refine gO F11 ?_
 with_reducible refine bJ (abY es) ?_
 (conv=>whnf);repeat ((fail_if_success (first|(refine aa.oe (fn:=Tryz.f34) rfl rfl fz (mw (bg rfl) fz) Tryz.func34 rfl (by decide) ?_)|fail));(refine aa.run ag F11 1 ?_);(conv=>whnf))
 refine aa.oe (fn:=Tryz.f34) rfl rfl fz (mw (bg rfl) fz) Tryz.func34 rfl (by decide) ?_;(conv=>whnf);(conv=>whnf);repeat ((fail_if_success (first|(refine aa.oe (fn:=Tryz.f73) rfl rfl fz (kq (bg rfl)) Tryz.func73 rfl (by decide) ?_)|fail));(refine aa.run ag Tryz.func34 1 ?_);(conv=>whnf))
 refine aa.oe (fn:=Tryz.f73) rfl rfl fz (kq (bg rfl)) Tryz.func73 rfl (by decide) ?_;(conv=>whnf);(conv=>whnf);repeat ((fail_if_success (first|(refine aa.oe (fn:=Tryz.f113) rfl rfl fz (mw D5 (bg rfl)) Tryz.func113 rfl (by decide) ?_)|fail));(refine aa.run ag Tryz.func73 1 ?_);(conv=>whnf))
 refine aa.oe (fn:=Tryz.f113) rfl rfl fz (mw D5 (bg rfl)) Tryz.func113 rfl (by decide) ?_;(conv=>whnf);(conv=>whnf);(conv=>whnf);repeat ((fail_if_success (first|(refine aa.tz 7 0 (9,1) (by decide) rfl rfl ?_)|fail));(refine aa.run ag F113 1 ?_);(conv=>whnf))
 refine aa.tz 7 0 (9,1) (by decide) rfl rfl ?_;(conv=>whnf);(conv=>whnf);repeat ((fail_if_success (first|(refine aa.rangeFunc (bg rfl) Tryz.func75 rfl (by decide) rfl (fun ll d t=>?_))|fail));(refine aa.run ag F113 1 ?_);(conv=>whnf))
 refine aa.rangeFunc (bg rfl) Tryz.func75 rfl (by decide) rfl (fun ll d t=>?_);(conv=>whnf);(conv=>whnf);repeat ((fail_if_success (first|(refine aa.range ag rfl rfl rfl rfl (bg rfl) rfl (Nat.zero_le _) (fun it rh kz rP=>?_))|fail));(refine aa.run ag F75 1 ?_);(conv=>whnf))
 refine aa.range ag rfl rfl rfl rfl (bg rfl) rfl (Nat.zero_le _) (fun it rh kz rP=>?_);(conv=>whnf);obtain⟨bm,r,en,ck,since,seen,er⟩:=it;simp only at rh kz rP;subst rh;subst kz;refine gO F75 ?_;refine aa.OF (κ:=List Nat) ([1,4]++[3,6,7,8,9,10,11,12,13]) (fun _=>[]) (fun x=>[(6,.gone),(7,.cells [.own 8 1]),(8,.arr 1 (9,1) ((kX Z x).map .str))]) (fun x=>[.iter ⟨bm,r,en,ck,since,x,er⟩]) (fun x=>x.Nodup/\∀ j∈x,j<Z.length) (fun x=>Z.length-x.length) [] ⟨List.nodup_nil,fun j hj=>by cases hj⟩ rfl ?_ ?_
 ·(conv=>whnf);repeat (first|exact trivial|(refine sI ?_;conv=>whnf))
  refine And.intro rfl ?_;exact sZ
 rintro seen ⟨pa,v8⟩ IH;have oo:=Ri (xs:=Z) (seen:=seen);have abZ:=DW pa v8;refine aa.head ag F75 2000 ?_;(conv=>whnf);refine aa.next (it:=⟨bm,r,en,ck,since,seen,er⟩) (g1:=[]) (g2:=[]) rfl rfl rP rfl (bg rfl) (fun aW=>?_) (fun j kk y hj fZ=>?_)
 ·refine gO F75 ?_;refine aY ?_;refine gO F75 ?_;refine aa.xR ag F75 rfl rfl rfl rfl (fun e=>nomatch e) ?_;(conv=>whnf);have nA:(kX Z seen).Perm Z:=Rj pa v8 fun j hj=>aW j (by rw[<- v7];simpa using hj);generalize kX Z seen=K at nA oo ⊢;have ab0:K≠[]:=fun e=>by
   subst e;have Gf:Z=[]:=List.nil_perm.1 nA;have:=(tJ [46]).2 (vR.1 (DE H));rw[Gf]at this;cases this
  have c3:=abJ K ab0 (by rw[nA.length_eq];omega) (fun x hx=>y7 x (nA.mem_iff.1 hx));(conv=>whnf);repeat ((fail_if_success (first|(refine aa.og ag F113 rfl rfl rfl (L:=[]) rfl ?_)|fail));(refine aa.run ag F113 1 ?_);(conv=>whnf))
  refine aa.og ag F113 rfl rfl rfl (L:=[]) rfl ?_;(conv=>whnf);(conv=>whnf);repeat ((fail_if_success (first|(refine aa.og ag Tryz.func73 rfl rfl rfl (L:=[]) rfl ?_)|fail));(refine aa.run ag Tryz.func73 1 ?_);(conv=>whnf))
  refine aa.og ag Tryz.func73 rfl rfl rfl (L:=[]) rfl ?_;(conv=>whnf);refine gO Tryz.func34 ?_
  with_reducible refine sJ (c3) ?_
  rintro r b ⟨rfl,L,p1,p2,rfl⟩;(conv=>whnf);(conv=>whnf);repeat ((fail_if_success (first|(refine aa.og ag Tryz.func34 rfl rfl rfl (L:=[]) rfl ?_)|fail));(refine aa.run ag Tryz.func34 1 ?_);(conv=>whnf))
  refine aa.og ag Tryz.func34 rfl rfl rfl (L:=[]) rfl ?_;(conv=>whnf);refine gO F11 ?_;rw[aaX yg tJ (p1.trans nA) p2]
 ·obtain⟨z,hz,e⟩:∃ z,Z[j]?=some z/\(DV.str z,DV.bool true)=(kk,y):=by rw[<- v7]at hj;simpa using hj
  cases e;have mN:=aX hz;have Jt:=Jg (seen:=seen) hz;have fG:(seen++[j]).Nodup:=by
   rw[List.nodup_append];exact⟨pa,by simp,fun a ha b hb e=>by simp at hb;subst hb;subst e;exact fZ ha⟩
  have Bh:∀ i∈seen++[j],i<Z.length:=fun i hi=>by rcases List.mem_append.1 hi with h|h;exact v8 i h;simp at h;omega
  have Ju:=DW fG Bh;rw[List.length_append,List.length_singleton]at Ju;refine gO F75 ?_;refine bp ?_;refine gO F75 ?_;refine aa.entry (it:=⟨bm,r,en,ck,since,seen++[j],er⟩) (g1:=[]) (g2:=[]) (pre:=seen) (j:=j) rfl rfl rfl rfl hj (bg rfl) ?_;(conv=>whnf);repeat ((fail_if_success (first|(refine aa.yield 0 rfl rfl rfl (bg rfl) (kq (bg rfl)) rfl ?_)|fail));(refine aa.run ag F75 1 ?_);(conv=>whnf))
  refine aa.yield 0 rfl rfl rfl (bg rfl) (kq (bg rfl)) rfl ?_;(conv=>whnf);(conv=>whnf);repeat ((fail_if_success (first|(refine aa.begin 0 rfl rfl rfl ?_)|fail));(refine aa.run ag F113 1 ?_);(conv=>whnf))
  refine aa.begin 0 rfl rfl rfl ?_;(conv=>whnf);refine gO F113 ?_;refine bA ⟨by simp;omega,by simp[DV.cells]⟩ ?_;refine gO F113 ?_;refine aa.Ay 0 rfl rfl rfl ?_;(conv=>whnf);refine gO F75 ?_;refine aO (by decide) ?_;refine gO F75 ?_;refine aa.back (IH (seen++[j]) ⟨fG,Bh⟩ (by simp;omega)) ?_;(conv=>whnf);repeat (first|exact trivial|(refine sI ?_;conv=>whnf))
  refine And.intro (by rw[Jt];simp) ?_;exact sZ
end Go.Proofs.YtcmnpelmmekdkaaGreatDoor.P
end
section
namespace Go.Proofs.YtcmnpelmmekdkaaGreatDoor.P
open Go Go.aA Go.Sort
set_option maxRecDepth 100000
set_option maxHeartbeats 4000000
theorem ab6{w:cP}{zs:List Text}{K:List Int}(hK:K.Nodup)(hm:∀ o,o∈K↔∃ p∈w.az,lU w p=o/\p.aE.ad∈zs)(hr:∀ p∈w.az,0<=lU w p/\lU w p<32):jL K=ny w zs 32:=by
 refine Dt (lt:=fun a b:Int=>decide (a<b)) (fun a=>by simp) (fun a b c h k=>by simp at *;omega) ?_ aaW fun o=>?_
 ·have h1:=ab1 K;have h2:(jL K).Nodup:=(D6 K).nodup_iff.2 hK;rw[List.nodup_iff_pairwise_ne]at h2;exact(h1.and h2).imp fun{a b} h=>by simp;omega
 ·rw[(D6 K).mem_iff,hm,aaV,aaT];constructor
  ·rintro⟨p,h1,h2,h3⟩;have:=hr p h1;exact⟨by rw[<- h2];exact this,p,h1,h2,h3⟩
  ·exact fun h=>h.2
theorem ab7:aB E 82 [.arr 0 (3,1) []] [.own 0 0] (fun a b=>a=.aJ []/\b=[.arr 0 (3,1) []]):=by
 unfold aB;refine⟨⟨_,Tryz.func82,rfl,by decide⟩,oO rfl,fun c vs h1 h2 h3=>?_⟩;obtain⟨v1,rfl⟩:∃ v1,vs=[v1]:=by
  have:=h3.1
  match vs,this with
  |[a],_=>exact⟨a,rfl⟩
 have dT:c.heap[0]?=some (.arr 0 (3,1) []):=by rw[h1];rfl
 obtain⟨p,cap,rfl⟩:∃ p cap,v1=.slice p 0 cap:=by
  rcases nK dT (h3.2 0 _ v1 rfl rfl)with⟨blk,cap,_,rfl⟩|⟨_,rfl,_⟩
  ·exact⟨_,cap,rfl⟩
  ·exact⟨_,_,rfl⟩
 refine(AnyM.slices_Sort_int_none Tryz.sortInt p cap c.w).mono fun e w' ⟨a1,a2⟩=>?_;subst a2;exact⟨c,.aJ [],.tuple #[],a1,rfl,⟨rfl,h1⟩,.aJ [] #[] rfl (fun j x v hx=>by simp at hx),h2,Rel.refl c (by rw[h1];exact oO rfl)⟩
theorem ab8(l:List Int)(hlen:l.length<4611686018427387904):aB E 82 [.arr 0 (3,1) (l.map (DV.int .i64))] [.own 0 0] (fun a b=>a=.aJ []/\b=[.arr 0 (3,1) ((jL l).map (DV.int .i64))]):=by
 by_cases h:l=[]
 ·subst h;have e:jL []=[]:=List.perm_nil.1 (D6 []);rw[e];exact ab7
 ·exact ab5 l h hlen
def nB(w:cP)(zs:List Text)(k:Nat):List Int:=((w.az.take k).filter fun p=>decide (p.aE.ad∈zs)).map (lU w)
theorem ab9{w:cP}{zs:List Text}{k:Nat}{p:aR}(h:w.az[k]?=some p):nB w zs (k+1)=if p.aE.ad∈zs then nB w zs k++[lU w p]else nB w zs k:=by
 rw[nB,dW h,List.filter_append,List.map_append];by_cases hp:p.aE.ad∈zs<;>simp[hp,nB]
theorem ab'{es:List (DV × DV)}(h:lO (DV.int .i64) es):∀ p∈es,ea E.T (.int .i64) p.1:=fun p hp=>by
 obtain⟨n,e⟩:=h p hp;rw[e];exact⟨_,rfl⟩
theorem aca(es:List (DV × DV)):aB E 40 [.map es] [.map 0] (fun a b=>a=.fn (.func 83) [] [.ptr 1 0]/\b=[.map es,.cells [.map 0]]):=by
 refine aB.run ag (fn:=Tryz.f40) Tryz.func40 (body:=Tryz.f40.body.getD .skip) rfl (by decide) 2000 rfl ?_;(conv=>whnf);exact⟨rfl,rfl⟩
theorem Jv(w:cP)(s:Text)(hf:w.Fits)(eZ:s.length<=maxLen):au E 13 [w.enc,.str s] (· = .aJ [.sl ((pt w s).map (.int .i64)),.int .i64 (jK w s)]):=by
 have cw:=IV w hf;have cs:=nd s eZ;have fk:fK w=false\/Nm.valid s=false->pt w s=[]/\jK w s=1:=fun h=>by
  have:¬ (fK w&&Nm.valid s)=true:=by rcases h with h|h<;>simp[h]
  exact⟨if_neg this,if_neg this⟩
 cases h1:fK w
 ·obtain⟨e1,e2⟩:=fk (.inl h1);rw[h1]at cw;rw[e1,e2];refine au.norm ?_;refine eP F13 ?_;refine aj (cw) ?_;refine gO F13 ?_;refine bp ?_;refine gO F13 ?_;refine bp ?_;refine gO F13 ?_;rfl
 cases h2:Nm.valid s
 ·obtain⟨e1,e2⟩:=fk (.inr h2);rw[h1]at cw;rw[h2]at cs;rw[e1,e2];refine au.norm ?_;refine eP F13 ?_;refine aj (cw) ?_;refine gO F13 ?_;refine aY ?_;refine gO F13 ?_;refine aj (cs) ?_;refine gO F13 ?_;refine bp ?_;refine gO F13 ?_;rfl
 rw[h1]at cw;rw[h2]at cs;obtain⟨H,hl⟩:=tH h1;have DU:=Rc h1;have e1:pt w s=ny w (eA w.az s) 32:=if_pos (by simp[h1,h2]);have e2:jK w s=0:=if_pos (by simp[h1,h2]);have ky:∀ z,z∈fg (eH w.az s)↔z∈eA w.az s:=fun z=>vR.symm;rw[e1,e2];have c0:=RI w s hf.az H hl h2;obtain⟨zs,gN⟩:∃ x,fg (eH w.az s)=x:=⟨_,rfl⟩;rw[gN]at c0 ky;refine eP F13 ?_;refine aj (cw) ?_;refine gO F13 ?_;refine aY ?_;refine gO F13 ?_;refine aj (cs) ?_;refine gO F13 ?_;refine aY ?_;refine gO F13 ?_;refine wW (ds:=[w.enc,.str s]) c0 ?_;rintro r b ⟨rfl,rfl⟩;refine gO F13 ?_;refine gO F13 ?_;refine aa.loop (κ:=Nat) ([9]++rg 25 18) (fun k=>[(25,.d (.int .i64 k))]) (fun k=>[(6,.map (gb (DV.int .i64) (nB w zs k)))]) (fun k=>k<=w.az.length) (fun k=>w.az.length-k) 0 (Nat.zero_le _) ?_ ?_
 ·(conv=>whnf);repeat (first|exact trivial|(refine sI ?_;conv=>whnf))
  refine And.intro rfl ?_;exact sZ
 intro k hk IH;refine aa.head ag F13 2000 ?_;(conv=>whnf);refine ar (fun h5=>?_) (fun h5=>?_)
 ·have ai:k<w.az.length:=by simpa using h5
  obtain⟨p,hp⟩:=bd ai;obtain⟨x,hx,q1,q2,q3,q4⟩:=DU p (List.mem_of_getElem? hp);have bw:=ab9 (zs:=zs) hp;obtain⟨pG,A3⟩:=Dg rS zs p.aE.ad;have eJ:=yd (tC rS zs).1;have A6:=ab' (tC Pb (nB w zs k)).1;refine gO F13 ?_;refine aC (e:=p.enc) (aS hp) rfl ?_;refine gO F13 ?_;refine mb (.bool false) (.bool false) ⟨_,rfl⟩ eJ (fun w=>by kernel_rfl) (fun _ _ => .bool _) pG A3 ?_;refine gO F13 ?_;by_cases hm:p.aE.ad∈zs
  ·rw[if_pos hm]at bw;refine aI (by simp[hm]) ?_;refine gO F13 ?_;refine aC (e:=x.enc) ⟨q1,by rw[List.getElem?_map,hx];rfl⟩ rfl ?_;refine gO F13 ?_;refine bA ⟨⟨_,rfl⟩,A6⟩ ?_;refine gO F13 ?_;refine aa.back (IH (k+1) (by omega) (by omega)) ?_;(conv=>whnf);repeat (first|exact trivial|(refine sI ?_;conv=>whnf))
   refine And.intro (by rw[bw,AG,q2]) ?_;exact sZ
  ·rw[if_neg hm]at bw;refine aO (by simp[hm]) ?_;refine gO F13 ?_;refine aa.back (IH (k+1) (by omega) (by omega)) ?_;(conv=>whnf);repeat (first|exact trivial|(refine sI ?_;conv=>whnf))
   refine And.intro (by rw[bw]) ?_;exact sZ
 have aG : k=w.az.length := by have : w.az.length <= k := by simpa using h5
                               omega
 subst aG;have tN:=Rh Pb (nB w zs w.az.length);obtain⟨Z,hZ⟩:∃ x,fR [] (nB w zs w.az.length)=x:=⟨_,rfl⟩;have tJ:∀ o,o∈Z↔∃ p∈w.az,lU w p=o/\p.aE.ad∈eA w.az s:=fun o=>by
  rw[<- hZ,AH,nB,List.take_length];simp only[List.not_mem_nil,false_or,List.mem_map,List.mem_filter,decide_eq_true_eq];constructor
  ·rintro⟨p,⟨a1,a2⟩,rfl⟩;exact⟨p,a1,rfl,(ky _).1 a2⟩
  ·rintro⟨p,a1,rfl,a2⟩;exact⟨p,⟨a1,(ky _).2 a2⟩,rfl⟩
 have hr:∀ p∈w.az,0<=lU w p/\lU w p<32:=fun p hp=>by
  obtain⟨x,hx,q1,q2,q3,q4⟩:=DU p hp;rw[q2];exact⟨q3,q4⟩
 have yg:Z.Nodup:=by rw[<- hZ];exact HW List.nodup_nil
 rw[hZ]at tN;have fT:Z.length<=2000000000:=by
  have h:=HZ (acc:=[]) (l:=nB w zs w.az.length);rw[hZ]at h;have h2:(nB w zs w.az.length).length<=w.az.length:=by
   rw[nB,List.length_map,List.take_length];exact List.length_filter_le ..
  simp at h;omega
 obtain⟨es,v7⟩:∃ es,(Z.map fun a=>(DV.int .i64 a,DV.bool true))=es:=⟨_,rfl⟩;rw[v7]at tN;rw[tN];clear tN hZ;refine gO F13 ?_
 with_reducible refine bJ (aca es) ?_
 (conv=>whnf);repeat ((fail_if_success (first|(refine aa.oe (fn:=Tryz.f39) rfl rfl fz (kq (bg rfl)) Tryz.func39 rfl (by decide) ?_)|fail));(refine aa.run ag F13 1 ?_);(conv=>whnf))
 refine aa.oe (fn:=Tryz.f39) rfl rfl fz (kq (bg rfl)) Tryz.func39 rfl (by decide) ?_;(conv=>whnf);(conv=>whnf);repeat ((fail_if_success (first|(refine aa.oe (fn:=Tryz.f81) rfl rfl fz (kq (bg rfl)) Tryz.func81 rfl (by decide) ?_)|fail));(refine aa.run ag Tryz.func39 1 ?_);(conv=>whnf))
 refine aa.oe (fn:=Tryz.f81) rfl rfl fz (kq (bg rfl)) Tryz.func81 rfl (by decide) ?_;(conv=>whnf);(conv=>whnf);repeat ((fail_if_success (first|(refine aa.oe (fn:=Tryz.f125) rfl rfl fz (mw D5 (bg rfl)) Tryz.func125 rfl (by decide) ?_)|fail));(refine aa.run ag Tryz.func81 1 ?_);(conv=>whnf))
 refine aa.oe (fn:=Tryz.f125) rfl rfl fz (mw D5 (bg rfl)) Tryz.func125 rfl (by decide) ?_;(conv=>whnf);(conv=>whnf);(conv=>whnf);repeat ((fail_if_success (first|(refine aa.tz 8 0 (3,1) (by decide) rfl rfl ?_)|fail));(refine aa.run ag F125 1 ?_);(conv=>whnf))
 refine aa.tz 8 0 (3,1) (by decide) rfl rfl ?_;(conv=>whnf);(conv=>whnf);repeat ((fail_if_success (first|(refine aa.rangeFunc (bg rfl) Tryz.func83 rfl (by decide) rfl (fun ll d t=>?_))|fail));(refine aa.run ag F125 1 ?_);(conv=>whnf))
 refine aa.rangeFunc (bg rfl) Tryz.func83 rfl (by decide) rfl (fun ll d t=>?_);(conv=>whnf);(conv=>whnf);repeat ((fail_if_success (first|(refine aa.range ag rfl rfl rfl rfl (bg rfl) rfl (Nat.zero_le _) (fun it rh kz rP=>?_))|fail));(refine aa.run ag F83 1 ?_);(conv=>whnf))
 refine aa.range ag rfl rfl rfl rfl (bg rfl) rfl (Nat.zero_le _) (fun it rh kz rP=>?_);(conv=>whnf);obtain⟨bm,r,en,ck,since,seen,er⟩:=it;simp only at rh kz rP;subst rh;subst kz;refine gO F83 ?_;refine aa.OF (κ:=List Nat) ([1,4]++[3,6,7,8,9,10,11,12,13]) (fun _=>[]) (fun x=>[(7,.gone),(8,.cells [.own 9 1]),(9,.arr 1 (3,1) ((kX Z x).map (.int .i64)))]) (fun x=>[.iter ⟨bm,r,en,ck,since,x,er⟩]) (fun x=>x.Nodup/\∀ j∈x,j<Z.length) (fun x=>Z.length-x.length) [] ⟨List.nodup_nil,fun j hj=>by cases hj⟩ rfl ?_ ?_
 ·(conv=>whnf);repeat (first|exact trivial|(refine sI ?_;conv=>whnf))
  refine And.intro rfl ?_;exact sZ
 rintro seen ⟨pa,v8⟩ IH;have oo:=Ri (xs:=Z) (seen:=seen);have abZ:=DW pa v8;refine aa.head ag F83 2000 ?_;(conv=>whnf);refine aa.next (it:=⟨bm,r,en,ck,since,seen,er⟩) (g1:=[]) (g2:=[]) rfl rfl rP rfl (bg rfl) (fun aW=>?_) (fun j kk y hj fZ=>?_)
 ·refine gO F83 ?_;refine aY ?_;refine gO F83 ?_;refine aa.xR ag F83 rfl rfl rfl rfl (fun e=>nomatch e) ?_;(conv=>whnf);have nA:(kX Z seen).Perm Z:=Rj pa v8 fun j hj=>aW j (by rw[<- v7];simpa using hj);generalize kX Z seen=K at nA oo ⊢;have c3:=ab8 K (by rw[nA.length_eq];omega);have hKn:K.Nodup:=nA.nodup_iff.2 yg;have hKm:∀ o,o∈K↔∃ p∈w.az,lU w p=o/\p.aE.ad∈eA w.az s:=fun o=>by rw[nA.mem_iff,tJ]
  (conv=>whnf);repeat ((fail_if_success (first|(refine aa.og ag F125 rfl rfl rfl (L:=[]) rfl ?_)|fail));(refine aa.run ag F125 1 ?_);(conv=>whnf))
  refine aa.og ag F125 rfl rfl rfl (L:=[]) rfl ?_;(conv=>whnf);(conv=>whnf);repeat ((fail_if_success (first|(refine aa.og ag Tryz.func81 rfl rfl rfl (L:=[]) rfl ?_)|fail));(refine aa.run ag Tryz.func81 1 ?_);(conv=>whnf))
  refine aa.og ag Tryz.func81 rfl rfl rfl (L:=[]) rfl ?_;(conv=>whnf);refine gO Tryz.func39 ?_
  with_reducible refine bJ c3 ?_
  (conv=>whnf);(conv=>whnf);repeat ((fail_if_success (first|(refine aa.og ag Tryz.func39 rfl rfl rfl (L:=[]) rfl ?_)|fail));(refine aa.run ag Tryz.func39 1 ?_);(conv=>whnf))
  refine aa.og ag Tryz.func39 rfl rfl rfl (L:=[]) rfl ?_;(conv=>whnf);refine gO F13 ?_;rw[ab6 hKn hKm hr]
 ·obtain⟨z,hz,e⟩:∃ z,Z[j]?=some z/\(DV.int .i64 z,DV.bool true)=(kk,y):=by rw[<- v7]at hj;simpa using hj
  cases e;have mN:=aX hz;have Jt:=Jg (seen:=seen) hz;have fG:(seen++[j]).Nodup:=by
   rw[List.nodup_append];exact⟨pa,by simp,fun a ha b hb e=>by simp at hb;subst hb;subst e;exact fZ ha⟩
  have Bh:∀ i∈seen++[j],i<Z.length:=fun i hi=>by rcases List.mem_append.1 hi with h|h;exact v8 i h;simp at h;omega
  have Ju:=DW fG Bh;rw[List.length_append,List.length_singleton]at Ju;refine gO F83 ?_;refine bp ?_;refine gO F83 ?_;refine aa.entry (it:=⟨bm,r,en,ck,since,seen++[j],er⟩) (g1:=[]) (g2:=[]) (pre:=seen) (j:=j) rfl rfl rfl rfl hj (bg rfl) ?_;(conv=>whnf);repeat ((fail_if_success (first|(refine aa.yield 0 rfl rfl rfl (bg rfl) (kq (bg rfl)) rfl ?_)|fail));(refine aa.run ag F83 1 ?_);(conv=>whnf))
  refine aa.yield 0 rfl rfl rfl (bg rfl) (kq (bg rfl)) rfl ?_;(conv=>whnf);(conv=>whnf);repeat ((fail_if_success (first|(refine aa.begin 0 rfl rfl rfl ?_)|fail));(refine aa.run ag F125 1 ?_);(conv=>whnf))
  refine aa.begin 0 rfl rfl rfl ?_;(conv=>whnf);refine gO F125 ?_;refine bA ⟨by simp;omega,by simp[DV.cells]⟩ ?_;refine gO F125 ?_;refine aa.Ay 0 rfl rfl rfl ?_;(conv=>whnf);refine gO F83 ?_;refine aO (by decide) ?_;refine gO F83 ?_;refine aa.back (IH (seen++[j]) ⟨fG,Bh⟩ (by simp;omega)) ?_;(conv=>whnf);repeat (first|exact trivial|(refine sI ?_;conv=>whnf))
  refine And.intro (by rw[Jt];simp) ?_;exact sZ
end Go.Proofs.YtcmnpelmmekdkaaGreatDoor.P
end
section
namespace Go.Proofs.YtcmnpelmmekdkaaGreatDoor.P
open Go Go.aA
set_option maxRecDepth 100000
set_option maxHeartbeats 4000000
theorem ace(l:List Text)(v:Text)(hl:l.length<=1000000):au E 89 [.sl (l.map .str),.str v] (fun r=>∃ n:Int,r=.int .i64 n/\(0<=n↔v∈l)):=by
 refine eP F89 ?_;refine aa.loop (κ:=Nat) ([4,5]++rg 8 11) (fun k=>[(8,.d (.int .i64 k))]) (fun _=>[]) (fun k=>k<=l.length/\∀ j x,j<k->l[j]?=some x->v≠x) (fun k=>l.length-k) 0 ⟨Nat.zero_le _,fun j x h=>by omega⟩ ?_ ?_
 ·exact sZ
 rintro k ⟨hk,aW⟩ IH;refine aa.head ag F89 2000 ?_;(conv=>whnf);refine ar (fun h5=>?_) (fun h5=>?_)
 ·have ai:k<l.length:=by simpa using h5
  obtain⟨x,hx⟩:=bd ai;refine gO F89 ?_;refine aC (e := .str x) (aS hx) rfl ?_;refine gO F89 ?_;by_cases e:v=x
  ·refine aI (by simpa using e) ?_;refine gO F89 ?_;exact⟨k,rfl,fun _=>e ▸ List.mem_of_getElem? hx,fun _=>by omega⟩
  ·refine aO (by simpa using e) ?_;refine gO F89 ?_;refine aa.back (IH (k+1) ⟨by omega,fun j y hj hy=>?_⟩ (by omega)) ?_
   ·rcases Nat.lt_or_eq_of_le (Nat.le_of_lt_succ hj)with h|h
    ·exact aW j y h hy
    ·subst h;rw[hx]at hy;cases hy;exact e
   exact sZ
 ·have aG:k=l.length:=by simp at h5;omega
  subst aG;refine gO F89 ?_;refine⟨-1,rfl,fun h=>absurd h (by decide),fun h=>?_⟩;obtain⟨j,hj⟩:=List.getElem?_of_mem h;exact absurd rfl (aW j v (List.getElem?_eq_some_iff.1 hj).1 hj)
theorem acf(l:List Text)(v:Text)(hl:l.length<=1000000):au E 45 [.sl (l.map .str),.str v] (· = .bool (decide (v∈l))):=by
 refine eP Tryz.func45 ?_
 with_reducible refine uP (ace l v hl) ?_
 rintro r ⟨n,rfl,hn⟩;refine gO Tryz.func45 ?_;rw[show decide (n>=0)=decide (v∈l) by rw[Bool.eq_iff_iff,decide_eq_true_eq,decide_eq_true_eq];exact hn]
theorem acg{α:Type}{l m:List α}{i j:Nat}{x y:α}(dq:i<j)(hs:i+j+1=l.length)(hm:m.length=l.length)(h1:∀ k,k<i\/j<k->m[k]?=l.reverse[k]?)(h2:∀ k,i<=k->k<=j->m[k]?=l[k]?)(hx:m[i]?=some x)(hy:m[j]?=some y):((m.set i y).set j x).length=l.length/\(∀ k,k<i+1\/j-1<k->((m.set i y).set j x)[k]?=l.reverse[k]?)/\(∀ k,i+1<=k->k<=j-1->((m.set i y).set j x)[k]?=l[k]?):=by
 have zR:l[i]?=some x:=by rw[<- h2 i (Nat.le_refl _) (by omega)];exact hx
 have hly:l[j]?=some y:=by rw[<- h2 j (by omega) (Nat.le_refl _)];exact hy
 refine⟨by simp[hm],fun k hk=>?_,fun k h3 h4=>?_⟩
 ·by_cases e1:k=j
  ·subst e1;rw[List.getElem?_set_self (by simp;omega),List.getElem?_reverse (by omega),<- zR]
   congr 1;omega
  ·rw[List.getElem?_set_ne (by omega)];by_cases e2:k=i
   ·subst e2;rw[List.getElem?_set_self (by omega),List.getElem?_reverse (by omega),<- hly]
    congr 1;omega
   ·rw[List.getElem?_set_ne (by omega)];exact h1 k (by omega)
 ·rw[List.getElem?_set_ne (by omega),List.getElem?_set_ne (by omega)];exact h2 k (by omega) (by omega)
theorem aci(l:List aM)(hl:l.length<=2147483647):aB E 46 [.arr 0 (54,2) (l.map aM.enc)] [.own 0 0] (fun a b=>a=.aJ []/\b=[.arr 0 (54,2) (l.reverse.map aM.enc)]):=by
 by_cases h0:l=[]
 ·subst h0;refine aB.run ag (fn:=Tryz.f46) Tryz.func46 (body:=Tryz.f46.body.getD .skip) rfl (by decide) 2000 rfl ?_;(conv=>whnf);refine aa.uW ?_;refine aa.run ag Tryz.func46 2000 ?_;(conv=>whnf);refine aO (by decide) ?_;refine gO Tryz.func46 ?_;exact⟨rfl,rfl⟩
 have hlp:=List.length_pos_iff.2 h0;refine aB.run ag (fn:=Tryz.f46) Tryz.func46 (body:=Tryz.f46.body.getD .skip) rfl (by decide) 2000 rfl ?_;(conv=>whnf);refine aa.loop (κ:=Nat × Nat × List aM) [2,3,7,8,9,10,11,12,13,14,15,16,17,18,19,20,21,22,23,24,25,26,27] (fun q=>[(0,.own 0 0),(2,.d (.int .i64 q.1)),(3,.d (.int .i64 q.2.1))]) (fun q=>[(0,.arr 0 (54,2) (q.2.2.map aM.enc))]) (fun q=>q.1+q.2.1+1=l.length/\q.1<=q.2.1+1/\q.2.2.length=l.length/\(∀ k,k<q.1\/q.2.1<k->q.2.2[k]?=l.reverse[k]?)/\(∀ k,q.1<=k->k<=q.2.1->q.2.2[k]?=l[k]?)) (fun q=>l.length-q.1) (0,l.length-1,l) ⟨by simp only;omega,by simp only;omega,rfl,fun k hk=>by simp only at hk;show l[k]?=_;rw[List.getElem?_eq_none (by omega),List.getElem?_eq_none (by simp;omega)],fun k _ _=>rfl⟩ ?_ ?_
 ·(conv=>whnf);repeat (first|exact trivial|(refine sI ?_;conv=>whnf))
  refine And.intro (congrArg (DV.int .i64) ((wrap64 (by simp<;>omega) (by simp<;>omega)).trans (by simp;omega))) ?_;exact sZ
 rintro⟨i,j,m⟩ ⟨hs,acj,hm,g1,g2⟩ IH;simp only at hs acj hm g1 g2;refine aa.head ag Tryz.func46 2000 ?_;(conv=>whnf);refine ar (fun h5=>?_) (fun h5=>?_)
 ·have dq:i<j:=by have:=of_decide_eq_true h5;simp only at this;omega
  obtain⟨x,hx⟩:=bd (l:=m) (k:=i) (by omega);obtain⟨y,hy⟩:=bd (l:=m) (k:=j) (by omega);obtain⟨k1,k2,k3⟩:=acg dq hs hm g1 g2 hx hy;obtain⟨L0,lT⟩:∃ L0,m.map aM.enc=L0:=⟨_,rfl⟩;obtain⟨L1,jy⟩:∃ L1,L0.set i y.enc=L1:=⟨_,rfl⟩;have gX:L0.length=l.length:=by rw[<- lT,List.length_map,hm]
  have gh:L1.length=l.length:=by rw[<- jy,List.length_set,gX]
  have a1:=aS (f:=aM.enc) hx;have a2:=aS (f:=aM.enc) hy;have b0:kP L0 (j:Int) y.enc:=lT ▸ a2;have b1:kP L1 (j:Int) y.enc:=⟨b0.1,by rw[<- jy];simp only[Int.toNat_natCast];rw[List.getElem?_set_ne (by omega)];simpa using b0.2⟩;have b2:kP L0 (i:Int) x.enc:=lT ▸ a1;have xE:L1.set j x.enc=((m.set i y).set j x).map aM.enc:=by rw[<- jy,<- lT,List.map_set,List.map_set]
  refine gO Tryz.func46 ?_;rw[lT];refine aa.Q4 ag bN [0,1,2,3,4,5,6,7,8,9,10,12,14] (fun h=>h=[.arr 0 (54,2) L0]\/h=[.arr 0 (54,2) L1]) (by kernel_rfl) (by kernel_rfl) (.inl rfl) ?_;refine cE.float (.own 0 0) rfl rfl (fun h' hh=>?_) ?_
  ·rcases hh with rfl|rfl<;>(refine aQ.run ag ?_;(conv=>whnf);exact⟨rfl,rfl⟩)
  (conv=>whnf);refine cE.float (.d (.int .i64 (i:Int))) rfl rfl (fun h' hh=>?_) ?_
  ·rcases hh with rfl|rfl<;>(refine aQ.run ag ?_;(conv=>whnf);exact⟨rfl,rfl⟩)
  (conv=>whnf);refine cE.float (.own 0 0) rfl rfl (fun h' hh=>?_) ?_
  ·rcases hh with rfl|rfl<;>(refine aQ.run ag ?_;(conv=>whnf);exact⟨rfl,rfl⟩)
  (conv=>whnf);refine cE.float (.d (.int .i64 (j:Int))) rfl rfl (fun h' hh=>?_) ?_
  ·rcases hh with rfl|rfl<;>(refine aQ.run ag ?_;(conv=>whnf);exact⟨rfl,rfl⟩)
  (conv=>whnf);refine cE.float (.own 0 0) rfl rfl (fun h' hh=>?_) ?_
  ·rcases hh with rfl|rfl<;>(refine aQ.run ag ?_;(conv=>whnf);exact⟨rfl,rfl⟩)
  (conv=>whnf);refine cE.float (.d (.int .i64 (j:Int))) rfl rfl (fun h' hh=>?_) ?_
  ·rcases hh with rfl|rfl<;>(refine aQ.run ag ?_;(conv=>whnf);exact⟨rfl,rfl⟩)
  (conv=>whnf);refine cE.float (.cD 0 0 j 0) rfl rfl (fun h' hh=>?_) ?_
  ·rcases hh with rfl|rfl<;>(refine aQ.run ag ?_;(conv=>whnf);refine bA ⟨by omega,by(first|rw[gX]|rw[gh]);omega⟩ ?_;exact⟨by rw[Int.toNat_natCast],rfl⟩)
  (conv=>whnf);refine cE.float (.d y.enc) rfl rfl (fun h' hh=>?_) ?_
  ·rcases hh with rfl|rfl
   ·refine aQ.run ag ?_;(conv=>whnf);refine aC (e:=y.enc) b0 rfl ?_;(conv=>whnf);exact⟨rfl,rfl⟩
   ·refine aQ.run ag ?_;(conv=>whnf);refine aC (e:=y.enc) b1 rfl ?_;(conv=>whnf);exact⟨rfl,rfl⟩
  (conv=>whnf);refine cE.float (.own 0 0) rfl rfl (fun h' hh=>?_) ?_
  ·rcases hh with rfl|rfl<;>(refine aQ.run ag ?_;(conv=>whnf);exact⟨rfl,rfl⟩)
  (conv=>whnf);refine cE.float (.d (.int .i64 (i:Int))) rfl rfl (fun h' hh=>?_) ?_
  ·rcases hh with rfl|rfl<;>(refine aQ.run ag ?_;(conv=>whnf);exact⟨rfl,rfl⟩)
  (conv=>whnf);refine cE.float (.cD 0 0 i 0) rfl rfl (fun h' hh=>?_) ?_
  ·rcases hh with rfl|rfl<;>(refine aQ.run ag ?_;(conv=>whnf);refine bA ⟨by omega,by(first|rw[gX]|rw[gh]);omega⟩ ?_;exact⟨by rw[Int.toNat_natCast],rfl⟩)
  (conv=>whnf);refine cE.op (.d x.enc) [.arr 0 (54,2) L0] rfl rfl ?_ (.inr (.inl rfl)) ?_
  ·refine aQ.run ag ?_;(conv=>whnf);refine aC (e:=x.enc) b2 rfl ?_;(conv=>whnf);exact⟨rfl,rfl⟩
  (conv=>whnf);refine cE.float (.cD 0 0 i 0) rfl rfl (fun h' hh=>?_) ?_
  ·rcases hh with rfl|rfl<;>(refine aQ.run ag ?_;(conv=>whnf);refine bA ⟨by omega,by(first|rw[gX]|rw[gh]);omega⟩ ?_;exact⟨by rw[Int.toNat_natCast],rfl⟩)
  (conv=>whnf);refine cE.op (.d .undef) [.arr 0 (54,2) L1] rfl rfl ?_ (.inr (.inr rfl)) ?_
  ·refine aQ.run ag ?_;(conv=>whnf);refine aC (e:=x.enc) b2 rfl ?_;(conv=>whnf);subst jy;exact⟨rfl,rfl⟩
  (conv=>whnf);refine cE.float (.cD 0 0 j 0) rfl rfl (fun h' hh=>?_) ?_
  ·rcases hh with rfl|rfl<;>(refine aQ.run ag ?_;(conv=>whnf);refine bA ⟨by omega,by(first|rw[gX]|rw[gh]);omega⟩ ?_;exact⟨by rw[Int.toNat_natCast],rfl⟩)
  (conv=>whnf);refine cE.op (.d .undef) [.arr 0 (54,2) (L1.set j x.enc)] rfl rfl ?_ (.inl rfl) ?_
  ·refine aQ.run ag ?_;(conv=>whnf);refine aC (e:=y.enc) b1 rfl ?_;(conv=>whnf);exact⟨rfl,rfl⟩
  (conv=>whnf);refine cE.fin ?_;refine gO Tryz.func46 ?_;rw[xE];refine aa.back (IH (i+1,j-1,(m.set i y).set j x) ⟨by simp only;omega,by simp only;omega,k1,k2,k3⟩ (by simp only;omega)) ?_;(conv=>whnf);repeat (first|exact trivial|(refine sI ?_;conv=>whnf))
  refine And.intro (congrArg (DV.int .i64) ((wrap64 (by simp only;omega) (by simp only;omega)).trans (by simp only;omega))) ?_;exact sZ
 ·have dq:j<=i:=by have:=of_decide_eq_false h5;simp only at this;omega
  have he:m=l.reverse:=by
   apply List.ext_getElem?;intro k;by_cases hk:k<i\/j<k
   ·exact g1 k hk
   ·have e1:k=i:=by omega
    have e2:j=i:=by omega
    rw[g2 k (by omega) (by omega),List.getElem?_reverse (by omega)]
    congr 1;omega
  refine gO Tryz.func46 ?_;rw[he];exact⟨rfl,rfl⟩
theorem ack(v:bu)(z:Text)(hl:v.az.length<=1000000):aB E 44 [.cells [.d (.str z)]] [.d (ou v),.ptr 0 0] (fun a b=>a=.d (.bool (decide (z∈v.az)))/\b=[.cells [.d (.str z)]]):=by
 have c1:=acf v.az z hl;apply aB.kV
 case hk=>rfl
 refine aB.run ag (fn:=Tryz.f44) Tryz.func44 (body:=Tryz.f44.body.getD .skip) rfl (by decide) 2000 rfl ?_;(conv=>whnf);refine aj (c1) ?_;refine gO Tryz.func44 ?_;exact⟨rfl,rfl⟩
def sc(V:List bu)(z:Text):Int:=match V.findIdx? (fun v=>decide (z∈v.az))with
 |some i=>(i:Int)
 |none => -1
theorem acm(V:List bu)(z:Text)(hV:∀ v∈V,v.az.length<=1000000)(hl:V.length<=2147483647):aB E 43 [.cells [.d (.str z)]] [.d (.sl (V.map ou)),.fn (.func 44) [] [.ptr 0 0]] (fun a b=>a=.d (.int .i64 (sc V z))/\b=[.cells [.d (.str z)]]):=by
 refine aB.run ag (fn:=Tryz.f43) Tryz.func43 (body:=Tryz.f43.body.getD .skip) rfl (by decide) 2000 rfl ?_;(conv=>whnf);refine aa.loop (κ:=Nat) ([4,5]++rg 8 11) (fun k=>[(8,.d (.int .i64 k))]) (fun _=>[]) (fun k=>k<=V.length/\∀ j v,j<k->V[j]?=some v->z ∉ v.az) (fun k=>V.length-k) 0 ⟨Nat.zero_le _,fun j v h=>by omega⟩ ?_ ?_
 ·exact sZ
 rintro k ⟨hk,aW⟩ IH;refine aa.head ag F43 2000 ?_;(conv=>whnf);refine ar (fun h5=>?_) (fun h5=>?_)
 ·have ai:k<V.length:=by simpa using h5
  obtain⟨v,hv⟩:=bd ai;have c1:=ack v z (hV v (List.mem_of_getElem? hv));refine gO F43 ?_;refine aC (e:=ou v) (aS hv) rfl ?_;refine gO F43 ?_
  with_reducible refine bJ (c1) ?_
  refine gO F43 ?_;by_cases hm:z∈v.az
  ·refine aI (decide_eq_true hm) ?_;refine gO F43 ?_;have e:sc V z=k:=by
    have:V.findIdx? (fun v=>decide (z∈v.az))=some k:=by
     rw[List.findIdx?_eq_some_iff_getElem];refine⟨ai,?_,fun j hj=>?_⟩
     ·have:=(List.getElem?_eq_some_iff.1 hv).2;rw[this];exact decide_eq_true hm
     ·have:=aW j V[j] hj (by simp);simpa using this
    rw[sc,this]
   rw[e];exact⟨rfl,rfl⟩
  ·refine aO (decide_eq_false hm) ?_;refine gO F43 ?_;refine aa.back (IH (k+1) ⟨by omega,fun j u hj hu=>?_⟩ (by omega)) ?_
   ·rcases Nat.lt_or_eq_of_le (Nat.le_of_lt_succ hj)with h|h
    ·exact aW j u h hu
    ·subst h;rw[hv]at hu;cases hu;exact hm
   exact sZ
 ·have aG : k=V.length := by have : V.length <= k := by simpa using h5
                             omega
  subst aG;refine gO F43 ?_;have e:sc V z = -1:=by
   have:V.findIdx? (fun v=>decide (z∈v.az))=none:=by
    rw[List.findIdx?_eq_none_iff];intro v hv;obtain⟨j,hj⟩:=List.getElem?_of_mem hv;exact decide_eq_false (aW j v (aX hj) hj)
   rw[sc,this]
  rw[e];exact⟨rfl,rfl⟩
theorem acn(w:cP)(s z:Text)(h:(fK w&&(Nm.valid s&&Nm.valid z))=true):iE w s z=(match (eH w.az s).find? (fun v=>decide (z∈v.az))with|some v=>(v.list,0)|none=>([],4)):=if_pos h
theorem aco{V:List bu}{z:Text}{v:bu}(h:V.find? (fun v=>decide (z∈v.az))=some v):∃ i:Nat,sc V z=i/\V[i]?=some v:=by
 rw[List.find?_eq_some_iff_getElem]at h;obtain⟨h1,i,h2,h3,h4⟩:=h;refine⟨i,?_,by rw[<- h3];simp⟩;have:V.findIdx? (fun v=>decide (z∈v.az))=some i:=by
  rw[List.findIdx?_eq_some_iff_getElem];exact⟨h2,by rw[h3];exact h1,fun j hj=>by have:=h4 j hj;simpa using this⟩
 rw[sc,this]
theorem acp{V:List bu}{z:Text}(h:V.find? (fun v=>decide (z∈v.az))=none):sc V z = -1:=by
 have:V.findIdx? (fun v=>decide (z∈v.az))=none:=by
  rw[List.findIdx?_eq_none_iff];intro v hv;have:=List.find?_eq_none.1 h v hv
  simpa using this
 rw[sc,this]
theorem Bi(w:cP)(s z:Text)(hf:w.Fits)(eZ:s.length<=maxLen)(fT:z.length<=maxLen):au E 15 [w.enc,.str s,.str z] (· = .aJ [.sl ((iE w s z).1.map aM.enc),.int .i64 (iE w s z).2]):=by
 have cw:=IV w hf;have cs:=nd s eZ;have cz:=nd z fT;have fk:fK w=false\/Nm.valid s=false\/Nm.valid z=false->iE w s z=([],1):=fun h=>by
  have:¬ (fK w&&(Nm.valid s&&Nm.valid z))=true:=by rcases h with h|h|h<;>simp[h]
  exact if_neg this
 cases h1:fK w
 ·rw[fk (.inl h1)];rw[h1]at cw;refine au.norm ?_;refine eP F15 ?_;refine aj (cw) ?_;refine gO F15 ?_;refine bp ?_;refine gO F15 ?_;refine bp ?_;refine gO F15 ?_;refine bp ?_;refine gO F15 ?_;rfl
 cases h2:Nm.valid s
 ·rw[fk (.inr (.inl h2))];rw[h1]at cw;rw[h2]at cs;refine au.norm ?_;refine eP F15 ?_;refine aj (cw) ?_;refine gO F15 ?_;refine aY ?_;refine gO F15 ?_;refine aj (cs) ?_;refine gO F15 ?_;refine bp ?_;refine gO F15 ?_;refine bp ?_;refine gO F15 ?_;rfl
 cases h3:Nm.valid z
 ·rw[fk (.inr (.inr h3))];rw[h1]at cw;rw[h2]at cs;rw[h3]at cz;refine au.norm ?_;refine eP F15 ?_;refine aj (cw) ?_;refine gO F15 ?_;refine aY ?_;refine gO F15 ?_;refine aj (cs) ?_;refine gO F15 ?_;refine aY ?_;refine gO F15 ?_;refine aj (cz) ?_;refine gO F15 ?_;refine bp ?_;refine gO F15 ?_;rfl
 rw[h1]at cw;rw[h2]at cs;rw[h3]at cz;rw[acn w s z (by simp[h1,h2,h3])];obtain⟨H,hl⟩:=tH h1;have hu:=yh H hl;have c1:=Qy w hf.az H (by omega);have c2:=RE w.az s hf.az H hu h2;have fC:=AT H s;have rZ:∀ v∈eH w.az s,_:=fun v hv=>Bb H hv;have B:=vQ H s;have c3:=acm (eH w.az s) z (fun v hv=>by have:=(rZ v hv).2.1;omega) (by omega);generalize eH w.az s=V at *;generalize mE w.az=es at *;generalize jl w.az (nw w.az) w.az.length=rs at *;cases RL:V.find? (fun v=>decide (z∈v.az))with
 |none =>
  rw[acp RL]at c3;refine au.norm ?_;refine eP F15 ?_;refine aj (cw) ?_;refine gO F15 ?_;refine aY ?_;refine gO F15 ?_;refine aj (cs) ?_;refine gO F15 ?_;refine aY ?_;refine gO F15 ?_;refine aj (cz) ?_;refine gO F15 ?_;refine aY ?_;refine gO F15 ?_;refine wW (ds:=[w.enc]) c1 ?_;rintro r b ⟨rfl,rfl⟩;refine gO F15 ?_
  with_reducible refine bJ (c2) ?_
  refine gO F15 ?_
  with_reducible refine bJ (c3) ?_
  refine gO F15 ?_;refine bp ?_;refine gO F15 ?_;rfl
 |some v =>
  obtain⟨i0,e0,Ba⟩:=aco RL;rw[e0]at c3;have fU:=aX Ba;refine eP F15 ?_;refine aj (cw) ?_;refine gO F15 ?_;refine aY ?_;refine gO F15 ?_;refine aj (cs) ?_;refine gO F15 ?_;refine aY ?_;refine gO F15 ?_;refine aj (cz) ?_;refine gO F15 ?_;refine aY ?_;refine gO F15 ?_;refine wW (ds:=[w.enc]) c1 ?_;rintro r b ⟨rfl,rfl⟩;refine gO F15 ?_
  with_reducible refine bJ (c2) ?_
  refine gO F15 ?_
  with_reducible refine bJ (c3) ?_
  refine gO F15 ?_;refine aO (decide_eq_false (by omega)) ?_;(conv=>whnf);repeat ((fail_if_success (first|(refine aa.jV 10 (54,2) (by decide) rfl ?_)|fail));(refine aa.run ag F15 1 ?_);(conv=>whnf))
  refine aa.jV 10 (54,2) (by decide) rfl ?_;(conv=>whnf);refine gO F15 ?_;refine aa.loop (κ:=Nat × bu × List aM) [9,10,33,34,35,36,37,38,39,40,41,42,43,44,45,46,47,48,49,50,51] (fun q=>[(9,.d (.int .i64 q.1)),(10,.own 5 1)]) (fun q=>[(5,.arr 1 (54,2) (q.2.2.map aM.enc))]) (fun q=>V[q.1]?=some q.2.1/\v.list=q.2.1.list++q.2.2.reverse/\q.2.2.length+q.1<=i0) (fun q=>q.1) (i0,v,[]) ⟨Ba,by simp,by simp⟩ ?_ ?_
  ·(conv=>whnf);repeat (first|exact trivial|(refine sI ?_;conv=>whnf))
   refine And.intro rfl ?_;exact sZ
  rintro⟨i,u,L⟩ ⟨k1,k2,k3⟩ IH;simp only at k1 k2 k3;have hi:=aX k1;refine aa.head ag F15 2000 ?_;(conv=>whnf);refine aC (e:=ou u) (aS k1) rfl ?_;refine gO F15 ?_;rcases B.back k1 with⟨q1,q2⟩|⟨b,u2,q1,q2,q3,q4⟩
  ·have c4:=aci L (by omega);rw[q2,List.nil_append]at k2;refine aO (decide_eq_false (by omega)) ?_;refine gO F15 ?_
   with_reducible refine bJ (c4) ?_
   refine gO F15 ?_;show DV.aJ [DV.sl (L.reverse.map aM.enc),DV.int .i64 0]=DV.aJ [DV.sl (v.list.map aM.enc),DV.int .i64 0];rw[k2]
  ·refine aI (decide_eq_true (by omega)) ?_;refine gO F15 ?_;refine aC (e:=ou u) (aS k1) rfl ?_;refine gO F15 ?_;refine bA ⟨by simp;omega,by simp[DV.cells]⟩ ?_;refine gO F15 ?_;refine aC (e:=ou u) (aS k1) rfl ?_;refine gO F15 ?_;refine aa.back (IH (b,u2,L++[u.bB]) ⟨q3,by rw[k2,q4];simp,by simp;omega⟩ q2) ?_;(conv=>whnf);repeat (first|exact trivial|(refine sI ?_;conv=>whnf))
   refine And.intro (by simp) ?_;exact sZ
theorem Jy{G:List (Nat × DV)}{s:List AV}{a:Array UInt8}:bh G s (.const (.string ⟨a⟩)) (.d (.str a.toList)):=fun c x _ _=>by
 have h:=VD.str (bad:=c.bad) (w:=c.w) a.toList;rw[Array.toArray_toList]at h;exact .d _ _ h
theorem acx{w:cP}(hg:w.Good)(hf:Bj w=true):w.Fits/\w.az.length<=20/\w.hints.length<=1000000/\∀ c∈w.az,c.aE.Fits/\c.aE.gY/\c.aE.Aa:=by
 simp only[Bj,yc,Bool.and_eq_true,decide_eq_true_eq]at hf;obtain⟨⟨h1,h2⟩,⟨⟨h3,h4⟩,h5⟩,h6⟩:=hf;rw[List.take_of_length_le (by omega)]at h1 h2;obtain⟨g1,g2,g3,g4⟩:=hg;have hz:∀ c∈w.az,c.aE.Fits/\c.aE.gY/\c.aE.Aa:=fun c hc=>by
  have:=List.all_eq_true.1 h1 c hc;simp only[pw,Bool.and_eq_true]at this;exact XZ (g2.2 c hc).2 this.1
 exact⟨⟨fun x hx=>(g1.2 x hx).1,⟨g3.1,by omega,fun d hd=>(g3.2.2.2.2 d hd).1⟩,g4.1,fun c hc=>(hz c hc).1⟩,h3,by omega,hz⟩
def yk(s:Text)(k:Int)(d:Datum):DV := .agg [.str s,.int .i64 k,.int .i64 9,.sl [d.enc],.a7]
theorem Jz(s:Text)(k:Int)(d:Datum):au E 66 [.str s,.int .i64 k,d.enc] (· = yk s k d):=by
 obtain⟨x,y,z⟩:=d;show au E _ [.str s,.int .i64 k,DV.agg [.str x,.int .i64 y,.int .i64 z]] _;refine eP Tryz.func66 ?_;rfl
theorem acy(s h:Text):aB E 67 [.cells [.d (.fn (.func 66))]] [.d (.str s),.d (.str h),.ptr 0 0] (fun a b=>a=.d (yk s 2 ⟨h,0,0⟩)/\b=[.cells [.d (.fn (.func 66))]]):=by
 have c1:=Jz s 2 ⟨h,0,0⟩;apply aB.kV
 case hk=>rfl
 unfold yk at c1 ⊢;refine aB.run ag (fn:=Tryz.f67) Tryz.func67 (body:=Tryz.f67.body.getD .skip) rfl (by decide) 1 rfl ?_;(conv=>whnf);(conv=>whnf);repeat ((fail_if_success (first|(refine aa.D7 rfl rfl (bg rfl) (qs (bg rfl) qp (bg rfl)) c1 ?_)|fail));(refine aa.run ag Tryz.func67 1 ?_);(conv=>whnf))
 refine aa.D7 rfl rfl (bg rfl) (qs (bg rfl) qp (bg rfl)) c1 ?_;(conv=>whnf);refine gO Tryz.func67 ?_;exact⟨rfl,rfl⟩
theorem acz(s:Text):aB E 68 [.cells [.d (.fn (.func 66))]] [.d (.str s),.ptr 0 0] (fun a b=>a=.d (yk s 4 ⟨[],1,0⟩)/\b=[.cells [.d (.fn (.func 66))]]):=by
 have c1:=Jz s 4 ⟨[],1,0⟩;apply aB.kV
 case hk=>rfl
 unfold yk at c1 ⊢;refine aB.run ag (fn:=Tryz.f68) Tryz.func68 (body:=Tryz.f68.body.getD .skip) rfl (by decide) 1 rfl ?_;(conv=>whnf);(conv=>whnf);repeat ((fail_if_success (first|(refine aa.D7 rfl rfl (bg rfl) (qs (bg rfl) qp (bg rfl)) c1 ?_)|fail));(refine aa.run ag Tryz.func68 1 ?_);(conv=>whnf))
 refine aa.D7 rfl rfl (bg rfl) (qs (bg rfl) qp (bg rfl)) c1 ?_;(conv=>whnf);refine gO Tryz.func68 ?_;exact⟨rfl,rfl⟩
def qB(s:Text)(k:Int)(d:Datum):Signed:=⟨⟨s,k,9,[d]⟩,[]⟩
def ir:cP:=⟨[⟨[97,46,110,115],1,0⟩,⟨[104,46,121],2,5⟩,⟨[103,46,121],3,4⟩,⟨[105],4,9⟩],
 [⟨0, ⟨[46], [qB [46] 2 ⟨[97, 46, 110, 115], 0, 0⟩, qB [46] 4 ⟨[], 1, 0⟩, qB [120] 2 ⟨[104, 46, 121], 0, 0⟩, qB [121] 2 ⟨[103, 46, 121], 0, 0⟩]⟩⟩,
  ⟨1, ⟨[120], [qB [120] 2 ⟨[104, 46, 121], 0, 0⟩, qB [120] 4 ⟨[], 1, 0⟩, qB [108, 46, 120] 3 ⟨[116, 46, 120], 0, 0⟩, qB [116, 46, 120] 1 ⟨[], 7, 0⟩]⟩⟩,
  ⟨2, ⟨[121], [qB [121] 2 ⟨[103, 46, 121], 0, 0⟩, qB [121] 4 ⟨[], 1, 0⟩]⟩⟩],
 ⟨[46],6,0,[⟨[],1,1⟩]⟩,[1]⟩
theorem acA:au E 29 [] (· = ir.enc):=by
 have c1:=acy;have c2:=acz;have c3:=Jz;unfold yk at c1 c2 c3;refine au.kT ?_;refine au.run ag (fn:=Tryz.f29) Tryz.func29 (body:=Tryz.f29.body.getD .skip) rfl (by decide) 1 ?_;(conv=>whnf);(conv=>whnf);repeat ((fail_if_success (first|(refine aa.RM (b:=1) (off:=0) rfl rfl ?_)|fail));(refine aa.run ag F29 1 ?_);(conv=>whnf))
 refine aa.RM (b:=1) (off:=0) rfl rfl ?_;(conv=>whnf);refine gO F29 ?_
 with_reducible refine bJ (c1 [46] [97,46,110,115]) ?_
 refine gO F29 ?_
 with_reducible refine bJ (c2 [46]) ?_
 refine gO F29 ?_
 with_reducible refine bJ (c1 [120] [104,46,121]) ?_
 refine gO F29 ?_
 with_reducible refine bJ (c1 [121] [103,46,121]) ?_
 refine gO F29 ?_;refine aa.Un ag bN 12 2000 (by kernel_rfl) ?_;(conv=>whnf);refine cg.km (ah:=[1]) (c1 [120] [104,46,121]) rfl rfl (bg rfl) (mw Jy Jy) (by decide) (by simp) rfl rfl rfl ?_;refine gD ?_;refine cg.km (ah:=[1]) (c2 [120]) rfl rfl (bg rfl) (kq Jy) (by decide) (by simp) rfl rfl rfl ?_;refine gD ?_;refine bj (c3 [108,46,120] 3 ⟨[116,46,120],0,0⟩) ?_;refine gD ?_;refine bj (c3 [116,46,120] 1 ⟨[],7,0⟩) ?_;refine gD ?_;refine gS ?_;refine gO F29 ?_
 with_reducible refine bJ (c1 [121] [103,46,121]) ?_
 refine gO F29 ?_
 with_reducible refine bJ (c2 [121]) ?_
 refine gO F29 ?_;kernel_rfl
theorem acB:ir.Fits:=by
 exact⟨by decide,⟨by decide,by decide,by decide⟩,by decide,fun p hp=>by
  have h:∀ p∈ir.az,p.aE.ad.length<=100/\∀ s∈p.aE.ab,s.set.name.length<=100/\s.set.data.length<=100/\∀ d∈s.set.data,d.text.length<=100:=by decide
  obtain⟨h1,h2⟩:=h p hp;refine⟨Nat.le_trans h1 (by decide),fun s hs=>?_⟩;obtain⟨h3,h4,h5⟩:=h2 s hs
  exact⟨Nat.le_trans h3 (by decide),by omega,fun d hd=>Nat.le_trans (h5 d hd) (by decide)⟩⟩
theorem acC:kv ir [116,46,120]=[[46],[120],[121]]:=by kernel_rfl
theorem acD:kv ir [113,46,121]=[[46],[121]]:=by kernel_rfl
theorem RN:jK ir [116,46,120]=0:=by kernel_rfl
theorem acE:jK ir [113,46,121]=0:=by kernel_rfl
theorem acF:jK ir [113]=0:=by kernel_rfl
theorem acG:pt ir [116,46,120]=[0,4,5]:=by kernel_rfl
theorem acH:pt ir [113]=[0]:=by kernel_rfl
theorem acI:iE ir [116,46,120] [121]=([⟨[120],2⟩],0):=by kernel_rfl
theorem acJ:iE ir [116,46,120] [120]=([],0):=by kernel_rfl
theorem acK:iE ir [108,46,120] [121]=([⟨[120],2⟩],0):=by kernel_rfl
theorem acL:iE ir [113,46,121] [120]=([],4):=by kernel_rfl
theorem acM:au E 9 [] (· = .bool true):=by
 have hf:=acB;have b1:([116,46,120]:Text).length<=maxLen:=by decide
 have b2:([113,46,121]:Text).length<=maxLen:=by decide
 have b3:([113]:Text).length<=maxLen:=by decide
 have b4:([108,46,120]:Text).length<=maxLen:=by decide
 have b5:([121]:Text).length<=maxLen:=by decide
 have b6:([120]:Text).length<=maxLen:=by decide
 have c1:=Js ir [116,46,120] hf b1;have c2:=Js ir [113,46,121] hf b2;have c3:=Jv ir [116,46,120] hf b1;have c4:=Jv ir [113] hf b3;have c5:=Bi ir [116,46,120] [121] hf b1 b5;have c6:=Bi ir [116,46,120] [120] hf b1 b6;have c7:=Bi ir [108,46,120] [121] hf b4 b5;have c8:=Bi ir [113,46,121] [120] hf b2 b6;rw[acC,RN]at c1;rw[acD,acE]at c2;rw[acG,RN]at c3;rw[acH,acF]at c4;rw[acI]at c5;rw[acJ]at c6;rw[acK]at c7;rw[acL]at c8;have d1:=Ij [[46],[120],[121]] [[46],[120],[121]] (by decide);have d2:=Ij [[46],[121]] [[46],[121]] (by decide);have d3:=QI [⟨[120],2⟩] [⟨[120],2⟩] (by decide);have c0:=acA;generalize ir=w at *;refine eP F9 ?_;refine aj (c0) ?_;refine gO F9 ?_;refine aj (c1) ?_;refine gO F9 ?_;refine aj (c2) ?_;refine gO F9 ?_;refine aj (c3) ?_;refine gO F9 ?_;refine aj (c4) ?_;refine gO F9 ?_;refine aj (c5) ?_;refine gO F9 ?_;refine aj (c6) ?_;refine gO F9 ?_;refine aj (c7) ?_;refine gO F9 ?_;refine aj (c8) ?_;refine gO F9 ?_;refine aI (by decide) ?_;refine gO F9 ?_;refine aI (by decide) ?_;refine gO F9 ?_;refine aI (by decide) ?_;refine gO F9 ?_;refine aI (by decide) ?_;refine gO F9 ?_;refine aI (by decide) ?_;refine gO F9 ?_;refine aI (by decide) ?_;refine gO F9 ?_;refine aI (by decide) ?_;refine gO F9 ?_;refine aI (by decide) ?_;refine gO F9 ?_;refine aj (d1) ?_;refine gO F9 ?_;refine aI (by decide) ?_;refine gO F9 ?_;refine aj (d2) ?_;refine gO F9 ?_;refine aI (by decide) ?_;refine gO F9 ?_;refine aI (by decide) ?_;refine gO F9 ?_;refine aC (e := .int .i64 0) ⟨by decide,rfl⟩ rfl ?_;refine gO F9 ?_;refine aI (by decide) ?_;refine gO F9 ?_;refine aC (e := .int .i64 4) ⟨by decide,rfl⟩ rfl ?_;refine gO F9 ?_;refine aI (by decide) ?_;refine gO F9 ?_;refine aC (e := .int .i64 5) ⟨by decide,rfl⟩ rfl ?_;refine gO F9 ?_;refine aI (by decide) ?_;refine gO F9 ?_;refine aI (by decide) ?_;refine gO F9 ?_;refine aC (e := .int .i64 0) ⟨by decide,rfl⟩ rfl ?_;refine gO F9 ?_;refine aI (by decide) ?_;refine gO F9 ?_;refine aj (d3) ?_;refine gO F9 ?_;refine aI (by decide) ?_;refine gO F9 ?_;refine aI (by decide) ?_;refine gO F9 ?_;refine aj (d3) ?_;refine gO F9 ?_;simp
theorem RO{L:List Text}{n:Int}{r:DV}(h:r=.aJ [nx L,.int .i64 n]):norm r=.aJ [.sl (L.map .str),.int .i64 n]:=by
 subst h;unfold nx;split
 ·rename_i e;subst e;rfl
 ·rfl
theorem acN{L:List aM}{n:Int}{r:DV}(h:r=.aJ [rY L,.int .i64 n]):norm r=.aJ [.sl (L.map aM.enc),.int .i64 n]:=by
 subst h;unfold rY;split
 ·rename_i e;subst e;rfl
 ·rfl
theorem acO(w:cP)(s:Text)(hf:w.Fits)(eZ:s.length<=maxLen):au E 11 [w.enc,.str s] (· = .aJ [.sl ((kv w s).map .str),.int .i64 (jK w s)]):=au.norm ((Js w s hf eZ).mono fun _ h=>RO h)
theorem acP(w:cP)(s:Text)(hf:w.Fits)(hh:w.hints.length<=1000000)(eZ:s.length<=maxLen):au E 12 [w.enc,.str s] (· = .aJ [.sl ((kv w s).map .str),.int .i64 (jK w s)]):=au.norm ((Q8 w s hf hh eZ).mono fun _ h=>RO h)
theorem acQ(w:cP)(s z:Text)(hf:w.Fits)(hh:w.hints.length<=1000000)(eZ:s.length<=maxLen)(fT:z.length<=maxLen):au E 16 [w.enc,.str s,.str z] (· = .aJ [.sl ((iE w s z).1.map aM.enc),.int .i64 (iE w s z).2]):=au.norm ((aaQ w s z hf hh eZ fT).mono fun _ h=>acN h)
theorem acR{l:List aR}{s:Text}(H:eG l)(hl:l.length<=20):(eA l s).length<=1000000:=by
 rw[eA,<- I6];refine Nat.le_trans (I8 fun z hz=>(I7 H (s:=s) (i:=(eH l s).length) z (by rw[List.take_length];exact hz)).1) ?_;have:(l.flatMap fun p=>p.aE.ab.map fun s=>s.set.name).length<=l.length*20000:=Bc fun p hp=>by simp;exact(lN (H p hp)).len
 have:=Nat.mul_le_mul_right 20000 hl;simp only[qz,List.length_cons];omega
theorem acS{w:cP}{s:Text}(hl:w.az.length<=20):(kv w s).length<=1000000:=by
 unfold kv;split
 ·rename_i h;simp only[Bool.and_eq_true]at h;exact acR (tH h.1).1 hl
 ·simp
theorem acT{J:mA}{s:Text}{R:List bu}(H:fS J s R []):∀ (i:Nat) (v:bu),R[i]?=some v->v.list.length<=i:=by
 intro i
 induction i using Nat.strongRecOn with
 |ind i ih =>
  intro v h;rcases H.back h with⟨-,h2⟩|⟨b,u,-,h2,h4,h8⟩
  ·rw[h2];simp
  ·have:=ih b h2 u h4;rw[h8];simp;omega
theorem acU{w:cP}{s z:Text}:(iE w s z).1.length<=2147483648:=by
 unfold iE;split
 case isFalse=>simp
 rename_i h;simp only[Bool.and_eq_true]at h;obtain⟨H,hl⟩:=tH h.1;split
 ·rename_i v hv;obtain⟨i,hi⟩:=List.getElem?_of_mem (List.mem_of_find?_eq_some hv);have h1:=acT (vQ H s) i v hi;have h2:=aX hi;have h3:=AT H s;have h4:=yh H hl;simp only;omega
 ·simp
theorem acV(w:cP)(s z:Text)(hg:w.Good)(hs:s.length<=maxLen)(hz:z.length<=maxLen):au E 3 [w.enc,.str s,.str z] (· = .bool true):=by
 have c0:=acM;have c1:=acq w;cases h1:Bj w
 ·rw[h1]at c1;refine eP F3 ?_;refine aj (c0) ?_;refine gO F3 ?_;refine aj (c1) ?_;refine gO F3 ?_;repeat' (first|with_reducible(first|refine cY ?_|refine cN ?_|refine ar (fun _=>?_) (fun _=>?_))|refine gA F3 ?_|refine gB ?_|refine gC ?_|with_reducible rfl)
 obtain⟨hf,hk,hh,-⟩:=acx hg h1;rw[h1]at c1;have d1:=acO w s hf hs;have d2:=acP w s hf hh hs;have d3:=Jv w s hf hs;have d4:=aa0 w s hf hh hs;have d5:=Bi w s z hf hs hz;have d6:=acQ w s z hf hh hs hz;have e1:=Ij (kv w s) (kv w s) (acS hk);have e2:=QI (iE w s z).1 (iE w s z).1 acU;rw[decide_eq_true rfl]at e1 e2;have hO:(pt w s).length<=32:=by
  unfold pt;split
  ·exact Q9
  ·simp
 generalize kv w s=Z at *;generalize jK w s=n at *;generalize pt w s=O at *;generalize (iE w s z).1=Q at *;generalize (iE w s z).2=m at *;refine eP F3 ?_;refine aj (c0) ?_;refine gO F3 ?_;refine aj (c1) ?_;refine gO F3 ?_;refine aY ?_;refine gO F3 ?_;refine ar (fun h5=>?_) (fun h5=>?_)
 ·refine gO F3 ?_;refine bp ?_;refine gO F3 ?_
  with_reducible rfl
 refine gO F3 ?_;refine ar (fun h6=>?_) (fun h6=>?_)
 ·refine gO F3 ?_
  with_reducible rfl
 refine gO F3 ?_;refine aj (d1) ?_;refine gO F3 ?_;refine aj (d2) ?_;refine gO F3 ?_;refine aj (d3) ?_;refine gO F3 ?_;refine aj (d4) ?_;refine gO F3 ?_;refine aj (d5) ?_;refine gO F3 ?_;refine aj (d6) ?_;refine gO F3 ?_;refine aO (by simp) ?_;refine gO F3 ?_;refine aa.loop (κ:=Nat) ([7,20]++rg 81 16) (fun k=>[(81,.d (.int .i64 k)),(7,.d (.bool true))]) (fun _=>[]) (fun k=>k<=O.length) (fun k=>O.length-k) 0 (Nat.zero_le _) ?_ ?_
 ·exact sZ
 intro k hk IH;refine aa.head ag F3 2000 ?_;(conv=>whnf);refine ar (fun h7=>?_) (fun h7=>?_)
 ·have ai:k<O.length:=by simpa using h7
  obtain⟨o,ho⟩:=bd ai;have a1:=aS (f:=DV.int .i64) ho;refine gO F3 ?_;refine aa.draw ag bN 13 2000 (by kernel_rfl) ?_;(conv=>whnf);refine bp ?_;refine gD ?_;refine aC (e := .int .i64 o) a1 rfl ?_;refine gD ?_;refine aC (e := .int .i64 o) a1 rfl ?_;refine gD ?_;refine gS ?_;refine gO F3 ?_;refine aa.back (IH (k+1) (by omega) (by omega)) ?_;(conv=>whnf);repeat (first|exact trivial|(refine sI ?_;conv=>whnf))
  refine And.intro (by simp) ?_;exact sZ
 ·refine gO F3 ?_;refine bp ?_;refine gO F3 ?_;refine aj (e1) ?_;refine gO F3 ?_;refine bp ?_;refine gO F3 ?_;refine aI (by simp) ?_;refine gO F3 ?_;refine aI (by simp) ?_;refine gO F3 ?_;refine aj (e2) ?_;refine gO F3 ?_;refine bp ?_;refine gO F3 ?_;simp
theorem acW(w:cP)(s z:Text)(g0:w.Good)(g1:s.length<=maxLen)(g2:z.length<=maxLen):au E 3 [w.enc,.str s,.str z] (· = .bool true):=acV w s z g0 g1 g2
end Go.Proofs.YtcmnpelmmekdkaaGreatDoor.P
end
