/- Lemmas of mine. Conditions: as stated. -/
import Derived.Test.YtlhehdgciafakaaGreatDoorQ20
import Derived.Test.YtlhehdgciafakaaGreatDoorQ23
set_option linter.unusedVariables false
set_option linter.unusedSimpArgs false
open Bool renaming and_eq_true->ai2,false_and->ald,and_true->alr,true_and->aja,and_false->ale,eq_iff_iff->akN
open List renaming length_append->ah5,length_singleton->aj4,mem_of_getElem?->aiQ,all_eq_true->ahH,take_of_length_le->ajq,mem_map->ahY,getElem?_take->ahS
open Nat renaming zero_le->ai4
section
namespace Go.Proofs.YtlhehdgciafakaaGreatDoor.P
open Go Go.az
set_option maxRecDepth 100000
set_option maxHeartbeats 4000000
theorem SK(n:Int):aq E 311 [.int .i64 n] (· = .bool (decide (0<=n)&&decide (n<=100000))):=by
 refine eP Tryz.func311 ?_;repeat' (first|with_reducible(first|refine cX ?_|apply ah<;>intro)|refine gA Tryz.func311 ?_|refine gB ?_|with_reducible rfl)
 all_goals (simp_all;try omega)
theorem aer(s z:Text)(hs:s.length<=maxLen)(hz:z.length<=maxLen):aq E 310 [.str s,.str z] (· = .bool (zN s z)):=by
 unfold zN nf;have c1:=Eg z hz;have c2:=xi s z hs hz;unfold zm at c1;cases h2:Nm.valid z
 ·rw[h2]at c1;simp only[Bool.false_eq_true,if_false]at c1;rw[ale,ald,ald];refine eP F310.h ?_;repeat' (first|with_reducible(first|refine cC c1 ?_|refine cX ?_|apply ah<;>intro)|refine gE ?_|with_reducible rfl)
 rw[h2]at c1 c2;simp only[if_true,alr]at c1 c2;have hu:(Nm.valid s&&Nm.under s z)=Nm.fZ s z:=by unfold Nm.fZ;rw[h2];simp
 cases hl:Nm.labels z with
 |nil =>
  rw[hl]at c1;simp only[alr,Bool.not_false];rw[hu];refine eP F310.h ?_;repeat' (first|with_reducible(first|refine cC c1 ?_|refine cC c2 ?_|refine cX ?_|apply ah<;>intro)|refine gE ?_|with_reducible rfl)
  all_goals (refine congrArg DV.bool ?_;clear c1 c2;cases fw:Nm.valid s<;>simp_all[Nm.fZ])
 |cons x t =>
  rw[hl]at c1;simp only[alr];have hx:(x::t)[0]?=some x:=rfl;rw[Bool.and_right_comm,hu];refine eP F310.h ?_;repeat' (first|with_reducible(first|refine cC c1 ?_|refine cC c2 ?_|refine aR (tr (l:=x::t) (f:=DV.str) hx) rfl ?_|refine cX ?_|apply ah<;>intro)|refine gE ?_|with_reducible rfl)
  all_goals (refine congrArg DV.bool ?_;clear c1 c2;cases fw:Nm.valid s<;>simp_all[Nm.fZ])
theorem aes(l:List dE)(af:Text):aq E 312 [rI l,.str af] (· = .bool (kX l af)):=by
 unfold kX;have hg:∃ g0,g0=l.headD BR:=⟨_,rfl⟩;obtain⟨g0,hg⟩:=hg;rw[<- hg];refine eP F312.h ?_;apply ah<;>intro h1
 ·refine gC ?_;simp only[List.length_map]at h1;rw[decide_eq_false (by simp at h1;omega),ald]
 ·have h6:l.length<=6:=by simp at h1;omega
  rw[decide_eq_true oM,aja];refine gC ?_;refine I.lP l.length ([4,5,6]++rg 12 76) (fun k=>[(12,.d (.int .i64 k))]) (fun _=>[]) (fun k=>k<=l.length/\chain (ep af g0) gX none l=chain (ep af g0) gX (bS l k) (l.drop k)) ⟨ai4 _,rfl⟩ ?_ ?_
  ·exact sZ
  ·intro k hk IH;refine zA ?_ ?_<;>intro h5
   ·have ai:k<l.length:=zD h5
    obtain⟨x,hx⟩:=aI ai;have h0:=IY ai;rw[<- hg]at h0;have aJ:=xl (ok:=ep af g0) (rel:=gX) hx;rw[<- hk.2]at aJ;refine gC ?_;refine eM hx (gC ?_);repeat' (first|with_reducible(first|refine cX ?_|apply ah<;>intro)|refine gE ?_|with_reducible rfl)
    all_goals try
     (have bI : ep af g0 x=false := by clear aJ hk IH hg;simp_all[ep]<;>(intros;omega)
      rw[aJ, bI, ald, ald]
      done)
    refine gC ?_;refine dU ?_;rcases Nat.eq_zero_or_pos k with cb|cb
    ·have dM:bS l k=none:=by simp[bS,cb]
     rw[dM]at aJ;dsimp only at aJ;rw[alr]at aJ;repeat' (first|with_reducible(first|refine aR (bC hx) rfl ?_|refine aR (tr h0) rfl ?_|refine cX ?_|apply ah<;>intro)|refine gE ?_|with_reducible rfl)
     all_goals first
      |(have bI : ep af g0 x=false := by clear aJ hk IH hg;simp_all[ep, gX, bS]<;>(intros;omega)
        rw[aJ, bI, ald]
        done)
      |(exfalso;clear aJ hk IH hg;simp_all;done)
      |skip
     all_goals
      refine gC ?_;refine I.back (IH (k+1) ⟨by omega,by rw[aJ,show ep af g0 x=true by clear aJ hk IH hg;simp_all[ep,gX,bS]<;>omega,aja]⟩ oM) ?_;exact sZ
    ·obtain⟨q,hq,dM⟩:=tF cb hk.1;rw[dM]at aJ;repeat' (first|with_reducible(first|refine aR (bC hx) rfl ?_|refine aR (tr h0) rfl ?_|refine aR (nP hq cb oM) rfl ?_|refine cX ?_|apply ah<;>intro)|refine gE ?_|with_reducible rfl)
     all_goals first
      |(have bI : (ep af g0 x && gX q x)=false := by clear aJ hk IH hg;simp_all[ep, gX, bS]<;>(intros;omega)
        rw[aJ, bI, ald]
        done)
      |(exfalso;clear aJ hk IH hg;simp_all;done)
      |skip
     all_goals
      refine gC ?_;refine I.back (IH (k+1) ⟨by omega,by rw[aJ,show(ep af g0 x&&gX q x)=true by clear aJ hk IH hg;simp_all[ep,gX,bS]<;>omega,aja]⟩ oM) ?_;exact sZ
   ·have aA:l.length<=k:=zD h5
    refine gC ?_;rw[hk.2,List.drop_of_length_le aA];rfl
theorem aet(e:Entry):aq E 252 [e.enc] (· = .agg [.str e.signed.set.name,.int .i64 e.signed.set.type,.str e.ar]):=by
 refine eP Tryz.func252 ?_
 with_reducible rfl
theorem aeu(e:Entry)(hf:e.cR):aq E 251 [e.enc] (· = .bool (qN e)):=by
 have c1:=aer e.signed.set.name e.ar hf.1.1.name hf.2;have c3:=vj e.signed.set hf.1.1;have c4:=aes e.signed.sigs e.ar;obtain⟨⟨s,l⟩,z,u⟩:=e;unfold qN Co;simp only at c1 c3 c4 ⊢;show aq E _ [DV.agg [.str s.name,.int .i64 s.type,.int .i64 s.dD,rH s.data,rI l,.str z,.int .i64 u]] _;refine eP Tryz.func251 ?_;repeat' (first|with_reducible(first|refine cC c1 ?_|refine cC c3 ?_|refine cC c4 ?_|refine cC (SK _) ?_|refine cX ?_|apply ah<;>intro)|refine gA Tryz.func251 ?_|refine gB ?_|with_reducible rfl)
 all_goals (refine congrArg DV.bool ?_;clear c1 c3 c4;simp_all;try omega)
abbrev vL:=Text × Int × Text
@[reducible] def vL.en (p : vL) : DV := .agg [.str p.1, .int .i64 p.2.1, .str p.2.2]
theorem SL(a b:vL):fy (vL.en a) (vL.en b)=decide (a=b):=by
 show((a.1==b.1)&&((a.2.1==b.2.1)&&((a.2.2==b.2.2)&&true)))=_;rw[akN];simp[Prod.ext_iff]
theorem SM{es:List (DV × DV)}(h:nX vL.en es):∀ p∈es,eo E.T (TK.struct [(0,9),(1,3),(2,9)]) p.1:=fun p hp=>by
 obtain⟨a,e⟩:=h p hp;rw[e];exact⟨_,rfl,rfl,⟨_,rfl,_,rfl⟩,rfl,⟨_,rfl,_,rfl⟩,rfl,⟨_,rfl,_,rfl⟩,trivial⟩
theorem aev{α β:Type}{f:α->β}{l:List α}{k:Nat}{x:α}(hx:l[k]?=some x)(h:f x∈(l.take k).map f):¬ (l.map f).Nodup:=by
 obtain⟨y,hy,e⟩:=ahY.1 h;obtain⟨j,hj⟩:=List.getElem?_of_mem hy;have qM:j<k:=by have:=aW hj;simp at this;omega
 rw[ahS,if_pos qM]at hj;exact QY hx hj qM e
theorem aew{α β:Type}{f:α->β}{l:List α}{k:Nat}{x:α}(hx:l[k]?=some x)(h:f x ∉ (l.take k).map f)(hn:((l.take k).map f).Nodup):((l.take (k+1)).map f).Nodup :=
 QX hn hx fun j y qM hj e=>h (ahY.2 ⟨y,aiQ (i:=j) (by rw[ahS,if_pos qM];exact hj),e⟩)
theorem aex(c:Cache)(hl:c.list.length<=maxLen)(hf:∀ e∈c.list,e.cR):aq E 173 [c.enc] (· = .bool (zO c)):=by
 obtain⟨l⟩:=c;unfold zO;simp only at hl hf ⊢;unfold maxLen at hl;show aq E _ [DV.agg [.sl (l.map Entry.enc)]] _;refine eP F173.h ?_;apply ah<;>intro h1
 ·refine gC ?_;refine congrArg DV.bool ?_;have:¬ l.length<=400:=by simp at h1;omega
  simp[this]
 have hlen:decide (l.length<=400)=true:=by simp at h1 ⊢;omega
 rw[hlen,alr];clear h1 hlen;refine gC ?_;refine gC ?_;refine I.lP l.length ([2,5]++rg 14 17) (fun k=>[(14,.d (.int .i64 k)),(3,.map 1)]) (fun k=>[(1,.map (eY vL.en ((l.take k).map lU)))]) (fun k=>k<=l.length/\(l.take k).all qN=true/\((l.take k).map lU).Nodup) ⟨ai4 _,rfl,List.nodup_nil⟩ ?_ ?_
 ·refine sY ?_
  refine⟨rfl, ?_⟩;exact sZ
 rintro i ⟨hi,aM,cW⟩ IH;refine zA ?_ ?_<;>intro h5
 ·have ai:i<l.length:=zD h5
  obtain⟨x,hx⟩:=aI ai;have c1:=aeu x (hf x (aiQ hx));have c2:=aet x;have gv:=(pU SL ((l.take i).map lU)).1;obtain⟨gU,jx⟩:=xy SL ((l.take i).map lU) (lU x);refine gC ?_;refine eM hx (gC ?_);cases hp:qN x
  ·rw[hp]at c1;rw[dK hx hp,ald];repeat' (first|with_reducible(first|refine cC c1 ?_|refine cX ?_|apply ah<;>intro)|refine gE ?_|with_reducible rfl)
  rw[hp]at c1;repeat' (first|with_reducible(first|refine cC c1 ?_|refine cC c2 ?_|refine cX ?_|apply ah<;>intro)|refine gE ?_|with_reducible rfl)
  refine qm (.bool false) (.bool false) ⟨_,rfl,rfl,⟨_,rfl,_,rfl⟩,rfl,⟨_,rfl,_,rfl⟩,rfl,⟨_,rfl,_,rfl⟩,trivial⟩ (SM gv) (fun w=>by kernel_rfl) (fun _ _ => .bool _) gU jx (gC ?_);apply ah<;>intro h8
  ·refine gC ?_;rw[decide_eq_false (aev hx (zD h8)),ale]
  ·refine gC ?_;repeat' (first|with_reducible(first|refine cC c2 ?_|refine cX ?_|apply ah<;>intro)|refine gE ?_|with_reducible rfl)
   refine bj ⟨⟨_,rfl,rfl,⟨_,rfl,_,rfl⟩,rfl,⟨_,rfl,_,rfl⟩,rfl,⟨_,rfl,_,rfl⟩,trivial⟩,SM gv⟩ (gC ?_);refine I.back (IH (i+1) ⟨by omega,ea aM hx hp,aew hx (zD h8) cW⟩ oM) ?_;rw[cj hx,List.map_append,show[x].map lU=[lU x]from rfl,vC,show vL.en (lU x)=.agg [.str x.signed.set.name,.int .i64 x.signed.set.type,.str x.ar]from rfl];exact sZ
 ·have aA:l.length<=i:=zD h5
  rw[ajq aA]at aM cW;rw[aM,decide_eq_true cW];refine gC ?_;rfl
theorem z6(n a b:Int):aq E 172 [.int .i64 n,.int .i64 a,.int .i64 b] (· = .bool (decide (a<=n)&&decide (n<=b))):=by
 refine eP Tryz.func172 ?_;repeat' (first|with_reducible(first|refine cX ?_|apply ah<;>intro)|refine gA Tryz.func172 ?_|refine gB ?_|with_reducible rfl)
 all_goals (simp_all;try omega)
theorem K0(q:bp)(hq:q.name.length<=maxLen):aq E 171 [q.enc] (· = .bool (eD q)):=by
 refine eP Tryz.func171 ?_;repeat' (first|with_reducible(first|refine cC (iP _ hq) ?_|refine cC (z6 _ _ _) ?_|refine cX ?_|apply ah<;>intro)|refine gA Tryz.func171 ?_|refine gB ?_|with_reducible rfl)
 all_goals (simp_all[eD];try omega)
theorem SN(a:dJ)(hf:a.cR):aq E 254 [a.enc] (· = .bool (o6 a)):=by
 have c1:=QW ⟨[46],4⟩ a dC hf;have hq:eD ⟨[46],4⟩=true:=by decide +kernel
 rw[hq,aja]at c1;refine eP Tryz.func254 ?_;refine ao (c1) ?_;refine gO Tryz.func254 ?_
 with_reducible rfl
theorem aey(x:bZ)(at_:Int)(hf:x.cR):aq E 176 [x.enc,.int .i64 at_] (· = .bool (ob at_ x)):=by
 have c1:=K0 x.q hf.1;have c2:=SN x.answer hf.2;obtain⟨t,ad,⟨qn,qt⟩,⟨kd,l,cut⟩⟩:=x;unfold ob lV;simp only at c1 c2 ⊢;show aq E _ [DV.agg [.int .i64 t,.int .i64 ad,.str qn,.int .i64 qt,.int .i64 kd,.sl (l.map Signed.enc),.str cut],_] _;refine eP Tryz.func176 ?_;repeat' (first|with_reducible(first|refine cC c1 ?_|refine cC c2 ?_|refine cC (z6 _ _ _) ?_|refine cX ?_|apply ah<;>intro)|refine gA Tryz.func176 ?_|refine gB ?_|with_reducible rfl)
 all_goals (refine congrArg DV.bool ?_;clear c1 c2;simp_all;try omega)
theorem aez(v:nj)(hf:v.cR):aq E 177 [v.enc] (· = .bool (zP v)):=by
 have c1:=K0 v.q hf.1;have c2:=SN ⟨1,v.J,[]⟩ ⟨hf.2.1,hf.2.2,ai4 _⟩;obtain⟨kd,⟨qn,qt⟩,l⟩:=v;unfold zP;simp only at c1 c2 ⊢;show aq E _ [DV.agg [.int .i64 kd,.str qn,.int .i64 qt,.sl (l.map Signed.enc)]] _;refine eP Tryz.func177 ?_;repeat' (first|with_reducible(first|refine cC c1 ?_|refine cC c2 ?_|refine cX ?_|apply ah<;>intro)|refine gA Tryz.func177 ?_|refine gB ?_|with_reducible rfl)
 all_goals
  refine congrArg DV.bool ?_;have hz:o6 ⟨1,[],[]⟩=true:=by decide
  clear c1 c2 hf;cases l<;>simp_all<;>omega
@[reducible] def z7 (t : dO) : List ae := [.cells [.d (.str t.q.name), .d (.int .i64 t.q.type), .d (.int .i64 t.time), .d (.sl (t.cache.list.map Entry.enc)), .d (.sl (t.heard.map bZ.enc)), .d (.int .i64 t.result.kind), .d (.str t.result.q.name), .d (.int .i64 t.result.q.type), .d (.sl (t.result.J.map Signed.enc))]]
theorem aeA(t:dO)(x:bZ)(hf:x.cR):au E 175 (z7 t) [.d x.enc,.ptr 0 0] (fun a b=>a=.d (.bool (!ob t.time x))/\b=z7 t):=by
 have c1:=aey x t.time hf;apply au.kA
 case hk=>rfl
 refine aE ?_
 with_reducible refine ao (c1) ?_
 refine gC ?_;exact⟨rfl,rfl⟩
theorem aeB(t:dO)(l:List bZ)(hl:l.length<=maxLen)(hf:∀ x∈l,x.cR):au E 253 (z7 t) [.d (.sl (l.map bZ.enc)),.fn (.func 175) [] [.ptr 0 0]] (fun a b=>∃ n:Int,a=.d (.int .i64 n)/\b=z7 t/\decide (n>=0) = !l.all (ob t.time)):=by
 unfold maxLen at hl;refine aE ?_;refine I.lP l.length ([4,5]++rg 8 11) (fun k=>[(8,.d (.int .i64 k))]) (fun _=>[]) (fun k=>k<=l.length/\(l.take k).all (ob t.time)=true) ⟨ai4 _,rfl⟩ ?_ ?_
 ·exact sZ
 rintro k ⟨hk,aM⟩ IH;refine zA ?_ ?_<;>intro h5
 ·have ai:k<l.length:=zD h5
  obtain⟨x,hx⟩:=aI ai;have c1:=aeA t x (hf x (aiQ hx));refine gC ?_;refine eM hx (gC ?_)
  with_reducible refine aX (c1) ?_
  refine gC ?_;cases hp:ob t.time x
  ·refine vT ?_;exact⟨k,rfl,rfl,by rw[dK hx hp];simp⟩
  ·refine vF ?_;exact I.back (IH (k+1) ⟨by omega,ea aM hx hp⟩ oM) sZ
 ·have aA:l.length<=k:=zD h5
  rw[ajq aA]at aM;refine gC ?_;exact⟨_,rfl,rfl,by rw[aM];rfl⟩
theorem aeC(t:dO)(l:List bZ)(hl:l.length<=maxLen)(hf:∀ x∈l,x.cR):au E 174 (z7 t) [.d (.sl (l.map bZ.enc)),.fn (.func 175) [] [.ptr 0 0]] (fun a b=>a=.d (.bool (!l.all (ob t.time)))/\b=z7 t):=by
 refine aE ?_;refine lB (aeB t l hl hf) ?_;rintro r b ⟨n,rfl,rfl,h⟩;refine gC ?_;exact⟨by rw[h],rfl⟩
theorem aeD(t:dO)(hf:t.cR):aq E 104 [t.enc] (· = .bool (lW t)):=by
 obtain⟨h1,⟨h2,h3⟩,⟨h4,h5⟩,h6⟩:=hf;have c1:=K0 t.q h1;have c2:=aex t.cache h2 h3;have c3:=aez t.result h6;have c4:=aeC t t.heard h4 h5;obtain⟨⟨qn,qt⟩,at_,⟨cl⟩,l,⟨rk,⟨rn,rt⟩,rl⟩⟩:=t;unfold lW;simp only at c1 c2 c3 c4 h4 h5 ⊢;unfold maxLen at h4;show aq E _ [DV.agg [.str qn,.int .i64 qt,.int .i64 at_,.sl (cl.map Entry.enc),.sl (l.map bZ.enc),.int .i64 rk,.str rn,.int .i64 rt,.sl (rl.map Signed.enc)]] _;refine eP F104.h ?_;repeat' (first|with_reducible(first|refine cC c1 ?_|refine cC c2 ?_|refine cC (z6 _ _ _) ?_|refine cX ?_|apply ah<;>intro)|refine gE ?_|with_reducible rfl)
 all_goals try (refine congrArg DV.bool ?_;clear c1 c2 c3 c4 h3 h5 h6;simp_all<;>omega)
 refine aX c4 (gC ?_);repeat' (first|with_reducible(first|refine cC c3 ?_|refine cX ?_|apply ah<;>intro)|refine gE ?_|with_reducible rfl)
 all_goals (refine congrArg DV.bool ?_;clear c1 c2 c3 c4 h3 h5 h6)
 all_goals have e1:l.length<=40:=by simp_all;omega
 all_goals (generalize l.all (ob at_)=b at *;cases b<;>simp_all)
theorem FQ{α:Type}{f:α->List DV}{l:List α}{B n:Nat}(h:∀ x∈l,(f x).length<=B)(hn:l.length<=n):(l.flatMap f).length<=n*B:=by
 have:(l.flatMap f).length<=l.length*B:=by
  clear hn
  induction l with
  |nil=>simp
  |cons x l ih =>
   have h1:=h x (List.mem_cons_self ..);have h2:=ih fun y hy=>h y (List.mem_cons_of_mem _ hy);rw[List.flatMap_cons,ah5,List.length_cons,Nat.succ_mul];omega
 exact Nat.le_trans this (Nat.mul_le_mul_right B hn)
theorem Lk(s:Signed)(hs:s.set.data=[]\/eX s.set=true)(hn:s.set.name.length<=1000)(h6:s.sigs.length<=6)(hz:∀ g∈s.sigs,g.ar.length<=1000):(ka s).length<=10000:=by
 have h1:(s.sigs.flatMap jI).length<=6*1041:=FQ (fun g hg=>by
  have:=hz g hg;simp only[jI,ah5,dZ,nS,show ∀ n,(pc n).length=8 from fun _=>rfl]
  omega) h6
 have h2:(ou s.set).length<=1100:=by
  unfold ou;by_cases hd:s.set.data=[]
  ·rw[if_pos hd];simp only[ah5,iU,nS,dZ,aj4];omega
  ·have:=Xs (hs.resolve_left hd);rw[if_neg hd];simp only[ah5,iU];omega
 simp only[ka,ah5,aj4];omega
theorem afn{g:dE}(h:oa g=true):g.ar.length<=1000:=by
 have:Nm.valid g.ar=true:=by simp[oa]at h;exact h.1.1.1
 have:=dh this;omega
theorem Td{α:Type}{ok:α->Bool}{rel:α->α->Bool}:∀ {l:List α} {p:Option α},chain ok rel p l=true->∀ x∈l,ok x=true
 |[],_,_,x,hx=>by cases hx
 |y::l,p,h,x,hx=>by
  simp only[chain,ai2]at h;rcases List.mem_cons.1 hx with rfl|hx
  ·exact h.1.1
  ·exact Td h.2 x hx
theorem afo{l:List dE}{af:Text}(h:kX l af=true){g:dE}(hg:g∈l):g.ar=af:=by
 simp only[kX,ai2]at h;have:=Td h.2 g hg;simp[ep]at this;exact this.1.1.1.1.1.1.1.1.1
theorem Te{s:Signed}(hf:s.cR)(h:np s=true):s.pg/\(ka s).length<=10000:=by
 simp only[np,ai2,ahH,decide_eq_true_eq]at h;obtain⟨⟨h1,h2⟩,h3⟩:=h;exact⟨⟨hf.1,.inr h2,hf.2.1⟩,Lk s (.inr h2) (by have:=dh (vv h2);omega) h3 fun g hg=>afn (h1 g hg)⟩
theorem Tf{a:dJ}(hf:a.cR)(h:o6 a=true):(∀ s∈a.J,s.pg)/\(mF a.J).length<=400004/\a.cut.length<=60:=by
 simp only[o6,ai2,ahH,decide_eq_true_eq]at h;obtain⟨⟨⟨-,h2⟩,h3⟩,h4⟩:=h;refine⟨fun s hs=>(Te (hf.2.1 s hs) (h4 s hs)).1,?_,?_⟩
 ·have:=FQ (f:=ka) (fun s hs=>(Te (hf.2.1 s hs) (h4 s hs)).2) h2;simp only[mF,ah5,iU];omega
 ·unfold Fa at h3;split at h3
  ·exact dh h3
  ·simp at h3;simp[h3]
theorem afp{a:dJ}(h:lV a=true):a.J=[]/\a.cut=[]:=by
 simp[lV]at h;exact⟨h.1.2,h.2⟩
theorem Tg{x:bZ}{at_:Int}(hf:x.cR)(h:ob at_ x=true):(∀ s∈x.answer.J,s.pg)/\(mH x).length<=500000:=by
 simp only[ob,ai2,Bool.or_eq_true,decide_eq_true_eq]at h;obtain⟨⟨⟨⟨h1,-⟩,-⟩,-⟩,h2⟩:=h;have hq:x.q.name.length<=60:=dh (by simp[eD]at h1;exact h1.1);have e:(mH x).length=16+(x.q.name.length+2)+1+(x.answer.cut.length+1)+(mF x.answer.J).length:=by simp only[mH,kF,ah5,aj4,dZ,nS]
 rcases h2 with h2|h2
 ·obtain⟨e1,e2⟩:=afp h2;refine⟨by simp[e1],?_⟩;rw[e,e1,e2];simp only[mF,ah5,iU,List.flatMap_nil,List.length_nil];omega
 ·obtain⟨k1,k2,k3⟩:=Tf hf.2 h2;exact⟨k1,by omega⟩
theorem Th{e:Entry}(hf:e.cR)(h:qN e=true):e.signed.pg/\(mG e).length<=12000:=by
 simp only[qN,ai2,decide_eq_true_eq]at h;obtain⟨⟨⟨h1,-⟩,-⟩,h2⟩:=h;simp only[zN,ai2]at h1;obtain⟨⟨⟨v1,v2⟩,-⟩,-⟩:=h1;have n1:=dh v1;have n2:=dh v2;have hs:e.signed.pg/\(ka e.signed).length<=10000:=by
  split at h2
  ·rename_i hd;have fo:e.signed.set.data=[]:=by simp[Co]at hd;exact hd
   have hg:e.signed.sigs=[]:=by simp at h2;exact h2.2
   exact⟨⟨hf.1.1,.inl fo,hf.1.2.1⟩,Lk _ (.inl fo) oM (by simp[hg]) (by simp[hg])⟩
  ·simp only[ai2]at h2;have h3:=h2.2;simp only[kX,ai2,decide_eq_true_eq]at h3
   exact⟨⟨hf.1.1,.inr h2.1,hf.1.2.1⟩,Lk _ (.inr h2.1) oM oM fun g hg=>by
    have:=afo h2.2 hg
    rw[this];omega⟩
 refine⟨hs.1,?_⟩;simp only[mG,ah5,nS,dZ];omega
theorem afq{t:dO}(hf:t.cR)(h:lW t=true):t.pg/\(sy t).length<=100000000:=by
 obtain⟨g1,⟨g2,g3⟩,⟨g4,g5⟩,g6⟩:=hf;simp only[lW,ai2,ahH,decide_eq_true_eq]at h;obtain⟨⟨⟨⟨⟨⟨h1,h2⟩,-⟩,-⟩,h3⟩,h4⟩,h5⟩:=h;simp only[zO,ai2,ahH,decide_eq_true_eq]at h3;obtain⟨⟨c1,-⟩,c2⟩:=h3;have hq:t.q.name.length<=60:=dh (by simp[eD]at h2;exact h2.1);have hr:(∀ s∈t.result.J,s.pg)/\(mF t.result.J).length<=400004/\t.result.q.name.length<=60:=by
  simp only[zP,ai2]at h5;obtain⟨⟨⟨-,-⟩,r3⟩,r4⟩:=h5;split at r4
  ·rename_i hk;have e:t.result.J=[]:=by simpa [hk]using r3
   exact⟨by simp[e],by simp[e,mF,iU],dh (by simp[eD]at r4;exact r4.1)⟩
  ·simp only[ai2,decide_eq_true_eq]at r4;obtain⟨k1,k2,-⟩:=Tf (a:=⟨1,t.result.J,[]⟩) ⟨g6.2.1,g6.2.2,ai4 _⟩ r4.2;exact⟨k1,k2,by rw[r4.1];simp⟩
 refine⟨⟨g2,fun e he=>(Th (g3 e he) (c1 e he)).1,g4,fun x hx=>⟨(g5 x hx).2.1,(Tg (g5 x hx) (h1 x hx)).1⟩,g6.2.1,hr.1⟩,?_⟩;have b1:=FQ (f:=mG) (fun e he=>(Th (g3 e he) (c1 e he)).2) c2;have b2:=FQ (f:=mH) (fun x hx=>(Tg (g5 x hx) (h1 x hx)).2) h4;simp only[sy,qa,ui,kF,ah5,aj4,iU,nS,dZ];omega
theorem afr(l:List DV)(h:l≠[])(hl:l.length<=2147483648)(hc:∀ e∈l,e.cells.length=1):aq E 110 [.sl l] (· = .sl l):=by
 refine eP F110.h ?_;refine I.mY ag rfl rfl rfl rfl (bg rfl) (fun b hb=>?_);obtain rfl:b=false:=by
  cases b
  ·rfl
  ·exact absurd (hb rfl) h
 refine gC ?_;refine vF ?_;refine bj ⟨by simp;omega,hc⟩ ?_;refine gC ?_;rfl
theorem afs(t:dO)(hf:t.cR):aq E 41 [t.enc] (fun r=>∃ x n,r=.aG [x,.int .i64 n]/\decide (n=1) = !lW t):=by
 have c1:=aeD t hf;cases hv:lW t
 ·rw[hv]at c1;obtain⟨⟨qn,qt⟩,at_,⟨cl⟩,l,⟨rk,⟨rn,rt⟩,rl⟩⟩:=t;show aq E _ [DV.agg [.str qn,.int .i64 qt,.int .i64 at_,.sl (cl.map Entry.enc),.sl (l.map bZ.enc),.int .i64 rk,.str rn,.int .i64 rt,.sl (rl.map Signed.enc)]] _;refine eP F41.h ?_;repeat' (first|with_reducible(first|refine cC c1 ?_|refine cX ?_|apply ah<;>intro)|refine gE ?_|with_reducible rfl)
  exact⟨_,_,rfl,rfl⟩
 ·rw[hv]at c1;obtain⟨hw,hlen⟩:=afq hf hv;have c2:=afj t hw oM;have hB:=afi t;have CN:sy t≠[]:=hB.1;generalize sy t=M at *;obtain⟨⟨qn,qt⟩,at_,⟨cl⟩,l,⟨rk,⟨rn,rt⟩,rl⟩⟩:=t;clear hf hw hv;show aq E _ [DV.agg [.str qn,.int .i64 qt,.int .i64 at_,.sl (cl.map Entry.enc),.sl (l.map bZ.enc),.int .i64 rk,.str rn,.int .i64 rt,.sl (rl.map Signed.enc)]] _;refine eP F41.h ?_;repeat' (first|with_reducible(first|refine cC c1 ?_|refine cX ?_|apply ah<;>intro)|refine gE ?_|with_reducible rfl)
  with_reducible refine aX (c2) ?_
  refine gC ?_
  with_reducible refine aX (Tc M CN) ?_
  refine gC ?_;have la:∀ x∈M,isByte x:=hB.2;refine VQ (Xr M oM la) rfl rfl rfl rfl (gC ?_);have CO:=hB.more (Lg (oU zo M));have po:(M++pc (oU zo M)).length<=100000008:=by rw[ah5];have:(pc (oU zo M)).length=8:=rfl;omega
  have Ti:M++pc (oU zo M)≠[]:=CO.1
  with_reducible refine aX (FO _ M hB oM) ?_
  refine gC ?_
  with_reducible refine aX (afm (M++pc (oU zo M))) ?_
  refine gC ?_;apply ah<;>intro h1
  ·refine gC ?_;exact⟨_,_,rfl,rfl⟩
  ·refine gC ?_;refine aX (Tc _ Ti) ?_;(conv=>whnf);refine I.freeze 4 ?_;(conv=>whnf);refine gC ?_
   with_reducible refine ao (afr _ Ti oM (fun e he=>by rw[CO.cells e he,aj4])) ?_
   refine gC ?_;exact⟨_,_,rfl,rfl⟩
theorem aft(t:dO)(hf:t.cR):aq E 40 [t.enc] (· = .bool (!lW t)):=by
 have c1:=afs t hf;obtain⟨⟨qn,qt⟩,at_,⟨cl⟩,l,⟨rk,⟨rn,rt⟩,rl⟩⟩:=t;generalize lW _=b at *;show aq E _ [DV.agg [.str qn,.int .i64 qt,.int .i64 at_,.sl (cl.map Entry.enc),.sl (l.map bZ.enc),.int .i64 rk,.str rn,.int .i64 rt,.sl (rl.map Signed.enc)]] _;refine eP Tryz.func40 ?_
 with_reducible refine ta (c1) ?_
 rintro r ⟨x,n,rfl,h⟩;refine gO Tryz.func40 ?_;refine congrArg DV.bool ?_;rw[<- h];rw[akN];simp
theorem afu(l:List dO)(hl:l.length<=maxLen)(hf:∀ x∈l,x.cR):au E 103 [] [.d (.sl (l.map dO.enc)),.fn (.func 40) [] []] (fun a b=>∃ n:Int,a=.d (.int .i64 n)/\b=[]/\decide (n>=0) = !l.all lW):=by
 unfold maxLen at hl;refine aE ?_;refine I.lP l.length ([4,5]++rg 8 11) (fun k=>[(8,.d (.int .i64 k))]) (fun _=>[]) (fun k=>k<=l.length/\(l.take k).all lW=true) ⟨ai4 _,rfl⟩ ?_ ?_
 ·exact sZ
 rintro k ⟨hk,aM⟩ IH;refine zA ?_ ?_<;>intro h5
 ·have ai:k<l.length:=zD h5
  obtain⟨x,hx⟩:=aI ai;have c1:=aft x (hf x (aiQ hx));refine gC ?_;refine eM hx (gC ?_);refine ao (c1) (gC ?_);cases hp:lW x
  ·refine vT ?_;exact⟨k,rfl,rfl,by rw[dK hx hp];simp⟩
  ·refine vF ?_;exact I.back (IH (k+1) ⟨by omega,ea aM hx hp⟩ oM) sZ
 ·have aA:l.length<=k:=zD h5
  rw[ajq aA]at aM;refine gC ?_;exact⟨_,rfl,rfl,by rw[aM];rfl⟩
theorem afv(l:List dO)(hl:l.length<=maxLen)(hf:∀ x∈l,x.cR):au E 39 [] [.d (.sl (l.map dO.enc)),.fn (.func 40) [] []] (fun a b=>a=.d (.bool (!l.all lW))/\b=[]):=by
 refine aE ?_;refine lB (afu l hl hf) ?_;rintro r b ⟨n,rfl,rfl,h⟩;refine gC ?_;exact⟨by rw[h],rfl⟩
theorem Tj(e:iR)(h1:e.before.Fits)(h2:e.before.aw.length<=1000000)(h3:Steps.Fits e.steps)(h4:qQ.J8 e.before e.dA)(h5:e.mw.length<=maxLen)(h6:∀ x∈e.mw,x.cR):aq E 15 [e.enc] (· = .bool (je e)):=by
 have c1:=Qq e.before e.steps h1 h2 h3;have c2:=abe e.before e.dA h4;have c3:=afv e.mw h5 h6;obtain⟨⟨ay,aw,anchor,hints,bq,fin⟩,sl,cl,tl⟩:=e;unfold je;simp only at c1 c2 c3 ⊢;clear h1 h2 h3 h4 h6;show aq E _ [HE ay aw anchor hints bq fin sl cl tl] _;refine eP F15.h ?_;repeat' (first|with_reducible(first|refine cC c1 ?_|refine cC c2 ?_|refine cX ?_|apply ah<;>intro)|refine gE ?_|with_reducible rfl)
 all_goals try (refine congrArg DV.bool ?_;clear c1 c2 c3 h5;simp_all<;>omega)
 refine aX c3 (gC ?_);refine congrArg DV.bool ?_;clear c1 c2 c3 h5;have e1:tl.length<=100:=by simp_all;omega
 generalize tl.all lW=b at *;cases b<;>simp_all
end Go.Proofs.YtlhehdgciafakaaGreatDoor.P
end
