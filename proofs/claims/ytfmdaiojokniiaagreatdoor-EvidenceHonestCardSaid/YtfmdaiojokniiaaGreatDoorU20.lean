/- Lemmas of mine. Conditions: as stated. -/
import Derived.Test.YtfmdaiojokniiaaGreatDoorU17
import Derived.Test.YtfmdaiojokniiaaGreatDoorU19
set_option linter.unusedVariables false
set_option linter.unusedSimpArgs false
section
namespace Go.Proofs.YtfmdaiojokniiaaGreatDoor.P
open Go Go.ay
set_option maxRecDepth 100000
set_option maxHeartbeats 4000000
theorem Nv(n:Int):aq E 323 [.int .i64 n] (· = .bool (decide (0<=n)&&decide (n<=100000))):=by
 refine eP Tryz.func323 ?_;repeat' (first|with_reducible(first|refine cY ?_|refine cN ?_|refine ai (fun _=>?_) (fun _=>?_))|refine gA Tryz.func323 ?_|refine gB ?_|with_reducible rfl)
 all_goals (simp_all;try omega)
theorem Xj(s z:Text)(hs:s.length<=maxLen)(hz:z.length<=maxLen):aq E 322 [.str s,.str z] (· = .bool (xB s z)):=by
 unfold xB lM;have c1:=Ga z hz;have c2:=uU s z hs hz;unfold zO at c1;cases h2:Nm.valid z
 ·rw[h2]at c1;simp only[Bool.false_eq_true,if_false]at c1;rw[Bool.and_false,Bool.false_and,Bool.false_and];refine eP Tryz.func322 ?_;repeat' (first|with_reducible(first|refine ao (c1) ?_|refine au (c1) ?_|refine cY ?_|refine cN ?_|refine ai (fun _=>?_) (fun _=>?_))|refine gA Tryz.func322 ?_|refine gB ?_|with_reducible rfl)
 rw[h2]at c1 c2;simp only[if_true,Bool.and_true]at c1 c2;have hu:(Nm.valid s&&Nm.under s z)=Nm.mn s z:=by unfold Nm.mn;rw[h2];simp
 cases hl:Nm.labels z with
 |nil =>
  rw[hl]at c1;simp only[Bool.and_true,Bool.not_false];rw[hu];refine eP Tryz.func322 ?_;repeat' (first|with_reducible(first|refine ao (c1) ?_|refine au (c1) ?_|refine ao (c2) ?_|refine au (c2) ?_|refine cY ?_|refine cN ?_|refine ai (fun _=>?_) (fun _=>?_))|refine gA Tryz.func322 ?_|refine gB ?_|with_reducible rfl)
  all_goals (refine congrArg DV.bool ?_;clear c1 c2;cases dm:Nm.valid s<;>simp_all[Nm.mn])
 |cons x t =>
  rw[hl]at c1;simp only[Bool.and_true];have hx:(x::t)[0]?=some x:=rfl;rw[Bool.and_right_comm,hu];refine eP Tryz.func322 ?_;repeat' (first|with_reducible(first|refine ao (c1) ?_|refine au (c1) ?_|refine ao (c2) ?_|refine au (c2) ?_|refine aB (sP (l:=x::t) (f:=DV.str) hx) rfl ?_|refine cY ?_|refine cN ?_|refine ai (fun _=>?_) (fun _=>?_))|refine gA Tryz.func322 ?_|refine gB ?_|with_reducible rfl)
  all_goals (refine congrArg DV.bool ?_;clear c1 c2;cases dm:Nm.valid s<;>simp_all[Nm.mn])
theorem Xk(l:List da)(aj:Text):aq E 324 [pF l,.str aj] (· = .bool (jC l aj)):=by
 unfold jC;have hg:∃ g0,g0=l.headD zT:=⟨_,rfl⟩;obtain⟨g0,hg⟩:=hg;rw[<- hg];refine eP F324 ?_;refine ai (fun h1=>?_) (fun h1=>?_)
 ·refine gO F324 ?_;simp only[List.length_map]at h1;rw[decide_eq_false (by simp at h1;omega),Bool.false_and]
 ·have h6:l.length<=6:=by simp at h1;omega
  rw[decide_eq_true (by omega),Bool.true_and];refine gO F324 ?_;refine I.loop (κ:=Nat) ([4,5,6]++rg 12 76) (fun k=>[(12,.d (.int .i64 k))]) (fun _=>[]) (fun k=>k<=l.length/\chain (dB aj g0) fP none l=chain (dB aj g0) fP (bL l k) (l.drop k)) (fun k=>l.length-k) 0 ⟨Nat.zero_le _,rfl⟩ ?_ ?_
  ·exact sZ
  ·intro k hk IH;refine I.head ab F324 2000 ?_;(conv=>whnf);refine ai (fun h5=>?_) (fun h5=>?_)
   ·have ah:k<l.length:=by simpa using h5
    obtain⟨x,hx⟩:=aG ah;have h0:=Gv ah;rw[<- hg]at h0;have aF:=uZ (ok:=dB aj g0) (rel:=fP) hx;rw[<- hk.2]at aF;refine gO F324 ?_;refine aB (e:=x.enc) (aN hx) rfl ?_;refine gO F324 ?_;repeat' (first|with_reducible(first|refine cY ?_|refine cN ?_|refine ai (fun _=>?_) (fun _=>?_))|refine gA F324 ?_|refine gB ?_|with_reducible rfl)
    all_goals try
     (have bK : dB aj g0 x=false := by clear aF hk IH hg;simp_all[dB]<;>(intros;omega)
      rw[aF, bK, Bool.false_and, Bool.false_and]
      done)
    refine gO F324 ?_;refine I.bJ ab bG 2000 (by kernel_rfl) ?_;(conv=>whnf);rcases Nat.eq_zero_or_pos k with bY|bY
    ·have dH:bL l k=none:=by simp[bL,bY]
     rw[dH]at aF;dsimp only at aF;rw[Bool.and_true]at aF;repeat' (first|with_reducible(first|refine aB (aN hx) rfl ?_|refine aB (sP h0) rfl ?_|refine cY ?_|refine cN ?_|refine ai (fun _=>?_) (fun _=>?_))|refine gA F324 ?_|refine gB ?_|with_reducible rfl)
     all_goals first
      |(have bK : dB aj g0 x=false := by clear aF hk IH hg;simp_all[dB, fP, bL]<;>(intros;omega)
        rw[aF, bK, Bool.false_and]
        done)
      |(exfalso;clear aF hk IH hg;simp_all;done)
      |skip
     all_goals
      refine gO F324 ?_;refine I.back (IH (k+1) ⟨by omega,by rw[aF,show dB aj g0 x=true by clear aF hk IH hg;simp_all[dB,fP,bL]<;>omega,Bool.true_and]⟩ (by omega)) ?_;exact sZ
    ·obtain⟨q,hq,dH⟩:=qZ bY hk.1;rw[dH]at aF;repeat' (first|with_reducible(first|refine aB (aN hx) rfl ?_|refine aB (sP h0) rfl ?_|refine aB (nh hq bY (by omega)) rfl ?_|refine cY ?_|refine cN ?_|refine ai (fun _=>?_) (fun _=>?_))|refine gA F324 ?_|refine gB ?_|with_reducible rfl)
     all_goals first
      |(have bK : (dB aj g0 x && fP q x)=false := by clear aF hk IH hg;simp_all[dB, fP, bL]<;>(intros;omega)
        rw[aF, bK, Bool.false_and]
        done)
      |(exfalso;clear aF hk IH hg;simp_all;done)
      |skip
     all_goals
      refine gO F324 ?_;refine I.back (IH (k+1) ⟨by omega,by rw[aF,show(dB aj g0 x&&fP q x)=true by clear aF hk IH hg;simp_all[dB,fP,bL]<;>omega,Bool.true_and]⟩ (by omega)) ?_;exact sZ
   ·have aA:l.length<=k:=by simpa using h5
    refine gO F324 ?_;rw[hk.2,List.drop_of_length_le aA];rfl
theorem Xl(e:Entry):aq E 264 [e.enc] (· = .agg [.str e.signed.set.name,.int .i64 e.signed.set.type,.str e.aw]):=by
 refine eP Tryz.func264 ?_
 with_reducible rfl
theorem Xm(e:Entry)(hf:e.cT):aq E 263 [e.enc] (· = .bool (o0 e)):=by
 have c1:=Xj e.signed.set.name e.aw hf.1.1.name hf.2;have c3:=sU e.signed.set hf.1.1;have c4:=Xk e.signed.sigs e.aw;obtain⟨⟨s,l⟩,z,u⟩:=e;unfold o0 zZ;simp only at c1 c3 c4 ⊢;show aq E _ [DV.agg [.str s.name,.int .i64 s.type,.int .i64 s.cy,pE s.data,pF l,.str z,.int .i64 u]] _;refine eP Tryz.func263 ?_;repeat' (first|with_reducible(first|refine ao (c1) ?_|refine au (c1) ?_|refine ao (c3) ?_|refine au (c3) ?_|refine ao (c4) ?_|refine au (c4) ?_|refine ao (Nv _) ?_|refine au (Nv _) ?_|refine cY ?_|refine cN ?_|refine ai (fun _=>?_) (fun _=>?_))|refine gA Tryz.func263 ?_|refine gB ?_|with_reducible rfl)
 all_goals (refine congrArg DV.bool ?_;clear c1 c3 c4;simp_all;try omega)
abbrev tq:=Text × Int × Text
@[reducible] def tq.en (p : tq) : DV := .agg [.str p.1, .int .i64 p.2.1, .str p.2.2]
theorem Nw(a b:tq):eE (tq.en a) (tq.en b)=decide (a=b):=by
 show((a.1==b.1)&&((a.2.1==b.2.1)&&((a.2.2==b.2.2)&&true)))=_;rw[Bool.eq_iff_iff];simp[Prod.ext_iff]
theorem Nx{es:List (DV × DV)}(h:mA tq.en es):∀ p∈es,dn E.T (TK.struct [(0,9),(1,3),(2,9)]) p.1:=fun p hp=>by
 obtain⟨a,e⟩:=h p hp;rw[e];exact⟨_,rfl,rfl,⟨_,rfl,_,rfl⟩,rfl,⟨_,rfl,_,rfl⟩,rfl,⟨_,rfl,_,rfl⟩,trivial⟩
theorem Xn{α β:Type}{f:α->β}{l:List α}{k:Nat}{x:α}(hx:l[k]?=some x)(h:f x∈(l.take k).map f):¬ (l.map f).Nodup:=by
 obtain⟨y,hy,e⟩:=List.mem_map.1 h;obtain⟨j,hj⟩:=List.getElem?_of_mem hy;have rm:j<k:=by have:=aQ hj;simp at this;omega
 rw[List.getElem?_take,if_pos rm]at hj;exact L4 hx hj rm e
theorem Xo{α β:Type}{f:α->β}{l:List α}{k:Nat}{x:α}(hx:l[k]?=some x)(h:f x ∉ (l.take k).map f)(hn:((l.take k).map f).Nodup):((l.take (k+1)).map f).Nodup :=
 L3 hn hx fun j y rm hj e=>h (List.mem_map.2 ⟨y,List.mem_of_getElem? (i:=j) (by rw[List.getElem?_take,if_pos rm];exact hj),e⟩)
theorem Xp(c:Cache)(hl:c.list.length<=maxLen)(hf:∀ e∈c.list,e.cT):aq E 190 [c.enc] (· = .bool (xC c)):=by
 obtain⟨l⟩:=c;unfold xC;simp only at hl hf ⊢;unfold maxLen at hl;show aq E _ [DV.agg [.sl (l.map Entry.enc)]] _;refine eP F190 ?_;refine ai (fun h1=>?_) (fun h1=>?_)
 ·refine gO F190 ?_;refine congrArg DV.bool ?_;have:¬ l.length<=400:=by simp at h1;omega
  simp[this]
 have hlen:decide (l.length<=400)=true:=by simp at h1 ⊢;omega
 rw[hlen,Bool.and_true];clear h1 hlen;refine gO F190 ?_;refine gO F190 ?_;refine I.loop (κ:=Nat) ([2,5]++rg 14 17) (fun k=>[(14,.d (.int .i64 k)),(3,.map 1)]) (fun k=>[(1,.map (ek tq.en ((l.take k).map jZ)))]) (fun k=>k<=l.length/\(l.take k).all o0=true/\((l.take k).map jZ).Nodup) (fun k=>l.length-k) 0 ⟨Nat.zero_le _,rfl,List.nodup_nil⟩ ?_ ?_
 ·(conv=>whnf);repeat (first|exact trivial|(refine sI ?_;conv=>whnf))
  refine And.intro rfl ?_;exact sZ
 rintro i ⟨hi,aJ,cX⟩ IH;refine I.head ab F190 2000 ?_;(conv=>whnf);refine ai (fun h5=>?_) (fun h5=>?_)
 ·have ah:i<l.length:=by simpa using h5
  obtain⟨x,hx⟩:=aG ah;have c1:=Xm x (hf x (List.mem_of_getElem? hx));have c2:=Xl x;have fp:=(oo Nw ((l.take i).map jZ)).1;obtain⟨gw,jd⟩:=vq Nw ((l.take i).map jZ) (jZ x);refine gO F190 ?_;refine aB (e:=x.enc) (aN hx) rfl ?_;refine gO F190 ?_;cases hp:o0 x
  ·rw[hp]at c1;rw[di hx hp,Bool.false_and];repeat' (first|with_reducible(first|refine ao (c1) ?_|refine au (c1) ?_|refine cY ?_|refine cN ?_|refine ai (fun _=>?_) (fun _=>?_))|refine gA F190 ?_|refine gB ?_|with_reducible rfl)
  rw[hp]at c1;repeat' (first|with_reducible(first|refine ao (c1) ?_|refine au (c1) ?_|refine ao (c2) ?_|refine au (c2) ?_|refine cY ?_|refine cN ?_|refine ai (fun _=>?_) (fun _=>?_))|refine gA F190 ?_|refine gB ?_|with_reducible rfl)
  refine oK (.bool false) (.bool false) ⟨_,rfl,rfl,⟨_,rfl,_,rfl⟩,rfl,⟨_,rfl,_,rfl⟩,rfl,⟨_,rfl,_,rfl⟩,trivial⟩ (Nx fp) (fun w=>by kernel_rfl) (fun _ _ => .bool _) gw jd ?_;refine gO F190 ?_;refine ai (fun h8=>?_) (fun h8=>?_)
  ·refine gO F190 ?_;rw[decide_eq_false (Xn hx (by simpa using h8)),Bool.and_false]
  ·refine gO F190 ?_;repeat' (first|with_reducible(first|refine ao (c2) ?_|refine au (c2) ?_|refine cY ?_|refine cN ?_|refine ai (fun _=>?_) (fun _=>?_))|refine gA F190 ?_|refine gB ?_|with_reducible rfl)
   refine aV ⟨⟨_,rfl,rfl,⟨_,rfl,_,rfl⟩,rfl,⟨_,rfl,_,rfl⟩,rfl,⟨_,rfl,_,rfl⟩,trivial⟩,Nx fp⟩ ?_;refine gO F190 ?_;refine I.back (IH (i+1) ⟨by omega,dw aJ hx hp,Xo hx (by simpa using h8) cX⟩ (by omega)) ?_;rw[cK hx,List.map_append,show[x].map jZ=[jZ x]from rfl,te,show tq.en (jZ x)=.agg [.str x.signed.set.name,.int .i64 x.signed.set.type,.str x.aw]from rfl];exact sZ
 ·have aA:l.length<=i:=by simpa using h5
  rw[List.take_of_length_le aA]at aJ cX;rw[aJ,decide_eq_true cX];refine gO F190 ?_;rfl
theorem xT(n a b:Int):aq E 189 [.int .i64 n,.int .i64 a,.int .i64 b] (· = .bool (decide (a<=n)&&decide (n<=b))):=by
 refine eP Tryz.func189 ?_;repeat' (first|with_reducible(first|refine cY ?_|refine cN ?_|refine ai (fun _=>?_) (fun _=>?_))|refine gA Tryz.func189 ?_|refine gB ?_|with_reducible rfl)
 all_goals (simp_all;try omega)
theorem Hp(q:bB)(hq:q.name.length<=maxLen):aq E 188 [q.enc] (· = .bool (fF q)):=by
 refine eP Tryz.func188 ?_;repeat' (first|with_reducible(first|refine ao (gG _ hq) ?_|refine au (gG _ hq) ?_|refine ao (xT _ _ _) ?_|refine au (xT _ _ _) ?_|refine cY ?_|refine cN ?_|refine ai (fun _=>?_) (fun _=>?_))|refine gA Tryz.func188 ?_|refine gB ?_|with_reducible rfl)
 all_goals (simp_all[fF];try omega)
theorem Ny(a:dR)(hf:a.cT):aq E 266 [a.enc] (· = .bool (nt a)):=by
 have c1:=LF ⟨[46],4⟩ a (by decide) hf;have hq:fF ⟨[46],4⟩=true:=by decide +kernel
 rw[hq,Bool.true_and]at c1;refine eP Tryz.func266 ?_;refine ao (c1) ?_;refine gO Tryz.func266 ?_
 with_reducible rfl
theorem Xq(x:cW)(at_:Int)(hf:x.cT):aq E 193 [x.enc,.int .i64 at_] (· = .bool (mz at_ x)):=by
 have c1:=Hp x.q hf.1;have c2:=Ny x.answer hf.2;obtain⟨t,ad,⟨qn,qt⟩,⟨kd,l,cut⟩⟩:=x;unfold mz nw;simp only at c1 c2 ⊢;show aq E _ [DV.agg [.int .i64 t,.int .i64 ad,.str qn,.int .i64 qt,.int .i64 kd,.sl (l.map Signed.enc),.str cut],_] _;refine eP Tryz.func193 ?_;repeat' (first|with_reducible(first|refine ao (c1) ?_|refine au (c1) ?_|refine ao (c2) ?_|refine au (c2) ?_|refine ao (xT _ _ _) ?_|refine au (xT _ _ _) ?_|refine cY ?_|refine cN ?_|refine ai (fun _=>?_) (fun _=>?_))|refine gA Tryz.func193 ?_|refine gB ?_|with_reducible rfl)
 all_goals (refine congrArg DV.bool ?_;clear c1 c2;simp_all;try omega)
theorem Xr(v:lK)(hf:v.cT):aq E 194 [v.enc] (· = .bool (xD v)):=by
 have c1:=Hp v.q hf.1;have c2:=Ny ⟨1,v.ae,[]⟩ ⟨hf.2.1,hf.2.2,Nat.zero_le _⟩;obtain⟨kd,⟨qn,qt⟩,l⟩:=v;unfold xD;simp only at c1 c2 ⊢;show aq E _ [DV.agg [.int .i64 kd,.str qn,.int .i64 qt,.sl (l.map Signed.enc)]] _;refine eP Tryz.func194 ?_;repeat' (first|with_reducible(first|refine ao (c1) ?_|refine au (c1) ?_|refine ao (c2) ?_|refine au (c2) ?_|refine cY ?_|refine cN ?_|refine ai (fun _=>?_) (fun _=>?_))|refine gA Tryz.func194 ?_|refine gB ?_|with_reducible rfl)
 all_goals
  refine congrArg DV.bool ?_;have hz:nt ⟨1,[],[]⟩=true:=by decide
  clear c1 c2 hf;cases l<;>simp_all<;>omega
@[reducible] def xU (t : cP) : List af := [.cells [.d (.str t.q.name), .d (.int .i64 t.q.type), .d (.int .i64 t.time), .d (.sl (t.cache.list.map Entry.enc)), .d (.sl (t.heard.map cW.enc)), .d (.int .i64 t.result.kind), .d (.str t.result.q.name), .d (.int .i64 t.result.q.type), .d (.sl (t.result.ae.map Signed.enc))]]
theorem Xs(t:cP)(x:cW)(hf:x.cT):ar E 192 (xU t) [.d x.enc,.ptr 0 0] (fun a b=>a=.d (.bool (!mz t.time x))/\b=xU t):=by
 have c1:=Xq x t.time hf;apply ar.kl
 case hk=>rfl
 refine ar.run ab (fn:=Tryz.f192) Tryz.func192 (body:=Tryz.f192.body.getD .skip) rfl (by decide) 2000 rfl ?_;conv=>whnf
 with_reducible refine ao (c1) ?_
 refine gO Tryz.func192 ?_;exact⟨rfl,rfl⟩
theorem Xt(t:cP)(l:List cW)(hl:l.length<=maxLen)(hf:∀ x∈l,x.cT):ar E 265 (xU t) [.d (.sl (l.map cW.enc)),.fn (.func 192) [] [.ptr 0 0]] (fun a b=>∃ n:Int,a=.d (.int .i64 n)/\b=xU t/\decide (n>=0) = !l.all (mz t.time)):=by
 unfold maxLen at hl;refine ar.run ab (fn:=Tryz.f265) Tryz.func265 (body:=Tryz.f265.body.getD .skip) rfl (by decide) 2000 rfl ?_;(conv=>whnf);refine I.loop (κ:=Nat) ([4,5]++rg 8 11) (fun k=>[(8,.d (.int .i64 k))]) (fun _=>[]) (fun k=>k<=l.length/\(l.take k).all (mz t.time)=true) (fun k=>l.length-k) 0 ⟨Nat.zero_le _,rfl⟩ ?_ ?_
 ·exact sZ
 rintro k ⟨hk,aJ⟩ IH;refine I.head ab F265 2000 ?_;(conv=>whnf);refine ai (fun h5=>?_) (fun h5=>?_)
 ·have ah:k<l.length:=by simpa using h5
  obtain⟨x,hx⟩:=aG ah;have c1:=Xs t x (hf x (List.mem_of_getElem? hx));refine gO F265 ?_;refine aB (e:=x.enc) (aN hx) rfl ?_;refine gO F265 ?_
  with_reducible refine aO (c1) ?_
  refine gO F265 ?_;cases hp:mz t.time x
  ·refine bj ?_;refine gO F265 ?_;exact⟨k,rfl,rfl,by rw[di hx hp];simp⟩
  ·refine aR ?_;refine gO F265 ?_;refine I.back (IH (k+1) ⟨by omega,dw aJ hx hp⟩ (by omega)) ?_;exact sZ
 ·have aA:l.length<=k:=by simpa using h5
  rw[List.take_of_length_le aA]at aJ;refine gO F265 ?_;exact⟨_,rfl,rfl,by rw[aJ];rfl⟩
theorem Xu(t:cP)(l:List cW)(hl:l.length<=maxLen)(hf:∀ x∈l,x.cT):ar E 191 (xU t) [.d (.sl (l.map cW.enc)),.fn (.func 192) [] [.ptr 0 0]] (fun a b=>a=.d (.bool (!l.all (mz t.time)))/\b=xU t):=by
 refine ar.run ab (fn:=Tryz.f191) Tryz.func191 (body:=Tryz.f191.body.getD .skip) rfl (by decide) 2000 rfl ?_;(conv=>whnf);refine jv (Xt t l hl hf) ?_;rintro r b ⟨n,rfl,rfl,h⟩;refine gO Tryz.func191 ?_;exact⟨by rw[h],rfl⟩
theorem Xv(t:cP)(hf:t.cT):aq E 120 [t.enc] (· = .bool (ka t)):=by
 obtain⟨h1,⟨h2,h3⟩,⟨h4,h5⟩,h6⟩:=hf;have c1:=Hp t.q h1;have c2:=Xp t.cache h2 h3;have c3:=Xr t.result h6;have c4:=Xu t t.heard h4 h5;obtain⟨⟨qn,qt⟩,at_,⟨cl⟩,l,⟨rk,⟨rn,rt⟩,rl⟩⟩:=t;unfold ka;simp only at c1 c2 c3 c4 h4 h5 ⊢;unfold maxLen at h4;show aq E _ [DV.agg [.str qn,.int .i64 qt,.int .i64 at_,.sl (cl.map Entry.enc),.sl (l.map cW.enc),.int .i64 rk,.str rn,.int .i64 rt,.sl (rl.map Signed.enc)]] _;refine eP Tryz.func120 ?_;repeat' (first|with_reducible(first|refine ao (c1) ?_|refine au (c1) ?_|refine ao (c2) ?_|refine au (c2) ?_|refine ao (xT _ _ _) ?_|refine au (xT _ _ _) ?_|refine cY ?_|refine cN ?_|refine ai (fun _=>?_) (fun _=>?_))|refine gA Tryz.func120 ?_|refine gB ?_|with_reducible rfl)
 all_goals try (refine congrArg DV.bool ?_;clear c1 c2 c3 c4 h3 h5 h6;simp_all<;>omega)
 refine aO c4 ?_;refine gO Tryz.func120 ?_;repeat' (first|with_reducible(first|refine ao (c3) ?_|refine au (c3) ?_|refine cY ?_|refine cN ?_|refine ai (fun _=>?_) (fun _=>?_))|refine gA Tryz.func120 ?_|refine gB ?_|with_reducible rfl)
 all_goals (refine congrArg DV.bool ?_;clear c1 c2 c3 c4 h3 h5 h6)
 all_goals have e1:l.length<=40:=by simp_all;omega
 all_goals (generalize l.all (mz at_)=b at *;cases b<;>simp_all)
theorem Dl{α:Type}{f:α->List DV}{l:List α}{B n:Nat}(h:∀ x∈l,(f x).length<=B)(hn:l.length<=n):(l.flatMap f).length<=n*B:=by
 have:(l.flatMap f).length<=l.length*B:=by
  clear hn
  induction l with
  |nil=>simp
  |cons x l ih =>
   have h1:=h x (List.mem_cons_self ..);have h2:=ih fun y hy=>h y (List.mem_cons_of_mem _ hy);rw[List.flatMap_cons,List.length_append,List.length_cons,Nat.succ_mul];omega
 exact Nat.le_trans this (Nat.mul_le_mul_right B hn)
theorem HI(s:Signed)(hs:s.set.data=[]\/ef s.set=true)(hn:s.set.name.length<=1000)(h6:s.sigs.length<=6)(hz:∀ g∈s.sigs,g.aw.length<=1000):(iI s).length<=10000:=by
 have h1:(s.sigs.flatMap im).length<=6*1041:=Dl (fun g hg=>by
  have:=hz g hg;simp only[im,List.length_append,dv,mr,show ∀ n,(nz n).length=8 from fun _=>rfl]
  omega) h6
 have h2:(mK s.set).length<=1100:=by
  unfold mK;by_cases hd:s.set.data=[]
  ·rw[if_pos hd];simp only[List.length_append,gJ,mr,dv,List.length_singleton];omega
  ·have:=Tq (hs.resolve_left hd);rw[if_neg hd];simp only[List.length_append,gJ];omega
 simp only[iI,List.length_append,List.length_singleton];omega
theorem Yf{g:da}(h:mv g=true):g.aw.length<=1000:=by
 have:Nm.valid g.aw=true:=by simp[mv]at h;exact h.1.1.1
 have:=dO this;omega
theorem NY{α:Type}{ok:α->Bool}{rel:α->α->Bool}:∀ {l:List α} {p:Option α},chain ok rel p l=true->∀ x∈l,ok x=true
 |[],_,_,x,hx=>by cases hx
 |y::l,p,h,x,hx=>by
  simp only[chain,Bool.and_eq_true]at h;rcases List.mem_cons.1 hx with rfl|hx
  ·exact h.1.1
  ·exact NY h.2 x hx
theorem Yg{l:List da}{aj:Text}(h:jC l aj=true){g:da}(hg:g∈l):g.aw=aj:=by
 simp only[jC,Bool.and_eq_true]at h;have:=NY h.2 g hg;simp[dB]at this;exact this.1.1.1.1.1.1.1.1.1
theorem NZ{s:Signed}(hf:s.cT)(h:lL s=true):s.nB/\(iI s).length<=10000:=by
 simp only[lL,Bool.and_eq_true,List.all_eq_true,decide_eq_true_eq]at h;obtain⟨⟨h1,h2⟩,h3⟩:=h;exact⟨⟨hf.1,.inr h2,hf.2.1⟩,HI s (.inr h2) (by have:=dO (s7 h2);omega) h3 fun g hg=>Yf (h1 g hg)⟩
theorem N0{a:dR}(hf:a.cT)(h:nt a=true):(∀ s∈a.ae,s.nB)/\(kX a.ae).length<=400004/\a.cut.length<=60:=by
 simp only[nt,Bool.and_eq_true,List.all_eq_true,decide_eq_true_eq]at h;obtain⟨⟨⟨-,h2⟩,h3⟩,h4⟩:=h;refine⟨fun s hs=>(NZ (hf.2.1 s hs) (h4 s hs)).1,?_,?_⟩
 ·have:=Dl (f:=iI) (fun s hs=>(NZ (hf.2.1 s hs) (h4 s hs)).2) h2;simp only[kX,List.length_append,gJ];omega
 ·unfold Cz at h3;split at h3
  ·exact dO h3
  ·simp at h3;simp[h3]
theorem Yh{a:dR}(h:nw a=true):a.ae=[]/\a.cut=[]:=by
 simp[nw]at h;exact⟨h.1.2,h.2⟩
theorem N1{x:cW}{at_:Int}(hf:x.cT)(h:mz at_ x=true):(∀ s∈x.answer.ae,s.nB)/\(kZ x).length<=500000:=by
 simp only[mz,Bool.and_eq_true,Bool.or_eq_true,decide_eq_true_eq]at h;obtain⟨⟨⟨⟨h1,-⟩,-⟩,-⟩,h2⟩:=h;have hq:x.q.name.length<=60:=dO (by simp[fF]at h1;exact h1.1);have e:(kZ x).length=16+(x.q.name.length+2)+1+(x.answer.cut.length+1)+(kX x.answer.ae).length:=by simp only[kZ,jg,List.length_append,List.length_singleton,dv,mr]
 rcases h2 with h2|h2
 ·obtain⟨e1,e2⟩:=Yh h2;refine⟨by simp[e1],?_⟩;rw[e,e1,e2];simp only[kX,List.length_append,gJ,List.flatMap_nil,List.length_nil];omega
 ·obtain⟨k1,k2,k3⟩:=N0 hf.2 h2;exact⟨k1,by omega⟩
theorem N2{e:Entry}(hf:e.cT)(h:o0 e=true):e.signed.nB/\(kY e).length<=12000:=by
 simp only[o0,Bool.and_eq_true,decide_eq_true_eq]at h;obtain⟨⟨⟨h1,-⟩,-⟩,h2⟩:=h;simp only[xB,Bool.and_eq_true]at h1;obtain⟨⟨⟨v1,v2⟩,-⟩,-⟩:=h1;have n1:=dO v1;have n2:=dO v2;have hs:e.signed.nB/\(iI e.signed).length<=10000:=by
  split at h2
  ·rename_i hd;have fj:e.signed.set.data=[]:=by simp[zZ]at hd;exact hd
   have hg:e.signed.sigs=[]:=by simp at h2;exact h2.2
   exact⟨⟨hf.1.1,.inl fj,hf.1.2.1⟩,HI _ (.inl fj) (by omega) (by simp[hg]) (by simp[hg])⟩
  ·simp only[Bool.and_eq_true]at h2;have h3:=h2.2;simp only[jC,Bool.and_eq_true,decide_eq_true_eq]at h3
   exact⟨⟨hf.1.1,.inr h2.1,hf.1.2.1⟩,HI _ (.inr h2.1) (by omega) (by omega) fun g hg=>by
    have:=Yg h2.2 hg
    rw[this];omega⟩
 refine⟨hs.1,?_⟩;simp only[kY,List.length_append,mr,dv];omega
theorem Yi{t:cP}(hf:t.cT)(h:ka t=true):t.nB/\(pY t).length<=100000000:=by
 obtain⟨g1,⟨g2,g3⟩,⟨g4,g5⟩,g6⟩:=hf;simp only[ka,Bool.and_eq_true,List.all_eq_true,decide_eq_true_eq]at h;obtain⟨⟨⟨⟨⟨⟨h1,h2⟩,-⟩,-⟩,h3⟩,h4⟩,h5⟩:=h;simp only[xC,Bool.and_eq_true,List.all_eq_true,decide_eq_true_eq]at h3;obtain⟨⟨c1,-⟩,c2⟩:=h3;have hq:t.q.name.length<=60:=dO (by simp[fF]at h2;exact h2.1);have hr:(∀ s∈t.result.ae,s.nB)/\(kX t.result.ae).length<=400004/\t.result.q.name.length<=60:=by
  simp only[xD,Bool.and_eq_true]at h5;obtain⟨⟨⟨-,-⟩,r3⟩,r4⟩:=h5;split at r4
  ·rename_i hk;have e:t.result.ae=[]:=by simpa [hk]using r3
   exact⟨by simp[e],by simp[e,kX,gJ],dO (by simp[fF]at r4;exact r4.1)⟩
  ·simp only[Bool.and_eq_true,decide_eq_true_eq]at r4;obtain⟨k1,k2,-⟩:=N0 (a:=⟨1,t.result.ae,[]⟩) ⟨g6.2.1,g6.2.2,Nat.zero_le _⟩ r4.2;exact⟨k1,k2,by rw[r4.1];simp⟩
 refine⟨⟨g2,fun e he=>(N2 (g3 e he) (c1 e he)).1,g4,fun x hx=>⟨(g5 x hx).2.1,(N1 (g5 x hx) (h1 x hx)).1⟩,g6.2.1,hr.1⟩,?_⟩;have b1:=Dl (f:=kY) (fun e he=>(N2 (g3 e he) (c1 e he)).2) c2;have b2:=Dl (f:=kZ) (fun x hx=>(N1 (g5 x hx) (h1 x hx)).2) h4;simp only[pY,oy,rJ,jg,List.length_append,List.length_singleton,gJ,mr,dv];omega
structure oY.Fits(w:oY):Prop where
 aC:∀ x∈w.aC,x.name.length<=maxLen
 anchor:w.anchor.Fits
 hints:w.hints.length<=maxLen
 jB:∀ p∈w.jB,p.aw.Fits
theorem Ic{l:List bc}{n:Nat}(h:l.all (tg n)=false):th n l=false:=by simp[th,h]
theorem aau{l:List bc}{k:Nat}{x:bc}(h:l[k]?=some x):(l.take (k+1)).map (·.aw.aj)=(l.take k).map (·.aw.aj)++[x.aw.aj]:=by rw[cK h,List.map_append];rfl
theorem aav(l:List bc):(ek DV.str (l.map (·.aw.aj))).length=M6 l:=by
 have:=G7 xJ (l.map (·.aw.aj)) _ (Nat.le_refl _)
 rwa [List.take_length]at this
theorem O4(aC:List Host)(l:List bc)(a:cM)(hints:List Int)(hz:∀ p∈l,p.aw.Fits):aq E 149 [DV.agg [.sl (aC.map Host.enc),.sl (l.map bc.enc),.str a.name,.int .i64 a.type,.int .i64 a.cy,.sl (a.data.map Datum.enc),.sl (hints.map (.int .i64))]] (· = .bool (th aC.length l)):=by
 refine eP F149 ?_;refine ai (fun h1=>?_) (fun h1=>?_)
 ·refine gO F149 ?_;have:th aC.length l=false:=by simp[th];simp at h1;omega
  rw[this]
 have hlen:l.length<=4000:=by simp at h1;omega
 refine gO F149 ?_;refine gO F149 ?_;refine gO F149 ?_;refine I.loop (κ:=Nat) ([2,6,7]++rg 17 39) (fun k=>[(17,.d (.int .i64 k)),(2,.d (.bool false)),(3,.map 1),(4,.map 2)]) (fun k=>[(1,.map (ek dj.en ((l.take k).map bc.spot))),(2,.map (ek DV.str ((l.take k).map (·.aw.aj))))]) (fun k=>k<=l.length/\(l.take k).all (tg aC.length)=true/\((l.take k).map bc.spot).Nodup) (fun k=>l.length-k) 0 ⟨Nat.zero_le _,rfl,by simp⟩ ?_ ?_
 ·(conv=>whnf);repeat (first|exact trivial|(refine sI ?_;conv=>whnf))
  refine And.intro rfl ?_;(conv=>whnf);repeat (first|exact trivial|(refine sI ?_;conv=>whnf))
  refine And.intro rfl ?_;exact sZ
 rintro i ⟨hi,aJ,cX⟩ IH;refine I.head ab F149 2000 ?_;(conv=>whnf);refine ai (fun h5=>?_) (fun h5=>?_)
 ·have ah:i<l.length:=by simpa using h5
  obtain⟨x,hx⟩:=aG ah;have fu:=hz x (List.mem_of_getElem? hx);have fp:=(oo pV ((l.take i).map bc.spot)).1;have aaw:=(oo xJ ((l.take i).map (·.aw.aj))).1;obtain⟨gw,jd⟩:=vq pV ((l.take i).map bc.spot) x.spot;refine gO F149 ?_;refine aB (e:=x.enc) (aN hx) rfl ?_;refine gO F149 ?_;refine ai (fun h6=>?_) (fun h6=>?_)
  ·repeat' (first|with_reducible(first|refine cY ?_|refine cN ?_|refine ai (fun _=>?_) (fun _=>?_))|refine gA F149 ?_|refine gB ?_|with_reducible rfl)
   rw[Ic (di hx (by simp[tg];simp at h6;omega))]
  refine gO F149 ?_;refine ai (fun h7=>?_) (fun h7=>?_)
  ·repeat' (first|with_reducible(first|refine cY ?_|refine cN ?_|refine ai (fun _=>?_) (fun _=>?_))|refine gA F149 ?_|refine gB ?_|with_reducible rfl)
   rw[Ic (di hx (by simp[tg];simp at h7;omega))]
  refine gO F149 ?_;refine oK (.bool false) (.bool false) ⟨_,rfl,rfl,⟨_,rfl,_,rfl⟩,rfl,⟨_,rfl,_,rfl⟩,trivial⟩ (xK fp) (fun w=>by kernel_rfl) (fun _ _ => .bool _) gw jd ?_;refine gO F149 ?_;refine ai (fun h8=>?_) (fun h8=>?_)
  ·repeat' (first|with_reducible(first|refine cY ?_|refine cN ?_|refine ai (fun _=>?_) (fun _=>?_))|refine gA F149 ?_|refine gB ?_|with_reducible rfl)
   have:=G5 hx (by simpa using h8);simp[th,this]
  refine gO F149 ?_
  with_reducible refine ao (vk x.aw fu) ?_
  refine gO F149 ?_;cases C8:eB x.aw
  ·repeat' (first|with_reducible(first|refine cY ?_|refine cN ?_|refine ai (fun _=>?_) (fun _=>?_))|refine gA F149 ?_|refine gB ?_|with_reducible rfl)
   rw[Ic (di hx (by simp[tg,C8]))]
  refine aR ?_;refine gO F149 ?_;have aM:tg aC.length x=true:=by simp[tg,C8];simp at h6 h7;omega
  refine aV ⟨⟨_,rfl,rfl,⟨_,rfl,_,rfl⟩,rfl,⟨_,rfl,_,rfl⟩,trivial⟩,xK fp⟩ ?_;refine gO F149 ?_;refine aV ⟨⟨_,rfl⟩,aaw⟩ ?_;refine gO F149 ?_;refine I.back (IH (i+1) ⟨by omega,dw aJ hx aM,G6 hx cX (by simpa using h8)⟩ (by omega)) ?_;rw[C3 hx,te,aau hx,te];(conv=>whnf);repeat (first|exact trivial|(refine sI ?_;conv=>whnf))
  refine And.intro rfl ?_;exact sZ
 ·have aA:l.length<=i:=by simpa using h5
  rw[List.take_of_length_le aA]at aJ cX ⊢;refine gO F149 ?_;refine gO F149 ?_;have:=aav l;rw[this];simp[th,aJ,cX,hlen];omega
theorem O5(w:oY)(hf:w.Fits):aq E 78 [w.enc] (· = .bool (C4 w)):=by
 obtain⟨aC,jB,anchor,hints⟩:=w;obtain⟨f1,f2,f3,f4⟩:=hf;simp only at f1 f2 f3 f4;show aq E _ [DV.agg [.sl (aC.map Host.enc),.sl (jB.map bc.enc),.str anchor.name,.int .i64 anchor.type,.int .i64 anchor.cy,.sl (anchor.data.map Datum.enc),.sl (hints.map (.int .i64))]] _;refine eP Tryz.func78 ?_;repeat' (first|with_reducible(first|refine ao (CW aC f1) ?_|refine au (CW aC f1) ?_|refine ao (O4 aC jB anchor hints f4) ?_|refine au (O4 aC jB anchor hints f4) ?_|refine ao (CX anchor hints f2 f3) ?_|refine au (CX anchor hints f2 f3) ?_|refine cY ?_|refine cN ?_|refine ai (fun _=>?_) (fun _=>?_))|refine gA Tryz.func78 ?_|refine gB ?_|with_reducible rfl)
 all_goals simp_all[C4]
end Go.Proofs.YtfmdaiojokniiaaGreatDoor.P
end
