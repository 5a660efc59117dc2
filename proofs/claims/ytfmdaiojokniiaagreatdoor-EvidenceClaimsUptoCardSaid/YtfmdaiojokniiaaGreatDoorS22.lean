/- Lemmas of mine. Conditions: as stated. -/
import Derived.Test.YtfmdaiojokniiaaGreatDoorS17
import Derived.Test.YtfmdaiojokniiaaGreatDoorS21
set_option linter.unusedVariables false
set_option linter.unusedSimpArgs false
open Array renaming getElem?_toList->aeh
open Bool renaming and_eq_true->aft,false_and->ahH,and_true->ahT,true_and->afC,and_false->ahI,eq_iff_iff->ahf
open List renaming length_append->aey,mem_of_getElem?->afh,length_singleton->agw,all_eq_true->ad',mem_map->aer,take_of_length_le->afS,length_map->aff,getElem?_take->aek,mem_cons->afu
open Nat renaming zero_le->afv,le_trans->aen
section
namespace Go.Proofs.YtfmdaiojokniiaaGreatDoor.P
open Go Go.aA
set_option maxRecDepth 100000
set_option maxHeartbeats 4000000
theorem Om(n:Int):ar E 323 [.int .i64 n] (· = .bool (decide (0<=n)&&decide (n<=100000))):=by
 refine eP Tryz.func323 ?_;repeat' (first|with_reducible(first|refine cY ?_|refine cN ?_|refine ai (fun _=>?_) (fun _=>?_))|refine gA Tryz.func323 ?_|refine gB ?_|with_reducible rfl)
 all_goals (simp_all;try omega)
theorem Yj(s z:Text)(hs:s.length<=maxLen)(hz:z.length<=maxLen):ar E 322 [.str s,.str z] (· = .bool (xV s z)):=by
 unfold xV l5;have c1:=GK z hz;have c2:=vq s z hs hz;unfold Ag at c1;cases h2:Nm.valid z
 ·rw[h2]at c1;simp only[Bool.false_eq_true,if_false]at c1;rw[ahI,ahH,ahH];refine eP Tryz.func322 ?_;repeat' (first|with_reducible(first|refine aq (c1) ?_|refine ax (c1) ?_|refine cY ?_|refine cN ?_|refine ai (fun _=>?_) (fun _=>?_))|refine gA Tryz.func322 ?_|refine gB ?_|with_reducible rfl)
 rw[h2]at c1 c2;simp only[if_true,ahT]at c1 c2;have hu:(Nm.valid s&&Nm.under s z)=Nm.mF s z:=by unfold Nm.mF;rw[h2];simp
 cases hl:Nm.labels z with
 |nil =>
  rw[hl]at c1;simp only[ahT,Bool.not_false];rw[hu];refine eP Tryz.func322 ?_;repeat' (first|with_reducible(first|refine aq (c1) ?_|refine ax (c1) ?_|refine aq (c2) ?_|refine ax (c2) ?_|refine cY ?_|refine cN ?_|refine ai (fun _=>?_) (fun _=>?_))|refine gA Tryz.func322 ?_|refine gB ?_|with_reducible rfl)
  all_goals (refine congrArg DV.bool ?_;clear c1 c2;cases eT:Nm.valid s<;>simp_all[Nm.mF])
 |cons x t =>
  rw[hl]at c1;simp only[ahT];have hx:(x::t)[0]?=some x:=rfl;rw[Bool.and_right_comm,hu];refine eP Tryz.func322 ?_;repeat' (first|with_reducible(first|refine aq (c1) ?_|refine ax (c1) ?_|refine aq (c2) ?_|refine ax (c2) ?_|refine aD (tg (l:=x::t) (f:=DV.str) hx) rfl ?_|refine cY ?_|refine cN ?_|refine ai (fun _=>?_) (fun _=>?_))|refine gA Tryz.func322 ?_|refine gB ?_|with_reducible rfl)
  all_goals (refine congrArg DV.bool ?_;clear c1 c2;cases eT:Nm.valid s<;>simp_all[Nm.mF])
theorem Yk(l:List c9)(ao:Text):ar E 324 [pY l,.str ao] (· = .bool (jS l ao)):=by
 unfold jS;have hg:∃ g0,g0=l.headD Al:=⟨_,rfl⟩;obtain⟨g0,hg⟩:=hg;rw[<- hg];refine eP F324 ?_;refine ai (fun h1=>?_) (fun h1=>?_)
 ·refine gO F324 ?_;simp only[aff]at h1;rw[decide_eq_false (by simp at h1;omega),ahH]
 ·have h6:l.length<=6:=by simp at h1;omega
  rw[decide_eq_true (by omega),afC];refine gO F324 ?_;refine J.loop (κ:=Nat) ([4,5,6]++rg 12 76) (fun k=>[(12,.d (.int .i64 k))]) (fun _=>[]) (fun k=>k<=l.length/\chain (dC ao g0) fY none l=chain (dC ao g0) fY (bN l k) (l.drop k)) (fun k=>l.length-k) 0 ⟨afv _,rfl⟩ ?_ ?_
  ·exact sZ
  ·intro k hk IH;refine J.head ag F324 2000 ?_;(conv=>whnf);refine ai (fun h5=>?_) (fun h5=>?_)
   ·have ah:k<l.length:=by simpa using h5
    obtain⟨x,hx⟩:=aH ah;have h0:=G' ah;rw[<- hg]at h0;have aG:=vy (ok:=dC ao g0) (rel:=fY) hx;rw[<- hk.2]at aG;refine gO F324 ?_;refine aD (e:=x.enc) (aO hx) rfl ?_;refine gO F324 ?_;repeat' (first|with_reducible(first|refine cY ?_|refine cN ?_|refine ai (fun _=>?_) (fun _=>?_))|refine gA F324 ?_|refine gB ?_|with_reducible rfl)
    all_goals try
     (have bI : dC ao g0 x=false := by clear aG hk IH hg;simp_all[dC]<;>(intros;omega)
      rw[aG, bI, ahH, ahH]
      done)
    refine gO F324 ?_;refine dU ?_;rcases Nat.eq_zero_or_pos k with b9|b9
    ·have dI:bN l k=none:=by simp[bN,b9]
     rw[dI]at aG;dsimp only at aG;rw[ahT]at aG;repeat' (first|with_reducible(first|refine aD (aO hx) rfl ?_|refine aD (tg h0) rfl ?_|refine cY ?_|refine cN ?_|refine ai (fun _=>?_) (fun _=>?_))|refine gA F324 ?_|refine gB ?_|with_reducible rfl)
     all_goals first
      |(have bI : dC ao g0 x=false := by clear aG hk IH hg;simp_all[dC, fY, bN]<;>(intros;omega)
        rw[aG, bI, ahH]
        done)
      |(exfalso;clear aG hk IH hg;simp_all;done)
      |skip
     all_goals
      refine gO F324 ?_;refine J.back (IH (k+1) ⟨by omega,by rw[aG,show dC ao g0 x=true by clear aG hk IH hg;simp_all[dC,fY,bN]<;>omega,afC]⟩ (by omega)) ?_;exact sZ
    ·obtain⟨q,hq,dI⟩:=rC b9 hk.1;rw[dI]at aG;repeat' (first|with_reducible(first|refine aD (aO hx) rfl ?_|refine aD (tg h0) rfl ?_|refine aD (nA hq b9 (by omega)) rfl ?_|refine cY ?_|refine cN ?_|refine ai (fun _=>?_) (fun _=>?_))|refine gA F324 ?_|refine gB ?_|with_reducible rfl)
     all_goals first
      |(have bI : (dC ao g0 x && fY q x)=false := by clear aG hk IH hg;simp_all[dC, fY, bN]<;>(intros;omega)
        rw[aG, bI, ahH]
        done)
      |(exfalso;clear aG hk IH hg;simp_all;done)
      |skip
     all_goals
      refine gO F324 ?_;refine J.back (IH (k+1) ⟨by omega,by rw[aG,show(dC ao g0 x&&fY q x)=true by clear aG hk IH hg;simp_all[dC,fY,bN]<;>omega,afC]⟩ (by omega)) ?_;exact sZ
   ·have aC:l.length<=k:=by simpa using h5
    refine gO F324 ?_;rw[hk.2,List.drop_of_length_le aC];rfl
theorem Yl(e:Entry):ar E 264 [e.enc] (· = .agg [.str e.signed.set.name,.int .i64 e.signed.set.type,.str e.au]):=by
 refine eP Tryz.func264 ?_
 with_reducible rfl
theorem Ym(e:Entry)(hf:e.cV):ar E 263 [e.enc] (· = .bool (po e)):=by
 have c1:=Yj e.signed.set.name e.au hf.1.1.name hf.2;have c3:=tp e.signed.set hf.1.1;have c4:=Yk e.signed.sigs e.au;obtain⟨⟨s,l⟩,z,u⟩:=e;unfold po As;simp only at c1 c3 c4 ⊢;show ar E _ [DV.agg [.str s.name,.int .i64 s.type,.int .i64 s.bY,pX s.data,pY l,.str z,.int .i64 u]] _;refine eP Tryz.func263 ?_;repeat' (first|with_reducible(first|refine aq (c1) ?_|refine ax (c1) ?_|refine aq (c3) ?_|refine ax (c3) ?_|refine aq (c4) ?_|refine ax (c4) ?_|refine aq (Om _) ?_|refine ax (Om _) ?_|refine cY ?_|refine cN ?_|refine ai (fun _=>?_) (fun _=>?_))|refine gA Tryz.func263 ?_|refine gB ?_|with_reducible rfl)
 all_goals (refine congrArg DV.bool ?_;clear c1 c3 c4;simp_all;try omega)
abbrev tM:=Text × Int × Text
@[reducible] def tM.en (p : tM) : DV := .agg [.str p.1, .int .i64 p.2.1, .str p.2.2]
theorem On(a b:tM):eL (tM.en a) (tM.en b)=decide (a=b):=by
 show((a.1==b.1)&&((a.2.1==b.2.1)&&((a.2.2==b.2.2)&&true)))=_;rw[ahf];simp[Prod.ext_iff]
theorem Oo{es:List (DV × DV)}(h:mP tM.en es):∀ p∈es,du E.T (TK.struct [(0,9),(1,3),(2,9)]) p.1:=fun p hp=>by
 obtain⟨a,e⟩:=h p hp;rw[e];exact⟨_,rfl,rfl,⟨_,rfl,_,rfl⟩,rfl,⟨_,rfl,_,rfl⟩,rfl,⟨_,rfl,_,rfl⟩,trivial⟩
theorem Yn{α β:Type}{f:α->β}{l:List α}{k:Nat}{x:α}(hx:l[k]?=some x)(h:f x∈(l.take k).map f):¬ (l.map f).Nodup:=by
 obtain⟨y,hy,e⟩:=aer.1 h;obtain⟨j,hj⟩:=List.getElem?_of_mem hy;have rH:j<k:=by have:=aX hj;simp at this;omega
 rw[aek,if_pos rH]at hj;exact MX hx hj rH e
theorem Yo{α β:Type}{f:α->β}{l:List α}{k:Nat}{x:α}(hx:l[k]?=some x)(h:f x ∉ (l.take k).map f)(hn:((l.take k).map f).Nodup):((l.take (k+1)).map f).Nodup :=
 MW hn hx fun j y rH hj e=>h (aer.2 ⟨y,afh (i:=j) (by rw[aek,if_pos rH];exact hj),e⟩)
theorem Yp(c:Cache)(hl:c.list.length<=maxLen)(hf:∀ e∈c.list,e.cV):ar E 190 [c.enc] (· = .bool (xW c)):=by
 obtain⟨l⟩:=c;unfold xW;simp only at hl hf ⊢;unfold maxLen at hl;show ar E _ [DV.agg [.sl (l.map Entry.enc)]] _;refine eP F190 ?_;refine ai (fun h1=>?_) (fun h1=>?_)
 ·refine gO F190 ?_;refine congrArg DV.bool ?_;have:¬ l.length<=400:=by simp at h1;omega
  simp[this]
 have hlen:decide (l.length<=400)=true:=by simp at h1 ⊢;omega
 rw[hlen,ahT];clear h1 hlen;refine gO F190 ?_;refine gO F190 ?_;refine J.loop (κ:=Nat) ([2,5]++rg 14 17) (fun k=>[(14,.d (.int .i64 k)),(3,.map 1)]) (fun k=>[(1,.map (ev tM.en ((l.take k).map kB)))]) (fun k=>k<=l.length/\(l.take k).all po=true/\((l.take k).map kB).Nodup) (fun k=>l.length-k) 0 ⟨afv _,rfl,List.nodup_nil⟩ ?_ ?_
 ·(conv=>whnf);repeat (first|exact trivial|(refine sI ?_;conv=>whnf))
  refine And.intro rfl ?_;exact sZ
 rintro i ⟨hi,aL,c8⟩ IH;refine J.head ag F190 2000 ?_;(conv=>whnf);refine ai (fun h5=>?_) (fun h5=>?_)
 ·have ah:i<l.length:=by simpa using h5
  obtain⟨x,hx⟩:=aH ah;have c1:=Ym x (hf x (afh hx));have c2:=Yl x;have fC:=(oG On ((l.take i).map kB)).1;obtain⟨gJ,jq⟩:=vK On ((l.take i).map kB) (kB x);refine gO F190 ?_;refine aD (e:=x.enc) (aO hx) rfl ?_;refine gO F190 ?_;cases hp:po x
  ·rw[hp]at c1;rw[di hx hp,ahH];repeat' (first|with_reducible(first|refine aq (c1) ?_|refine ax (c1) ?_|refine cY ?_|refine cN ?_|refine ai (fun _=>?_) (fun _=>?_))|refine gA F190 ?_|refine gB ?_|with_reducible rfl)
  rw[hp]at c1;repeat' (first|with_reducible(first|refine aq (c1) ?_|refine ax (c1) ?_|refine aq (c2) ?_|refine ax (c2) ?_|refine cY ?_|refine cN ?_|refine ai (fun _=>?_) (fun _=>?_))|refine gA F190 ?_|refine gB ?_|with_reducible rfl)
  refine oX (.bool false) (.bool false) ⟨_,rfl,rfl,⟨_,rfl,_,rfl⟩,rfl,⟨_,rfl,_,rfl⟩,rfl,⟨_,rfl,_,rfl⟩,trivial⟩ (Oo fC) (fun w=>by kernel_rfl) (fun _ _ => .bool _) gJ jq ?_;refine gO F190 ?_;refine ai (fun h8=>?_) (fun h8=>?_)
  ·refine gO F190 ?_;rw[decide_eq_false (Yn hx (by simpa using h8)),ahI]
  ·refine gO F190 ?_;repeat' (first|with_reducible(first|refine aq (c2) ?_|refine ax (c2) ?_|refine cY ?_|refine cN ?_|refine ai (fun _=>?_) (fun _=>?_))|refine gA F190 ?_|refine gB ?_|with_reducible rfl)
   refine aW ⟨⟨_,rfl,rfl,⟨_,rfl,_,rfl⟩,rfl,⟨_,rfl,_,rfl⟩,rfl,⟨_,rfl,_,rfl⟩,trivial⟩,Oo fC⟩ ?_;refine gO F190 ?_;refine J.back (IH (i+1) ⟨by omega,dv aL hx hp,Yo hx (by simpa using h8) c8⟩ (by omega)) ?_;rw[cG hx,List.map_append,show[x].map kB=[kB x]from rfl,tH,show tM.en (kB x)=.agg [.str x.signed.set.name,.int .i64 x.signed.set.type,.str x.au]from rfl];exact sZ
 ·have aC:l.length<=i:=by simpa using h5
  rw[afS aC]at aL c8;rw[aL,decide_eq_true c8];refine gO F190 ?_;rfl
theorem yf(n a b:Int):ar E 189 [.int .i64 n,.int .i64 a,.int .i64 b] (· = .bool (decide (a<=n)&&decide (n<=b))):=by
 refine eP Tryz.func189 ?_;repeat' (first|with_reducible(first|refine cY ?_|refine cN ?_|refine ai (fun _=>?_) (fun _=>?_))|refine gA Tryz.func189 ?_|refine gB ?_|with_reducible rfl)
 all_goals (simp_all;try omega)
theorem H9(q:bC)(hq:q.name.length<=maxLen):ar E 188 [q.enc] (· = .bool (fM q)):=by
 refine eP Tryz.func188 ?_;repeat' (first|with_reducible(first|refine aq (gU _ hq) ?_|refine ax (gU _ hq) ?_|refine aq (yf _ _ _) ?_|refine ax (yf _ _ _) ?_|refine cY ?_|refine cN ?_|refine ai (fun _=>?_) (fun _=>?_))|refine gA Tryz.func188 ?_|refine gB ?_|with_reducible rfl)
 all_goals (simp_all[fM];try omega)
theorem Oq(a:dZ)(hf:a.cV):ar E 266 [a.enc] (· = .bool (nH a)):=by
 have c1:=MB ⟨[46],4⟩ a (by decide) hf;have hq:fM ⟨[46],4⟩=true:=by decide +kernel
 rw[hq,afC]at c1;refine eP Tryz.func266 ?_;refine aq (c1) ?_;refine gO Tryz.func266 ?_
 with_reducible rfl
theorem Yq(x:c7)(at_:Int)(hf:x.cV):ar E 193 [x.enc,.int .i64 at_] (· = .bool (mO at_ x)):=by
 have c1:=H9 x.q hf.1;have c2:=Oq x.answer hf.2;obtain⟨t,ad,⟨qn,qt⟩,⟨kd,l,cut⟩⟩:=x;unfold mO nK;simp only at c1 c2 ⊢;show ar E _ [DV.agg [.int .i64 t,.int .i64 ad,.str qn,.int .i64 qt,.int .i64 kd,.sl (l.map Signed.enc),.str cut],_] _;refine eP Tryz.func193 ?_;repeat' (first|with_reducible(first|refine aq (c1) ?_|refine ax (c1) ?_|refine aq (c2) ?_|refine ax (c2) ?_|refine aq (yf _ _ _) ?_|refine ax (yf _ _ _) ?_|refine cY ?_|refine cN ?_|refine ai (fun _=>?_) (fun _=>?_))|refine gA Tryz.func193 ?_|refine gB ?_|with_reducible rfl)
 all_goals (refine congrArg DV.bool ?_;clear c1 c2;simp_all;try omega)
theorem Yr(v:l3)(hf:v.cV):ar E 194 [v.enc] (· = .bool (xX v)):=by
 have c1:=H9 v.q hf.1;have c2:=Oq ⟨1,v.ae,[]⟩ ⟨hf.2.1,hf.2.2,afv _⟩;obtain⟨kd,⟨qn,qt⟩,l⟩:=v;unfold xX;simp only at c1 c2 ⊢;show ar E _ [DV.agg [.int .i64 kd,.str qn,.int .i64 qt,.sl (l.map Signed.enc)]] _;refine eP Tryz.func194 ?_;repeat' (first|with_reducible(first|refine aq (c1) ?_|refine ax (c1) ?_|refine aq (c2) ?_|refine ax (c2) ?_|refine cY ?_|refine cN ?_|refine ai (fun _=>?_) (fun _=>?_))|refine gA Tryz.func194 ?_|refine gB ?_|with_reducible rfl)
 all_goals
  refine congrArg DV.bool ?_;have hz:nH ⟨1,[],[]⟩=true:=by decide
  clear c1 c2 hf;cases l<;>simp_all<;>omega
@[reducible] def yg (t : cO) : List af := [.cells [.d (.str t.q.name), .d (.int .i64 t.q.type), .d (.int .i64 t.time), .d (.sl (t.cache.list.map Entry.enc)), .d (.sl (t.heard.map c7.enc)), .d (.int .i64 t.result.kind), .d (.str t.result.q.name), .d (.int .i64 t.result.q.type), .d (.sl (t.result.ae.map Signed.enc))]]
theorem Ys(t:cO)(x:c7)(hf:x.cV):aw E 192 (yg t) [.d x.enc,.ptr 0 0] (fun a b=>a=.d (.bool (!mO t.time x))/\b=yg t):=by
 have c1:=Yq x t.time hf;apply aw.kK
 case hk=>rfl
 refine aw.run ag (fn:=Tryz.f192) Tryz.func192 (body:=Tryz.f192.body.getD .skip) rfl (by decide) 2000 rfl ?_;conv=>whnf
 with_reducible refine aq (c1) ?_
 refine gO Tryz.func192 ?_;exact⟨rfl,rfl⟩
theorem Yt(t:cO)(l:List c7)(hl:l.length<=maxLen)(hf:∀ x∈l,x.cV):aw E 265 (yg t) [.d (.sl (l.map c7.enc)),.fn (.func 192) [] [.ptr 0 0]] (fun a b=>∃ n:Int,a=.d (.int .i64 n)/\b=yg t/\decide (n>=0) = !l.all (mO t.time)):=by
 unfold maxLen at hl;refine aw.run ag (fn:=Tryz.f265) Tryz.func265 (body:=Tryz.f265.body.getD .skip) rfl (by decide) 2000 rfl ?_;(conv=>whnf);refine J.loop (κ:=Nat) ([4,5]++rg 8 11) (fun k=>[(8,.d (.int .i64 k))]) (fun _=>[]) (fun k=>k<=l.length/\(l.take k).all (mO t.time)=true) (fun k=>l.length-k) 0 ⟨afv _,rfl⟩ ?_ ?_
 ·exact sZ
 rintro k ⟨hk,aL⟩ IH;refine J.head ag F265 2000 ?_;(conv=>whnf);refine ai (fun h5=>?_) (fun h5=>?_)
 ·have ah:k<l.length:=by simpa using h5
  obtain⟨x,hx⟩:=aH ah;have c1:=Ys t x (hf x (afh hx));refine gO F265 ?_;refine aD (e:=x.enc) (aO hx) rfl ?_;refine gO F265 ?_
  with_reducible refine aS (c1) ?_
  refine gO F265 ?_;cases hp:mO t.time x
  ·refine a8 ?_;refine gO F265 ?_;exact⟨k,rfl,rfl,by rw[di hx hp];simp⟩
  ·refine aR ?_;refine gO F265 ?_;refine J.back (IH (k+1) ⟨by omega,dv aL hx hp⟩ (by omega)) ?_;exact sZ
 ·have aC:l.length<=k:=by simpa using h5
  rw[afS aC]at aL;refine gO F265 ?_;exact⟨_,rfl,rfl,by rw[aL];rfl⟩
theorem Yu(t:cO)(l:List c7)(hl:l.length<=maxLen)(hf:∀ x∈l,x.cV):aw E 191 (yg t) [.d (.sl (l.map c7.enc)),.fn (.func 192) [] [.ptr 0 0]] (fun a b=>a=.d (.bool (!l.all (mO t.time)))/\b=yg t):=by
 refine aw.run ag (fn:=Tryz.f191) Tryz.func191 (body:=Tryz.f191.body.getD .skip) rfl (by decide) 2000 rfl ?_;(conv=>whnf);refine jK (Yt t l hl hf) ?_;rintro r b ⟨n,rfl,rfl,h⟩;refine gO Tryz.func191 ?_;exact⟨by rw[h],rfl⟩
theorem Yv(t:cO)(hf:t.cV):ar E 120 [t.enc] (· = .bool (kC t)):=by
 obtain⟨h1,⟨h2,h3⟩,⟨h4,h5⟩,h6⟩:=hf;have c1:=H9 t.q h1;have c2:=Yp t.cache h2 h3;have c3:=Yr t.result h6;have c4:=Yu t t.heard h4 h5;obtain⟨⟨qn,qt⟩,at_,⟨cl⟩,l,⟨rk,⟨rn,rt⟩,rl⟩⟩:=t;unfold kC;simp only at c1 c2 c3 c4 h4 h5 ⊢;unfold maxLen at h4;show ar E _ [DV.agg [.str qn,.int .i64 qt,.int .i64 at_,.sl (cl.map Entry.enc),.sl (l.map c7.enc),.int .i64 rk,.str rn,.int .i64 rt,.sl (rl.map Signed.enc)]] _;refine eP Tryz.func120 ?_;repeat' (first|with_reducible(first|refine aq (c1) ?_|refine ax (c1) ?_|refine aq (c2) ?_|refine ax (c2) ?_|refine aq (yf _ _ _) ?_|refine ax (yf _ _ _) ?_|refine cY ?_|refine cN ?_|refine ai (fun _=>?_) (fun _=>?_))|refine gA Tryz.func120 ?_|refine gB ?_|with_reducible rfl)
 all_goals try (refine congrArg DV.bool ?_;clear c1 c2 c3 c4 h3 h5 h6;simp_all<;>omega)
 refine aS c4 ?_;refine gO Tryz.func120 ?_;repeat' (first|with_reducible(first|refine aq (c3) ?_|refine ax (c3) ?_|refine cY ?_|refine cN ?_|refine ai (fun _=>?_) (fun _=>?_))|refine gA Tryz.func120 ?_|refine gB ?_|with_reducible rfl)
 all_goals (refine congrArg DV.bool ?_;clear c1 c2 c3 c4 h3 h5 h6)
 all_goals have e1:l.length<=40:=by simp_all;omega
 all_goals (generalize l.all (mO at_)=b at *;cases b<;>simp_all)
theorem DL{α:Type}{f:α->List DV}{l:List α}{B n:Nat}(h:∀ x∈l,(f x).length<=B)(hn:l.length<=n):(l.flatMap f).length<=n*B:=by
 have:(l.flatMap f).length<=l.length*B:=by
  clear hn
  induction l with
  |nil=>simp
  |cons x l ih =>
   have h1:=h x (List.mem_cons_self ..);have h2:=ih fun y hy=>h y (List.mem_cons_of_mem _ hy);rw[List.flatMap_cons,aey,List.length_cons,Nat.succ_mul];omega
 exact aen this (Nat.mul_le_mul_right B hn)
theorem Iu(s:Signed)(hs:s.set.data=[]\/er s.set=true)(hn:s.set.name.length<=1000)(h6:s.sigs.length<=6)(hz:∀ g∈s.sigs,g.au.length<=1000):(iV s).length<=10000:=by
 have h1:(s.sigs.flatMap iE).length<=6*1041:=DL (fun g hg=>by
  have:=hz g hg;simp only[iE,aey,dz,mI,show ∀ n,(nQ n).length=8 from fun _=>rfl]
  omega) h6
 have h2:(mX s.set).length<=1100:=by
  unfold mX;by_cases hd:s.set.data=[]
  ·rw[if_pos hd];simp only[aey,gW,mI,dz,agw];omega
  ·have:=Ux (hs.resolve_left hd);rw[if_neg hd];simp only[aey,gW];omega
 simp only[iV,aey,agw];omega
theorem Zf{g:c9}(h:mK g=true):g.au.length<=1000:=by
 have:Nm.valid g.au=true:=by simp[mK]at h;exact h.1.1.1
 have:=dV this;omega
theorem OS{α:Type}{ok:α->Bool}{rel:α->α->Bool}:∀ {l:List α} {p:Option α},chain ok rel p l=true->∀ x∈l,ok x=true
 |[],_,_,x,hx=>by cases hx
 |y::l,p,h,x,hx=>by
  simp only[chain,aft]at h;rcases afu.1 hx with rfl|hx
  ·exact h.1.1
  ·exact OS h.2 x hx
theorem Zg{l:List c9}{ao:Text}(h:jS l ao=true){g:c9}(hg:g∈l):g.au=ao:=by
 simp only[jS,aft]at h;have:=OS h.2 g hg;simp[dC]at this;exact this.1.1.1.1.1.1.1.1.1
theorem OT{s:Signed}(hf:s.cV)(h:l4 s=true):s.nS/\(iV s).length<=10000:=by
 simp only[l4,aft,ad',decide_eq_true_eq]at h;obtain⟨⟨h1,h2⟩,h3⟩:=h;exact⟨⟨hf.1,.inr h2,hf.2.1⟩,Iu s (.inr h2) (by have:=dV (tC h2);omega) h3 fun g hg=>Zf (h1 g hg)⟩
theorem OU{a:dZ}(hf:a.cV)(h:nH a=true):(∀ s∈a.ae,s.nS)/\(ly a.ae).length<=400004/\a.cut.length<=60:=by
 simp only[nH,aft,ad',decide_eq_true_eq]at h;obtain⟨⟨⟨-,h2⟩,h3⟩,h4⟩:=h;refine⟨fun s hs=>(OT (hf.2.1 s hs) (h4 s hs)).1,?_,?_⟩
 ·have:=DL (f:=iV) (fun s hs=>(OT (hf.2.1 s hs) (h4 s hs)).2) h2;simp only[ly,aey,gW];omega
 ·unfold CZ at h3;split at h3
  ·exact dV h3
  ·simp at h3;simp[h3]
theorem Zh{a:dZ}(h:nK a=true):a.ae=[]/\a.cut=[]:=by
 simp[nK]at h;exact⟨h.1.2,h.2⟩
theorem OV{x:c7}{at_:Int}(hf:x.cV)(h:mO at_ x=true):(∀ s∈x.answer.ae,s.nS)/\(lA x).length<=500000:=by
 simp only[mO,aft,Bool.or_eq_true,decide_eq_true_eq]at h;obtain⟨⟨⟨⟨h1,-⟩,-⟩,-⟩,h2⟩:=h;have hq:x.q.name.length<=60:=dV (by simp[fM]at h1;exact h1.1);have e:(lA x).length=16+(x.q.name.length+2)+1+(x.answer.cut.length+1)+(ly x.answer.ae).length:=by simp only[lA,jv,aey,agw,dz,mI]
 rcases h2 with h2|h2
 ·obtain⟨e1,e2⟩:=Zh h2;refine⟨by simp[e1],?_⟩;rw[e,e1,e2];simp only[ly,aey,gW,List.flatMap_nil,List.length_nil];omega
 ·obtain⟨k1,k2,k3⟩:=OU hf.2 h2;exact⟨k1,by omega⟩
theorem OW{e:Entry}(hf:e.cV)(h:po e=true):e.signed.nS/\(lz e).length<=12000:=by
 simp only[po,aft,decide_eq_true_eq]at h;obtain⟨⟨⟨h1,-⟩,-⟩,h2⟩:=h;simp only[xV,aft]at h1;obtain⟨⟨⟨v1,v2⟩,-⟩,-⟩:=h1;have n1:=dV v1;have n2:=dV v2;have hs:e.signed.nS/\(iV e.signed).length<=10000:=by
  split at h2
  ·rename_i hd;have fy:e.signed.set.data=[]:=by simp[As]at hd;exact hd
   have hg:e.signed.sigs=[]:=by simp at h2;exact h2.2
   exact⟨⟨hf.1.1,.inl fy,hf.1.2.1⟩,Iu _ (.inl fy) (by omega) (by simp[hg]) (by simp[hg])⟩
  ·simp only[aft]at h2;have h3:=h2.2;simp only[jS,aft,decide_eq_true_eq]at h3
   exact⟨⟨hf.1.1,.inr h2.1,hf.1.2.1⟩,Iu _ (.inr h2.1) (by omega) (by omega) fun g hg=>by
    have:=Zg h2.2 hg
    rw[this];omega⟩
 refine⟨hs.1,?_⟩;simp only[lz,aey,mI,dz];omega
theorem Zi{t:cO}(hf:t.cV)(h:kC t=true):t.nS/\(qs t).length<=100000000:=by
 obtain⟨g1,⟨g2,g3⟩,⟨g4,g5⟩,g6⟩:=hf;simp only[kC,aft,ad',decide_eq_true_eq]at h;obtain⟨⟨⟨⟨⟨⟨h1,h2⟩,-⟩,-⟩,h3⟩,h4⟩,h5⟩:=h;simp only[xW,aft,ad',decide_eq_true_eq]at h3;obtain⟨⟨c1,-⟩,c2⟩:=h3;have hq:t.q.name.length<=60:=dV (by simp[fM]at h2;exact h2.1);have hr:(∀ s∈t.result.ae,s.nS)/\(ly t.result.ae).length<=400004/\t.result.q.name.length<=60:=by
  simp only[xX,aft]at h5;obtain⟨⟨⟨-,-⟩,r3⟩,r4⟩:=h5;split at r4
  ·rename_i hk;have e:t.result.ae=[]:=by simpa [hk]using r3
   exact⟨by simp[e],by simp[e,ly,gW],dV (by simp[fM]at r4;exact r4.1)⟩
  ·simp only[aft,decide_eq_true_eq]at r4;obtain⟨k1,k2,-⟩:=OU (a:=⟨1,t.result.ae,[]⟩) ⟨g6.2.1,g6.2.2,afv _⟩ r4.2;exact⟨k1,k2,by rw[r4.1];simp⟩
 refine⟨⟨g2,fun e he=>(OW (g3 e he) (c1 e he)).1,g4,fun x hx=>⟨(g5 x hx).2.1,(OV (g5 x hx) (h1 x hx)).1⟩,g6.2.1,hr.1⟩,?_⟩;have b1:=DL (f:=lz) (fun e he=>(OW (g3 e he) (c1 e he)).2) c2;have b2:=DL (f:=lA) (fun x hx=>(OV (g5 x hx) (h1 x hx)).2) h4;simp only[qs,oJ,rZ,jv,aey,agw,gW,mI,dz];omega
theorem Zj(l:List DV)(h:l≠[])(hl:l.length<=2147483648)(hc:∀ e∈l,e.cells.length=1):ar E 126 [.sl l] (· = .sl l):=by
 refine eP Tryz.func126 ?_;refine J.lU ag rfl rfl rfl rfl (aV rfl) (fun b hb=>?_);obtain rfl:b=false:=by
  cases b
  ·rfl
  ·exact absurd (hb rfl) h
 refine gO Tryz.func126 ?_;refine aR ?_;refine gO Tryz.func126 ?_;refine aW ⟨by simp;omega,hc⟩ ?_;refine gO Tryz.func126 ?_;rfl
theorem Zk(t:cO)(hf:t.cV):ar E 51 [t.enc] (fun r=>∃ x n,r=.aF [x,.int .i64 n]/\decide (n=1) = !kC t):=by
 have c1:=Yv t hf;cases hv:kC t
 ·rw[hv]at c1;obtain⟨⟨qn,qt⟩,at_,⟨cl⟩,l,⟨rk,⟨rn,rt⟩,rl⟩⟩:=t;show ar E _ [DV.agg [.str qn,.int .i64 qt,.int .i64 at_,.sl (cl.map Entry.enc),.sl (l.map c7.enc),.int .i64 rk,.str rn,.int .i64 rt,.sl (rl.map Signed.enc)]] _;refine eP F51 ?_;repeat' (first|with_reducible(first|refine aq (c1) ?_|refine ax (c1) ?_|refine cY ?_|refine cN ?_|refine ai (fun _=>?_) (fun _=>?_))|refine gA F51 ?_|refine gB ?_|with_reducible rfl)
  exact⟨_,_,rfl,rfl⟩
 ·rw[hv]at c1;obtain⟨hw,hlen⟩:=Zi hf hv;have c2:=Zb t hw (by omega);have hB:=Za t;have v8:qs t≠[]:=hB.1;generalize qs t=M at *;obtain⟨⟨qn,qt⟩,at_,⟨cl⟩,l,⟨rk,⟨rn,rt⟩,rl⟩⟩:=t;clear hf hw hv;show ar E _ [DV.agg [.str qn,.int .i64 qt,.int .i64 at_,.sl (cl.map Entry.enc),.sl (l.map c7.enc),.int .i64 rk,.str rn,.int .i64 rt,.sl (rl.map Signed.enc)]] _;refine eP F51 ?_;repeat' (first|with_reducible(first|refine aq (c1) ?_|refine ax (c1) ?_|refine cY ?_|refine cN ?_|refine ai (fun _=>?_) (fun _=>?_))|refine gA F51 ?_|refine gB ?_|with_reducible rfl)
  with_reducible refine aS (c2) ?_
  refine gO F51 ?_
  with_reducible refine aS (OR M v8) ?_
  refine gO F51 ?_;have kH:∀ x∈M,isByte x:=hB.2;refine SQ (Uu M (by omega) kH) rfl rfl rfl rfl ?_;refine gO F51 ?_;have wa:=hB.more (Iq (nF xN M));have oQ:(M++nQ (nF xN M)).length<=100000008:=by rw[aey];have:(nQ (nF xN M)).length=8:=rfl;omega
  have OX:M++nQ (nF xN M)≠[]:=wa.1
  with_reducible refine aS (DJ _ M hB (by omega)) ?_
  refine gO F51 ?_
  with_reducible refine aS (Ze (M++nQ (nF xN M))) ?_
  refine gO F51 ?_;refine ai (fun h1=>?_) (fun h1=>?_)
  ·refine gO F51 ?_;exact⟨_,_,rfl,rfl⟩
  ·refine gO F51 ?_;refine aS (OR _ OX) ?_;(conv=>whnf);refine J.freeze 4 ?_;(conv=>whnf);refine gO F51 ?_
   with_reducible refine aq (Zj _ OX (by omega) (fun e he=>by rw[wa.cells e he,agw])) ?_
   refine gO F51 ?_;exact⟨_,_,rfl,rfl⟩
theorem Zl(t:cO)(hf:t.cV):ar E 50 [t.enc] (· = .bool (!kC t)):=by
 have c1:=Zk t hf;obtain⟨⟨qn,qt⟩,at_,⟨cl⟩,l,⟨rk,⟨rn,rt⟩,rl⟩⟩:=t;generalize kC _=b at *;show ar E _ [DV.agg [.str qn,.int .i64 qt,.int .i64 at_,.sl (cl.map Entry.enc),.sl (l.map c7.enc),.int .i64 rk,.str rn,.int .i64 rt,.sl (rl.map Signed.enc)]] _;refine eP Tryz.func50 ?_
 with_reducible refine xm (c1) ?_
 rintro r ⟨x,n,rfl,h⟩;refine gO Tryz.func50 ?_;refine congrArg DV.bool ?_;rw[<- h];rw[ahf];simp
theorem Zm(l:List cO)(hl:l.length<=maxLen)(hf:∀ x∈l,x.cV):aw E 119 [] [.d (.sl (l.map cO.enc)),.fn (.func 50) [] []] (fun a b=>∃ n:Int,a=.d (.int .i64 n)/\b=[]/\decide (n>=0) = !l.all kC):=by
 unfold maxLen at hl;refine aw.run ag (fn:=Tryz.f119) Tryz.func119 (body:=Tryz.f119.body.getD .skip) rfl (by decide) 2000 rfl ?_;(conv=>whnf);refine J.loop (κ:=Nat) ([4,5]++rg 8 11) (fun k=>[(8,.d (.int .i64 k))]) (fun _=>[]) (fun k=>k<=l.length/\(l.take k).all kC=true) (fun k=>l.length-k) 0 ⟨afv _,rfl⟩ ?_ ?_
 ·exact sZ
 rintro k ⟨hk,aL⟩ IH;refine J.head ag F119 2000 ?_;(conv=>whnf);refine ai (fun h5=>?_) (fun h5=>?_)
 ·have ah:k<l.length:=by simpa using h5
  obtain⟨x,hx⟩:=aH ah;have c1:=Zl x (hf x (afh hx));refine gO F119 ?_;refine aD (e:=x.enc) (aO hx) rfl ?_;refine gO F119 ?_;refine aq (c1) ?_;refine gO F119 ?_;cases hp:kC x
  ·refine a8 ?_;refine gO F119 ?_;exact⟨k,rfl,rfl,by rw[di hx hp];simp⟩
  ·refine aR ?_;refine gO F119 ?_;refine J.back (IH (k+1) ⟨by omega,dv aL hx hp⟩ (by omega)) ?_;exact sZ
 ·have aC:l.length<=k:=by simpa using h5
  rw[afS aC]at aL;refine gO F119 ?_;exact⟨_,rfl,rfl,by rw[aL];rfl⟩
theorem Zn(l:List cO)(hl:l.length<=maxLen)(hf:∀ x∈l,x.cV):aw E 49 [] [.d (.sl (l.map cO.enc)),.fn (.func 50) [] []] (fun a b=>a=.d (.bool (!l.all kC))/\b=[]):=by
 refine aw.run ag (fn:=Tryz.f49) Tryz.func49 (body:=Tryz.f49.body.getD .skip) rfl (by decide) 2000 rfl ?_;(conv=>whnf);refine jK (Zm l hl hf) ?_;rintro r b ⟨n,rfl,rfl,h⟩;refine gO Tryz.func49 ?_;exact⟨by rw[h],rfl⟩
theorem Zo(e:eH)(h1:e.before.Fits)(h2:e.before.aB.length<=1000000)(h3:Steps.Fits e.steps)(h4:oH.DB e.before e.bM)(h5:e.jR.length<=maxLen)(h6:∀ x∈e.jR,x.cV):ar E 20 [e.enc] (· = .bool (ju e)):=by
 have c1:=HW e.before e.steps h1 h2 h3;have c2:=Ol e.before e.bM h4;have c3:=Zn e.jR h5 h6;obtain⟨⟨ay,aB,anchor,hints,bJ,fin⟩,sl,cl,tl⟩:=e;unfold ju;simp only at c1 c2 c3 ⊢;clear h1 h2 h3 h4 h6;show ar E _ [DV.agg [.sl (ay.map Host.enc),.sl (aB.map aQ.enc),.str anchor.name,.int .i64 anchor.type,.int .i64 anchor.bY,.sl (anchor.data.map Datum.enc),.sl (hints.map (.int .i64)),.int .i64 bJ,.int .i64 fin,.sl (sl.map Step.enc),.sl (cl.map Claim.enc),.sl (tl.map cO.enc)]] _;refine eP Tryz.func20 ?_;repeat' (first|with_reducible(first|refine aq (c1) ?_|refine ax (c1) ?_|refine aq (c2) ?_|refine ax (c2) ?_|refine cY ?_|refine cN ?_|refine ai (fun _=>?_) (fun _=>?_))|refine gA Tryz.func20 ?_|refine gB ?_|with_reducible rfl)
 all_goals try (refine congrArg DV.bool ?_;clear c1 c2 c3 h5;simp_all<;>omega)
 refine aS c3 ?_;refine gO Tryz.func20 ?_;refine congrArg DV.bool ?_;clear c1 c2 c3 h5;have e1:tl.length<=100:=by simp_all;omega
 generalize tl.all kC=b at *;cases b<;>simp_all
end Go.Proofs.YtfmdaiojokniiaaGreatDoor.P
end
section
set_option maxRecDepth 100000
namespace Go.Proofs.YtfmdaiojokniiaaGreatDoor
open Go Go.aA Go.ChangeShapes Go.WideShapes Go.ChangeAt Go.RowKit
def D'(P:Program)(t i:Nat):Option (Nat × Nat):=match P.underlying t with
 |some (.struct fs)=>match fs[i]? with
  |some f=>match P.underlying f.type with
   |some (.slice e)=>if P.cellsOf f.type=1 then some (f.offset,e)else none
   |_=>none
  |none=>none
 |_=>none
theorem QH{H:Type}{d:DataW H}:∀ {l:List (DataW H)},d∈l->Rows.uptoBulk d<=Rows.uptoBulkAll l
 |[],h=>by cases h
 |x::r,h=>by
  simp only[Rows.uptoBulkAll];rcases afu.1 h with rfl|h
  ·omega
  ·have:=QH h;omega
theorem acP{H:Type}{enc:TypeId × Value->H}{W:World}{held:Bool}{t i off e:Nat}{v:Value}{d:DataW H}{p:List MemPlace}{c l:List DV}(hs:D' Tryz.prog t i=some (off,e))(h:DataW.Trod enc Tryz.prog W 0 (fun _=>true) held t v d p)(hv:VD (fun _=>False) W (.agg c) v)(hl:c[off]?=some (.sl l)):l.length<=Rows.uptoBulk d:=by
 unfold D' at hs;split at hs
 case h_2=>cases hs
 rename_i fs gQ;split at hs
 case h_2=>cases hs
 rename_i f hf;split at hs
 case h_2=>cases hs
 rename_i e2 he;split at hs
 case isFalse=>cases hs
 rename_i kb;obtain⟨rfl,rfl⟩:=Prod.mk.inj (Option.some.inj hs);obtain⟨fuel,h⟩:=h;cases hv with
 |agg _ vs hlen bG =>
  obtain⟨xs,n,-,hx,dL,gS,mu⟩:=DataW.trod_struct gQ h;have hi:=(Array.getElem?_eq_some_iff.1 hf).1;obtain⟨y,hy⟩:∃ y,xs[i]?=some y:=⟨xs[i],List.getElem?_eq_getElem (by omega)⟩;have gN:=mu i f hf;rw[hy,kb]at gN;have ho:f.offset<vs.size:=by have:=aX hl;omega
  have hvi:=bG f.offset (.sl l) vs[f.offset] hl (by rw[Array.getElem?_eq_getElem ho]);have dP:((vs.toList.drop f.offset).take 1)=[vs[f.offset]]:=by
   rw[List.drop_eq_getElem_cons (by simpa using ho)];simp
  have hd:d=.agg (xs.map (·.1)):=congrArg Prod.fst hx;have hm:y.1∈xs.map (·.1):=aer.2 ⟨y,afh hy,rfl⟩;have hb:=QH hm;rw[hd];simp only[Rows.uptoBulk];have gN:DataW.trod enc Tryz.prog W 0 (fun _=>true) held n f.type ((vs.toList.drop f.offset).take 1)=some y:=gN;rw[dP]at gN;generalize vs[f.offset]=u at *;cases hvi with
  |slnil=>exact afv _
  |jX a=>exact afv _
  |sl _ blk o cap sz g =>
   rcases DataW.trod_slice he gN with⟨e1,-⟩|⟨a,len,gZ,elems,rest,m,-,e1,e2,-,-,-,dW,-⟩
   ·cases e1
   ·cases e1;have:=QG (elems.map (·.1));rw[e2]at hb;simp only[Rows.uptoBulk,aff]at this hb;omega
theorem QI{H:Type}{enc:TypeId × Value->H}{W:World}{held:Bool}:∀ {ts:List Nat} {vs:List Value} {ds:List (DataW H)} {ps:List MemPlace} {xs:List DV},DataW.TrodAll enc Tryz.prog W 0 (fun _=>true) held ts vs ds ps->jE (fun _=>False) W xs vs ->
  ∀ (j t:Nat) (x:DV),ts[j]?=some t->xs[j]?=some x->∃ v d p,DataW.Trod enc Tryz.prog W 0 (fun _=>true) held t v d p/\VD (fun _=>False) W x v/\Rows.uptoBulk d<=Rows.uptoBulkAll ds
 |[],_,_,_,_,_,_,j,t,x,ht,_=>by simp at ht
 |t0::ts,vs,ds,ps,xs,h,hx,j,t,x,ht,hl=>by
  obtain⟨v,GU,d,GV,p,q,rfl,rfl,rfl,h1,h2⟩:=trodAll_cons h;cases xs with
  |nil=>simp at hl
  |cons x0 xs =>
   simp only[Rows.uptoBulkAll];cases j with
   |zero =>
    simp at ht hl;subst ht;subst hl;exact⟨v,d,p,h1,hx.2 0 _ v rfl rfl,by omega⟩
   |succ j =>
    obtain⟨v',d',p',k1,k2,k3⟩:=QI h2 ⟨by have:=hx.1;simpa using this,fun i y u hy hu=>hx.2 (i+1) y u (by simpa using hy) (by simpa using hu)⟩ j t x (by simpa using ht) (by simpa using hl);exact⟨v',d',p',k1,k2,by omega⟩
theorem acR{H:Type}{enc:TypeId × Value->H}{aj:FuncId}{fn:Func}{s:ChangeSpec}{W:World}{base:Nat}{args:Array Value}{ds gs:List (DataW H)}{before:List MemPlace}{tb:TypeId}
  (hk:Rows.uptoSmall H (ds++gs)=true)
  (bG:∀ (j:Nat) t v,fn.params[j]?=some t->args[j]?=some v->Value.okWide Tryz.prog W .any base t v)
  (hW:DataW.Whole enc Tryz.prog fn.params.toList s.vars false W args.toList ds gs before) (hG:uq E.G (fun _=>False) W)
  (aP:fn.params.toList.all (qh E 20)=true) (hr:∀ t∈fn.params.toList,Tryz.prog.readableRec t=true/\t<Tryz.prog.types.size) (hv:s.vars=[]) (ht:fn.resultTypes = #[tb]) (hb:Tryz.prog.underlying tb=some .bool)
  (hs:∀ ds:List (DataW H),ds.length=fn.params.toList.length->(s.fn H (ds++[])).results=[.lit (.bool true)]/\(s.fn H (ds++[])).args=ds/\(s.fn H (ds++[])).vars=[])
  (hc:∀ xs,vv E fn.params.toList xs->(∀ (j t i off e:Nat) (c l:List DV),fn.params.toList[j]?=some t->D' Tryz.prog t i=some (off,e)->xs[j]?=some (.agg c)->c[off]?=some (.sl l)->l.length<=1048576)->ar E aj xs (· = .bool true)) :
  Calls Tryz.prog aj args W fun e W'=>∃ v,e=.returned v/\s.post enc Tryz.prog fn false true false false W args v W':=by
 have Ap:=hW;obtain⟨p,q,hA,hV,rfl,Cd,c8⟩:=hW;have acS:∀ (j:Nat) t v,fn.params.toList[j]?=some t->args.toList[j]?=some v->Value.okWide E.P W .any base t v:=fun j t v ht hv=>bG j t v (by rwa [aeh]at ht) (by rwa [aeh]at hv);obtain⟨xs,h1,h2⟩:=Mq ag aP acS hA;obtain⟨s1,s2,s3⟩:=hs ds (Mz hA);have hgs:gs=[]:=by
  rw[hv]at hV;exact(trodVars_none hV).1
 have acU:Rows.uptoBulkAll ds<=1048576:=by
  have:=of_decide_eq_true hk
  rwa [hgs,List.append_nil]at this
 have je:=hc xs h2 (fun j t i off e c l a b x y=>by
  obtain⟨v,d,p,k1,k2,k3⟩:=QI hA h1 j t _ a x
  exact aen (acP b k1 k2 y) (aen k3 acU))
 unfold ar at je;have:=je.2 (fun _=>False) W args.toList (fun _ h=>h.elim) hG h1;rw[Array.toArray_toList]at this;refine this.mono fun e W' acV=>?_;obtain⟨v,r,rfl,rfl,fw,hx⟩:=acV;cases fw;exact⟨_,rfl,Vk Tryz.laidOut hr hv ht hb s1 s2 s3 Ap hx⟩
end Go.Proofs.YtfmdaiojokniiaaGreatDoor
end
