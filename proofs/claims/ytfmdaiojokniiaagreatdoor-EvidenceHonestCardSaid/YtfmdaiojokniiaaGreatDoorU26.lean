/- Lemmas of mine. Conditions: as stated. -/
import Derived.Test.YtfmdaiojokniiaaGreatDoorU20
import Derived.Test.YtfmdaiojokniiaaGreatDoorU24
import Derived.Test.YtfmdaiojokniiaaGreatDoorU25
set_option linter.unusedVariables false
set_option linter.unusedSimpArgs false
section
namespace Go.Proofs.YtfmdaiojokniiaaGreatDoor.P
open Go Go.ay
set_option maxRecDepth 100000
set_option maxHeartbeats 4000000
theorem Yj(l:List DV)(h:l≠[])(hl:l.length<=2147483648)(hc:∀ e∈l,e.cells.length=1):aq E 126 [.sl l] (· = .sl l):=by
 refine eP Tryz.func126 ?_;refine I.lF ab rfl rfl rfl rfl (aS rfl) (fun b hb=>?_);obtain rfl:b=false:=by
  cases b
  ·rfl
  ·exact absurd (hb rfl) h
 refine gO Tryz.func126 ?_;refine aR ?_;refine gO Tryz.func126 ?_;refine aV ⟨by simp;omega,hc⟩ ?_;refine gO Tryz.func126 ?_;rfl
theorem Yk(t:cP)(hf:t.cT):aq E 51 [t.enc] (fun r=>∃ x n,r=.aD [x,.int .i64 n]/\decide (n=1) = !ka t):=by
 have c1:=Xv t hf;cases hv:ka t
 ·rw[hv]at c1;obtain⟨⟨qn,qt⟩,at_,⟨cl⟩,l,⟨rk,⟨rn,rt⟩,rl⟩⟩:=t;show aq E _ [DV.agg [.str qn,.int .i64 qt,.int .i64 at_,.sl (cl.map Entry.enc),.sl (l.map cW.enc),.int .i64 rk,.str rn,.int .i64 rt,.sl (rl.map Signed.enc)]] _;refine eP F51 ?_;repeat' (first|with_reducible(first|refine ao (c1) ?_|refine au (c1) ?_|refine cY ?_|refine cN ?_|refine ai (fun _=>?_) (fun _=>?_))|refine gA F51 ?_|refine gB ?_|with_reducible rfl)
  exact⟨_,_,rfl,rfl⟩
 ·rw[hv]at c1;obtain⟨hw,hlen⟩:=Yi hf hv;have c2:=Yb t hw (by omega);have hB:=Ya t;have AF:pY t≠[]:=hB.1;generalize pY t=M at *;obtain⟨⟨qn,qt⟩,at_,⟨cl⟩,l,⟨rk,⟨rn,rt⟩,rl⟩⟩:=t;clear hf hw hv;show aq E _ [DV.agg [.str qn,.int .i64 qt,.int .i64 at_,.sl (cl.map Entry.enc),.sl (l.map cW.enc),.int .i64 rk,.str rn,.int .i64 rt,.sl (rl.map Signed.enc)]] _;refine eP F51 ?_;repeat' (first|with_reducible(first|refine ao (c1) ?_|refine au (c1) ?_|refine cY ?_|refine cN ?_|refine ai (fun _=>?_) (fun _=>?_))|refine gA F51 ?_|refine gB ?_|with_reducible rfl)
  with_reducible refine aO (c2) ?_
  refine gO F51 ?_
  with_reducible refine aO (NX M AF) ?_
  refine gO F51 ?_;have kg:∀ x∈M,isByte x:=hB.2;refine RI (Tn M (by omega) kg) rfl rfl rfl rfl ?_;refine gO F51 ?_;have AG:=hB.more (HE (np xt M));have oE:(M++nz (np xt M)).length<=100000008:=by rw[List.length_append];have:(nz (np xt M)).length=8:=rfl;omega
  have N3:M++nz (np xt M)≠[]:=AG.1
  with_reducible refine aO (Dj _ M hB (by omega)) ?_
  refine gO F51 ?_
  with_reducible refine aO (Ye (M++nz (np xt M))) ?_
  refine gO F51 ?_;refine ai (fun h1=>?_) (fun h1=>?_)
  ·refine gO F51 ?_;exact⟨_,_,rfl,rfl⟩
  ·refine gO F51 ?_;refine aO (NX _ N3) ?_;(conv=>whnf);refine I.freeze 4 ?_;(conv=>whnf);refine gO F51 ?_
   with_reducible refine ao (Yj _ N3 (by omega) (fun e he=>by rw[AG.cells e he,List.length_singleton])) ?_
   refine gO F51 ?_;exact⟨_,_,rfl,rfl⟩
theorem Yl(t:cP)(hf:t.cT):aq E 50 [t.enc] (· = .bool (!ka t)):=by
 have c1:=Yk t hf;obtain⟨⟨qn,qt⟩,at_,⟨cl⟩,l,⟨rk,⟨rn,rt⟩,rl⟩⟩:=t;generalize ka _=b at *;show aq E _ [DV.agg [.str qn,.int .i64 qt,.int .i64 at_,.sl (cl.map Entry.enc),.sl (l.map cW.enc),.int .i64 rk,.str rn,.int .i64 rt,.sl (rl.map Signed.enc)]] _;refine eP Tryz.func50 ?_
 with_reducible refine wU (c1) ?_
 rintro r ⟨x,n,rfl,h⟩;refine gO Tryz.func50 ?_;refine congrArg DV.bool ?_;rw[<- h];rw[Bool.eq_iff_iff];simp
theorem Ym(l:List cP)(hl:l.length<=maxLen)(hf:∀ x∈l,x.cT):ar E 119 [] [.d (.sl (l.map cP.enc)),.fn (.func 50) [] []] (fun a b=>∃ n:Int,a=.d (.int .i64 n)/\b=[]/\decide (n>=0) = !l.all ka):=by
 unfold maxLen at hl;refine ar.run ab (fn:=Tryz.f119) Tryz.func119 (body:=Tryz.f119.body.getD .skip) rfl (by decide) 2000 rfl ?_;(conv=>whnf);refine I.loop (κ:=Nat) ([4,5]++rg 8 11) (fun k=>[(8,.d (.int .i64 k))]) (fun _=>[]) (fun k=>k<=l.length/\(l.take k).all ka=true) (fun k=>l.length-k) 0 ⟨Nat.zero_le _,rfl⟩ ?_ ?_
 ·exact sZ
 rintro k ⟨hk,aJ⟩ IH;refine I.head ab F119 2000 ?_;(conv=>whnf);refine ai (fun h5=>?_) (fun h5=>?_)
 ·have ah:k<l.length:=by simpa using h5
  obtain⟨x,hx⟩:=aG ah;have c1:=Yl x (hf x (List.mem_of_getElem? hx));refine gO F119 ?_;refine aB (e:=x.enc) (aN hx) rfl ?_;refine gO F119 ?_;refine ao (c1) ?_;refine gO F119 ?_;cases hp:ka x
  ·refine bj ?_;refine gO F119 ?_;exact⟨k,rfl,rfl,by rw[di hx hp];simp⟩
  ·refine aR ?_;refine gO F119 ?_;refine I.back (IH (k+1) ⟨by omega,dw aJ hx hp⟩ (by omega)) ?_;exact sZ
 ·have aA:l.length<=k:=by simpa using h5
  rw[List.take_of_length_le aA]at aJ;refine gO F119 ?_;exact⟨_,rfl,rfl,by rw[aJ];rfl⟩
theorem Yn(l:List cP)(hl:l.length<=maxLen)(hf:∀ x∈l,x.cT):ar E 49 [] [.d (.sl (l.map cP.enc)),.fn (.func 50) [] []] (fun a b=>a=.d (.bool (!l.all ka))/\b=[]):=by
 refine ar.run ab (fn:=Tryz.f49) Tryz.func49 (body:=Tryz.f49.body.getD .skip) rfl (by decide) 2000 rfl ?_;(conv=>whnf);refine jv (Ym l hl hf) ?_;rintro r b ⟨n,rfl,rfl,h⟩;refine gO Tryz.func49 ?_;exact⟨by rw[h],rfl⟩
theorem Yo(e:fm)(h1:e.before.Fits)(h2:e.before.aE.length<=1000000)(h3:Steps.Fits e.steps)(h4:ov.Dc e.before e.eh)(h5:e.jY.length<=maxLen)(h6:∀ x∈e.jY,x.cT):aq E 20 [e.enc] (· = .bool (kj e)):=by
 have c1:=Hf e.before e.steps h1 h2 h3;have c2:=Nu e.before e.eh h4;have c3:=Yn e.jY h5 h6;obtain⟨⟨aC,aE,anchor,hints,bN,fin⟩,sl,cl,tl⟩:=e;unfold kj;simp only at c1 c2 c3 ⊢;clear h1 h2 h3 h4 h6;show aq E _ [DV.agg [.sl (aC.map Host.enc),.sl (aE.map aY.enc),.str anchor.name,.int .i64 anchor.type,.int .i64 anchor.cy,.sl (anchor.data.map Datum.enc),.sl (hints.map (.int .i64)),.int .i64 bN,.int .i64 fin,.sl (sl.map Step.enc),.sl (cl.map Claim.enc),.sl (tl.map cP.enc)]] _;refine eP Tryz.func20 ?_;repeat' (first|with_reducible(first|refine ao (c1) ?_|refine au (c1) ?_|refine ao (c2) ?_|refine au (c2) ?_|refine cY ?_|refine cN ?_|refine ai (fun _=>?_) (fun _=>?_))|refine gA Tryz.func20 ?_|refine gB ?_|with_reducible rfl)
 all_goals try (refine congrArg DV.bool ?_;clear c1 c2 c3 h5;simp_all<;>omega)
 refine aO c3 ?_;refine gO Tryz.func20 ?_;refine congrArg DV.bool ?_;clear c1 c2 c3 h5;have e1:tl.length<=100:=by simp_all;omega
 generalize tl.all ka=b at *;cases b<;>simp_all
theorem aax(s z:Text)(hs:s.length<=maxLen)(hz:z.length<=maxLen):aq E 84 [.str s,.str z] (· = .bool (Nm.mn s z)):=by
 have c1:=uU s z hs hz;refine eP Tryz.func84 ?_;refine ao (c1) ?_;refine gO Tryz.func84 ?_
 with_reducible rfl
theorem aay(h:Host)(addr:Int):ar E 81 [.cells [.d (.int .i64 addr)]] [.d h.enc,.ptr 0 0] (fun a b=>a=.d (.bool (h.addr==addr))/\b=[.cells [.d (.int .i64 addr)]]):=by
 obtain⟨n,d,o⟩:=h;show ar E _ _ [.d (DV.agg [.str n,.int .i64 d,.int .i64 o]),_] _;apply ar.kl
 case hk=>rfl
 refine ar.run ab (fn:=Tryz.f81) Tryz.func81 (body:=Tryz.f81.body.getD .skip) rfl (by decide) 2000 rfl ?_;(conv=>whnf);exact⟨rfl,rfl⟩
theorem O6(h:Host):ar E 80 [.cells [.d (.int .i64 h.addr)]] [.d (.sl [h.enc]),.fn (.func 81) [] [.ptr 0 0]] (fun a b=>a=.d (.int .i64 0)/\b=[.cells [.d (.int .i64 h.addr)]]):=by
 have c1:=aay h h.addr;rw[beq_self_eq_true]at c1;refine ar.run ab (fn:=Tryz.f80) Tryz.func80 (body:=Tryz.f80.body.getD .skip) rfl (by decide) 2000 rfl ?_;(conv=>whnf);refine I.mg ?_;refine I.run ab Tryz.func80 2000 ?_;(conv=>whnf);refine aU (by simp) ?_;refine gO Tryz.func80 ?_;refine aB (e:=h.enc) ⟨by omega,rfl⟩ rfl ?_;refine gO Tryz.func80 ?_
 with_reducible refine aO (c1) ?_
 refine gO Tryz.func80 ?_;refine bj ?_;refine gO Tryz.func80 ?_;exact⟨rfl,rfl⟩
theorem aaz(q:bB)(z:aX)(h1:q.name.length<=maxLen)(h2:z.aj.length<=maxLen)(hu:Nm.mn q.name z.aj=true):ar E 83 [.cells [.d (.int .i64 0)],.cells [.d (.str q.name),.d (.int .i64 q.type)]] [.d (bc.enc ⟨0,z⟩),.ptr 0 0,.ptr 1 0] (fun a b=>a=.d (.bool true)/\b=[.cells [.d (.int .i64 0)],.cells [.d (.str q.name),.d (.int .i64 q.type)]]):=by
 have c1:=aax q.name z.aj h1 h2;rw[hu]at c1;show ar E _ _ [.d (DV.agg [.int .i64 0,.str z.aj,.sl (z.ae.map Signed.enc)]),_,_] _;apply ar.kl
 case hk=>rfl
 refine ar.run ab (fn:=Tryz.f83) Tryz.func83 (body:=Tryz.f83.body.getD .skip) rfl (by decide) 2000 rfl ?_;(conv=>whnf);refine bj ?_;refine gO Tryz.func83 ?_;refine ao (c1) ?_;refine gO Tryz.func83 ?_;exact⟨rfl,rfl⟩
theorem aaA(z:aX)(k:Nat):ar E 223 [.arr 0 (59,2) [z.enc]] [.own 0 0,.d (.int .i64 0),.d (.int .i64 1),.fn (.func k) [] []] (fun a b=>a=.aD []/\b=[.arr 0 (59,2) [z.enc]]):=by
 refine ar.run ab (fn:=Tryz.f223) Tryz.func223 (body:=Tryz.f223.body.getD .skip) rfl (by decide) 2000 rfl ?_;(conv=>whnf);refine I.mg ?_;refine I.run ab Tryz.func223 2000 ?_;(conv=>whnf);refine aW (by decide) ?_;refine gO Tryz.func223 ?_;exact⟨rfl,rfl⟩
theorem aaB(z:aX)(k:Nat)(lim:Int):ar E 152 [.arr 0 (59,2) [z.enc]] [.own 0 0,.d (.int .i64 0),.d (.int .i64 1),.d (.int .i64 lim),.fn (.func k) [] []] (fun a b=>a=.aD []/\b=[.arr 0 (59,2) [z.enc]]):=by
 have c1:=aaA z k;refine ar.run ab (fn:=Tryz.f152) Tryz.func152 (body:=Tryz.f152.body.getD .skip) rfl (by decide) 2000 rfl ?_;(conv=>whnf);refine I.mg ?_;refine I.run ab Tryz.func152 2000 ?_;(conv=>whnf);refine aU (by decide) ?_;refine gO Tryz.func152 ?_
 with_reducible refine aO (c1) ?_
 refine gO Tryz.func152 ?_;exact⟨rfl,rfl⟩
theorem aaC:aq E 232 [.int .u64 1] (· = .int .i64 1):=by
 refine eP Tryz.func232 ?_;refine aW (by decide) ?_;refine gO Tryz.func232 ?_;refine aW (by decide) ?_;refine gO Tryz.func232 ?_;refine aW (by decide) ?_;refine gO Tryz.func232 ?_;refine kD 1 (by decide) rfl ?_;refine gO Tryz.func232 ?_;rfl
theorem aaD:aq E 153 [.int .u64 1] (· = .int .i64 1):=by
 have c1:=aaC;refine eP Tryz.func153 ?_;refine aR ?_;refine gO Tryz.func153 ?_
 with_reducible refine ao (c1) ?_
 refine gO Tryz.func153 ?_
 with_reducible rfl
theorem aaE(z:aX)(k:Nat):ar E 85 [.arr 0 (59,2) [z.enc]] [.own 0 0,.fn (.func k) [] []] (fun a b=>a=.aD []/\b=[.arr 0 (59,2) [z.enc]]):=by
 refine ar.run ab (fn:=Tryz.f85) Tryz.func85 (body:=Tryz.f85.body.getD .skip) rfl (by decide) 2000 rfl ?_;(conv=>whnf);refine ao (r := .int .i64 1) aaD ?_;refine gO Tryz.func85 ?_
 with_reducible refine aO (aaB z k 1) ?_
 refine gO Tryz.func85 ?_;exact⟨rfl,rfl⟩
@[reducible] def O7 (h : Host) (l : List bc) (a : cM) (hints : List Int) : DV := .agg [.sl [h.enc], .sl (l.map bc.enc), .str a.name, .int .i64 a.type, .int .i64 a.cy, .sl (a.data.map Datum.enc), .sl (hints.map (.int .i64))]
theorem aaF(h:Host)(a:cM)(hints:List Int)(q:bB)(hf:(⟨[h],[],a,hints⟩:oY).Fits)(hw:C4 ⟨[h],[],a,hints⟩=true)(hq:fF q=true)(lG:q.name.length<=maxLen):aq E 31 [O7 h [] a hints,.int .i64 h.addr,q.enc] (· = .aD [.agg [.int .i64 7,.sl [],.str []],.int .i64 0]):=by
 refine aq.norm ?_;have c1:=O5 _ hf;have c2:=LG q lG;rw[hw]at c1;rw[hq]at c2;have c3:=O6 h;obtain⟨qn,qt⟩:=q;show aq E _ [DV.agg [.sl [h.enc],.sl [],.str a.name,.int .i64 a.type,.int .i64 a.cy,.sl (a.data.map Datum.enc),.sl (hints.map (.int .i64))],_,.agg [.str qn,.int .i64 qt]] _;refine eP F31 ?_;refine ao (c1) ?_;refine gO F31 ?_;refine aR ?_;refine gO F31 ?_;refine ao (c2) ?_;refine gO F31 ?_;refine aR ?_;refine gO F31 ?_
 with_reducible refine aO (c3) ?_
 refine gO F31 ?_;refine aW (by decide) ?_;(conv=>whnf);repeat ((fail_if_success (first|(refine I.oa (fn:=Tryz.f82) rfl rfl pL (sN (aS rfl) (aS rfl)) Tryz.func82 rfl (by decide) ?_)|fail));(refine I.run ab F31 1 ?_);(conv=>whnf))
 refine I.oa (fn:=Tryz.f82) rfl rfl pL (sN (aS rfl) (aS rfl)) Tryz.func82 rfl (by decide) ?_;(conv=>whnf);(conv=>whnf);repeat ((fail_if_success (first|(refine I.kM ab Tryz.func82 rfl rfl rfl (L:=[]) rfl ?_)|fail));(refine I.run ab Tryz.func82 1 ?_);(conv=>whnf))
 refine I.kM ab Tryz.func82 rfl rfl rfl (L:=[]) rfl ?_;(conv=>whnf);(conv=>whnf);repeat ((fail_if_success (first|(refine I.rangeFunc (aS rfl) Tryz.func151 rfl (by decide) rfl (fun ll d t=>?_))|fail));(refine I.run ab F31 1 ?_);(conv=>whnf))
 refine I.rangeFunc (aS rfl) Tryz.func151 rfl (by decide) rfl (fun ll d t=>?_);(conv=>whnf);refine gO F151 ?_;refine I.mg ?_;refine I.run ab F151 2000 ?_;(conv=>whnf);refine aW (by decide) ?_;refine gO F151 ?_;refine I.kN ab F151 rfl rfl rfl rfl (fun e=>nomatch e) ?_;(conv=>whnf);refine gO F31 ?_;refine aU (by decide) ?_;refine gO F31 ?_;refine I.mo ab F31 rfl rfl rfl rfl rfl ?_;rfl
theorem aaG(h:Host)(z:aX)(a:cM)(hints:List Int)(q:bB)(hf:(⟨[h],[⟨0,z⟩],a,hints⟩:oY).Fits)(hw:C4 ⟨[h],[⟨0,z⟩],a,hints⟩=true)(hq:fF q=true)(lG:q.name.length<=maxLen)(hu:Nm.mn q.name z.aj=true):aq E 31 [O7 h [⟨0,z⟩] a hints,.int .i64 h.addr,q.enc] (· = .aD [(o9 z q).enc,.int .i64 (rM z q)]):=by
 have fu:z.Fits:=hf.jB ⟨0,z⟩ (List.mem_singleton.2 rfl);have c1:=O5 _ hf;have c2:=LG q lG;rw[hw]at c1;rw[hq]at c2;have c3:=O6 h;have c4:=aaz q z lG fu.aj hu;have c5:=aat z q fu lG;generalize o9 z q=A at *;obtain⟨ak,al,ac⟩:=A;obtain⟨qn,qt⟩:=q;show aq E _ [DV.agg [.sl [h.enc],.sl [bc.enc ⟨0,z⟩],.str a.name,.int .i64 a.type,.int .i64 a.cy,.sl (a.data.map Datum.enc),.sl (hints.map (.int .i64))],_,.agg [.str qn,.int .i64 qt]] _;refine eP F31 ?_;refine ao (c1) ?_;refine gO F31 ?_;refine aR ?_;refine gO F31 ?_;refine ao (c2) ?_;refine gO F31 ?_;refine aR ?_;refine gO F31 ?_
 with_reducible refine aO (c3) ?_
 refine gO F31 ?_;refine aW (by decide) ?_;(conv=>whnf);repeat ((fail_if_success (first|(refine I.oa (fn:=Tryz.f82) rfl rfl pL (sN (aS rfl) (aS rfl)) Tryz.func82 rfl (by decide) ?_)|fail));(refine I.run ab F31 1 ?_);(conv=>whnf))
 refine I.oa (fn:=Tryz.f82) rfl rfl pL (sN (aS rfl) (aS rfl)) Tryz.func82 rfl (by decide) ?_;(conv=>whnf);(conv=>whnf);repeat ((fail_if_success (first|(refine I.kM ab Tryz.func82 rfl rfl rfl (L:=[]) rfl ?_)|fail));(refine I.run ab Tryz.func82 1 ?_);(conv=>whnf))
 refine I.kM ab Tryz.func82 rfl rfl rfl (L:=[]) rfl ?_;(conv=>whnf);(conv=>whnf);repeat ((fail_if_success (first|(refine I.rangeFunc (aS rfl) Tryz.func151 rfl (by decide) rfl (fun ll d t=>?_))|fail));(refine I.run ab F31 1 ?_);(conv=>whnf))
 refine I.rangeFunc (aS rfl) Tryz.func151 rfl (by decide) rfl (fun ll d t=>?_);(conv=>whnf);refine gO F151 ?_;refine I.mg ?_;refine I.run ab F151 2000 ?_;(conv=>whnf);refine aU (by simp) ?_;refine gO F151 ?_;refine aB (e:=bc.enc ⟨0,z⟩) ⟨by omega,rfl⟩ rfl ?_;refine gO F151 ?_
 with_reducible refine aO (c4) ?_
 refine gO F151 ?_;refine bj ?_;(conv=>whnf);repeat ((fail_if_success (first|(refine I.Og 0 rfl (Oh rfl rfl rfl rfl) rfl (aS rfl) (sN (aS rfl) (aS rfl)) rfl ?_)|fail));(refine I.run ab F151 1 ?_);(conv=>whnf))
 refine I.Og 0 rfl (Oh rfl rfl rfl rfl) rfl (aS rfl) (sN (aS rfl) (aS rfl)) rfl ?_;(conv=>whnf);refine gO F31 ?_;refine I.begin 0 rfl rfl rfl ?_;(conv=>whnf);refine gO F31 ?_;refine aV ⟨by simp,by simp[DV.cells]⟩ ?_;refine gO F31 ?_;refine I.pM 0 rfl rfl rfl ?_;(conv=>whnf);refine gO F151 ?_;refine bj ?_;refine gO F151 ?_;refine aR ?_;refine gO F151 ?_;refine I.again ?_;refine I.run ab F151 2000 ?_;(conv=>whnf);refine aW rfl ?_;refine gO F151 ?_;refine I.kN ab F151 rfl rfl rfl rfl (fun e=>nomatch e) ?_;(conv=>whnf);refine gO F31 ?_;refine aW (by simp) ?_;refine gO F31 ?_
 with_reducible refine aO (aaE z 86) ?_
 refine gO F31 ?_;refine aV (by simp) ?_;refine gO F31 ?_;refine aB (e:=z.enc) ⟨by omega,rfl⟩ rfl ?_;refine gO F31 ?_;repeat' (first|with_reducible(first|refine ao (c5) ?_|refine au (c5) ?_|refine cY ?_|refine cN ?_|refine ai (fun _=>?_) (fun _=>?_))|refine gA F31 ?_|refine gB ?_|with_reducible rfl)
 all_goals try (exfalso;simp_all;done)
 all_goals
  (conv=>whnf);refine gO F31 ?_;refine I.mo ab F31 rfl rfl rfl rfl rfl ?_;rfl
end Go.Proofs.YtfmdaiojokniiaaGreatDoor.P
end
section
namespace Go.ay
open Go Go.RowKit
theorem aq.aaK{E:Env}{f:FuncId}{ds:List DV}{h:List af}{cs:List AV}{r:DV}(H:aq E f [.agg ds] (· = r))(hd:pB h cs=some ds)(hr:BS r=true)(hg:uA cs=true)(l9:py h=true):ar E f h [.agg cs] (fun a b=>a=.d r/\b=h):=by
 unfold aq at H;unfold ar;refine⟨H.1,jR l9,fun c vs h1 h2 h3=>?_⟩;subst h1;have iE:tV E.G c.az c.w:=fun g e aA=>by
  have hp:∀ p,VR c (.bO e 0) p->VR ⟨fun _=>none,[],c.az,c.w⟩ (.bO e 0) p:=fun p hp=>by
   cases hp with
   |bO _ _ blk o' fv k1 k2 k3 k4=>exact .bO _ _ blk o' fv (fun hb=>k1 (.inl (wv.1 hb))) k2 k3 (fun j x hx=>wx ((k4 j x hx).mono fun b _ hn=>⟨fun hb=>hn (.inl hb),rfl⟩))
  exact hp _ (h2.fJ g e aA)
 have hv:jI c.az c.w [.agg ds] vs:=by
  obtain⟨v,rfl⟩:∃ v,vs=[v]:=by
   have:=h3.1
   match vs,this with
   |[v],_=>exact⟨v,rfl⟩
  obtain⟨us,rfl,hu⟩:=ph (h3.2 0 _ v rfl rfl);have:=BT h2 (jR l9) hd hg hu;refine⟨rfl,fun j x u hx hu=>?_⟩;cases j with
  |zero=>simp at hx hu;subst hx;subst hu;exact .agg _ _ (by simpa using this.1) fun j x v hx hv=>this.2 j x v hx (by simpa using hv)
  |succ j=>simp at hx
 refine(H.2 c.az c.w vs h2.bQ iE hv).mono fun e w' ⟨v,r',k1,k2,k3,k4⟩=>?_;subst k2;obtain⟨q1,q2⟩:=h2.grow k4;exact⟨c.eu w',.d r',v,k1,rfl,⟨rfl,rfl⟩,.d _ _ (J9 hr k3),q1,(Rel.refl c (jR l9)).step q2⟩
theorem aaL{E:Env}{s:List AV}{h:List af}(hE:E.OK){args:Array Operand}{ub:Array TypeId}{x y:Operand}{t0 t1 e e1:Nat}{i0 i1 ei:br}{m:List DV}(hx:args.toList=[x,y])(Bl:ub.toList=[t0,t1])(ln:E.T[t0]?=some i0)(wC:E.T[t1]?=some i1)(bY:i0.k=.slice e)(dz:i1.k=.slice e1)(bT:E.T[e]?=some ei)
  (hz:ei.zero.length=ei.size) (cQ:Nat.blt 0 ei.size=true) (qo:Nat.ble ei.bytes 65536=true) (ha:aZ E.G s x (.d .aH)) (hy:aZ E.G s y (.d (.sl m))) (hm:∀ e∈m,e.cells.length=ei.size) (sc:m.length<=2147483648) :
  bw E (.call { callee := .builtin .append,args:=args,argTypes:=ub }) s h (.d (.sl m)) (h++[.gone]):=fun o c ac h1 h2 h3 h4=>by
 have Pb:=iA cQ;have ho:=IY (h:=h) hE hx Bl ln wC bY (fun k e=>by rw[dz]at e;cases e) bT hz Pb (Nat.le_of_ble_eq_true qo) hy hm (fun c v hv=>by cases hv with|d _ _ hv=>exact IT Pb hm hv) ha (r := .own h.length 1) (h':=h++[.arr 1 (e,ei.size) m]) (.inr ⟨rfl,sc,rfl,rfl⟩);obtain⟨c1,v,k1,k2,k3,k4,k5⟩:=ho o c ac h1 h2 h3 h4;obtain⟨c2,j1,j2,j3,j4,j5⟩:=k3.rest (b:=h.length) (g:=1) (ts:=(e,ei.size)) (l:=m) (by rw[k2];simp);exact⟨c2,v,by rw[j2];exact k1,by rw[j1,k2];simp,j3,j5 v k4,k5.trans j4⟩
end Go.ay
end
section
namespace Go.Proofs.YtfmdaiojokniiaaGreatDoor.P
open Go Go.ay
theorem Ph{h:bZ}(hg:h.Good)(hf:As h=true):h.Fits/\h.aE.length<=20/\h.hints.length<=1000000/\h.kS:=by
 simp only[As,xN,Bool.and_eq_true,decide_eq_true_eq]at hf;obtain⟨⟨h1,h2⟩,⟨⟨h3,h4⟩,h5⟩,h6⟩:=hf;rw[List.take_of_length_le (by omega)]at h1 h2;obtain⟨g1,g2,g3,g4,g5⟩:=hg;have hz:∀ c∈h.aE,c.aw.Fits/\c.aw.lP/\c.aw.kS:=fun c hc=>by
  have:=List.all_eq_true.1 h1 c hc;simp only[o6,Bool.and_eq_true]at this;exact C1 (g2.2 c hc).2.2.2 this.1
 refine⟨⟨fun x hx=>(g1.2 x hx).1,⟨g3.1,by omega,fun d hd=>(g3.2.2.2.2 d hd).1⟩,g4.1,fun c hc=>(hz c hc).1⟩,h3,by omega,⟨by omega,by omega,by omega,by omega,fun c hc=>(hz c hc).2.2⟩⟩
theorem aaT{l:List Step}(hg:∀ s∈l,s.Good)(hf:xQ l=true):Steps.Fits l/\l.length<=20:=by
 simp only[xQ,Bool.and_eq_true,decide_eq_true_eq]at hf;obtain⟨h1,h2⟩:=hf
 exact⟨⟨fun s hs=>by
  have:=List.all_eq_true.1 h2 s hs;simp only[pW,Bool.and_eq_true,decide_eq_true_eq]at this
  exact⟨fun x hx=>(C1 (((hg s hs).2).2 x hx).2 (List.all_eq_true.1 this.2 x hx)).1,by omega⟩,by omega⟩,h1⟩
theorem Pj{s:Signed}(hg:s.Good)(h:s.set.data.length<=2147483648):s.cT:=⟨⟨hg.1.1,h,fun d hd=>(hg.1.2.2.2.2 d hd).1⟩,hg.2.1,fun g hx=>(hg.2.2 g hx).1⟩
theorem Pk{l:List Signed}(hg:∀ s∈l,s.Good)(h:vg l=true):∀ s∈l,s.cT:=fun s hs=>by
 simp only[vg,Bool.and_eq_true,decide_eq_true_eq]at h;rw[List.take_of_length_le (by omega)]at h;have:=List.all_eq_true.1 h.1 s hs;simp[xA]at this;exact Pj (hg s hs) (by omega)
theorem aaU{t:cP}(hg:t.Good)(h:rp t=true):t.cT:=by
 obtain⟨g1,-,g3,g4,-,g6,g7⟩:=hg;simp only[rp,CL,Bool.and_eq_true,decide_eq_true_eq]at h;obtain⟨⟨⟨⟨⟨⟨h1,h2⟩,h3,h3'⟩,h4⟩,h5⟩,h6⟩,h7⟩:=h;rw[List.take_of_length_le (by omega)]at h1 h3;refine⟨g1.1,⟨g3.1,fun e he=>?_⟩,⟨g4.1,fun x hx=>?_⟩,g6.1,g7.1,Pk g7.2 h2⟩
 ·have:=List.all_eq_true.1 h3 e he;simp[z6]at this;exact⟨Pj (g3.2 e he).1 (by omega),(g3.2 e he).2.1⟩
 ·have:=List.all_eq_true.1 h1 x hx;simp only[z8,Bool.and_eq_true]at this;obtain⟨-,-,q3,-,q5,q6⟩:=g4.2 x hx;exact⟨q3.1,q5.1,Pk q5.2 this.1.1.1,q6⟩
theorem aaV{e:fm}(hg:e.Good)(h:xS e=true):e.Fits/\e.eh.length<=20:=by
 obtain⟨g1,g2,g3,g4⟩:=hg;simp only[xS,Bool.and_eq_true,decide_eq_true_eq]at h;obtain⟨⟨⟨⟨⟨h1,h2⟩,h3⟩,h4⟩,h5⟩,h6⟩:=h;rw[List.take_of_length_le (by omega)]at h1 h2;obtain⟨f1,f2,f3,-⟩:=Ph g1 h3;exact⟨⟨f1,by omega,f3,(aaT g2.2 h4).1,⟨g3.1,fun c hc=>(C1 (g3.2 c hc).2.2 (List.all_eq_true.1 h1 c hc)).1⟩,g4.1,fun t ht=>aaU (g4.2 t ht) (List.all_eq_true.1 h2 t ht)⟩,by omega⟩
theorem aaW{e:fm}(hg:e.Good):∀ t∈e.jY,t.Nt:=fun t ht=>by
 obtain⟨-,-,g3,g4,-,-,g7⟩:=hg.2.2.2.2 t ht;exact⟨g3.1,g4.1,fun x hx=>(g4.2 x hx).2.2.2.2.1.1,g7.1⟩
def vR(t:Int)(l:List Claim):Int:=(l.getLast?.map (·.time)).getD t
end Go.Proofs.YtfmdaiojokniiaaGreatDoor.P
end
