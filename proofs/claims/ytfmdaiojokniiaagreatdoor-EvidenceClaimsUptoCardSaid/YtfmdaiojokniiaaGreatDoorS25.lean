/- Lemmas of mine. Conditions: as stated. -/
import Derived.Test.YtfmdaiojokniiaaGreatDoorS21
import Derived.Test.YtfmdaiojokniiaaGreatDoorS23
set_option linter.unusedVariables false
set_option linter.unusedSimpArgs false
open Bool renaming and_eq_true->aft,true_and->afC,false_or->ah1
open List renaming take_of_length_le->afS,all_eq_true->ad',mem_map->aer,mem_of_getElem?->afh,length_map->aff,length_cons->aef,length_nil->ae7
open Nat renaming zero_le->afv
section
namespace Go.Proofs.YtfmdaiojokniiaaGreatDoor.P
open Go Go.aA
set_option maxRecDepth 100000
set_option maxHeartbeats 4000000
structure ix.Fits(w:ix):Prop where
 ay:∀ x∈w.ay,x.name.length<=maxLen
 anchor:w.anchor.Fits
 hints:w.hints.length<=maxLen
 eb:∀ p∈w.eb,p.au.Fits
theorem I0{l:List aK}{n:Nat}(h:l.all (tJ n)=false):tK n l=false:=by simp[tK,h]
theorem abw{l:List aK}{k:Nat}{x:aK}(h:l[k]?=some x):(l.take (k+1)).map (·.au.ao)=(l.take k).map (·.au.ao)++[x.au.ao]:=by rw[cG h,List.map_append];rfl
theorem abx(l:List aK):(ev DV.str (l.map (·.au.ao))).length=NW l:=by
 have:=HN x6 (l.map (·.au.ao)) _ (Nat.le_refl _)
 rwa [List.take_length]at this
theorem PV(ay:List Host)(l:List aK)(a:cM)(hints:List Int)(hz:∀ p∈l,p.au.Fits):ar E 149 [DV.agg [.sl (ay.map Host.enc),.sl (l.map aK.enc),.str a.name,.int .i64 a.type,.int .i64 a.bY,.sl (a.data.map Datum.enc),.sl (hints.map (.int .i64))]] (· = .bool (tK ay.length l)):=by
 refine eP F149 ?_;refine ai (fun h1=>?_) (fun h1=>?_)
 ·refine gO F149 ?_;have:tK ay.length l=false:=by simp[tK];simp at h1;omega
  rw[this]
 have hlen:l.length<=4000:=by simp at h1;omega
 refine gO F149 ?_;refine gO F149 ?_;refine gO F149 ?_;refine J.loop (κ:=Nat) ([2,6,7]++rg 17 39) (fun k=>[(17,.d (.int .i64 k)),(2,.d (.bool false)),(3,.map 1),(4,.map 2)]) (fun k=>[(1,.map (ev cH.en ((l.take k).map aK.spot))),(2,.map (ev DV.str ((l.take k).map (·.au.ao))))]) (fun k=>k<=l.length/\(l.take k).all (tJ ay.length)=true/\((l.take k).map aK.spot).Nodup) (fun k=>l.length-k) 0 ⟨afv _,rfl,by simp⟩ ?_ ?_
 ·(conv=>whnf);repeat (first|exact trivial|(refine sI ?_;conv=>whnf))
  refine And.intro rfl ?_;(conv=>whnf);repeat (first|exact trivial|(refine sI ?_;conv=>whnf))
  refine And.intro rfl ?_;exact sZ
 rintro i ⟨hi,aL,c8⟩ IH;refine J.head ag F149 2000 ?_;(conv=>whnf);refine ai (fun h5=>?_) (fun h5=>?_)
 ·have ah:i<l.length:=by simpa using h5
  obtain⟨x,hx⟩:=aH ah;have fE:=hz x (afh hx);have fC:=(oG qm ((l.take i).map aK.spot)).1;have aby:=(oG x6 ((l.take i).map (·.au.ao))).1;obtain⟨gJ,jq⟩:=vK qm ((l.take i).map aK.spot) x.spot;refine gO F149 ?_;refine aD (e:=x.enc) (aO hx) rfl ?_;refine gO F149 ?_;refine ai (fun h6=>?_) (fun h6=>?_)
  ·repeat' (first|with_reducible(first|refine cY ?_|refine cN ?_|refine ai (fun _=>?_) (fun _=>?_))|refine gA F149 ?_|refine gB ?_|with_reducible rfl)
   rw[I0 (di hx (by simp[tJ];simp at h6;omega))]
  refine gO F149 ?_;refine ai (fun h7=>?_) (fun h7=>?_)
  ·repeat' (first|with_reducible(first|refine cY ?_|refine cN ?_|refine ai (fun _=>?_) (fun _=>?_))|refine gA F149 ?_|refine gB ?_|with_reducible rfl)
   rw[I0 (di hx (by simp[tJ];simp at h7;omega))]
  refine gO F149 ?_;refine oX (.bool false) (.bool false) ⟨_,rfl,rfl,⟨_,rfl,_,rfl⟩,rfl,⟨_,rfl,_,rfl⟩,trivial⟩ (x8 fC) (fun w=>by kernel_rfl) (fun _ _ => .bool _) gJ jq ?_;refine gO F149 ?_;refine ai (fun h8=>?_) (fun h8=>?_)
  ·repeat' (first|with_reducible(first|refine cY ?_|refine cN ?_|refine ai (fun _=>?_) (fun _=>?_))|refine gA F149 ?_|refine gB ?_|with_reducible rfl)
   have:=HL hx (by simpa using h8);simp[tK,this]
  refine gO F149 ?_
  with_reducible refine aq (vH x.au fE) ?_
  refine gO F149 ?_;cases Dw:eu x.au
  ·repeat' (first|with_reducible(first|refine cY ?_|refine cN ?_|refine ai (fun _=>?_) (fun _=>?_))|refine gA F149 ?_|refine gB ?_|with_reducible rfl)
   rw[I0 (di hx (by simp[tJ,Dw]))]
  refine aR ?_;refine gO F149 ?_;have aP:tJ ay.length x=true:=by simp[tJ,Dw];simp at h6 h7;omega
  refine aW ⟨⟨_,rfl,rfl,⟨_,rfl,_,rfl⟩,rfl,⟨_,rfl,_,rfl⟩,trivial⟩,x8 fC⟩ ?_;refine gO F149 ?_;refine aW ⟨⟨_,rfl⟩,aby⟩ ?_;refine gO F149 ?_;refine J.back (IH (i+1) ⟨by omega,dv aL hx aP,HM hx c8 (by simpa using h8)⟩ (by omega)) ?_;rw[Dr hx,tH,abw hx,tH];(conv=>whnf);repeat (first|exact trivial|(refine sI ?_;conv=>whnf))
  refine And.intro rfl ?_;exact sZ
 ·have aC:l.length<=i:=by simpa using h5
  rw[afS aC]at aL c8 ⊢;refine gO F149 ?_;refine gO F149 ?_;have:=abx l;rw[this];simp[tK,aL,c8,hlen];omega
theorem PW(w:ix)(hf:w.Fits):ar E 78 [w.enc] (· = .bool (Ds w)):=by
 obtain⟨ay,eb,anchor,hints⟩:=w;obtain⟨f1,f2,f3,f4⟩:=hf;simp only at f1 f2 f3 f4;show ar E _ [DV.agg [.sl (ay.map Host.enc),.sl (eb.map aK.enc),.str anchor.name,.int .i64 anchor.type,.int .i64 anchor.bY,.sl (anchor.data.map Datum.enc),.sl (hints.map (.int .i64))]] _;refine eP Tryz.func78 ?_;repeat' (first|with_reducible(first|refine aq (Dk ay f1) ?_|refine ax (Dk ay f1) ?_|refine aq (PV ay eb anchor hints f4) ?_|refine ax (PV ay eb anchor hints f4) ?_|refine aq (Dl anchor hints f2 f3) ?_|refine ax (Dl anchor hints f2 f3) ?_|refine cY ?_|refine cN ?_|refine ai (fun _=>?_) (fun _=>?_))|refine gA Tryz.func78 ?_|refine gB ?_|with_reducible rfl)
 all_goals simp_all[Ds]
theorem abz(s z:Text)(hs:s.length<=maxLen)(hz:z.length<=maxLen):ar E 84 [.str s,.str z] (· = .bool (Nm.mF s z)):=by
 have c1:=vq s z hs hz;refine eP Tryz.func84 ?_;refine aq (c1) ?_;refine gO Tryz.func84 ?_
 with_reducible rfl
theorem abA(h:Host)(addr:Int):aw E 81 [.cells [.d (.int .i64 addr)]] [.d h.enc,.ptr 0 0] (fun a b=>a=.d (.bool (h.addr==addr))/\b=[.cells [.d (.int .i64 addr)]]):=by
 obtain⟨n,d,o⟩:=h;show aw E _ _ [.d (DV.agg [.str n,.int .i64 d,.int .i64 o]),_] _;apply aw.kK
 case hk=>rfl
 refine aw.run ag (fn:=Tryz.f81) Tryz.func81 (body:=Tryz.f81.body.getD .skip) rfl (by decide) 2000 rfl ?_;(conv=>whnf);exact⟨rfl,rfl⟩
theorem PX(h:Host):aw E 80 [.cells [.d (.int .i64 h.addr)]] [.d (.sl [h.enc]),.fn (.func 81) [] [.ptr 0 0]] (fun a b=>a=.d (.int .i64 0)/\b=[.cells [.d (.int .i64 h.addr)]]):=by
 have c1:=abA h h.addr;rw[beq_self_eq_true]at c1;refine aw.run ag (fn:=Tryz.f80) Tryz.func80 (body:=Tryz.f80.body.getD .skip) rfl (by decide) 2000 rfl ?_;(conv=>whnf);refine J.mB ?_;refine J.run ag Tryz.func80 2000 ?_;(conv=>whnf);refine aY (by simp) ?_;refine gO Tryz.func80 ?_;refine aD (e:=h.enc) ⟨by omega,rfl⟩ rfl ?_;refine gO Tryz.func80 ?_
 with_reducible refine aS (c1) ?_
 refine gO Tryz.func80 ?_;refine a8 ?_;refine gO Tryz.func80 ?_;exact⟨rfl,rfl⟩
theorem abB(q:bC)(z:bc)(h1:q.name.length<=maxLen)(h2:z.ao.length<=maxLen)(hu:Nm.mF q.name z.ao=true):aw E 83 [.cells [.d (.int .i64 0)],.cells [.d (.str q.name),.d (.int .i64 q.type)]] [.d (aK.enc ⟨0,z⟩),.ptr 0 0,.ptr 1 0] (fun a b=>a=.d (.bool true)/\b=[.cells [.d (.int .i64 0)],.cells [.d (.str q.name),.d (.int .i64 q.type)]]):=by
 have c1:=abz q.name z.ao h1 h2;rw[hu]at c1;show aw E _ _ [.d (DV.agg [.int .i64 0,.str z.ao,.sl (z.ae.map Signed.enc)]),_,_] _;apply aw.kK
 case hk=>rfl
 refine aw.run ag (fn:=Tryz.f83) Tryz.func83 (body:=Tryz.f83.body.getD .skip) rfl (by decide) 2000 rfl ?_;(conv=>whnf);refine a8 ?_;refine gO Tryz.func83 ?_;refine aq (c1) ?_;refine gO Tryz.func83 ?_;exact⟨rfl,rfl⟩
theorem abC(z:bc)(k:Nat):aw E 223 [.arr 0 (59,2) [z.enc]] [.own 0 0,.d (.int .i64 0),.d (.int .i64 1),.fn (.func k) [] []] (fun a b=>a=.aF []/\b=[.arr 0 (59,2) [z.enc]]):=by
 refine aw.run ag (fn:=Tryz.f223) Tryz.func223 (body:=Tryz.f223.body.getD .skip) rfl (by decide) 2000 rfl ?_;(conv=>whnf);refine J.mB ?_;refine J.run ag Tryz.func223 2000 ?_;(conv=>whnf);refine aU (by decide) ?_;refine gO Tryz.func223 ?_;exact⟨rfl,rfl⟩
theorem abD(z:bc)(k:Nat)(lim:Int):aw E 152 [.arr 0 (59,2) [z.enc]] [.own 0 0,.d (.int .i64 0),.d (.int .i64 1),.d (.int .i64 lim),.fn (.func k) [] []] (fun a b=>a=.aF []/\b=[.arr 0 (59,2) [z.enc]]):=by
 have c1:=abC z k;refine aw.run ag (fn:=Tryz.f152) Tryz.func152 (body:=Tryz.f152.body.getD .skip) rfl (by decide) 2000 rfl ?_;(conv=>whnf);refine J.mB ?_;refine J.run ag Tryz.func152 2000 ?_;(conv=>whnf);refine aY (by decide) ?_;refine gO Tryz.func152 ?_
 with_reducible refine aS (c1) ?_
 refine gO Tryz.func152 ?_;exact⟨rfl,rfl⟩
theorem abE:ar E 232 [.int .u64 1] (· = .int .i64 1):=by
 refine eP Tryz.func232 ?_;refine aU (by decide) ?_;refine gO Tryz.func232 ?_;refine aU (by decide) ?_;refine gO Tryz.func232 ?_;refine aU (by decide) ?_;refine gO Tryz.func232 ?_;refine kX 1 (by decide) rfl ?_;refine gO Tryz.func232 ?_;rfl
theorem abF:ar E 153 [.int .u64 1] (· = .int .i64 1):=by
 have c1:=abE;refine eP Tryz.func153 ?_;refine aR ?_;refine gO Tryz.func153 ?_
 with_reducible refine aq (c1) ?_
 refine gO Tryz.func153 ?_
 with_reducible rfl
theorem abG(z:bc)(k:Nat):aw E 85 [.arr 0 (59,2) [z.enc]] [.own 0 0,.fn (.func k) [] []] (fun a b=>a=.aF []/\b=[.arr 0 (59,2) [z.enc]]):=by
 refine aw.run ag (fn:=Tryz.f85) Tryz.func85 (body:=Tryz.f85.body.getD .skip) rfl (by decide) 2000 rfl ?_;(conv=>whnf);refine aq (r := .int .i64 1) abF ?_;refine gO Tryz.func85 ?_
 with_reducible refine aS (abD z k 1) ?_
 refine gO Tryz.func85 ?_;exact⟨rfl,rfl⟩
@[reducible] def PY (h : Host) (l : List aK) (a : cM) (hints : List Int) : DV := .agg [.sl [h.enc], .sl (l.map aK.enc), .str a.name, .int .i64 a.type, .int .i64 a.bY, .sl (a.data.map Datum.enc), .sl (hints.map (.int .i64))]
theorem abH(h:Host)(a:cM)(hints:List Int)(q:bC)(hf:(⟨[h],[],a,hints⟩:ix).Fits)(hw:Ds ⟨[h],[],a,hints⟩=true)(hq:fM q=true)(lV:q.name.length<=maxLen):ar E 31 [PY h [] a hints,.int .i64 h.addr,q.enc] (· = .aF [.agg [.int .i64 7,.sl [],.str []],.int .i64 0]):=by
 refine ar.norm ?_;have c1:=PW _ hf;have c2:=MC q lV;rw[hw]at c1;rw[hq]at c2;have c3:=PX h;obtain⟨qn,qt⟩:=q;show ar E _ [DV.agg [.sl [h.enc],.sl [],.str a.name,.int .i64 a.type,.int .i64 a.bY,.sl (a.data.map Datum.enc),.sl (hints.map (.int .i64))],_,.agg [.str qn,.int .i64 qt]] _;refine eP F31 ?_;refine aq (c1) ?_;refine gO F31 ?_;refine aR ?_;refine gO F31 ?_;refine aq (c2) ?_;refine gO F31 ?_;refine aR ?_;refine gO F31 ?_
 with_reducible refine aS (c3) ?_
 refine gO F31 ?_;refine aU (by decide) ?_;(conv=>whnf);repeat ((fail_if_success (first|(refine J.mG (fn:=Tryz.f82) rfl rfl oz (qb (aV rfl) (aV rfl)) Tryz.func82 rfl (by decide) ?_)|fail));(refine J.run ag F31 1 ?_);(conv=>whnf))
 refine J.mG (fn:=Tryz.f82) rfl rfl oz (qb (aV rfl) (aV rfl)) Tryz.func82 rfl (by decide) ?_;(conv=>whnf);(conv=>whnf);repeat ((fail_if_success (first|(refine J.kx ag Tryz.func82 rfl rfl rfl (L:=[]) rfl ?_)|fail));(refine J.run ag Tryz.func82 1 ?_);(conv=>whnf))
 refine J.kx ag Tryz.func82 rfl rfl rfl (L:=[]) rfl ?_;(conv=>whnf);(conv=>whnf);repeat ((fail_if_success (first|(refine J.rangeFunc (aV rfl) Tryz.func151 rfl (by decide) rfl (fun ll d t=>?_))|fail));(refine J.run ag F31 1 ?_);(conv=>whnf))
 refine J.rangeFunc (aV rfl) Tryz.func151 rfl (by decide) rfl (fun ll d t=>?_);(conv=>whnf);refine gO F151 ?_;refine J.mB ?_;refine J.run ag F151 2000 ?_;(conv=>whnf);refine aU (by decide) ?_;refine gO F151 ?_;refine J.ky ag F151 rfl rfl rfl rfl (fun e=>nomatch e) ?_;(conv=>whnf);refine gO F31 ?_;refine aY (by decide) ?_;refine gO F31 ?_;refine J.lW ag F31 rfl rfl rfl rfl rfl ?_;rfl
theorem abI(h:Host)(z:bc)(a:cM)(hints:List Int)(q:bC)(hf:(⟨[h],[⟨0,z⟩],a,hints⟩:ix).Fits)(hw:Ds ⟨[h],[⟨0,z⟩],a,hints⟩=true)(hq:fM q=true)(lV:q.name.length<=maxLen)(hu:Nm.mF q.name z.ao=true):ar E 31 [PY h [⟨0,z⟩] a hints,.int .i64 h.addr,q.enc] (· = .aF [(pz z q).enc,.int .i64 (sc z q)]):=by
 have fE:z.Fits:=hf.eb ⟨0,z⟩ (List.mem_singleton.2 rfl);have c1:=PW _ hf;have c2:=MC q lV;rw[hw]at c1;rw[hq]at c2;have c3:=PX h;have c4:=abB q z lV fE.ao hu;have c5:=abv z q fE lV;generalize pz z q=A at *;obtain⟨ak,al,ac⟩:=A;obtain⟨qn,qt⟩:=q;show ar E _ [DV.agg [.sl [h.enc],.sl [aK.enc ⟨0,z⟩],.str a.name,.int .i64 a.type,.int .i64 a.bY,.sl (a.data.map Datum.enc),.sl (hints.map (.int .i64))],_,.agg [.str qn,.int .i64 qt]] _;refine eP F31 ?_;refine aq (c1) ?_;refine gO F31 ?_;refine aR ?_;refine gO F31 ?_;refine aq (c2) ?_;refine gO F31 ?_;refine aR ?_;refine gO F31 ?_
 with_reducible refine aS (c3) ?_
 refine gO F31 ?_;refine aU (by decide) ?_;(conv=>whnf);repeat ((fail_if_success (first|(refine J.mG (fn:=Tryz.f82) rfl rfl oz (qb (aV rfl) (aV rfl)) Tryz.func82 rfl (by decide) ?_)|fail));(refine J.run ag F31 1 ?_);(conv=>whnf))
 refine J.mG (fn:=Tryz.f82) rfl rfl oz (qb (aV rfl) (aV rfl)) Tryz.func82 rfl (by decide) ?_;(conv=>whnf);(conv=>whnf);repeat ((fail_if_success (first|(refine J.kx ag Tryz.func82 rfl rfl rfl (L:=[]) rfl ?_)|fail));(refine J.run ag Tryz.func82 1 ?_);(conv=>whnf))
 refine J.kx ag Tryz.func82 rfl rfl rfl (L:=[]) rfl ?_;(conv=>whnf);(conv=>whnf);repeat ((fail_if_success (first|(refine J.rangeFunc (aV rfl) Tryz.func151 rfl (by decide) rfl (fun ll d t=>?_))|fail));(refine J.run ag F31 1 ?_);(conv=>whnf))
 refine J.rangeFunc (aV rfl) Tryz.func151 rfl (by decide) rfl (fun ll d t=>?_);(conv=>whnf);refine gO F151 ?_;refine J.mB ?_;refine J.run ag F151 2000 ?_;(conv=>whnf);refine aY (by simp) ?_;refine gO F151 ?_;refine aD (e:=aK.enc ⟨0,z⟩) ⟨by omega,rfl⟩ rfl ?_;refine gO F151 ?_
 with_reducible refine aS (c4) ?_
 refine gO F151 ?_;refine a8 ?_;(conv=>whnf);repeat ((fail_if_success (first|(refine J.IC 0 rfl (ID rfl rfl rfl rfl) rfl (aV rfl) (qb (aV rfl) (aV rfl)) rfl ?_)|fail));(refine J.run ag F151 1 ?_);(conv=>whnf))
 refine J.IC 0 rfl (ID rfl rfl rfl rfl) rfl (aV rfl) (qb (aV rfl) (aV rfl)) rfl ?_;(conv=>whnf);refine gO F31 ?_;refine J.begin 0 rfl rfl rfl ?_;(conv=>whnf);refine gO F31 ?_;refine aW ⟨by simp,by simp[DV.cells]⟩ ?_;refine gO F31 ?_;refine J.pb 0 rfl rfl rfl ?_;(conv=>whnf);refine gO F151 ?_;refine a8 ?_;refine gO F151 ?_;refine aR ?_;refine gO F151 ?_;refine J.again ?_;refine J.run ag F151 2000 ?_;(conv=>whnf);refine aU rfl ?_;refine gO F151 ?_;refine J.ky ag F151 rfl rfl rfl rfl (fun e=>nomatch e) ?_;(conv=>whnf);refine gO F31 ?_;refine aU (by simp) ?_;refine gO F31 ?_
 with_reducible refine aS (abG z 86) ?_
 refine gO F31 ?_;refine aW (by simp) ?_;refine gO F31 ?_;refine aD (e:=z.enc) ⟨by omega,rfl⟩ rfl ?_;refine gO F31 ?_;repeat' (first|with_reducible(first|refine aq (c5) ?_|refine ax (c5) ?_|refine cY ?_|refine cN ?_|refine ai (fun _=>?_) (fun _=>?_))|refine gA F31 ?_|refine gB ?_|with_reducible rfl)
 all_goals try (exfalso;simp_all;done)
 all_goals
  (conv=>whnf);refine gO F31 ?_;refine J.lW ag F31 rfl rfl rfl rfl rfl ?_;rfl
end Go.Proofs.YtfmdaiojokniiaaGreatDoor.P
end
section
namespace Go.Proofs.YtfmdaiojokniiaaGreatDoor.P
open Go Go.aA
theorem P7{h:bO}(hg:h.Good)(hf:AR h=true):h.Fits/\h.aB.length<=20/\h.hints.length<=1000000/\h.fO:=by
 simp only[AR,yb,aft,decide_eq_true_eq]at hf;obtain⟨⟨h1,h2⟩,⟨⟨h3,h4⟩,h5⟩,h6⟩:=hf;rw[afS (by omega)]at h1 h2;obtain⟨g1,g2,g3,g4,g5⟩:=hg;have hz:∀ c∈h.aB,c.au.Fits/\c.au.lv/\c.au.fO:=fun c hc=>by
  have:=ad'.1 h1 c hc;simp only[pw,aft]at this;exact Dp (g2.2 c hc).2.2.2 this.1
 refine⟨⟨fun x hx=>(g1.2 x hx).1,⟨g3.1,by omega,fun d hd=>(g3.2.2.2.2 d hd).1⟩,g4.1,fun c hc=>(hz c hc).1⟩,h3,by omega,⟨by omega,by omega,by omega,by omega,fun c hc=>(hz c hc).2.2⟩⟩
theorem abV{l:List Step}(hg:∀ s∈l,s.Good)(hf:AQ l=true):Steps.Fits l/\l.length<=20:=by
 simp only[AQ,aft,decide_eq_true_eq]at hf;obtain⟨h1,h2⟩:=hf
 exact⟨⟨fun s hs=>by
  have:=ad'.1 h2 s hs;simp only[rT,aft,decide_eq_true_eq]at this
  exact⟨fun x hx=>(Dp (((hg s hs).2).2 x hx).2 (ad'.1 this.2 x hx)).1,by omega⟩,by omega⟩,h1⟩
theorem P8{s:Signed}(hg:s.Good)(h:s.set.data.length<=2147483648):s.cV:=⟨⟨hg.1.1,h,fun d hd=>(hg.1.2.2.2.2 d hd).1⟩,hg.2.1,fun g hx=>(hg.2.2 g hx).1⟩
theorem P9{l:List Signed}(hg:∀ s∈l,s.Good)(h:vD l=true):∀ s∈l,s.cV:=fun s hs=>by
 simp only[vD,aft,decide_eq_true_eq]at h;rw[afS (by omega)]at h;have:=ad'.1 h.1 s hs;simp[xU]at this;exact P8 (hg s hs) (by omega)
theorem abW{t:cO}(hg:t.Good)(h:rI t=true):t.cV:=by
 obtain⟨g1,-,g3,g4,-,g6,g7⟩:=hg;simp only[rI,Da,aft,decide_eq_true_eq]at h;obtain⟨⟨⟨⟨⟨⟨h1,h2⟩,h3,h3'⟩,h4⟩,h5⟩,h6⟩,h7⟩:=h;rw[afS (by omega)]at h1 h3;refine⟨g1.1,⟨g3.1,fun e he=>?_⟩,⟨g4.1,fun x hx=>?_⟩,g6.1,g7.1,P9 g7.2 h2⟩
 ·have:=ad'.1 h3 e he;simp[Au]at this;exact⟨P8 (g3.2 e he).1 (by omega),(g3.2 e he).2.1⟩
 ·have:=ad'.1 h1 x hx;simp only[Aw,aft]at this;obtain⟨-,-,q3,-,q5,q6⟩:=g4.2 x hx;exact⟨q3.1,q5.1,P9 q5.2 this.1.1.1,q6⟩
theorem P'{e:eH}(hg:e.Good)(h:vR e=true):e.Fits/\e.bM.length<=20:=by
 obtain⟨g1,g2,g3,g4⟩:=hg;simp only[vR,aft,decide_eq_true_eq]at h;obtain⟨⟨⟨⟨⟨h1,h2⟩,h3⟩,h4⟩,h5⟩,h6⟩:=h;rw[afS (by omega)]at h1 h2;obtain⟨f1,f2,f3,-⟩:=P7 g1 h3;exact⟨⟨f1,by omega,f3,(abV g2.2 h4).1,⟨g3.1,fun c hc=>(Dp (g3.2 c hc).2.2 (ad'.1 h1 c hc)).1⟩,g4.1,fun t ht=>abW (g4.2 t ht) (ad'.1 h2 t ht)⟩,by omega⟩
theorem abX{e:eH}(hg:e.Good):∀ t∈e.jR,t.Oj:=fun t ht=>by
 obtain⟨-,-,g3,g4,-,-,g7⟩:=hg.2.2.2.2 t ht;exact⟨g3.1,g4.1,fun x hx=>(g4.2 x hx).2.2.2.2.1.1,g7.1⟩
def lD(t:Int)(l:List Claim):Int:=(l.getLast?.map (·.time)).getD t
theorem I8{n:Nat}{fin:Int}{c:Claim}:∀ {l:List Claim} {t:Int} {S:List nN},fZ n fin t S (l++[c])=true->nO n fin (lD t l) (S++l.map Claim.key) c=true
 |[],t,S,h=>by
  simp only[List.nil_append,fZ,aft]at h
  simpa [lD]using h.1
 |a::l,t,S,h=>by
  simp only[List.cons_append,fZ,aft]at h;have:=I8 h.2;rw[List.append_assoc]at this;rw[show lD t (a::l)=lD a.time l by cases l<;>simp[lD,List.getLast?_cons]];exact this
end Go.Proofs.YtfmdaiojokniiaaGreatDoor.P
end
section
namespace Go.Proofs.YtfmdaiojokniiaaGreatDoor.P
open Go Go.aA
set_option maxRecDepth 100000
set_option maxHeartbeats 4000000
theorem acg(z1 z2:List aK)(a b:List Host)(x y:cM)(c d:List Int)(hl:a.length<=1000000)(hc:c.length<=1000000)(hx:x.data.length<=2147483648):ar E 46 [.agg [.sl (a.map Host.enc),.sl (z1.map aK.enc),.str x.name,.int .i64 x.type,.int .i64 x.bY,.sl (x.data.map Datum.enc),.sl (c.map (.int .i64))],.agg [.sl (b.map Host.enc),.sl (z2.map aK.enc),.str y.name,.int .i64 y.type,.int .i64 y.bY,.sl (y.data.map Datum.enc),.sl (d.map (.int .i64))]] (· = .bool (decide (a=b)&&decide (c=d)&&decide (x=y))):=by
 refine eP F46 ?_;refine ai (fun h4=>?_) (fun h4=>?_)
 ·have aJ:a≠b:=by rintro rfl;simp at h4
  rw[decide_eq_false aJ];refine gO F46 ?_;refine a8 ?_;refine gO F46 ?_;refine a8 ?_;refine gO F46 ?_;simp
 ·have my:a.length=b.length:=by simp only[bne_eq_false_iff_eq,aff]at h4;omega
  refine gO F46 ?_;refine ai (fun h5=>?_) (fun h5=>?_)
  ·have aJ:c≠d:=by rintro rfl;simp at h5
   rw[decide_eq_false aJ];refine gO F46 ?_;refine a8 ?_;refine gO F46 ?_;simp
  ·have DA:c.length=d.length:=by simp only[bne_eq_false_iff_eq,aff]at h5;omega
   refine gO F46 ?_
   with_reducible refine aq (G9 x y hx) ?_
   refine gO F46 ?_;by_cases jO:x=y
   ·refine aU (by simp[jO]) ?_;rw[decide_eq_true jO];refine gO F46 ?_;refine J.loop (κ:=Nat) ([4,5]++rg 31 18) (fun k=>[(5,.d (.int .i64 k))]) (fun _=>[]) (fun k=>k<=a.length/\a.take k=b.take k) (fun k=>a.length-k) 0 ⟨afv _,rfl⟩ ?_ ?_
    ·exact sZ
    ·intro k hk IH;refine J.head ag F46 2000 ?_;(conv=>whnf);refine ai (fun h6=>?_) (fun h6=>?_)
     ·have ah:k<a.length:=by simpa using h6
      obtain⟨u,hu⟩:=aH ah;obtain⟨w,hw⟩:=aH (l:=b) (k:=k) (by omega);refine gO F46 ?_;refine dU ?_;refine aD (e:=u.enc) (aO hu) rfl ?_;refine gD ?_;refine aD (e:=w.enc) (aO hw) rfl ?_;refine gD ?_;refine gO F46 ?_;refine ai (fun h7=>?_) (fun h7=>?_)
      ·have aJ:u≠w:=by rintro rfl;simp at h7
       refine gO F46 ?_;rw[decide_eq_false (mL hu hw aJ)];simp
      ·have he:u=w:=by
        obtain⟨u1,u2,u3⟩:=u;obtain⟨w1,w2,w3⟩:=w;simp at h7;simp[h7]
       refine gO F46 ?_;refine J.back (IH (k+1) ⟨by omega,pg hk.2 hu hw he⟩ (by omega)) ?_;exact sZ
     ·have aC:k=a.length:=by simp at h6;omega
      have H6:a=b:=pj hk.2 (by omega) (by omega);rw[decide_eq_true H6];refine gO F46 ?_;refine J.loop (κ:=Nat) ([4,6]++rg 49 18) (fun k=>[(6,.d (.int .i64 k))]) (fun _=>[]) (fun k=>k<=c.length/\c.take k=d.take k) (fun k=>c.length-k) 0 ⟨afv _,rfl⟩ ?_ ?_
      ·exact sZ
      ·intro k hk IH;refine J.head ag F46 2000 ?_;(conv=>whnf);refine ai (fun h6=>?_) (fun h6=>?_)
       ·have ah:k<c.length:=by simpa using h6
        obtain⟨u,hu⟩:=aH ah;obtain⟨w,hw⟩:=aH (l:=d) (k:=k) (by omega);refine gO F46 ?_;refine dU ?_;refine aD (e := .int .i64 u) (aO hu) rfl ?_;refine gD ?_;refine aD (e := .int .i64 w) (aO hw) rfl ?_;refine gD ?_;refine gO F46 ?_;refine ai (fun h7=>?_) (fun h7=>?_)
        ·have aJ:u≠w:=by rintro rfl;simp at h7
         refine gO F46 ?_;rw[decide_eq_false (mL hu hw aJ)];simp
        ·have he:u=w:=by simpa using h7
         refine gO F46 ?_;refine J.back (IH (k+1) ⟨by omega,pg hk.2 hu hw he⟩ (by omega)) ?_;exact sZ
       ·have aC:k=c.length:=by simp at h6;omega
        have H7:c=d:=pj hk.2 (by omega) (by omega);refine gO F46 ?_;simp[H7]
   ·refine aY (by simp[jO]) ?_;rw[decide_eq_false jO];refine gO F46 ?_;simp
def D8(a b:ix):Bool:=decide (a.ay=b.ay)&&decide (a.hints=b.hints)&&decide (a.anchor=b.anchor)&&(decide (a.eb.length=b.eb.length)&&a.eb.all fun x=>b.eb.any fun y=>decide (x=y))
theorem ach(a:ix):D8 a a=true:=by
 simp only[D8,decide_true,afC,ad'];intro x hx;exact List.any_eq_true.2 ⟨x,hx,decide_eq_true rfl⟩
structure ix.fO(w:ix):Prop where
 ay:w.ay.length<=1000000
 eb:w.eb.length<=1000000
 hints:w.hints.length<=1000000
 anchor:w.anchor.data.length<=2147483648
 each:∀ p∈w.eb,p.au.fO
theorem aci{α:Type}{P:α->Bool}{l:List α}{k:Nat}{x:α}(h:l[k]?=some x):(l.take (k+1)).any P=((l.take k).any P||P x):=by
 rw[cG h,List.any_append];simp
theorem acj(x y:aK):(decide (x.spot=y.spot)&&decide (x.au=y.au))=decide (x=y):=by
 obtain⟨h1,z1⟩:=x;obtain⟨h2,z2⟩:=y;rw[Bool.eq_iff_iff];simp[aK.spot];rintro rfl _;rfl
theorem ack(v w:ix)(hf:v.fO)(hw:w.eb.length<=1000000):ar E 26 [v.enc,w.enc] (· = .bool (D8 v w)):=by
 have vP:=acg v.eb w.eb v.ay w.ay v.anchor w.anchor v.hints w.hints hf.ay hf.hints hf.anchor;have QA:D8 v w=(decide (v.ay=w.ay)&&decide (v.hints=w.hints)&&decide (v.anchor=w.anchor)&&(decide (v.eb.length=w.eb.length)&&v.eb.all fun x=>w.eb.any fun y=>decide (x=y))):=rfl;rw[QA];generalize (decide (v.ay=w.ay)&&decide (v.hints=w.hints)&&decide (v.anchor=w.anchor))=B at *;obtain⟨f1,f2,f3,f4,f5⟩:=hf;obtain⟨a,A,x,c⟩:=v;obtain⟨a2,C,x2,c2⟩:=w;simp only at f1 f2 f3 f4 f5 hw;show ar E _ [DV.agg [.sl (a.map Host.enc),.sl (A.map aK.enc),.str x.name,.int .i64 x.type,.int .i64 x.bY,.sl (x.data.map Datum.enc),.sl (c.map (.int .i64))],DV.agg [.sl (a2.map Host.enc),.sl (C.map aK.enc),.str x2.name,.int .i64 x2.type,.int .i64 x2.bY,.sl (x2.data.map Datum.enc),.sl (c2.map (.int .i64))]] (· = DV.bool (B&&(decide (A.length=C.length)&&A.all fun x=>C.any fun y=>decide (x=y))));clear QA;refine eP F26 ?_
 with_reducible refine aq (vP) ?_
 refine gO F26 ?_;cases B
 ·repeat' (first|with_reducible(first|refine cY ?_|refine cN ?_|refine ai (fun _=>?_) (fun _=>?_))|refine gA F26 ?_|refine gB ?_|with_reducible rfl)
  rfl
 refine aR ?_;refine gO F26 ?_;refine ai (fun h1=>?_) (fun h1=>?_)
 ·have:A.length≠C.length:=by simp at h1;omega
  repeat' (first|with_reducible(first|refine cY ?_|refine cN ?_|refine ai (fun _=>?_) (fun _=>?_))|refine gA F26 ?_|refine gB ?_|with_reducible rfl)
  simp[this]
 have hlen:A.length=C.length:=by simp at h1;omega
 have e0:(true&&(decide (A.length=C.length)&&A.all fun x=>C.any fun y=>decide (x=y)))=A.all fun x=>C.any fun y=>decide (x=y):=by simp[hlen]
 rw[e0];refine gO F26 ?_;refine J.loop (κ:=Nat) (rg 4 4++rg 21 45) (fun k=>[(5,.d (.int .i64 k)),(4,.d (.bool false))]) (fun _=>[]) (fun k=>k<=A.length/\(A.take k).all (fun x=>C.any fun y=>decide (x=y))=true) (fun k=>A.length-k) 0 ⟨afv _,rfl⟩ ?_ ?_
 ·exact sZ
 rintro i ⟨hi,aL⟩ IH;refine J.head ag F26 2000 ?_;(conv=>whnf);refine ai (fun h5=>?_) (fun h5=>?_)
 ·have ah:i<A.length:=by simpa using h5
  obtain⟨p,hp⟩:=aH ah;have kc:=f5 p (afh hp);refine gO F26 ?_;refine J.loop (κ:=Nat) ([6,7]++rg 28 36) (fun k=>[(7,.d (.int .i64 k)),(6,.d (.bool ((C.take k).any fun y=>decide (p=y))))]) (fun _=>[]) (fun k=>k<=C.length) (fun k=>C.length-k) 0 (afv _) ?_ ?_
  ·(conv=>whnf);repeat (first|exact trivial|(refine sI ?_;conv=>whnf))
   refine And.intro rfl ?_;exact sZ
  intro k hk JH;refine J.head ag F26 2000 ?_;(conv=>whnf);refine ai (fun h6=>?_) (fun h6=>?_)
  ·have acm:k<C.length:=by simpa using h6
   obtain⟨q,hq⟩:=aH acm;have aG:=aci (P:=fun y=>decide (p=y)) hq;have pM:=acj p q;refine gO F26 ?_;generalize ((C.take k).any fun y=>decide (p=y))=F at *;refine dU ?_;cases F
   ·refine aR ?_;refine gD ?_;refine aD (e:=p.enc) (aO hp) rfl ?_;refine gD ?_;refine aD (e:=q.enc) (aO hq) rfl ?_;refine gD ?_;refine ax (N8 p q) ?_;refine gD ?_;refine ai (fun h8=>?_) (fun h8=>?_)
    ·rw[h8,afC]at pM;refine gD ?_;refine aD (e:=p.enc) (aO hp) rfl ?_;refine gD ?_;refine aD (e:=q.enc) (aO hq) rfl ?_;refine gD ?_;refine ax (C5 p.au q.au kc) ?_;refine gD ?_;refine gO F26 ?_;refine J.back (JH (k+1) (by omega) (by omega)) ?_;rw[aG,ah1,<- pM];exact sZ
    ·rw[h8,Bool.false_and]at pM;refine gD ?_;refine gO F26 ?_;refine J.back (JH (k+1) (by omega) (by omega)) ?_;rw[aG,ah1,<- pM];exact sZ
   ·refine a8 ?_;refine gD ?_;refine gO F26 ?_;refine J.back (JH (k+1) (by omega) (by omega)) ?_;rw[aG];(conv=>whnf);repeat (first|exact trivial|(refine sI ?_;conv=>whnf))
    refine And.intro (by simp) ?_;exact sZ
  ·have aC:C.length<=k:=by simpa using h6
   rw[afS aC];refine gO F26 ?_;refine ai (fun h7=>?_) (fun h7=>?_)
   ·refine gO F26 ?_;have:(A.all fun x=>C.any fun y=>decide (x=y))=false:=di hp (by simpa using h7);rw[this]
   ·refine gO F26 ?_;refine J.back (IH (i+1) ⟨by omega,dv aL hp (by simpa using h7)⟩ (by omega)) ?_;exact sZ
 ·have aC:A.length<=i:=by simpa using h5
  rw[afS aC]at aL;refine gO F26 ?_;rw[aL]
theorem acn(x:Signed)(h1:x.set.data.length<=2147483648)(h2:x.sigs.length<=2147483648):ar E 70 [x.enc] (· = x.enc):=by
 obtain⟨⟨nm,ty,lf,dt⟩,sg⟩:=x;simp only at h1 h2;show ar E _ [DV.agg [.str nm,.int .i64 ty,.int .i64 lf,.sl (dt.map Datum.enc),.sl (sg.map c9.enc)]] _;refine eP Tryz.func70 ?_
 with_reducible refine aq (x7 (dt.map Datum.enc) (by simpa using h1) (fun e h=>by obtain⟨c,_,rfl⟩:=aer.1 h;simp[DV.cells])) ?_
 refine gO Tryz.func70 ?_
 with_reducible refine aq (HI (sg.map c9.enc) (by simpa using h2) (fun e h=>by obtain⟨c,_,rfl⟩:=aer.1 h;simp[DV.cells])) ?_
 refine gO Tryz.func70 ?_
 with_reducible rfl
theorem aco(c:aQ)(t:Int):aw E 69 [.cells [.d (.int .i64 t)]] [.d c.enc,.ptr 0 0] (fun a b=>a=.d (.bool (decide (c.bL<=t)&&decide (t<c.upto)))/\b=[.cells [.d (.int .i64 t)],.cells [.d (.int .i64 c.host),.d (.int .i64 c.bL),.d (.int .i64 c.upto),.d (.str c.au.ao),.d (.sl (c.au.ae.map Signed.enc))]]):=by
 show aw E _ _ [.d (DV.agg [.int .i64 c.host,.int .i64 c.bL,.int .i64 c.upto,.str c.au.ao,.sl (c.au.ae.map Signed.enc)]),.ptr 0 0] _;refine aw.run ag (fn:=Tryz.f69) Tryz.func69 (body:=Tryz.f69.body.getD .skip) rfl (by decide) 2000 rfl ?_;(conv=>whnf);refine ai (fun h1=>?_) (fun h1=>?_)
 ·refine gO Tryz.func69 ?_;rw[h1];exact⟨rfl,rfl⟩
 ·refine gO Tryz.func69 ?_;rw[h1];exact⟨rfl,rfl⟩
theorem acp{h:bO}(hv:eJ h=true):h.aB.length<=4000/\(∀ c∈h.aB,c.au.lv)/\h.ay.length<=2147483648/\h.anchor.data.length<=2147483648/\h.hints.length<=2147483648:=by
 obtain⟨q1,q2,q3,q4,q5,⟨q6,q7⟩,⟨g1,g2⟩,q8⟩:=I9.1 hv;simp only[fD,jo,aft,decide_eq_true_eq]at q6 q7;obtain⟨⟨⟨⟨⟨r1,r2⟩,r3⟩,r4⟩,r5⟩,r6⟩:=q7;have:=vt r1;exact⟨q5,fun c hc=>HJ (D3.1 (g1 c hc)).2.2.2.2.2,by omega,by omega,by omega⟩
theorem acq{l:List aQ}{t:Int}{k:Nat}{c:aQ}(h:l[k]?=some c):dq (l.take (k+1)) t=dq (l.take k) t++(if c.bL<=t/\t<c.upto then[⟨c.host,c.au⟩]else[]):=by
 rw[cG h,wq,wu]
def wv(h:bO)(t:Int):DV:=if oP h t=0 then .aF [(yy h t).enc,.int .i64 0]else .aF [.agg [.aI,.aI,.str [],.int .i64 0,.int .i64 0,.aI,.aI],.int .i64 (oP h t)]
theorem acr(h:bO)(t:Int)(hf:h.Fits)(dm:h.aB.length<=1000000):ar E 25 [h.enc,.int .i64 t] (· = wv h t):=by
 have nD:=HQ h hf dm;by_cases h0:oP h t=0
 case neg =>
  have e1:oP h t=1:=by
   unfold oP at h0 ⊢;split at h0
   ·exact absurd rfl h0
   ·rename_i hh;rw[if_neg hh]
  have e2:wv h t=.aF [.agg [.aI,.aI,.str [],.int .i64 0,.int .i64 0,.aI,.aI],.int .i64 1]:=by rw[wv,if_neg h0,e1]
  rw[e2];have h1:¬ (eJ h=true/\0<=t/\t<h.fin):=fun hh=>h0 (D4.2 hh);cases hv:eJ h
  ·rw[hv]at nD;obtain⟨ay,aB,anchor,hints,bJ,fin⟩:=h;show ar E _ [DV.agg [.sl (ay.map Host.enc),.sl (aB.map aQ.enc),.str anchor.name,.int .i64 anchor.type,.int .i64 anchor.bY,.sl (anchor.data.map Datum.enc),.sl (hints.map (.int .i64)),.int .i64 bJ,.int .i64 fin],_] _;refine eP F25 ?_
   with_reducible refine aq (nD) ?_
   refine gO F25 ?_;refine a8 ?_;refine gO F25 ?_;refine a8 ?_;refine gO F25 ?_;refine a8 ?_;refine gO F25 ?_
   with_reducible rfl
  ·rw[hv]at nD;obtain⟨ay,aB,anchor,hints,bJ,fin⟩:=h;show ar E _ [DV.agg [.sl (ay.map Host.enc),.sl (aB.map aQ.enc),.str anchor.name,.int .i64 anchor.type,.int .i64 anchor.bY,.sl (anchor.data.map Datum.enc),.sl (hints.map (.int .i64)),.int .i64 bJ,.int .i64 fin],_] _;refine eP F25 ?_
   with_reducible refine aq (nD) ?_
   refine gO F25 ?_;refine aR ?_;refine gO F25 ?_;refine ai (fun a1=>?_) (fun a1=>?_)
   ·refine gO F25 ?_;refine a8 ?_;refine gO F25 ?_
    with_reducible rfl
   ·refine gO F25 ?_;refine ai (fun a2=>?_) (fun a2=>?_)
    ·refine gO F25 ?_
     with_reducible rfl
    ·exact absurd ⟨hv,by simpa using a1,by simpa using a2⟩ h1
 obtain⟨hv,t1,t2⟩:=D4.1 h0;have e2:wv h t=.aF [(⟨h.ay,dq h.aB t,h.anchor,h.hints⟩:ix).enc,.int .i64 0]:=by rw[wv,if_pos h0,yy,if_pos h0]
 rw[e2];rw[hv]at nD;obtain⟨k1,k2,k3,k4,k5⟩:=acp hv;obtain⟨ay,aB,anchor,hints,bJ,fin⟩:=h;simp only at k1 k2 k3 k4 k5 t2;show ar E _ [DV.agg [.sl (ay.map Host.enc),.sl (aB.map aQ.enc),.str anchor.name,.int .i64 anchor.type,.int .i64 anchor.bY,.sl (anchor.data.map Datum.enc),.sl (hints.map (.int .i64)),.int .i64 bJ,.int .i64 fin],_] (· = DV.aF [DV.agg [.sl (ay.map Host.enc),.sl ((dq aB t).map aK.enc),.str anchor.name,.int .i64 anchor.type,.int .i64 anchor.bY,.sl (anchor.data.map Datum.enc),.sl (hints.map (.int .i64))],.int .i64 0]);refine eP F25 ?_
 with_reducible refine aq (nD) ?_
 refine gO F25 ?_;refine aR ?_;refine gO F25 ?_;refine aU (by simp;omega) ?_;refine gO F25 ?_;refine aU (by simp;omega) ?_;refine gO F25 ?_;refine dU ?_;refine ax (HG (ay.map Host.enc) (by simpa using k3) (fun e h=>by obtain⟨c,_,rfl⟩:=aer.1 h;simp[DV.cells])) ?_;refine gD ?_;refine ax (HH (hints.map (.int .i64)) (by simpa using k5) (fun e h=>by obtain⟨c,_,rfl⟩:=aer.1 h;simp[DV.cells])) ?_;refine gD ?_;refine And.intro (by kernel_rfl) ?_;(conv=>whnf);refine gO F25 ?_
 with_reducible refine aq (x7 (anchor.data.map Datum.enc) (by simpa using k4) (fun e h=>by obtain⟨c,_,rfl⟩:=aer.1 h;simp[DV.cells])) ?_
 (conv=>whnf);repeat ((fail_if_success (refine J.mG (fn:=Tryz.f68) rfl rfl oz (qb (aV rfl) (aV rfl)) Tryz.func68 rfl (by decide) ?_));(refine J.run ag F25 1 ?_);(conv=>whnf))
 refine J.mG (fn:=Tryz.f68) rfl rfl oz (qb (aV rfl) (aV rfl)) Tryz.func68 rfl (by decide) ?_;(conv=>whnf);refine fW ?_
 refine gO Tryz.func68 ?_;refine J.kx ag Tryz.func68 rfl rfl rfl (L:=[]) rfl ?_;(conv=>whnf);refine fW ?_
 refine gO F25 ?_;refine J.o9 3 1 (61,3) (by decide) rfl rfl ?_;(conv=>whnf);refine J.rangeFunc (aV rfl) Tryz.func137 rfl (by decide) rfl (fun ll d tt=>?_);refine fW ?_
 refine gO F137 ?_;refine J.loop (κ:=Nat) ([5]++rg 9 14) (fun k=>[(9,.d (.int .i64 k))]) (fun k=>[(3,.cells [.d (.sl (ay.map Host.enc)),.own 6 1,.d (.str anchor.name),.d (.int .i64 anchor.type),.d (.int .i64 anchor.bY),.d (.sl (anchor.data.map Datum.enc)),.d (.sl (hints.map (.int .i64)))]),(6,.arr 1 (61,3) ((dq (aB.take k) t).map aK.enc))]) (fun k=>k<=aB.length) (fun k=>aB.length-k) 0 (afv _) ?_ ?_
 ·(conv=>whnf);repeat (first|exact trivial|(refine sI ?_;conv=>whnf))
  refine And.intro rfl ?_;exact sZ
 intro k hk IH;refine J.head ag F137 2000 ?_;(conv=>whnf);refine ai (fun h5=>?_) (fun h5=>?_)
 ·have ah:k<aB.length:=by simpa using h5
  obtain⟨c,hc⟩:=aH ah;have aG:=acq (t:=t) hc;have hsl:=I' (cs:=aB.take k) (t:=t);have adO:(aB.take k).length<=aB.length:=by simp;omega
  refine gO F137 ?_;refine aD (e:=c.enc) (aO hc) rfl ?_;refine gO F137 ?_
  with_reducible refine aS (aco c t) ?_
  refine gO F137 ?_;by_cases hm:c.bL<=t/\t<c.upto
  case neg =>
   rw[if_neg hm,List.append_nil]at aG;refine aU (by simp;omega) ?_;refine gO F137 ?_;refine aR ?_;refine gO F137 ?_;refine J.back (IH (k+1) (by omega) (by omega)) ?_;rw[aG];exact sZ
  rw[if_pos hm]at aG;obtain⟨sh1,sh2⟩:=k2 c (afh hc);refine aY (by simp[hm]) ?_;refine gO F137 ?_;refine J.IC 0 rfl (ID rfl rfl rfl rfl) rfl (aV rfl) (lT (aV rfl)) rfl ?_;(conv=>whnf);refine fW ?_
  refine gO F25 ?_;refine J.begin 0 rfl rfl rfl ?_;(conv=>whnf);refine fW ?_
  refine gO F25 ?_;refine J.o9 10 1 (102,5) (by decide) rfl rfl ?_;(conv=>whnf);refine gO F25 ?_;refine J.loop (κ:=Nat) ([10]++rg 52 12) (fun j=>[(52,.d (.int .i64 j))]) (fun j=>[(10,.cells [.d (.str c.au.ao),.own 11 1]),(11,.arr 1 (102,5) ((c.au.ae.take j).map Signed.enc))]) (fun j=>j<=c.au.ae.length) (fun j=>c.au.ae.length-j) 0 (afv _) ?_ ?_
  ·(conv=>whnf);repeat (first|exact trivial|(refine sI ?_;conv=>whnf))
   refine And.intro rfl ?_;exact sZ
  intro j hj JH;refine J.head ag F25 2000 ?_;(conv=>whnf);refine ai (fun h6=>?_) (fun h6=>?_)
  ·have H3:j<c.au.ae.length:=by simpa using h6
   obtain⟨x,hx⟩:=aH H3;obtain⟨q1,q2⟩:=sh2 x (afh hx);refine gO F25 ?_;have oU:(c.au.ae.take j).length=j:=by simp;omega
   refine aD (e:=x.enc) (aO hx) rfl ?_;refine gO F25 ?_;refine dU ?_;refine ax (acn x q1 q2) ?_;refine gD ?_;refine aW ⟨by simp only[aff,aef,ae7];omega,by simp[DV.cells]⟩ ?_;refine gD ?_;refine And.intro (by kernel_rfl) ?_;(conv=>whnf);refine gO F25 ?_;refine J.back (JH (j+1) (by omega) (by omega)) ?_;rw[cG hx];(conv=>whnf);repeat (first|exact trivial|(refine sI ?_;conv=>whnf))
   refine And.intro (by simp) ?_;exact sZ
  ·have aC:c.au.ae.length<=j:=by simpa using h6
   rw[afS aC];clear JH;(conv=>whnf);refine J.freeze 11 ?_;(conv=>whnf);refine gO F25 ?_;refine aW ⟨by simp only[aff,aef,ae7];omega,by simp[DV.cells]⟩ ?_;refine gO F25 ?_;refine J.pb 0 rfl rfl rfl ?_;(conv=>whnf);refine gO F137 ?_;refine a8 ?_;refine gO F137 ?_;refine aR ?_;refine gO F137 ?_;refine J.back (IH (k+1) (by omega) (by omega)) ?_;rw[aG];(conv=>whnf);repeat (first|exact trivial|(refine sI ?_;conv=>whnf))
   refine And.intro (by simp) ?_;exact sZ
 ·have aC:aB.length<=k:=by simpa using h5
  rw[afS aC];refine gO F137 ?_;refine J.ky ag F137 rfl rfl rfl rfl (fun e=>nomatch e) ?_;(conv=>whnf);refine gO F25 ?_;refine J.lW ag F25 rfl rfl rfl rfl rfl ?_;conv=>whnf
theorem QB(h:bO)(t:Int)(hf:h.Fits)(dm:h.aB.length<=1000000):ar E 25 [h.enc,.int .i64 t] (· = .aF [(yy h t).enc,.int .i64 (oP h t)]):=by
 have H:=acr h t hf dm;by_cases h0:oP h t=0
 ·refine H.mono fun r e=>?_;rw[e,wv,if_pos h0,h0]
 ·refine ar.norm (H.mono fun r e=>?_);rw[e,wv,if_neg h0,yy,if_neg h0];rfl
end Go.Proofs.YtfmdaiojokniiaaGreatDoor.P
end
