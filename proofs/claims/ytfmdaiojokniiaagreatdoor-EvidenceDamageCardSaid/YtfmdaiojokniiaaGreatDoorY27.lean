/- Several texts of mine, one behind the other. Conditions: as each says. -/
import Derived.Test.YtfmdaiojokniiaaGreatDoorY26
set_option linter.unusedVariables false
set_option linter.unusedSimpArgs false
section
namespace Go.Proofs.YtfmdaiojokniiaaGreatDoor.P
open Go Go.ax
set_option maxRecDepth 100000
set_option maxHeartbeats 4000000
theorem Sa (p:bz):aq E 167 [p.enc] (· = .bool p.az.ab.isEmpty):=by
 refine eP Tryz.func167 ?_
 congr 1
 rw [Bool.eq_iff_iff];simp [List.isEmpty_iff]
theorem Sb (a b:bz):aq E 71 [a.enc,b.enc] (· = .bool (decide (a.spot=b.spot))):=by
 refine eP Tryz.func71 ?_;repeat' (first | with_reducible refine cY ?_ | with_reducible refine cN ?_ | with_reducible refine ah (fun _=>?_) (fun _=>?_) | refine gA Tryz.func71 ?_ | refine gB ?_ | with_reducible rfl)
 all_goals
  congr 1
  simp_all [bz.spot];try (rw [Bool.eq_iff_iff]; simp)
theorem JR (s:jv) (n:Nat) (hf:s.Fits):aq E 130 [.int .i64 n,s.enc] (· = .bool (gV n s)):=by
 obtain ⟨l⟩:=s;obtain ⟨hz,hl⟩:=hf;simp only at hz hl;show aq E _ [.int .i64 n,DV.agg [.sl (l.map bz.enc)]] _;refine eP Tryz.func130 ?_;refine I.loop (κ:=Nat) (rg 4 65) (fun k=>[(5,.d (.int .i64 k)),(4,.d (.bool false))]) (fun _=>[]) (fun k=>k≤l.length∧(l.take k).all (gU n)=true∧((l.take k).map bz.spot).Nodup) (fun k=>l.length - k) 0 ⟨Nat.zero_le _,rfl,by simp⟩ ?_ ?_
 ·exact sZ
 rintro i ⟨hi,aH,dg⟩ IH;refine I.head af Tryz.func130 2000 ?_;(conv=>whnf);refine ah (fun h5=>?_) (fun h5=>?_)
 ·have ai:i<l.length:=by simpa using h5
  obtain ⟨x,hx⟩:=aD ai;have eE:=hz x (List.mem_of_getElem? hx);have xB:=Sa x;have bD:=dR x.az.aj eE.aj;have JS:=gM x.az.aj eE.aj;have JT:=Dr x.az eE;have Sc:Nm.valid x.az.aj=true→kz x.az.aj=Nm.fX x.az.aj:=Dz;have Sd:dI x.az=true→x.az.ab.isEmpty=false:=fun h=>by
   have:=Rn h;cases hs:x.az.ab with
   |nil=>exact absurd hs this
   |cons a b=>rfl
  have iD:gU n x=(decide (0≤x.host)&&decide (x.host<n)&&(if x.az.ab.isEmpty then Nm.valid x.az.aj && !Nm.fX x.az.aj else dI x.az)):=by
   unfold gU jz;cases he:x.az.ab.isEmpty
   ·simp
   ·cases Ak:dI x.az
    ·cases hv:Nm.valid x.az.aj
     ·simp
     ·simp [Sc hv]
    ·rw [Sd Ak] at he; cases he
  refine gO Tryz.func130 ?_;refine aB (e:=x.enc) (aN hx) rfl ?_;refine gO Tryz.func130 ?_;refine ah (fun h6=>?_) (fun h6=>?_)
  ·repeat' (first | with_reducible refine cY ?_ | with_reducible refine cN ?_ | with_reducible refine ah (fun _=>?_) (fun _=>?_) | refine gA Tryz.func130 ?_ | refine gB ?_ | with_reducible rfl)
   rw [uL (cX hx (by rw [iD]; simp; simp at h6; omega))]
  refine gO Tryz.func130 ?_;refine ah (fun h7=>?_) (fun h7=>?_)
  ·repeat' (first | with_reducible refine cY ?_ | with_reducible refine cN ?_ | with_reducible refine ah (fun _=>?_) (fun _=>?_) | refine gA Tryz.func130 ?_ | refine gB ?_ | with_reducible rfl)
   rw [uL (cX hx (by rw [iD]; simp; simp at h7; omega))]
  have Se:(decide (0≤x.host)&&decide (x.host<n))=true:=by simp at h6 h7 ⊢; omega
  rw [Se,Bool.true_and] at iD;refine gO Tryz.func130 ?_;repeat' (first | with_reducible refine ao (xB) ?_ | with_reducible refine au (xB) ?_ | with_reducible refine ao (bD) ?_ | with_reducible refine au (bD) ?_ | with_reducible refine ao (JS) ?_ | with_reducible refine au (JS) ?_ | with_reducible refine ao (JT) ?_ | with_reducible refine au (JT) ?_ | with_reducible refine cY ?_ | with_reducible refine cN ?_ | with_reducible refine ah (fun _=>?_) (fun _=>?_) | refine gA Tryz.func130 ?_ | refine gB ?_ | with_reducible rfl)
  all_goals try (rw [uL (cX hx (by rw [iD]; simp_all))]; done)
  all_goals
   have aM:gU n x=true:=by rw [iD]; simp_all
   refine gO Tryz.func130 ?_;refine I.loop (κ:=Nat) ([4,7]++rg 57 12) (fun k=>[(7,.d (.int .i64 k)),(4,.d (.bool false))]) (fun _=>[]) (fun k=>k≤i∧∀ m y,m<k→l[m]? = some y→y.spot≠x.spot) (fun k=>i - k) 0 ⟨Nat.zero_le _,fun m y h=>by omega⟩ ?_ ?_
   ·exact sZ
   rintro k ⟨hk,aJ⟩ mQ;refine I.head af Tryz.func130 2000 ?_;(conv=>whnf);refine ah (fun h9=>?_) (fun h9=>?_)
   ·have jV:k<i:=by simpa using h9
    obtain ⟨y,hy⟩:=aD (l:=l) (k:=k) (by omega);refine gO Tryz.func130 ?_;refine I.bH af bI 2000 (by kernel_rfl) ?_;(conv=>whnf);refine aB (e:=y.enc) (aN hy) rfl ?_;refine gD ?_;refine au (Sb y x) ?_;refine gD ?_;refine gO Tryz.func130 ?_;refine ah (fun sy=>?_) (fun sy=>?_)
    ·refine gO Tryz.func130 ?_;have hm:x.spot∈(l.take i).map bz.spot:=List.mem_map.2 ⟨y,List.mem_of_getElem? (i:=k) (by rw [List.getElem?_take,if_pos jV]; exact hy),by simpa using sy⟩;have:=D3 hx hm;simp [gV,this]
    ·refine gO Tryz.func130 ?_;refine I.back (mQ (k+1) ⟨by omega,fun m z hm hX=>?_⟩ (by omega)) ?_
     ·by_cases kC:m=k
      ·subst kC; rw [hy] at hX; cases hX; simpa using sy
      ·exact aJ m z (by omega) hX
     ·exact sZ
   ·have uH:i≤k:=by simpa using h9
    refine gO Tryz.func130 ?_;refine I.back (IH (i+1) ⟨by omega,dh aH hx aM,D4 hx dg (fun hm=>?_)⟩ (by omega)) ?_
    ·obtain ⟨y,hy,e⟩:=List.mem_map.1 hm;obtain ⟨m,hm⟩:=List.getElem?_of_mem hy;rw [List.getElem?_take] at hm;split at hm
     ·exact aJ m y (by omega) hm e
     ·cases hm
    ·exact sZ
 ·have aC:l.length≤i:=by simpa using h5
  rw [List.take_of_length_le aC] at aH dg;refine gO Tryz.func130 ?_;simp [gV,aH,dg];try omega
theorem Sf (h:ca) (l:List Step) (hf:Steps.Fits l):aq E 129 [h.enc,.sl (l.map Step.enc)] (· = .bool (nY h l)):=by
 obtain ⟨aA,aI,anchor,hints,bT,fin⟩:=h;obtain ⟨hz,hl⟩:=hf;show aq E _ [DV.agg [.sl (aA.map Host.enc),.sl (aI.map a7.enc),.str anchor.name,.int .i64 anchor.type,.int .i64 anchor.cD,.sl (anchor.data.map Datum.enc),.sl (hints.map (.int .i64)),.int .i64 bT,.int .i64 fin],_] _;have bD:nY ⟨aA,aI,anchor,hints,bT,fin⟩ l=(decide (l.length≤400)&&chain (dn aA.length fin) fg none l):=rfl;rw [bD];refine eP Tryz.func129 ?_;refine I.loop (κ:=Nat) (rg 4 54) (fun k=>[(5,.d (.int .i64 k)),(4,.d (.bool false))]) (fun _=>[]) (fun k=>k≤l.length∧chain (dn aA.length fin) fg none l=chain (dn aA.length fin) fg (bK l k) (l.drop k)) (fun k=>l.length - k) 0 ⟨Nat.zero_le _,rfl⟩ ?_ ?_
 ·exact sZ
 rintro i ⟨hi,gW⟩ IH;refine I.head af Tryz.func129 2000 ?_;(conv=>whnf);refine ah (fun h5=>?_) (fun h5=>?_)
 ·have ai:i<l.length:=by simpa using h5
  obtain ⟨x,hx⟩:=aD ai;have eE:=hz x (List.mem_of_getElem? hx);have aE:=ur (ok:=dn aA.length fin) (rel:=fg) hx;have aX:=JR x.cR (aA.map Host.enc).length eE;rw [show gV (aA.map Host.enc).length x.cR=gV aA.length x.cR by rw [List.length_map]] at aX;have hC:=gW.trans aE;have Al:∀ b,chain (dn aA.length fin) fg none l=(b&&chain (dn aA.length fin) fg (bK l (i+1)) (l.drop (i+1)))→b=false→DV.bool false=DV.bool (decide (l.length≤400)&&chain (dn aA.length fin) fg none l):=fun b h1 h2=>by rw [h1,h2]; simp
  rcases Nat.eq_zero_or_pos i with h0 | h0
  ·subst h0;have qy:chain (dn aA.length fin) fg none l=(dn aA.length fin x&&chain (dn aA.length fin) fg (bK l (0+1)) (l.drop (0+1))):=by rw [hC]; simp [bK]
   refine gO Tryz.func129 ?_;refine I.bH af bI 2000 (by kernel_rfl) ?_;(conv=>whnf);repeat' (first | with_reducible refine aB (aN hx) rfl ?_ | with_reducible refine ao (aX) ?_ | with_reducible refine au (aX) ?_ | with_reducible refine cY ?_ | with_reducible refine cN ?_ | with_reducible refine ah (fun _=>?_) (fun _=>?_) | refine gA Tryz.func129 ?_ | refine gB ?_ | with_reducible rfl)
   all_goals try (exact Al _ qy (by (simp_all [dn] <;> omega)))
   have aM:dn aA.length fin x=true:=by (simp_all [dn] <;> omega)
   refine gO Tryz.func129 ?_;refine I.back (IH (0+1) ⟨by omega,by rw [qy,aM]; rfl⟩ (by omega)) ?_;exact sZ
  ·obtain ⟨q,hq,dA⟩:=qh h0 hi;have qy:chain (dn aA.length fin) fg none l=((dn aA.length fin x&&fg q x)&&chain (dn aA.length fin) fg (bK l (i+1)) (l.drop (i+1))):=by rw [hC,dA]
   have hg:decide ((i:Int)>0)=true:=by simp; omega
   refine gO Tryz.func129 ?_;refine I.bH af bI 2000 (by kernel_rfl) ?_;(conv=>whnf);repeat' (first | with_reducible refine aB (aN hx) rfl ?_ | with_reducible refine aB (l9 hq (by omega) (by omega)) rfl ?_ | with_reducible refine ao (aX) ?_ | with_reducible refine au (aX) ?_ | with_reducible refine cY ?_ | with_reducible refine cN ?_ | with_reducible refine ah (fun _=>?_) (fun _=>?_) | refine gA Tryz.func129 ?_ | refine gB ?_ | with_reducible rfl)
   all_goals try (exact Al _ qy (by (simp_all [dn,fg] <;> omega)))
   have aM:(dn aA.length fin x&&fg q x)=true:=by (simp_all [dn,fg] <;> omega)
   refine gO Tryz.func129 ?_;refine I.back (IH (i+1) ⟨by omega,by rw [qy,aM]; rfl⟩ (by omega)) ?_;exact sZ
 ·have aC:l.length≤i:=by simpa using h5
  rw [List.drop_eq_nil_of_le aC] at gW;refine gO Tryz.func129 ?_;rw [gW];simp [chain];try omega
theorem Sg (h:ca) (l:List Step) (hf:h.Fits) (cZ:h.aI.length≤1000000) (fp:h.hints.length≤1000000) (hg:Steps.Fits l):aq E 53 [h.enc,.sl (l.map Step.enc)] (· = .bool (kH h l)):=by
 have h1:=R0 h hf cZ fp;have h2:=Sf h l hg;refine eP Tryz.func53 ?_;repeat' (first | with_reducible refine ao (h1) ?_ | with_reducible refine au (h1) ?_ | with_reducible refine ao (h2) ?_ | with_reducible refine au (h2) ?_ | with_reducible refine cY ?_ | with_reducible refine cN ?_ | with_reducible refine ah (fun _=>?_) (fun _=>?_) | refine gA Tryz.func53 ?_ | refine gB ?_ | with_reducible rfl)
 all_goals simp_all [kH]
end Go.Proofs.YtfmdaiojokniiaaGreatDoor.P
end
section
namespace Go.Proofs.YtfmdaiojokniiaaGreatDoor.P
open Go Go.ax
set_option maxRecDepth 100000
set_option maxHeartbeats 4000000
def mX (ended:List cS) (at_:Int) (c:a7):List a7:=if c.spot∈ended then (if c.cj≥at_ then [] else [{ c with upto:=min c.upto at_ }]) else [c]
def lu (ended:List cS) (at_:Int) (l:List a7):List a7:=l.flatMap (mX ended at_)
theorem Sh {ended:List cS} {at_:Int} {l:List a7} {k:Nat} {c:a7} (h:l[k]? = some c):lu ended at_ (l.take (k+1))=lu ended at_ (l.take k)++mX ended at_ c:=by
 rw [cQ h,lu,List.flatMap_append];simp [lu]
theorem Am {ended:List cS} {at_:Int}:∀ (l:List a7),(lu ended at_ l).length≤l.length
 | []=>by simp [lu]
 |c::l=>by
  have:=Am (ended:=ended) (at_:=at_) l;unfold lu at this ⊢;rw [List.flatMap_cons,List.length_append,List.length_cons];have h1:(mX ended at_ c).length≤1:=by unfold mX; split <;> (try split) <;> simp
  omega
theorem JU {G:List (Nat × DV)} {s:List AV} {x:Operand} {v:AV} (h:aZ G s x v):hY G s [x] [v]:=fun c a h3 h4=>VL.cons (h c a h3 h4) .nil
theorem Si (s:jv) (hf:s.Fits):aw E 57 [] [.d s.enc] (fun a b=>a = .map 1∧b=[.cells [.d (.sl (s.di.map bz.enc))],.map (dJ cS.en (s.di.map bz.spot))]):=by
 obtain ⟨l⟩:=s;obtain ⟨hz,hl⟩:=hf;simp only at hz hl;show aw E _ [] [.d (DV.agg [.sl (l.map bz.enc)])] _;refine aw.run af (fn:=Tryz.f57) Tryz.func57 (body:=Tryz.f57.body.getD .skip) rfl (by decide) 2000 rfl ?_;(conv=>whnf);refine gO Tryz.func57 ?_;refine gO Tryz.func57 ?_;refine I.loop (κ:=Nat) ([5]++rg 10 12) (fun k=>[(10,.d (.int .i64 k)),(3,.map 1)]) (fun k=>[(1,.map (dJ cS.en ((l.take k).map bz.spot)))]) (fun k=>k≤l.length) (fun k=>l.length - k) 0 (Nat.zero_le _) ?_ ?_
 ·(conv=>whnf);repeat (first | exact trivial | (refine sI ?_; conv=>whnf))
  refine And.intro rfl ?_;exact sZ
 rintro i hi IH;refine I.head af Tryz.func57 2000 ?_;(conv=>whnf);refine ah (fun h5=>?_) (fun h5=>?_)
 ·have ai:i<l.length:=by simpa using h5
  obtain ⟨x,hx⟩:=aD ai;have fe:=(mU nX ((l.take i).map bz.spot)).1;refine gO Tryz.func57 ?_;refine aB (e:=x.enc) (aN hx) rfl ?_;refine gO Tryz.func57 ?_;refine bc ⟨⟨_,rfl,rfl,⟨_,rfl,_,rfl⟩,rfl,⟨_,rfl,_,rfl⟩,trivial⟩,uG fe⟩ ?_;refine gO Tryz.func57 ?_;refine I.back (IH (i+1) (by omega) (by omega)) ?_;rw [Ag hx,ss];(conv=>whnf);repeat (first | exact trivial | (refine sI ?_; conv=>whnf))
  refine And.intro rfl ?_;exact sZ
 ·have aC:l.length≤i:=by simpa using h5
  rw [List.take_of_length_le aC];refine gO Tryz.func57 ?_;exact ⟨rfl,rfl⟩
theorem Sj (l:List DV) (es:List (DV × DV)) (at_:Int):aw E 56 [.map es] [.d (.sl l),.map 0,.d (.int .i64 at_)] (fun a b=>a = .fn (.func 132) [] [.ptr 1 0,.ptr 2 0,.ptr 3 0]∧b=[.map es,.cells [.d (.sl l)],.cells [.map 0],.cells [.d (.int .i64 at_)]]):=by
 refine aw.run af (fn:=Tryz.f56) Tryz.func56 (body:=Tryz.f56.body.getD .skip) rfl (by decide) 2000 rfl ?_;(conv=>whnf);exact ⟨rfl,rfl⟩
theorem Sk (l:List a7) (ended:List cS) (at_:Int) (hl:l.length≤1000000) :
  aw E 131 [.cells [.d (.sl (l.map a7.enc))],.cells [.map 3],.cells [.d (.int .i64 at_)],.map (dJ cS.en ended)] [.d .aL,.fn (.func 132) [] [.ptr 0 0,.ptr 1 0,.ptr 2 0]]
   (fun a b=>a = .own 5 1∧b=[.cells [.d (.sl (l.map a7.enc))],.cells [.map 3],.cells [.d (.int .i64 at_)],.map (dJ cS.en ended),.cells [.own 5 1],.arr 1 (68,5) ((lu ended at_ l).map a7.enc)]):=by
 refine aw.run af (fn:=Tryz.f131) Tryz.func131 (body:=Tryz.f131.body.getD .skip) rfl (by decide) 2000 rfl ?_;(conv=>whnf);refine I.qa 4 0 (68,5) (by decide) rfl rfl ?_;(conv=>whnf);refine I.rangeFunc (bg rfl) Tryz.func132 rfl (by decide) rfl (fun ll d t=>?_);refine gO Tryz.func132 ?_;refine I.loop (κ:=Nat) ([6]++rg 9 26) (fun k=>[(9,.d (.int .i64 k))]) (fun k=>[(4,.cells [.own 5 1]),(5,.arr 1 (68,5) ((lu ended at_ (l.take k)).map a7.enc))]) (fun k=>k≤l.length) (fun k=>l.length - k) 0 (Nat.zero_le _) ?_ ?_
 ·(conv=>whnf);repeat (first | exact trivial | (refine sI ?_; conv=>whnf))
  refine And.intro rfl ?_;exact sZ
 intro k hk IH;refine I.head af Tryz.func132 2000 ?_;(conv=>whnf);refine ah (fun h5=>?_) (fun h5=>?_)
 ·have ai:k<l.length:=by simpa using h5
  obtain ⟨c,hc⟩:=aD ai;have aE:=Sh (ended:=ended) (at_:=at_) hc;have hlen:=Am (ended:=ended) (at_:=at_) (l.take k);have Bw:(l.take k).length≤l.length:=by simp; omega
  obtain ⟨fH,iZ⟩:=uE nX ended c.spot;have fe:=(mU nX ended).1;refine gO Tryz.func132 ?_;refine aB (e:=c.enc) (aN hc) rfl ?_;refine gO Tryz.func132 ?_;refine ny (.bool false) (.bool false) ⟨_,rfl,rfl,⟨_,rfl,_,rfl⟩,rfl,⟨_,rfl,_,rfl⟩,trivial⟩ (uG fe) (fun w=>by kernel_rfl) (fun _ _ => .bool _) fH iZ ?_;refine gO Tryz.func132 ?_;by_cases hm:c.spot∈ended
  ·refine aV (by simp [hm]) ?_;refine gO Tryz.func132 ?_;refine ah (fun h6=>?_) (fun h6=>?_)
   ·have e1:mX ended at_ c=[]:=by simp [mX,hm,of_decide_eq_true h6]
    refine gO Tryz.func132 ?_;refine I.back (IH (k+1) (by omega) (by omega)) ?_;rw [aE,e1,List.append_nil];exact sZ
   ·have e1:mX ended at_ c=[{ c with upto:=min c.upto at_ }]:=by simp [mX,hm,of_decide_eq_false h6]
    refine gO Tryz.func132 ?_;refine I.OP rfl rfl (bg rfl) (bg rfl) ?_;(conv=>whnf);refine gO Tryz.func132 ?_;refine I.yield 0 rfl rfl rfl (bg rfl) (JU (bg rfl)) rfl ?_;(conv=>whnf);refine gO Tryz.func131 ?_;refine I.begin 0 rfl rfl rfl ?_;(conv=>whnf);refine gO Tryz.func131 ?_;refine bc ⟨by simp; omega,by simp [DV.cells]⟩ ?_;refine gO Tryz.func131 ?_;refine I.nN 0 rfl rfl rfl ?_;(conv=>whnf);refine gO Tryz.func132 ?_;refine aW (by decide) ?_;refine gO Tryz.func132 ?_;refine I.back (IH (k+1) (by omega) (by omega)) ?_;rw [aE,e1];(conv=>whnf);repeat (first | exact trivial | (refine sI ?_; conv=>whnf))
    refine And.intro (by simp) ?_;exact sZ
  ·refine aW (by simp [hm]) ?_;have e1:mX ended at_ c=[c]:=by simp [mX,hm]
   refine gO Tryz.func132 ?_;refine I.yield 0 rfl rfl rfl (bg rfl) (JU (bg rfl)) rfl ?_;(conv=>whnf);refine gO Tryz.func131 ?_;refine I.begin 0 rfl rfl rfl ?_;(conv=>whnf);refine gO Tryz.func131 ?_;refine bc ⟨by simp; omega,by simp [DV.cells]⟩ ?_;refine gO Tryz.func131 ?_;refine I.nN 0 rfl rfl rfl ?_;(conv=>whnf);refine gO Tryz.func132 ?_;refine aW (by decide) ?_;refine gO Tryz.func132 ?_;refine I.back (IH (k+1) (by omega) (by omega)) ?_;rw [aE,e1];(conv=>whnf);repeat (first | exact trivial | (refine sI ?_; conv=>whnf))
   refine And.intro (by simp) ?_;exact sZ
 ·have aC:l.length≤k:=by simpa using h5
  rw [List.take_of_length_le aC];refine gO Tryz.func132 ?_;refine I.jr af Tryz.func132 rfl rfl rfl rfl (fun e=>nomatch e) ?_;(conv=>whnf);refine gO Tryz.func131 ?_;refine I.kx af Tryz.func131 rfl rfl rfl rfl rfl ?_;(conv=>whnf);exact ⟨rfl,rfl⟩
theorem Sl (l:List a7) (ended:List cS) (at_:Int) (hl:l.length≤1000000) :
  aw E 55 [.cells [.d (.sl (l.map a7.enc))],.cells [.map 3],.cells [.d (.int .i64 at_)],.map (dJ cS.en ended)] [.fn (.func 132) [] [.ptr 0 0,.ptr 1 0,.ptr 2 0]]
   (fun a b=>a = .own 5 1∧b=[.cells [.d (.sl (l.map a7.enc))],.cells [.map 3],.cells [.d (.int .i64 at_)],.map (dJ cS.en ended),.cells [.own 5 1],.arr 1 (68,5) ((lu ended at_ l).map a7.enc)]):=by
 refine aw.run af (fn:=Tryz.f55) Tryz.func55 (body:=Tryz.f55.body.getD .skip) rfl (by decide) 2000 rfl ?_;conv=>whnf
 with_reducible refine bF (Sk l ended at_ hl) ?_
 refine gO Tryz.func55 ?_;exact ⟨rfl,rfl⟩
end Go.Proofs.YtfmdaiojokniiaaGreatDoor.P
end
