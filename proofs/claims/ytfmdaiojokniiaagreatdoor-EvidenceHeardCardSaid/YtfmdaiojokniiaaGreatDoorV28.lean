/- Several texts of mine, one behind the other. Conditions: as each says. -/
import Derived.Test.YtfmdaiojokniiaaGreatDoorV26
set_option linter.unusedVariables false
set_option linter.unusedSimpArgs false
section
namespace Go.Proofs.YtfmdaiojokniiaaGreatDoor.P
open Go Go.aw
set_option maxRecDepth 100000
set_option maxHeartbeats 4000000
theorem SM (t:Text):mF t=((t==[42])||preB t [42,46]):=by
 unfold mF Nm.labels preB;by_cases hr:t=[46]
 ·subst hr; rfl
 rw [if_neg hr];cases t with
 |nil=>rfl
 |cons c r =>
  by_cases hc:c=46
  ·subst hc;simp [Nm.split];show ((42:UInt8)==46&&_)=false;rfl
  ·cases r with
   |nil=>simp [Nm.split,hc]
   |cons d r' =>
    by_cases hd:d=46
    ·subst hd;simp [Nm.split,hc];rw [Bool.eq_iff_iff];simp;exact eq_comm
    ·obtain ⟨x,u,h1,h2⟩:=Nm.om d r' hd;have h3:Nm.split (c::d::r')=(c::d::x)::u:=by
      rw [Nm.split,if_neg hc,h2]
     rw [h3];have:(d==46)=false:=by simpa using hd
     have SN:((46:UInt8)==d)=false:=by simpa using fun e=>hd e.symm
     simp;show ((42:UInt8)==c&&((46:UInt8)==d&&_))=false;rw [SN];simp
def ke (z:aG):Bool:=z.ab.isEmpty && !mF z.ah&&Nm.valid z.ah
def oC (aA:Nat) (p:bo):Bool:=decide (0≤p.host)&&decide (p.host<aA)&&(ke p.az||dE p.az)
def mN (aA:Nat) (s:oA):Bool:=decide (s.du.length≤500)&&s.du.all (oC aA)&&decide ((s.du.map bo.spot).Nodup)
def jH (aA:Nat) (fin:Int) (s:Step):Bool:=decide (0≤s.time)&&decide (s.time<fin)&&mN aA s.dV
def oD (a b:Step):Bool:=decide (a.time<b.time)
def qZ (h:bJ) (l:List Step):Bool:=decide (l.length≤400)&&chain (jH h.aA.length h.fin) oD none l
def nC (h:bJ) (l:List Step):Bool:=dg h&&qZ h l
structure oA.Fits (s:oA):Prop where
 da:∀ p∈s.du,p.az.Fits
 Kj:s.du.length≤1000000
theorem ED (z:aG) (hf:z.Fits):aq E 58 [z.enc] (· = .bool (ke z)):=by
 have e:ke z=(z.ab.isEmpty && !((z.ah==[42])||preB z.ah [42,46])&&Nm.valid z.ah):=by rw [ke,SM]
 have e2:z.ab.isEmpty=(((z.ab.map Signed.enc).length:Int)==0):=by
  rw [Bool.eq_iff_iff];simp [List.isEmpty_iff]
 refine eP Tryz.func58 ?_;repeat' (first | with_reducible refine ao (z7 z.ah [42,46]) ?_ | with_reducible refine ay (z7 z.ah [42,46]) ?_ | with_reducible refine ao (gm z.ah hf.ah) ?_ | with_reducible refine ay (gm z.ah hf.ah) ?_ | with_reducible refine cY ?_ | with_reducible refine cN ?_ | with_reducible refine ai (fun _=>?_) (fun _=>?_) | refine gA Tryz.func58 ?_ | refine gB ?_ | with_reducible rfl)
 all_goals
  rw [e,e2];clear e e2
  congr 1
  simp_all
theorem EE {l:List bo} {n:Nat} (h:l.all (oC n)=false):mN n ⟨l⟩=false:=by simp [mN,h]
theorem SO (s:oA) (n:Nat) (hf:s.Fits):aq E 187 [s.enc,.int .i64 n] (· = .bool (mN n s)):=by
 obtain ⟨l⟩:=s;obtain ⟨hz,hl⟩:=hf;simp only at hz hl;show aq E _ [DV.agg [.sl (l.map bo.enc)],.int .i64 n] _;refine eP Tryz.func187 ?_;refine ai (fun h1=>?_) (fun h1=>?_)
 ·refine gO Tryz.func187 ?_;have:mN n ⟨l⟩=false:=by simp [mN]; simp at h1; omega
  rw [this]
 have hlen:l.length≤500:=by simp at h1; omega
 refine gO Tryz.func187 ?_;refine gO Tryz.func187 ?_;refine I.loop (κ:=Nat) ([4,7,8]++rg 17 39) (fun k=>[(17,.d (.int .i64 k)),(4,.d (.bool false)),(5,.map 1)]) (fun k=>[(1,.map (dO cP.en ((l.take k).map bo.spot)))]) (fun k=>k≤l.length∧(l.take k).all (oC n)=true∧((l.take k).map bo.spot).Nodup) (fun k=>l.length - k) 0 ⟨Nat.zero_le _,rfl,by simp⟩ ?_ ?_
 ·(conv=>whnf);repeat (first | exact trivial | (refine sI ?_; conv=>whnf))
  refine And.intro rfl ?_;exact sZ
 rintro i ⟨hi,aW,ew⟩ IH;refine I.head af Tryz.func187 2000 ?_;(conv=>whnf);refine ai (fun h5=>?_) (fun h5=>?_)
 ·have aj:i<l.length:=by simpa using h5
  obtain ⟨x,hx⟩:=aL aj;have fH:=hz x (List.mem_of_getElem? hx);have fq:=(ny oB ((l.take i).map bo.spot)).1;obtain ⟨fN,jg⟩:=ve oB ((l.take i).map bo.spot) x.spot;have tE:cP.en x.spot = .agg [.int .i64 x.host,.str x.az.ah]:=rfl;refine gO Tryz.func187 ?_;refine aE (e:=x.enc) (aX hx) rfl ?_;refine gO Tryz.func187 ?_;refine ai (fun h6=>?_) (fun h6=>?_)
  ·repeat' (first | with_reducible refine cY ?_ | with_reducible refine cN ?_ | with_reducible refine ai (fun _=>?_) (fun _=>?_) | refine gA Tryz.func187 ?_ | refine gB ?_ | with_reducible rfl)
   rw [EE (eX hx (by simp [oC]; simp at h6; omega))]
  refine gO Tryz.func187 ?_;refine ai (fun h7=>?_) (fun h7=>?_)
  ·repeat' (first | with_reducible refine cY ?_ | with_reducible refine cN ?_ | with_reducible refine ai (fun _=>?_) (fun _=>?_) | refine gA Tryz.func187 ?_ | refine gB ?_ | with_reducible rfl)
   rw [EE (eX hx (by simp [oC]; simp at h7; omega))]
  refine gO Tryz.func187 ?_;refine n0 (.bool false) (.bool false) ⟨_,rfl,rfl,⟨_,rfl,_,rfl⟩,rfl,⟨_,rfl,_,rfl⟩,trivial⟩ (vg fq) (fun w=>by kernel_rfl) (fun _ _ => .bool _) fN jg ?_;refine gO Tryz.func187 ?_;refine ai (fun h8=>?_) (fun h8=>?_)
  ·repeat' (first | with_reducible refine cY ?_ | with_reducible refine cN ?_ | with_reducible refine ai (fun _=>?_) (fun _=>?_) | refine gA Tryz.func187 ?_ | refine gB ?_ | with_reducible rfl)
   have:=J1 hx (by simpa using h8);simp [mN,this]
  repeat' (first | with_reducible refine ao (ED x.az fH) ?_ | with_reducible refine ay (ED x.az fH) ?_ | with_reducible refine ao (sS x.az fH) ?_ | with_reducible refine ay (sS x.az fH) ?_ | with_reducible refine cY ?_ | with_reducible refine cN ?_ | with_reducible refine ai (fun _=>?_) (fun _=>?_) | refine gA Tryz.func187 ?_ | refine gB ?_ | with_reducible rfl)
  all_goals try (rw [EE (eX hx (by simp_all [oC]))]; done)
  all_goals
   have aO:oC n x=true:=by simp_all [oC]
   refine a8 ⟨⟨_,rfl,rfl,⟨_,rfl,_,rfl⟩,rfl,⟨_,rfl,_,rfl⟩,trivial⟩,vg fq⟩ ?_;refine gO Tryz.func187 ?_;refine I.back (IH (i+1) ⟨by omega,fm aW hx aO,J2 hx ew (by simpa using h8)⟩ (by omega)) ?_;rw [AE hx,s4];(conv=>whnf);repeat (first | exact trivial | (refine sI ?_; conv=>whnf))
   refine And.intro rfl ?_;exact sZ
 ·have aC:l.length≤i:=by simpa using h5
  rw [List.take_of_length_le aC] at aW ew;refine gO Tryz.func187 ?_;simp [mN,aW,ew,hlen]
def pL (l:List Step) (k:Nat):Int:=match bT l k with
 |none => -1
 |some q=>q.time
theorem Kk {l:List Step} {k:Nat} {x:Step} (h:l[k]? = some x):bT l (k+1)=some x:=by simp [bT,h]
structure Steps.Fits (l:List Step):Prop where
 each:∀ s∈l,s.dV.Fits
 Kj:l.length≤1000000
theorem SP (h:bJ) (l:List Step) (hf:Steps.Fits l):aq E 117 [h.enc,.sl (l.map Step.enc)] (· = .bool (qZ h l)):=by
 obtain ⟨aA,aB,anchor,hints,bS,fin⟩:=h;obtain ⟨hz,hl⟩:=hf;show aq E _ [DV.agg [.sl (aA.map Host.enc),.sl (aB.map aS.enc),.str anchor.name,.int .i64 anchor.type,.int .i64 anchor.cD,.sl (anchor.data.map Datum.enc),.sl (hints.map (.int .i64)),.int .i64 bS,.int .i64 fin],_] _;refine eP Tryz.func117 ?_;refine ai (fun h1=>?_) (fun h1=>?_)
 ·refine gO Tryz.func117 ?_;have:qZ ⟨aA,aB,anchor,hints,bS,fin⟩ l=false:=by simp [qZ]; simp at h1; omega
  rw [this]
 have hlen:l.length≤400:=by simp at h1; omega
 have bK:qZ ⟨aA,aB,anchor,hints,bS,fin⟩ l=chain (jH aA.length fin) oD none l:=by simp [qZ,hlen]
 rw [bK];refine gO Tryz.func117 ?_;refine I.loop (κ:=Nat) ([4,5,7]++rg 13 27) (fun k=>[(13,.d (.int .i64 k)),(4,.d (.bool false)),(5,.d (.int .i64 (pL l k)))]) (fun _=>[]) (fun k=>k≤l.length∧chain (jH aA.length fin) oD none l=chain (jH aA.length fin) oD (bT l k) (l.drop k)∧∀ q,bT l k=some q→0≤q.time) (fun k=>l.length - k) 0 ⟨Nat.zero_le _,rfl,fun q h=>by simp [bT] at h⟩ ?_ ?_
 ·(conv=>whnf);repeat (first | exact trivial | (refine sI ?_; conv=>whnf))
  refine And.intro rfl ?_;exact sZ
 rintro i ⟨hi,pM,cC⟩ IH;refine I.head af Tryz.func117 2000 ?_;(conv=>whnf);refine ai (fun h5=>?_) (fun h5=>?_)
 ·have aj:i<l.length:=by simpa using h5
  obtain ⟨x,hx⟩:=aL aj;have fH:=hz x (List.mem_of_getElem? hx);have aF:=xD (ok:=jH aA.length fin) (rel:=oD) hx;have bc:=SO x.dV (aA.map Host.enc).length fH;rw [show mN (aA.map Host.enc).length x.dV=mN aA.length x.dV by rw [List.length_map]] at bc;have hC:=pM.trans aF;refine gO Tryz.func117 ?_;refine aE (e:=x.enc) (aX hx) rfl ?_;refine gO Tryz.func117 ?_;refine ai (fun h6=>?_) (fun h6=>?_)
  ·repeat' (first | with_reducible refine cY ?_ | with_reducible refine cN ?_ | with_reducible refine ai (fun _=>?_) (fun _=>?_) | refine gA Tryz.func117 ?_ | refine gB ?_ | with_reducible rfl)
   have s5:x.time≤pL l i:=by simpa using h6
   cases hq:bT l i with
   |none =>
    simp only [pL,hq] at s5;have:jH aA.length fin x=false:=by simp [jH]; omega
    rw [hC];simp [this]
   |some q =>
    simp only [pL,hq] at s5;have:oD q x=false:=by simp [oD]; omega
    rw [hC,hq];simp [this]
  have s5:pL l i<x.time:=by simpa using h6
  have Ak:0≤x.time:=by
   cases hq:bT l i with
   |none=>simp only [pL,hq] at s5; omega
   |some q=>have:=cC q hq; simp only [pL,hq] at s5; omega
  have Kl:chain (jH aA.length fin) oD none l=(jH aA.length fin x&&chain (jH aA.length fin) oD (bT l (i+1)) (l.drop (i+1))):=by
   rw [hC];cases hq:bT l i with
   |none=>simp
   |some q=>simp only [pL,hq] at s5; simp [oD,s5]
  refine gO Tryz.func117 ?_;repeat' (first | with_reducible refine ao (bc) ?_ | with_reducible refine ay (bc) ?_ | with_reducible refine cY ?_ | with_reducible refine cN ?_ | with_reducible refine ai (fun _=>?_) (fun _=>?_) | refine gA Tryz.func117 ?_ | refine gB ?_ | with_reducible rfl)
  all_goals try
   (have bL : jH aA.length fin x = false := by (simp_all [jH] <;> omega)
    rw [Kl, bL]; simp; done)
  have aO:jH aA.length fin x=true:=by (simp_all [jH] <;> omega)
  refine gO Tryz.func117 ?_;refine I.back (IH (i+1) ⟨by omega,?_,fun q hq=>by rw [Kk hx] at hq; cases hq; exact Ak⟩ (by omega)) ?_
  ·rw [Kl,aO]; rfl
  ·(conv=>whnf);repeat (first | exact trivial | (refine sI ?_; conv=>whnf))
   refine And.intro (by simp [pL,Kk hx]) ?_;exact sZ
 ·have aC:l.length≤i:=by simpa using h5
  rw [List.drop_eq_nil_of_le aC] at pM;refine gO Tryz.func117 ?_;rw [pM];rfl
theorem Km (h:bJ) (l:List Step) (hf:h.Fits) (cR:h.aB.length≤1000000) (hg:Steps.Fits l):aq E 47 [h.enc,.sl (l.map Step.enc)] (· = .bool (nC h l)):=by
 have h1:=Ex h hf cR;have h2:=SP h l hg;refine eP Tryz.func47 ?_;repeat' (first | with_reducible refine ao (h1) ?_ | with_reducible refine ay (h1) ?_ | with_reducible refine ao (h2) ?_ | with_reducible refine ay (h2) ?_ | with_reducible refine cY ?_ | with_reducible refine cN ?_ | with_reducible refine ai (fun _=>?_) (fun _=>?_) | refine gA Tryz.func47 ?_ | refine gB ?_ | with_reducible rfl)
 all_goals simp_all [nC]
end Go.Proofs.YtfmdaiojokniiaaGreatDoor.P
end
section
namespace Go.Proofs.YtfmdaiojokniiaaGreatDoor.P
open Go Go.aw
set_option maxRecDepth 100000
set_option maxHeartbeats 4000000
end Go.Proofs.YtfmdaiojokniiaaGreatDoor.P
end
section
namespace Go.Proofs.YtfmdaiojokniiaaGreatDoor.P
open Go Go.aw
set_option maxRecDepth 100000
set_option maxHeartbeats 4000000
def nD (ended:List cP) (at_:Int) (c:aS):List aS:=if c.spot∈ended then (if c.bM≥at_ then [] else [{ c with upto:=min c.upto at_ }]) else [c]
def lU (ended:List cP) (at_:Int) (l:List aS):List aS:=l.flatMap (nD ended at_)
theorem SQ {ended:List cP} {at_:Int} {l:List aS} {k:Nat} {c:aS} (h:l[k]? = some c):lU ended at_ (l.take (k+1))=lU ended at_ (l.take k)++nD ended at_ c:=by
 rw [cI h,lU,List.flatMap_append];simp [lU]
theorem AJ {ended:List cP} {at_:Int}:∀ (l:List aS),(lU ended at_ l).length≤l.length
 | []=>by simp [lU]
 |c::l=>by
  have:=AJ (ended:=ended) (at_:=at_) l;unfold lU at this ⊢;rw [List.flatMap_cons,List.length_append,List.length_cons];have h1:(nD ended at_ c).length≤1:=by unfold nD; split <;> (try split) <;> simp
  omega
theorem Kn {G:List (Nat × DV)} {s:List AV} {x:Operand} {v:AV} (h:aY G s x v):im G s [x] [v]:=fun c a h3 h4=>VL.cons (h c a h3 h4) .nil
theorem SR (s:oA) (hf:s.Fits):au E 57 [] [.d s.enc] (fun a b=>a = .map 1∧b=[.cells [.d (.sl (s.du.map bo.enc))],.map (dO cP.en (s.du.map bo.spot))]):=by
 obtain ⟨l⟩:=s;obtain ⟨hz,hl⟩:=hf;simp only at hz hl;show au E _ [] [.d (DV.agg [.sl (l.map bo.enc)])] _;refine au.run af (fn:=Tryz.f57) Tryz.func57 (body:=Tryz.f57.body.getD .skip) rfl (by decide) 2000 rfl ?_;(conv=>whnf);refine gO Tryz.func57 ?_;refine gO Tryz.func57 ?_;refine I.loop (κ:=Nat) ([5]++rg 10 12) (fun k=>[(10,.d (.int .i64 k)),(3,.map 1)]) (fun k=>[(1,.map (dO cP.en ((l.take k).map bo.spot)))]) (fun k=>k≤l.length) (fun k=>l.length - k) 0 (Nat.zero_le _) ?_ ?_
 ·(conv=>whnf);repeat (first | exact trivial | (refine sI ?_; conv=>whnf))
  refine And.intro rfl ?_;exact sZ
 rintro i hi IH;refine I.head af Tryz.func57 2000 ?_;(conv=>whnf);refine ai (fun h5=>?_) (fun h5=>?_)
 ·have aj:i<l.length:=by simpa using h5
  obtain ⟨x,hx⟩:=aL aj;have fq:=(ny oB ((l.take i).map bo.spot)).1;refine gO Tryz.func57 ?_;refine aE (e:=x.enc) (aX hx) rfl ?_;refine gO Tryz.func57 ?_;refine a8 ⟨⟨_,rfl,rfl,⟨_,rfl,_,rfl⟩,rfl,⟨_,rfl,_,rfl⟩,trivial⟩,vg fq⟩ ?_;refine gO Tryz.func57 ?_;refine I.back (IH (i+1) (by omega) (by omega)) ?_;rw [AE hx,s4];(conv=>whnf);repeat (first | exact trivial | (refine sI ?_; conv=>whnf))
  refine And.intro rfl ?_;exact sZ
 ·have aC:l.length≤i:=by simpa using h5
  rw [List.take_of_length_le aC];refine gO Tryz.func57 ?_;exact ⟨rfl,rfl⟩
theorem SS (l:List DV) (es:List (DV × DV)) (at_:Int):au E 56 [.map es] [.d (.sl l),.map 0,.d (.int .i64 at_)] (fun a b=>a = .fn (.func 132) [] [.ptr 1 0,.ptr 2 0,.ptr 3 0]∧b=[.map es,.cells [.d (.sl l)],.cells [.map 0],.cells [.d (.int .i64 at_)]]):=by
 refine au.run af (fn:=Tryz.f56) Tryz.func56 (body:=Tryz.f56.body.getD .skip) rfl (by decide) 2000 rfl ?_;(conv=>whnf);exact ⟨rfl,rfl⟩
theorem SU (l:List aS) (ended:List cP) (at_:Int) (hl:l.length≤1000000) :
  au E 131 [.cells [.d (.sl (l.map aS.enc))],.cells [.map 3],.cells [.d (.int .i64 at_)],.map (dO cP.en ended)] [.d .aH,.fn (.func 132) [] [.ptr 0 0,.ptr 1 0,.ptr 2 0]]
   (fun a b=>a = .own 5 1∧b=[.cells [.d (.sl (l.map aS.enc))],.cells [.map 3],.cells [.d (.int .i64 at_)],.map (dO cP.en ended),.cells [.own 5 1],.arr 1 (68,5) ((lU ended at_ l).map aS.enc)]):=by
 refine au.run af (fn:=Tryz.f131) Tryz.func131 (body:=Tryz.f131.body.getD .skip) rfl (by decide) 2000 rfl ?_;(conv=>whnf);refine I.mB 4 0 (68,5) (by decide) rfl rfl ?_;(conv=>whnf);refine I.rangeFunc (aP rfl) Tryz.func132 rfl (by decide) rfl (fun ll d t=>?_);refine gO Tryz.func132 ?_;refine I.loop (κ:=Nat) ([6]++rg 9 26) (fun k=>[(9,.d (.int .i64 k))]) (fun k=>[(4,.cells [.own 5 1]),(5,.arr 1 (68,5) ((lU ended at_ (l.take k)).map aS.enc))]) (fun k=>k≤l.length) (fun k=>l.length - k) 0 (Nat.zero_le _) ?_ ?_
 ·(conv=>whnf);repeat (first | exact trivial | (refine sI ?_; conv=>whnf))
  refine And.intro rfl ?_;exact sZ
 intro k hk IH;refine I.head af Tryz.func132 2000 ?_;(conv=>whnf);refine ai (fun h5=>?_) (fun h5=>?_)
 ·have aj:k<l.length:=by simpa using h5
  obtain ⟨c,hc⟩:=aL aj;have aF:=SQ (ended:=ended) (at_:=at_) hc;have hlen:=AJ (ended:=ended) (at_:=at_) (l.take k);have BW:(l.take k).length≤l.length:=by simp; omega
  obtain ⟨fN,jg⟩:=ve oB ended c.spot;have fq:=(ny oB ended).1;refine gO Tryz.func132 ?_;refine aE (e:=c.enc) (aX hc) rfl ?_;refine gO Tryz.func132 ?_;refine n0 (.bool false) (.bool false) ⟨_,rfl,rfl,⟨_,rfl,_,rfl⟩,rfl,⟨_,rfl,_,rfl⟩,trivial⟩ (vg fq) (fun w=>by kernel_rfl) (fun _ _ => .bool _) fN jg ?_;refine gO Tryz.func132 ?_;by_cases hm:c.spot∈ended
  ·refine bh (by simp [hm]) ?_;refine gO Tryz.func132 ?_;refine ai (fun h6=>?_) (fun h6=>?_)
   ·have e1:nD ended at_ c=[]:=by simp [nD,hm,of_decide_eq_true h6]
    refine gO Tryz.func132 ?_;refine I.back (IH (k+1) (by omega) (by omega)) ?_;rw [aF,e1,List.append_nil];exact sZ
   ·have e1:nD ended at_ c=[{ c with upto:=min c.upto at_ }]:=by simp [nD,hm,of_decide_eq_false h6]
    refine gO Tryz.func132 ?_;refine I.PH rfl rfl (aP rfl) (aP rfl) ?_;(conv=>whnf);refine gO Tryz.func132 ?_;refine I.yield 0 rfl rfl rfl (aP rfl) (Kn (aP rfl)) rfl ?_;(conv=>whnf);refine gO Tryz.func131 ?_;refine I.begin 0 rfl rfl rfl ?_;(conv=>whnf);refine gO Tryz.func131 ?_;refine a8 ⟨by simp; omega,by simp [DV.cells]⟩ ?_;refine gO Tryz.func131 ?_;refine I.mC 0 rfl rfl rfl ?_;(conv=>whnf);refine gO Tryz.func132 ?_;refine aZ (by decide) ?_;refine gO Tryz.func132 ?_;refine I.back (IH (k+1) (by omega) (by omega)) ?_;rw [aF,e1];(conv=>whnf);repeat (first | exact trivial | (refine sI ?_; conv=>whnf))
    refine And.intro (by simp) ?_;exact sZ
  ·refine aZ (by simp [hm]) ?_;have e1:nD ended at_ c=[c]:=by simp [nD,hm]
   refine gO Tryz.func132 ?_;refine I.yield 0 rfl rfl rfl (aP rfl) (Kn (aP rfl)) rfl ?_;(conv=>whnf);refine gO Tryz.func131 ?_;refine I.begin 0 rfl rfl rfl ?_;(conv=>whnf);refine gO Tryz.func131 ?_;refine a8 ⟨by simp; omega,by simp [DV.cells]⟩ ?_;refine gO Tryz.func131 ?_;refine I.mC 0 rfl rfl rfl ?_;(conv=>whnf);refine gO Tryz.func132 ?_;refine aZ (by decide) ?_;refine gO Tryz.func132 ?_;refine I.back (IH (k+1) (by omega) (by omega)) ?_;rw [aF,e1];(conv=>whnf);repeat (first | exact trivial | (refine sI ?_; conv=>whnf))
   refine And.intro (by simp) ?_;exact sZ
 ·have aC:l.length≤k:=by simpa using h5
  rw [List.take_of_length_le aC];refine gO Tryz.func132 ?_;refine I.iD af Tryz.func132 rfl rfl rfl rfl (fun e=>nomatch e) ?_;(conv=>whnf);refine gO Tryz.func131 ?_;refine I.fS af Tryz.func131 rfl rfl rfl rfl rfl ?_;(conv=>whnf);exact ⟨rfl,rfl⟩
theorem SV (l:List aS) (ended:List cP) (at_:Int) (hl:l.length≤1000000) :
  au E 55 [.cells [.d (.sl (l.map aS.enc))],.cells [.map 3],.cells [.d (.int .i64 at_)],.map (dO cP.en ended)] [.fn (.func 132) [] [.ptr 0 0,.ptr 1 0,.ptr 2 0]]
   (fun a b=>a = .own 5 1∧b=[.cells [.d (.sl (l.map aS.enc))],.cells [.map 3],.cells [.d (.int .i64 at_)],.map (dO cP.en ended),.cells [.own 5 1],.arr 1 (68,5) ((lU ended at_ l).map aS.enc)]):=by
 refine au.run af (fn:=Tryz.f55) Tryz.func55 (body:=Tryz.f55.body.getD .skip) rfl (by decide) 2000 rfl ?_;conv=>whnf
 with_reducible refine bD (SU l ended at_ hl) ?_
 refine gO Tryz.func55 ?_;exact ⟨rfl,rfl⟩
end Go.Proofs.YtfmdaiojokniiaaGreatDoor.P
end
