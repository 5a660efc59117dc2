/- Several texts of mine, one behind the other. Conditions: as each says. -/
import Derived.Test.YtfmdaiojokniiaaGreatDoorW26
set_option linter.unusedVariables false
set_option linter.unusedSimpArgs false
section
namespace Go.Proofs.YtfmdaiojokniiaaGreatDoor.P
open Go Go.aw
set_option maxRecDepth 100000
set_option maxHeartbeats 4000000
theorem Q3 (t:Text):oA t=((t==[42])||preB t [42,46]):=by
 unfold oA Nm.labels preB;by_cases hr:t=[46]
 ·subst hr; rfl
 rw [if_neg hr];cases t with
 |nil=>rfl
 |cons c r =>
  by_cases hc:c=46
  ·subst hc;simp [Nm.split];show ((42:UInt8)==46&&_)=false;rfl
  ·cases r with
   |nil=>simp [Nm.split,hc]
   |cons d r' =>
    by_cases hd:d=46
    ·subst hd;simp [Nm.split,hc];rw [Bool.eq_iff_iff];simp;exact eq_comm
    ·obtain ⟨x,u,h1,h2⟩:=Nm.nk d r' hd;have h3:Nm.split (c::d::r')=(c::d::x)::u:=by
      rw [Nm.split,if_neg hc,h2]
     rw [h3];have:(d==46)=false:=by simpa using hd
     have Q4:((46:UInt8)==d)=false:=by simpa using fun e=>hd e.symm
     simp;show ((42:UInt8)==c&&((46:UInt8)==d&&_))=false;rw [Q4];simp
def jC (z:aF):Bool:=z.ae.isEmpty && !oA z.ai&&Nm.valid z.ai
def nI (aB:Nat) (p:bj):Bool:=decide (0≤p.host)&&decide (p.host<aB)&&(jC p.ay||ep p.ay)
def lT (aB:Nat) (s:nF):Bool:=decide (s.dq.length≤500)&&s.dq.all (nI aB)&&decide ((s.dq.map bj.spot).Nodup)
def jf (aB:Nat) (fin:Int) (s:Step):Bool:=decide (0≤s.time)&&decide (s.time<fin)&&lT aB s.dO
def nJ (a b:Step):Bool:=decide (a.time<b.time)
def qb (h:bN) (l:List Step):Bool:=decide (l.length≤400)&&chain (jf h.aB.length h.fin) nJ none l
def my (h:bN) (l:List Step):Bool:=ez h&&qb h l
structure nF.Fits (s:nF):Prop where
 cW:∀ p∈s.dq,p.ay.Fits
 I4:s.dq.length≤1000000
theorem Dz (z:aF) (hf:z.Fits):au E 58 [z.enc] (· = .bool (jC z)):=by
 have e:jC z=(z.ae.isEmpty && !((z.ai==[42])||preB z.ai [42,46])&&Nm.valid z.ai):=by rw [jC,Q3]
 have e2:z.ae.isEmpty=(((z.ae.map Signed.enc).length:Int)==0):=by
  rw [Bool.eq_iff_iff];simp [List.isEmpty_iff]
 refine eP Tryz.func58 ?_;repeat' (first | with_reducible refine ar (yX z.ai [42,46]) ?_ | with_reducible refine aR (yX z.ai [42,46]) ?_ | with_reducible refine ar (fQ z.ai hf.ai) ?_ | with_reducible refine aR (fQ z.ai hf.ai) ?_ | with_reducible refine cY ?_ | with_reducible refine cN ?_ | with_reducible refine aj (fun _=>?_) (fun _=>?_) | refine gA Tryz.func58 ?_ | refine gB ?_ | with_reducible rfl)
 all_goals
  rw [e,e2];clear e e2
  congr 1
  simp_all
theorem DA {l:List bj} {n:Nat} (h:l.all (nI n)=false):lT n ⟨l⟩=false:=by simp [lT,h]
theorem Q5 (s:nF) (n:Nat) (hf:s.Fits):au E 187 [s.enc,.int .i64 n] (· = .bool (lT n s)):=by
 obtain ⟨l⟩:=s;obtain ⟨hz,hl⟩:=hf;simp only at hz hl;show au E _ [DV.agg [.sl (l.map bj.enc)],.int .i64 n] _;refine eP Tryz.func187 ?_;refine aj (fun h1=>?_) (fun h1=>?_)
 ·refine gO Tryz.func187 ?_;have:lT n ⟨l⟩=false:=by simp [lT]; simp at h1; omega
  rw [this]
 have hlen:l.length≤500:=by simp at h1; omega
 refine gO Tryz.func187 ?_;refine gO Tryz.func187 ?_;refine I.loop (κ:=Nat) ([4,7,8]++rg 17 39) (fun k=>[(17,.d (.int .i64 k)),(4,.d (.bool false)),(5,.map 1)]) (fun k=>[(1,.map (dK cL.en ((l.take k).map bj.spot)))]) (fun k=>k≤l.length∧(l.take k).all (nI n)=true∧((l.take k).map bj.spot).Nodup) (fun k=>l.length - k) 0 ⟨Nat.zero_le _,rfl,by simp⟩ ?_ ?_
 ·(conv=>whnf);repeat (first | exact trivial | (refine sI ?_; conv=>whnf))
  refine And.intro rfl ?_;exact sZ
 rintro i ⟨hi,a7,eS⟩ IH;refine I.head ag Tryz.func187 2000 ?_;(conv=>whnf);refine aj (fun h5=>?_) (fun h5=>?_)
 ·have ah:i<l.length:=by simpa using h5
  obtain ⟨x,hx⟩:=aU ah;have fq:=hz x (List.mem_of_getElem? hx);have eX:=(mr nG ((l.take i).map bj.spot)).1;obtain ⟨gY,iG⟩:=ua nG ((l.take i).map bj.spot) x.spot;have sF:cL.en x.spot = .agg [.int .i64 x.host,.str x.ay.ai]:=rfl;refine gO Tryz.func187 ?_;refine aT (e:=x.enc) (bu hx) rfl ?_;refine gO Tryz.func187 ?_;refine aj (fun h6=>?_) (fun h6=>?_)
  ·repeat' (first | with_reducible refine cY ?_ | with_reducible refine cN ?_ | with_reducible refine aj (fun _=>?_) (fun _=>?_) | refine gA Tryz.func187 ?_ | refine gB ?_ | with_reducible rfl)
   rw [DA (gG hx (by simp [nI]; simp at h6; omega))]
  refine gO Tryz.func187 ?_;refine aj (fun h7=>?_) (fun h7=>?_)
  ·repeat' (first | with_reducible refine cY ?_ | with_reducible refine cN ?_ | with_reducible refine aj (fun _=>?_) (fun _=>?_) | refine gA Tryz.func187 ?_ | refine gB ?_ | with_reducible rfl)
   rw [DA (gG hx (by simp [nI]; simp at h7; omega))]
  refine gO Tryz.func187 ?_;refine mX (.bool false) (.bool false) ⟨_,rfl,rfl,⟨_,rfl,_,rfl⟩,rfl,⟨_,rfl,_,rfl⟩,trivial⟩ (ud eX) (fun w=>by kernel_rfl) (fun _ _ => .bool _) gY iG ?_;refine gO Tryz.func187 ?_;refine aj (fun h8=>?_) (fun h8=>?_)
  ·repeat' (first | with_reducible refine cY ?_ | with_reducible refine cN ?_ | with_reducible refine aj (fun _=>?_) (fun _=>?_) | refine gA Tryz.func187 ?_ | refine gB ?_ | with_reducible rfl)
   have:=IQ hx (by simpa using h8);simp [lT,this]
  repeat' (first | with_reducible refine ar (Dz x.ay fq) ?_ | with_reducible refine aR (Dz x.ay fq) ?_ | with_reducible refine ar (rQ x.ay fq) ?_ | with_reducible refine aR (rQ x.ay fq) ?_ | with_reducible refine cY ?_ | with_reducible refine cN ?_ | with_reducible refine aj (fun _=>?_) (fun _=>?_) | refine gA Tryz.func187 ?_ | refine gB ?_ | with_reducible rfl)
  all_goals try (rw [DA (gG hx (by simp_all [nI]))]; done)
  all_goals
   have aJ:nI n x=true:=by simp_all [nI]
   refine bp ⟨⟨_,rfl,rfl,⟨_,rfl,_,rfl⟩,rfl,⟨_,rfl,_,rfl⟩,trivial⟩,ud eX⟩ ?_;refine gO Tryz.func187 ?_;refine I.back (IH (i+1) ⟨by omega,iD a7 hx aJ,IS hx eS (by simpa using h8)⟩ (by omega)) ?_;rw [zC hx,rW];(conv=>whnf);repeat (first | exact trivial | (refine sI ?_; conv=>whnf))
   refine And.intro rfl ?_;exact sZ
 ·have aK:l.length≤i:=by simpa using h5
  rw [List.take_of_length_le aK] at a7 eS;refine gO Tryz.func187 ?_;simp [lT,a7,eS,hlen]
def oR (l:List Step) (k:Nat):Int:=match cJ l k with
 |none => -1
 |some q=>q.time
theorem I5 {l:List Step} {k:Nat} {x:Step} (h:l[k]? = some x):cJ l (k+1)=some x:=by simp [cJ,h]
structure Steps.Fits (l:List Step):Prop where
 each:∀ s∈l,s.dO.Fits
 I4:l.length≤1000000
theorem Q6 (h:bN) (l:List Step) (hf:Steps.Fits l):au E 117 [h.enc,.sl (l.map Step.enc)] (· = .bool (qb h l)):=by
 obtain ⟨aB,aG,anchor,hints,bM,fin⟩:=h;obtain ⟨hz,hl⟩:=hf;show au E _ [DV.agg [.sl (aB.map Host.enc),.sl (aG.map aX.enc),.str anchor.name,.int .i64 anchor.type,.int .i64 anchor.cV,.sl (anchor.data.map Datum.enc),.sl (hints.map (.int .i64)),.int .i64 bM,.int .i64 fin],_] _;refine eP Tryz.func117 ?_;refine aj (fun h1=>?_) (fun h1=>?_)
 ·refine gO Tryz.func117 ?_;have:qb ⟨aB,aG,anchor,hints,bM,fin⟩ l=false:=by simp [qb]; simp at h1; omega
  rw [this]
 have hlen:l.length≤400:=by simp at h1; omega
 have bH:qb ⟨aB,aG,anchor,hints,bM,fin⟩ l=chain (jf aB.length fin) nJ none l:=by simp [qb,hlen]
 rw [bH];refine gO Tryz.func117 ?_;refine I.loop (κ:=Nat) ([4,5,7]++rg 13 27) (fun k=>[(13,.d (.int .i64 k)),(4,.d (.bool false)),(5,.d (.int .i64 (oR l k)))]) (fun _=>[]) (fun k=>k≤l.length∧chain (jf aB.length fin) nJ none l=chain (jf aB.length fin) nJ (cJ l k) (l.drop k)∧∀ q,cJ l k=some q→0≤q.time) (fun k=>l.length - k) 0 ⟨Nat.zero_le _,rfl,fun q h=>by simp [cJ] at h⟩ ?_ ?_
 ·(conv=>whnf);repeat (first | exact trivial | (refine sI ?_; conv=>whnf))
  refine And.intro rfl ?_;exact sZ
 rintro i ⟨hi,oS,cB⟩ IH;refine I.head ag Tryz.func117 2000 ?_;(conv=>whnf);refine aj (fun h5=>?_) (fun h5=>?_)
 ·have ah:i<l.length:=by simpa using h5
  obtain ⟨x,hx⟩:=aU ah;have fq:=hz x (List.mem_of_getElem? hx);have bB:=CT (ok:=jf aB.length fin) (rel:=nJ) hx;have aV:=Q5 x.dO (aB.map Host.enc).length fq;rw [show lT (aB.map Host.enc).length x.dO=lT aB.length x.dO by rw [List.length_map]] at aV;have hC:=oS.trans bB;refine gO Tryz.func117 ?_;refine aT (e:=x.enc) (bu hx) rfl ?_;refine gO Tryz.func117 ?_;refine aj (fun h6=>?_) (fun h6=>?_)
  ·repeat' (first | with_reducible refine cY ?_ | with_reducible refine cN ?_ | with_reducible refine aj (fun _=>?_) (fun _=>?_) | refine gA Tryz.func117 ?_ | refine gB ?_ | with_reducible rfl)
   have rX:x.time≤oR l i:=by simpa using h6
   cases hq:cJ l i with
   |none =>
    simp only [oR,hq] at rX;have:jf aB.length fin x=false:=by simp [jf]; omega
    rw [hC];simp [this]
   |some q =>
    simp only [oR,hq] at rX;have:nJ q x=false:=by simp [nJ]; omega
    rw [hC,hq];simp [this]
  have rX:oR l i<x.time:=by simpa using h6
  have ze:0≤x.time:=by
   cases hq:cJ l i with
   |none=>simp only [oR,hq] at rX; omega
   |some q=>have:=cB q hq; simp only [oR,hq] at rX; omega
  have I6:chain (jf aB.length fin) nJ none l=(jf aB.length fin x&&chain (jf aB.length fin) nJ (cJ l (i+1)) (l.drop (i+1))):=by
   rw [hC];cases hq:cJ l i with
   |none=>simp
   |some q=>simp only [oR,hq] at rX; simp [nJ,rX]
  refine gO Tryz.func117 ?_;repeat' (first | with_reducible refine ar (aV) ?_ | with_reducible refine aR (aV) ?_ | with_reducible refine cY ?_ | with_reducible refine cN ?_ | with_reducible refine aj (fun _=>?_) (fun _=>?_) | refine gA Tryz.func117 ?_ | refine gB ?_ | with_reducible rfl)
  all_goals try
   (have cj : jf aB.length fin x = false := by (simp_all [jf] <;> omega)
    rw [I6, cj]; simp; done)
  have aJ:jf aB.length fin x=true:=by (simp_all [jf] <;> omega)
  refine gO Tryz.func117 ?_;refine I.back (IH (i+1) ⟨by omega,?_,fun q hq=>by rw [I5 hx] at hq; cases hq; exact ze⟩ (by omega)) ?_
  ·rw [I6,aJ]; rfl
  ·(conv=>whnf);repeat (first | exact trivial | (refine sI ?_; conv=>whnf))
   refine And.intro (by simp [oR,I5 hx]) ?_;exact sZ
 ·have aK:l.length≤i:=by simpa using h5
  rw [List.drop_eq_nil_of_le aK] at oS;refine gO Tryz.func117 ?_;rw [oS];rfl
theorem I7 (h:bN) (l:List Step) (hf:h.Fits) (dx:h.aG.length≤1000000) (hg:Steps.Fits l):au E 47 [h.enc,.sl (l.map Step.enc)] (· = .bool (my h l)):=by
 have h1:=I0 h hf dx;have h2:=Q6 h l hg;refine eP Tryz.func47 ?_;repeat' (first | with_reducible refine ar (h1) ?_ | with_reducible refine aR (h1) ?_ | with_reducible refine ar (h2) ?_ | with_reducible refine aR (h2) ?_ | with_reducible refine cY ?_ | with_reducible refine cN ?_ | with_reducible refine aj (fun _=>?_) (fun _=>?_) | refine gA Tryz.func47 ?_ | refine gB ?_ | with_reducible rfl)
 all_goals simp_all [my]
end Go.Proofs.YtfmdaiojokniiaaGreatDoor.P
end
section
namespace Go.Proofs.YtfmdaiojokniiaaGreatDoor.P
open Go Go.aw
set_option maxRecDepth 100000
set_option maxHeartbeats 4000000
end Go.Proofs.YtfmdaiojokniiaaGreatDoor.P
end
section
namespace Go.Proofs.YtfmdaiojokniiaaGreatDoor.P
open Go Go.aw
set_option maxRecDepth 100000
set_option maxHeartbeats 4000000
def mz (ended:List cL) (at_:Int) (c:aX):List aX:=if c.spot∈ended then (if c.bQ≥at_ then [] else [{ c with upto:=min c.upto at_ }]) else [c]
def kT (ended:List cL) (at_:Int) (l:List aX):List aX:=l.flatMap (mz ended at_)
theorem Q7 {ended:List cL} {at_:Int} {l:List aX} {k:Nat} {c:aX} (h:l[k]? = some c):kT ended at_ (l.take (k+1))=kT ended at_ (l.take k)++mz ended at_ c:=by
 rw [dm h,kT,List.flatMap_append];simp [kT]
theorem zH {ended:List cL} {at_:Int}:∀ (l:List aX),(kT ended at_ l).length≤l.length
 | []=>by simp [kT]
 |c::l=>by
  have:=zH (ended:=ended) (at_:=at_) l;unfold kT at this ⊢;rw [List.flatMap_cons,List.length_append,List.length_cons];have h1:(mz ended at_ c).length≤1:=by unfold mz; split <;> (try split) <;> simp
  omega
theorem I8 {G:List (Nat × DV)} {s:List AV} {x:Operand} {v:AV} (h:aQ G s x v):gS G s [x] [v]:=fun c a h3 h4=>VL.cons (h c a h3 h4) .nil
theorem Q8 (s:nF) (hf:s.Fits):aq E 57 [] [.d s.enc] (fun a b=>a = .map 1∧b=[.cells [.d (.sl (s.dq.map bj.enc))],.map (dK cL.en (s.dq.map bj.spot))]):=by
 obtain ⟨l⟩:=s;obtain ⟨hz,hl⟩:=hf;simp only at hz hl;show aq E _ [] [.d (DV.agg [.sl (l.map bj.enc)])] _;refine aq.run ag (fn:=Tryz.f57) Tryz.func57 (body:=Tryz.f57.body.getD .skip) rfl (by decide) 2000 rfl ?_;(conv=>whnf);refine gO Tryz.func57 ?_;refine gO Tryz.func57 ?_;refine I.loop (κ:=Nat) ([5]++rg 10 12) (fun k=>[(10,.d (.int .i64 k)),(3,.map 1)]) (fun k=>[(1,.map (dK cL.en ((l.take k).map bj.spot)))]) (fun k=>k≤l.length) (fun k=>l.length - k) 0 (Nat.zero_le _) ?_ ?_
 ·(conv=>whnf);repeat (first | exact trivial | (refine sI ?_; conv=>whnf))
  refine And.intro rfl ?_;exact sZ
 rintro i hi IH;refine I.head ag Tryz.func57 2000 ?_;(conv=>whnf);refine aj (fun h5=>?_) (fun h5=>?_)
 ·have ah:i<l.length:=by simpa using h5
  obtain ⟨x,hx⟩:=aU ah;have eX:=(mr nG ((l.take i).map bj.spot)).1;refine gO Tryz.func57 ?_;refine aT (e:=x.enc) (bu hx) rfl ?_;refine gO Tryz.func57 ?_;refine bp ⟨⟨_,rfl,rfl,⟨_,rfl,_,rfl⟩,rfl,⟨_,rfl,_,rfl⟩,trivial⟩,ud eX⟩ ?_;refine gO Tryz.func57 ?_;refine I.back (IH (i+1) (by omega) (by omega)) ?_;rw [zC hx,rW];(conv=>whnf);repeat (first | exact trivial | (refine sI ?_; conv=>whnf))
  refine And.intro rfl ?_;exact sZ
 ·have aK:l.length≤i:=by simpa using h5
  rw [List.take_of_length_le aK];refine gO Tryz.func57 ?_;exact ⟨rfl,rfl⟩
theorem Q9 (l:List DV) (es:List (DV × DV)) (at_:Int):aq E 56 [.map es] [.d (.sl l),.map 0,.d (.int .i64 at_)] (fun a b=>a = .fn (.func 132) [] [.ptr 1 0,.ptr 2 0,.ptr 3 0]∧b=[.map es,.cells [.d (.sl l)],.cells [.map 0],.cells [.d (.int .i64 at_)]]):=by
 refine aq.run ag (fn:=Tryz.f56) Tryz.func56 (body:=Tryz.f56.body.getD .skip) rfl (by decide) 2000 rfl ?_;(conv=>whnf);exact ⟨rfl,rfl⟩
theorem Ra (l:List aX) (ended:List cL) (at_:Int) (hl:l.length≤1000000) :
  aq E 131 [.cells [.d (.sl (l.map aX.enc))],.cells [.map 3],.cells [.d (.int .i64 at_)],.map (dK cL.en ended)] [.d .aD,.fn (.func 132) [] [.ptr 0 0,.ptr 1 0,.ptr 2 0]]
   (fun a b=>a = .own 5 1∧b=[.cells [.d (.sl (l.map aX.enc))],.cells [.map 3],.cells [.d (.int .i64 at_)],.map (dK cL.en ended),.cells [.own 5 1],.arr 1 (68,5) ((kT ended at_ l).map aX.enc)]):=by
 refine aq.run ag (fn:=Tryz.f131) Tryz.func131 (body:=Tryz.f131.body.getD .skip) rfl (by decide) 2000 rfl ?_;(conv=>whnf);refine I.np 4 0 (68,5) (by decide) rfl rfl ?_;(conv=>whnf);refine I.rangeFunc (aM rfl) Tryz.func132 rfl (by decide) rfl (fun ll d t=>?_);refine gO Tryz.func132 ?_;refine I.loop (κ:=Nat) ([6]++rg 9 26) (fun k=>[(9,.d (.int .i64 k))]) (fun k=>[(4,.cells [.own 5 1]),(5,.arr 1 (68,5) ((kT ended at_ (l.take k)).map aX.enc))]) (fun k=>k≤l.length) (fun k=>l.length - k) 0 (Nat.zero_le _) ?_ ?_
 ·(conv=>whnf);repeat (first | exact trivial | (refine sI ?_; conv=>whnf))
  refine And.intro rfl ?_;exact sZ
 intro k hk IH;refine I.head ag Tryz.func132 2000 ?_;(conv=>whnf);refine aj (fun h5=>?_) (fun h5=>?_)
 ·have ah:k<l.length:=by simpa using h5
  obtain ⟨c,hc⟩:=aU ah;have bB:=Q7 (ended:=ended) (at_:=at_) hc;have hlen:=zH (ended:=ended) (at_:=at_) (l.take k);have A2:(l.take k).length≤l.length:=by simp; omega
  obtain ⟨gY,iG⟩:=ua nG ended c.spot;have eX:=(mr nG ended).1;refine gO Tryz.func132 ?_;refine aT (e:=c.enc) (bu hc) rfl ?_;refine gO Tryz.func132 ?_;refine mX (.bool false) (.bool false) ⟨_,rfl,rfl,⟨_,rfl,_,rfl⟩,rfl,⟨_,rfl,_,rfl⟩,trivial⟩ (ud eX) (fun w=>by kernel_rfl) (fun _ _ => .bool _) gY iG ?_;refine gO Tryz.func132 ?_;by_cases hm:c.spot∈ended
  ·refine bg (by simp [hm]) ?_;refine gO Tryz.func132 ?_;refine aj (fun h6=>?_) (fun h6=>?_)
   ·have e1:mz ended at_ c=[]:=by simp [mz,hm,of_decide_eq_true h6]
    refine gO Tryz.func132 ?_;refine I.back (IH (k+1) (by omega) (by omega)) ?_;rw [bB,e1,List.append_nil];exact sZ
   ·have e1:mz ended at_ c=[{ c with upto:=min c.upto at_ }]:=by simp [mz,hm,of_decide_eq_false h6]
    refine gO Tryz.func132 ?_;refine I.Om rfl rfl (aM rfl) (aM rfl) ?_;(conv=>whnf);refine gO Tryz.func132 ?_;refine I.yield 0 rfl rfl rfl (aM rfl) (I8 (aM rfl)) rfl ?_;(conv=>whnf);refine gO Tryz.func131 ?_;refine I.begin 0 rfl rfl rfl ?_;(conv=>whnf);refine gO Tryz.func131 ?_;refine bp ⟨by simp; omega,by simp [DV.cells]⟩ ?_;refine gO Tryz.func131 ?_;refine I.mj 0 rfl rfl rfl ?_;(conv=>whnf);refine gO Tryz.func132 ?_;refine aW (by decide) ?_;refine gO Tryz.func132 ?_;refine I.back (IH (k+1) (by omega) (by omega)) ?_;rw [bB,e1];(conv=>whnf);repeat (first | exact trivial | (refine sI ?_; conv=>whnf))
    refine And.intro (by simp) ?_;exact sZ
  ·refine aW (by simp [hm]) ?_;have e1:mz ended at_ c=[c]:=by simp [mz,hm]
   refine gO Tryz.func132 ?_;refine I.yield 0 rfl rfl rfl (aM rfl) (I8 (aM rfl)) rfl ?_;(conv=>whnf);refine gO Tryz.func131 ?_;refine I.begin 0 rfl rfl rfl ?_;(conv=>whnf);refine gO Tryz.func131 ?_;refine bp ⟨by simp; omega,by simp [DV.cells]⟩ ?_;refine gO Tryz.func131 ?_;refine I.mj 0 rfl rfl rfl ?_;(conv=>whnf);refine gO Tryz.func132 ?_;refine aW (by decide) ?_;refine gO Tryz.func132 ?_;refine I.back (IH (k+1) (by omega) (by omega)) ?_;rw [bB,e1];(conv=>whnf);repeat (first | exact trivial | (refine sI ?_; conv=>whnf))
   refine And.intro (by simp) ?_;exact sZ
 ·have aK:l.length≤k:=by simpa using h5
  rw [List.take_of_length_le aK];refine gO Tryz.func132 ?_;refine I.iC ag Tryz.func132 rfl rfl rfl rfl (fun e=>nomatch e) ?_;(conv=>whnf);refine gO Tryz.func131 ?_;refine I.fP ag Tryz.func131 rfl rfl rfl rfl rfl ?_;(conv=>whnf);exact ⟨rfl,rfl⟩
theorem Rb (l:List aX) (ended:List cL) (at_:Int) (hl:l.length≤1000000) :
  aq E 55 [.cells [.d (.sl (l.map aX.enc))],.cells [.map 3],.cells [.d (.int .i64 at_)],.map (dK cL.en ended)] [.fn (.func 132) [] [.ptr 0 0,.ptr 1 0,.ptr 2 0]]
   (fun a b=>a = .own 5 1∧b=[.cells [.d (.sl (l.map aX.enc))],.cells [.map 3],.cells [.d (.int .i64 at_)],.map (dK cL.en ended),.cells [.own 5 1],.arr 1 (68,5) ((kT ended at_ l).map aX.enc)]):=by
 refine aq.run ag (fn:=Tryz.f55) Tryz.func55 (body:=Tryz.f55.body.getD .skip) rfl (by decide) 2000 rfl ?_;conv=>whnf
 with_reducible refine bC (Ra l ended at_ hl) ?_
 refine gO Tryz.func55 ?_;exact ⟨rfl,rfl⟩
end Go.Proofs.YtfmdaiojokniiaaGreatDoor.P
end
