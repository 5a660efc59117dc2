/- Several texts of mine, one behind the other. Conditions: as each says. -/
import Derived.Test.YtfmdaiojokniiaaGreatDoorY22
set_option linter.unusedVariables false
set_option linter.unusedSimpArgs false
namespace Go.Proofs.YtfmdaiojokniiaaGreatDoor.P
open Go Go.ax
set_option maxRecDepth 100000
set_option maxHeartbeats 4000000
theorem R6 (t:Text):kz t=((t==[42])||preB t [42,46]):=by
 unfold kz Nm.labels preB;by_cases hr:t=[46]
 ·subst hr; rfl
 rw [if_neg hr];cases t with
 |nil=>rfl
 |cons c r =>
  by_cases hc:c=46
  ·subst hc;simp [Nm.split];show ((42:UInt8)==46&&_)=false;rfl
  ·cases r with
   |nil=>simp [Nm.split,hc]
   |cons d r' =>
    by_cases hd:d=46
    ·subst hd;simp [Nm.split,hc];rw [Bool.eq_iff_iff];simp;exact eq_comm
    ·obtain ⟨x,u,h1,h2⟩:=Nm.nI d r' hd;have h3:Nm.split (c::d::r')=(c::d::x)::u:=by
      rw [Nm.split,if_neg hc,h2]
     rw [h3];have:(d==46)=false:=by simpa using hd
     have R7:((46:UInt8)==d)=false:=by simpa using fun e=>hd e.symm
     simp;show ((42:UInt8)==c&&((46:UInt8)==d&&_))=false;rw [R7];simp
def jz (z:aR):Bool:=z.ab.isEmpty && !kz z.aj&&Nm.valid z.aj
def gU (aA:Nat) (p:bz):Bool:=decide (0≤p.host)&&decide (p.host<aA)&&(jz p.az||dI p.az)
def gV (aA:Nat) (s:jv):Bool:=decide (s.di.length≤500)&&s.di.all (gU aA)&&decide ((s.di.map bz.spot).Nodup)
def dn (aA:Nat) (fin:Int) (s:Step):Bool:=decide (0≤s.time)&&decide (s.time<fin)&&gV aA s.cR
def fg (a b:Step):Bool:=decide (a.time<b.time)
def nY (h:ca) (l:List Step):Bool:=decide (l.length≤400)&&chain (dn h.aA.length h.fin) fg none l
def kH (h:ca) (l:List Step):Bool:=gd h&&nY h l
structure jv.Fits (s:jv):Prop where
 jw:∀ p∈s.di,p.az.Fits
 Ec:s.di.length≤1000000
theorem Ed (z:aR) (hf:z.Fits):aq E 58 [z.enc] (· = .bool (jz z)):=by
 have e:jz z=(z.ab.isEmpty && !((z.aj==[42])||preB z.aj [42,46])&&Nm.valid z.aj):=by rw [jz,R6]
 have e2:z.ab.isEmpty=(((z.ab.map Signed.enc).length:Int)==0):=by
  rw [Bool.eq_iff_iff];simp [List.isEmpty_iff]
 refine eP Tryz.func58 ?_;repeat' (first | with_reducible refine ao (zA z.aj [42,46]) ?_ | with_reducible refine au (zA z.aj [42,46]) ?_ | with_reducible refine ao (fZ z.aj hf.aj) ?_ | with_reducible refine au (fZ z.aj hf.aj) ?_ | with_reducible refine cY ?_ | with_reducible refine cN ?_ | with_reducible refine ah (fun _=>?_) (fun _=>?_) | refine gA Tryz.func58 ?_ | refine gB ?_ | with_reducible rfl)
 all_goals
  rw [e,e2];clear e e2
  congr 1
  simp_all
theorem uL {l:List bz} {n:Nat} (h:l.all (gU n)=false):gV n ⟨l⟩=false:=by simp [gV,h]
theorem R8 (s:jv) (n:Nat) (hf:s.Fits):aq E 187 [s.enc,.int .i64 n] (· = .bool (gV n s)):=by
 obtain ⟨l⟩:=s;obtain ⟨hz,hl⟩:=hf;simp only at hz hl;show aq E _ [DV.agg [.sl (l.map bz.enc)],.int .i64 n] _;refine eP Tryz.func187 ?_;refine ah (fun h1=>?_) (fun h1=>?_)
 ·refine gO Tryz.func187 ?_;have:gV n ⟨l⟩=false:=by simp [gV]; simp at h1; omega
  rw [this]
 have hlen:l.length≤500:=by simp at h1; omega
 refine gO Tryz.func187 ?_;refine gO Tryz.func187 ?_;refine I.loop (κ:=Nat) ([4,7,8]++rg 17 39) (fun k=>[(17,.d (.int .i64 k)),(4,.d (.bool false)),(5,.map 1)]) (fun k=>[(1,.map (dJ cS.en ((l.take k).map bz.spot)))]) (fun k=>k≤l.length∧(l.take k).all (gU n)=true∧((l.take k).map bz.spot).Nodup) (fun k=>l.length - k) 0 ⟨Nat.zero_le _,rfl,by simp⟩ ?_ ?_
 ·(conv=>whnf);repeat (first | exact trivial | (refine sI ?_; conv=>whnf))
  refine And.intro rfl ?_;exact sZ
 rintro i ⟨hi,aH,dg⟩ IH;refine I.head af Tryz.func187 2000 ?_;(conv=>whnf);refine ah (fun h5=>?_) (fun h5=>?_)
 ·have ai:i<l.length:=by simpa using h5
  obtain ⟨x,hx⟩:=aD ai;have eE:=hz x (List.mem_of_getElem? hx);have fe:=(mU nX ((l.take i).map bz.spot)).1;obtain ⟨fH,iZ⟩:=uE nX ((l.take i).map bz.spot) x.spot;have s5:cS.en x.spot = .agg [.int .i64 x.host,.str x.az.aj]:=rfl;refine gO Tryz.func187 ?_;refine aB (e:=x.enc) (aN hx) rfl ?_;refine gO Tryz.func187 ?_;refine ah (fun h6=>?_) (fun h6=>?_)
  ·repeat' (first | with_reducible refine cY ?_ | with_reducible refine cN ?_ | with_reducible refine ah (fun _=>?_) (fun _=>?_) | refine gA Tryz.func187 ?_ | refine gB ?_ | with_reducible rfl)
   rw [uL (cX hx (by simp [gU]; simp at h6; omega))]
  refine gO Tryz.func187 ?_;refine ah (fun h7=>?_) (fun h7=>?_)
  ·repeat' (first | with_reducible refine cY ?_ | with_reducible refine cN ?_ | with_reducible refine ah (fun _=>?_) (fun _=>?_) | refine gA Tryz.func187 ?_ | refine gB ?_ | with_reducible rfl)
   rw [uL (cX hx (by simp [gU]; simp at h7; omega))]
  refine gO Tryz.func187 ?_;refine ny (.bool false) (.bool false) ⟨_,rfl,rfl,⟨_,rfl,_,rfl⟩,rfl,⟨_,rfl,_,rfl⟩,trivial⟩ (uG fe) (fun w=>by kernel_rfl) (fun _ _ => .bool _) fH iZ ?_;refine gO Tryz.func187 ?_;refine ah (fun h8=>?_) (fun h8=>?_)
  ·repeat' (first | with_reducible refine cY ?_ | with_reducible refine cN ?_ | with_reducible refine ah (fun _=>?_) (fun _=>?_) | refine gA Tryz.func187 ?_ | refine gB ?_ | with_reducible rfl)
   have:=D3 hx (by simpa using h8);simp [gV,this]
  repeat' (first | with_reducible refine ao (Ed x.az eE) ?_ | with_reducible refine au (Ed x.az eE) ?_ | with_reducible refine ao (sk x.az eE) ?_ | with_reducible refine au (sk x.az eE) ?_ | with_reducible refine cY ?_ | with_reducible refine cN ?_ | with_reducible refine ah (fun _=>?_) (fun _=>?_) | refine gA Tryz.func187 ?_ | refine gB ?_ | with_reducible rfl)
  all_goals try (rw [uL (cX hx (by simp_all [gU]))]; done)
  all_goals
   have aM:gU n x=true:=by simp_all [gU]
   refine bc ⟨⟨_,rfl,rfl,⟨_,rfl,_,rfl⟩,rfl,⟨_,rfl,_,rfl⟩,trivial⟩,uG fe⟩ ?_;refine gO Tryz.func187 ?_;refine I.back (IH (i+1) ⟨by omega,dh aH hx aM,D4 hx dg (by simpa using h8)⟩ (by omega)) ?_;rw [Ag hx,ss];(conv=>whnf);repeat (first | exact trivial | (refine sI ?_; conv=>whnf))
   refine And.intro rfl ?_;exact sZ
 ·have aC:l.length≤i:=by simpa using h5
  rw [List.take_of_length_le aC] at aH dg;refine gO Tryz.func187 ?_;simp [gV,aH,dg,hlen]
def pf (l:List Step) (k:Nat):Int:=match bK l k with
 |none => -1
 |some q=>q.time
theorem JP {l:List Step} {k:Nat} {x:Step} (h:l[k]? = some x):bK l (k+1)=some x:=by simp [bK,h]
structure Steps.Fits (l:List Step):Prop where
 each:∀ s∈l,s.cR.Fits
 Ec:l.length≤1000000
theorem R9 (h:ca) (l:List Step) (hf:Steps.Fits l):aq E 117 [h.enc,.sl (l.map Step.enc)] (· = .bool (nY h l)):=by
 obtain ⟨aA,aI,anchor,hints,bT,fin⟩:=h;obtain ⟨hz,hl⟩:=hf;show aq E _ [DV.agg [.sl (aA.map Host.enc),.sl (aI.map a7.enc),.str anchor.name,.int .i64 anchor.type,.int .i64 anchor.cD,.sl (anchor.data.map Datum.enc),.sl (hints.map (.int .i64)),.int .i64 bT,.int .i64 fin],_] _;refine eP Tryz.func117 ?_;refine ah (fun h1=>?_) (fun h1=>?_)
 ·refine gO Tryz.func117 ?_;have:nY ⟨aA,aI,anchor,hints,bT,fin⟩ l=false:=by simp [nY]; simp at h1; omega
  rw [this]
 have hlen:l.length≤400:=by simp at h1; omega
 have bD:nY ⟨aA,aI,anchor,hints,bT,fin⟩ l=chain (dn aA.length fin) fg none l:=by simp [nY,hlen]
 rw [bD];refine gO Tryz.func117 ?_;refine I.loop (κ:=Nat) ([4,5,7]++rg 13 27) (fun k=>[(13,.d (.int .i64 k)),(4,.d (.bool false)),(5,.d (.int .i64 (pf l k)))]) (fun _=>[]) (fun k=>k≤l.length∧chain (dn aA.length fin) fg none l=chain (dn aA.length fin) fg (bK l k) (l.drop k)∧∀ q,bK l k=some q→0≤q.time) (fun k=>l.length - k) 0 ⟨Nat.zero_le _,rfl,fun q h=>by simp [bK] at h⟩ ?_ ?_
 ·(conv=>whnf);repeat (first | exact trivial | (refine sI ?_; conv=>whnf))
  refine And.intro rfl ?_;exact sZ
 rintro i ⟨hi,gW,cA⟩ IH;refine I.head af Tryz.func117 2000 ?_;(conv=>whnf);refine ah (fun h5=>?_) (fun h5=>?_)
 ·have ai:i<l.length:=by simpa using h5
  obtain ⟨x,hx⟩:=aD ai;have eE:=hz x (List.mem_of_getElem? hx);have aE:=ur (ok:=dn aA.length fin) (rel:=fg) hx;have aX:=R8 x.cR (aA.map Host.enc).length eE;rw [show gV (aA.map Host.enc).length x.cR=gV aA.length x.cR by rw [List.length_map]] at aX;have hC:=gW.trans aE;refine gO Tryz.func117 ?_;refine aB (e:=x.enc) (aN hx) rfl ?_;refine gO Tryz.func117 ?_;refine ah (fun h6=>?_) (fun h6=>?_)
  ·repeat' (first | with_reducible refine cY ?_ | with_reducible refine cN ?_ | with_reducible refine ah (fun _=>?_) (fun _=>?_) | refine gA Tryz.func117 ?_ | refine gB ?_ | with_reducible rfl)
   have sx:x.time≤pf l i:=by simpa using h6
   cases hq:bK l i with
   |none =>
    simp only [pf,hq] at sx;have:dn aA.length fin x=false:=by simp [dn]; omega
    rw [hC];simp [this]
   |some q =>
    simp only [pf,hq] at sx;have:fg q x=false:=by simp [fg]; omega
    rw [hC,hq];simp [this]
  have sx:pf l i<x.time:=by simpa using h6
  have zQ:0≤x.time:=by
   cases hq:bK l i with
   |none=>simp only [pf,hq] at sx; omega
   |some q=>have:=cA q hq; simp only [pf,hq] at sx; omega
  have qy:chain (dn aA.length fin) fg none l=(dn aA.length fin x&&chain (dn aA.length fin) fg (bK l (i+1)) (l.drop (i+1))):=by
   rw [hC];cases hq:bK l i with
   |none=>simp
   |some q=>simp only [pf,hq] at sx; simp [fg,sx]
  refine gO Tryz.func117 ?_;repeat' (first | with_reducible refine ao (aX) ?_ | with_reducible refine au (aX) ?_ | with_reducible refine cY ?_ | with_reducible refine cN ?_ | with_reducible refine ah (fun _=>?_) (fun _=>?_) | refine gA Tryz.func117 ?_ | refine gB ?_ | with_reducible rfl)
  all_goals try
   (have bL : dn aA.length fin x = false := by (simp_all [dn] <;> omega)
    rw [qy, bL]; simp; done)
  have aM:dn aA.length fin x=true:=by (simp_all [dn] <;> omega)
  refine gO Tryz.func117 ?_;refine I.back (IH (i+1) ⟨by omega,?_,fun q hq=>by rw [JP hx] at hq; cases hq; exact zQ⟩ (by omega)) ?_
  ·rw [qy,aM]; rfl
  ·(conv=>whnf);repeat (first | exact trivial | (refine sI ?_; conv=>whnf))
   refine And.intro (by simp [pf,JP hx]) ?_;exact sZ
 ·have aC:l.length≤i:=by simpa using h5
  rw [List.drop_eq_nil_of_le aC] at gW;refine gO Tryz.func117 ?_;rw [gW];rfl
theorem JQ (h:ca) (l:List Step) (hf:h.Fits) (cZ:h.aI.length≤1000000) (hg:Steps.Fits l):aq E 47 [h.enc,.sl (l.map Step.enc)] (· = .bool (kH h l)):=by
 have h1:=JL h hf cZ;have h2:=R9 h l hg;refine eP Tryz.func47 ?_;repeat' (first | with_reducible refine ao (h1) ?_ | with_reducible refine au (h1) ?_ | with_reducible refine ao (h2) ?_ | with_reducible refine au (h2) ?_ | with_reducible refine cY ?_ | with_reducible refine cN ?_ | with_reducible refine ah (fun _=>?_) (fun _=>?_) | refine gA Tryz.func47 ?_ | refine gB ?_ | with_reducible rfl)
 all_goals simp_all [kH]
end Go.Proofs.YtfmdaiojokniiaaGreatDoor.P
