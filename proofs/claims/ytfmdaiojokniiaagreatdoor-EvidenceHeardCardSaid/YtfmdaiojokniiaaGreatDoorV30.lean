/- Several texts of mine, one behind the other. Conditions: as each says. -/
import Derived.Test.YtfmdaiojokniiaaGreatDoorV21
import Derived.Test.YtfmdaiojokniiaaGreatDoorV24
set_option linter.unusedVariables false
set_option linter.unusedSimpArgs false
section
namespace Go.Proofs.YtfmdaiojokniiaaGreatDoor.P
open Go Go.aw
set_option maxRecDepth 100000
set_option maxHeartbeats 4000000
def lX (a:dC):Bool:=a.kind==0&&(a.ab.length:Int)==0&&a.cut==[]
theorem Tu (a:dC):aq E 90 [a.enc] (· = .bool (lX a)):=by
 unfold lX;refine eP Tryz.func90 ?_;repeat' (first | with_reducible refine cY ?_ | with_reducible refine cN ?_ | with_reducible refine ai (fun _=>?_) (fun _=>?_) | refine gA Tryz.func90 ?_ | refine gB ?_ | with_reducible rfl)
 all_goals (refine congrArg DV.bool ?_; simp_all)
def sV.ep (v:sV):Prop:=v.q.name.length≤maxLen∧v.ab.length≤maxLen∧∀ s∈v.ab,s.ep
def dF.ep (x:dF):Prop:=x.q.name.length≤maxLen∧x.answer.ep
def pI.ep (t:pI):Prop:=t.q.name.length≤maxLen∧(t.cache.list.length≤maxLen∧∀ e∈t.cache.list,e.ep)∧(t.heard.length≤maxLen∧∀ x∈t.heard,x.ep)∧t.result.ep
end Go.Proofs.YtfmdaiojokniiaaGreatDoor.P
end
section
namespace Go.Proofs.YtfmdaiojokniiaaGreatDoor.P
open Go Go.aw
set_option maxRecDepth 100000
set_option maxHeartbeats 4000000
structure jE.Fits (w:jE):Prop where
 aA:∀ x∈w.aA,x.name.length≤maxLen
 anchor:w.anchor.Fits
 hints:w.hints.length≤maxLen
 da:∀ p∈w.da,p.az.Fits
theorem Fc {l:List bo} {n:Nat} (h:l.all (lS n)=false):lT n l=false:=by simp [lT,h]
theorem Vr {l:List bo} {k:Nat} {x:bo} (h:l[k]? = some x):(l.take (k+1)).map (·.az.ah)=(l.take k).map (·.az.ah)++[x.az.ah]:=by rw [cI h,List.map_append]; rfl
theorem Vs (l:List bo):(dO DV.str (l.map (·.az.ah))).length=AF l:=by
 have:=Es vf (l.map (·.az.ah)) _ (Nat.le_refl _)
 rwa [List.take_length] at this
theorem Lk (aA:List Host) (l:List bo) (a:cS) (hints:List Int) (hz:∀ p∈l,p.az.Fits):aq E 149 [DV.agg [.sl (aA.map Host.enc),.sl (l.map bo.enc),.str a.name,.int .i64 a.type,.int .i64 a.cD,.sl (a.data.map Datum.enc),.sl (hints.map (.int .i64))]] (· = .bool (lT aA.length l)):=by
 refine eP Tryz.func149 ?_;refine ai (fun h1=>?_) (fun h1=>?_)
 ·refine gO Tryz.func149 ?_;have:lT aA.length l=false:=by simp [lT]; simp at h1; omega
  rw [this]
 have hlen:l.length≤4000:=by simp at h1; omega
 refine gO Tryz.func149 ?_;refine gO Tryz.func149 ?_;refine gO Tryz.func149 ?_;refine I.loop (κ:=Nat) ([2,6,7]++rg 17 39) (fun k=>[(17,.d (.int .i64 k)),(2,.d (.bool false)),(3,.map 1),(4,.map 2)]) (fun k=>[(1,.map (dO cP.en ((l.take k).map bo.spot))),(2,.map (dO DV.str ((l.take k).map (·.az.ah))))]) (fun k=>k≤l.length∧(l.take k).all (lS aA.length)=true∧((l.take k).map bo.spot).Nodup) (fun k=>l.length - k) 0 ⟨Nat.zero_le _,rfl,by simp⟩ ?_ ?_
 ·(conv=>whnf);repeat (first | exact trivial | (refine sI ?_; conv=>whnf))
  refine And.intro rfl ?_;(conv=>whnf);repeat (first | exact trivial | (refine sI ?_; conv=>whnf))
  refine And.intro rfl ?_;exact sZ
 rintro i ⟨hi,aW,ew⟩ IH;refine I.head af Tryz.func149 2000 ?_;(conv=>whnf);refine ai (fun h5=>?_) (fun h5=>?_)
 ·have aj:i<l.length:=by simpa using h5
  obtain ⟨x,hx⟩:=aL aj;have fH:=hz x (List.mem_of_getElem? hx);have fq:=(ny oB ((l.take i).map bo.spot)).1;have Vt:=(ny vf ((l.take i).map (·.az.ah))).1;obtain ⟨fN,jg⟩:=ve oB ((l.take i).map bo.spot) x.spot;refine gO Tryz.func149 ?_;refine aE (e:=x.enc) (aX hx) rfl ?_;refine gO Tryz.func149 ?_;refine ai (fun h6=>?_) (fun h6=>?_)
  ·repeat' (first | with_reducible refine cY ?_ | with_reducible refine cN ?_ | with_reducible refine ai (fun _=>?_) (fun _=>?_) | refine gA Tryz.func149 ?_ | refine gB ?_ | with_reducible rfl)
   rw [Fc (eX hx (by simp [lS]; simp at h6; omega))]
  refine gO Tryz.func149 ?_;refine ai (fun h7=>?_) (fun h7=>?_)
  ·repeat' (first | with_reducible refine cY ?_ | with_reducible refine cN ?_ | with_reducible refine ai (fun _=>?_) (fun _=>?_) | refine gA Tryz.func149 ?_ | refine gB ?_ | with_reducible rfl)
   rw [Fc (eX hx (by simp [lS]; simp at h7; omega))]
  refine gO Tryz.func149 ?_;refine n0 (.bool false) (.bool false) ⟨_,rfl,rfl,⟨_,rfl,_,rfl⟩,rfl,⟨_,rfl,_,rfl⟩,trivial⟩ (vg fq) (fun w=>by kernel_rfl) (fun _ _ => .bool _) fN jg ?_;refine gO Tryz.func149 ?_;refine ai (fun h8=>?_) (fun h8=>?_)
  ·repeat' (first | with_reducible refine cY ?_ | with_reducible refine cN ?_ | with_reducible refine ai (fun _=>?_) (fun _=>?_) | refine gA Tryz.func149 ?_ | refine gB ?_ | with_reducible rfl)
   have:=J1 hx (by simpa using h8);simp [lT,this]
  refine gO Tryz.func149 ?_
  with_reducible refine ao (sS x.az fH) ?_
  refine gO Tryz.func149 ?_;cases AR:dE x.az
  ·repeat' (first | with_reducible refine cY ?_ | with_reducible refine cN ?_ | with_reducible refine ai (fun _=>?_) (fun _=>?_) | refine gA Tryz.func149 ?_ | refine gB ?_ | with_reducible rfl)
   rw [Fc (eX hx (by simp [lS,AR]))]
  refine aQ ?_;refine gO Tryz.func149 ?_;have aO:lS aA.length x=true:=by simp [lS,AR]; simp at h6 h7; omega
  refine a8 ⟨⟨_,rfl,rfl,⟨_,rfl,_,rfl⟩,rfl,⟨_,rfl,_,rfl⟩,trivial⟩,vg fq⟩ ?_;refine gO Tryz.func149 ?_;refine a8 ⟨⟨_,rfl⟩,Vt⟩ ?_;refine gO Tryz.func149 ?_;refine I.back (IH (i+1) ⟨by omega,fm aW hx aO,J2 hx ew (by simpa using h8)⟩ (by omega)) ?_;rw [AE hx,s4,Vr hx,s4];(conv=>whnf);repeat (first | exact trivial | (refine sI ?_; conv=>whnf))
  refine And.intro rfl ?_;exact sZ
 ·have aC:l.length≤i:=by simpa using h5
  rw [List.take_of_length_le aC] at aW ew ⊢;refine gO Tryz.func149 ?_;refine gO Tryz.func149 ?_;have:=Vs l;rw [this];simp [lT,aW,ew,hlen];omega
theorem Fe (w:jE) (hf:w.Fits):aq E 78 [w.enc] (· = .bool (nz w)):=by
 obtain ⟨aA,da,anchor,hints⟩:=w;obtain ⟨f1,f2,f3,f4⟩:=hf;simp only at f1 f2 f3 f4;show aq E _ [DV.agg [.sl (aA.map Host.enc),.sl (da.map bo.enc),.str anchor.name,.int .i64 anchor.type,.int .i64 anchor.cD,.sl (anchor.data.map Datum.enc),.sl (hints.map (.int .i64))]] _;refine eP Tryz.func78 ?_;repeat' (first | with_reducible refine ao (Ay aA f1) ?_ | with_reducible refine ay (Ay aA f1) ?_ | with_reducible refine ao (Lk aA da anchor hints f4) ?_ | with_reducible refine ay (Lk aA da anchor hints f4) ?_ | with_reducible refine ao (Az anchor hints f2 f3) ?_ | with_reducible refine ay (Az anchor hints f2 f3) ?_ | with_reducible refine cY ?_ | with_reducible refine cN ?_ | with_reducible refine ai (fun _=>?_) (fun _=>?_) | refine gA Tryz.func78 ?_ | refine gB ?_ | with_reducible rfl)
 all_goals simp_all [nz]
end Go.Proofs.YtfmdaiojokniiaaGreatDoor.P
end
section
namespace Go.aw
open Go
def AS:AV→AV
 | .d x => .d (norm x)
 |x=>x
def AT:AV→AV
 | .agg l => .agg (l.map AS)
 |x=>AS x
def AU:AV→AV
 | .aD l => .aD (l.map AT)
 |x=>AT x
section
variable {c:Cx} {x:AV} {v:Value}
theorem Lp (h:VR c x v):VR c (AS x) v:=by
 unfold AS;split
 ·cases h with | d _ _ h=>exact .d _ _ (HH h)
 ·exact h
theorem Lq (h:VR c x v):VR c (AT x) v:=by
 unfold AT;split
 ·obtain ⟨vs,rfl,h1⟩:=nR h; exact tx (qp Lp h1)
 ·exact Lp h
theorem VE (h:VR c x v):VR c (AU x) v:=by
 unfold AU;split
 ·obtain ⟨vs,rfl,h1⟩:=wB h; exact wC (qp Lq h1)
 ·exact Lq h
theorem au.norm {E:Env} {f:FuncId} {h:List ae} {args:List AV} {Q:AV→List ae→Prop} (H:au E f h args fun a b=>Q (AU a) b):au E f h args Q:=by
 unfold au at H ⊢;exact ⟨H.1,H.2.1,fun c vs h1 h2 h3=>(H.2.2 c vs h1 h2 h3).mono fun e w' ⟨c',r,v,k1,k2,k3,k4,k5⟩=>⟨c',AU r,v,k1,k2,k3,VE k4,k5⟩⟩
end
end Go.aw
end
