/- Several texts of mine, one behind the other. Conditions: as each says. -/
import Derived.Test.YtfmdaiojokniiaaGreatDoorY28
set_option linter.unusedVariables false
set_option linter.unusedSimpArgs false
section
namespace Go.Proofs.YtfmdaiojokniiaaGreatDoor.P
open Go Go.ax
set_option maxRecDepth 100000
set_option maxHeartbeats 4000000
theorem SG (a b:List Datum) (hl:a.length≤2147483648):aq E 113 [.sl (a.map Datum.enc),.sl (b.map Datum.enc)] (· = .bool (decide (a=b))):=by
 refine eP Tryz.func113 ?_;refine ah (fun h3=>?_) (fun h3=>?_)
 ·have aJ:a≠b:=by rintro rfl; simp at h3
  rw [decide_eq_false aJ];refine gO Tryz.func113 ?_
  with_reducible rfl
 have nh:a.length=b.length:=by simp at h3; omega
 refine gO Tryz.func113 ?_;refine I.loop (κ:=Nat) ([4,5]++rg 13 13) (fun k=>[(13,.d (.int .i64 k))]) (fun _=>[]) (fun k=>k≤a.length∧a.take k=b.take k) (fun k=>a.length - k) 0 ⟨Nat.zero_le _,rfl⟩ ?_ ?_
 ·exact sZ
 intro k hk IH;refine I.head af Tryz.func113 2000 ?_;(conv=>whnf);refine ah (fun h7=>?_) (fun h7=>?_)
 ·have ai:k<a.length:=by simpa using h7
  obtain ⟨u,hu⟩:=aD ai;obtain ⟨w,hw⟩:=aD (l:=b) (k:=k) (by omega);refine gO Tryz.func113 ?_;refine I.bH af bI 2000 (by kernel_rfl) ?_;(conv=>whnf);refine aB (e:=u.enc) (aN hu) rfl ?_;refine gD ?_;refine aB (e:=w.enc) (aN hw) rfl ?_;refine gD ?_;refine gO Tryz.func113 ?_;refine ah (fun h8=>?_) (fun h8=>?_)
  ·have aJ:u≠w:=by rintro rfl; simp at h8
   refine gO Tryz.func113 ?_;rw [decide_eq_false (me hu hw aJ)]
  ·have e1:u=w:=by
    obtain ⟨u1,u2,u3⟩:=u;obtain ⟨w1,w2,w3⟩:=w;simp at h8;simp [h8]
   refine gO Tryz.func113 ?_;refine I.back (IH (k+1) ⟨by omega,oX hk.2 hu hw e1⟩ (by omega)) ?_;exact sZ
 ·have aC:k=a.length:=by simp at h7; omega
  have sA:a=b:=oY hk.2 (by omega) (by omega);refine gO Tryz.func113 ?_;simp [sA]
theorem SH (a b:List da) (hl:a.length≤2147483648):aq E 114 [.sl (a.map da.enc),.sl (b.map da.enc)] (· = .bool (decide (a=b))):=by
 refine eP Tryz.func114 ?_;refine ah (fun h3=>?_) (fun h3=>?_)
 ·have aJ:a≠b:=by rintro rfl; simp at h3
  rw [decide_eq_false aJ];refine gO Tryz.func114 ?_
  with_reducible rfl
 have nh:a.length=b.length:=by simp at h3; omega
 refine gO Tryz.func114 ?_;refine I.loop (κ:=Nat) ([4,5]++rg 13 13) (fun k=>[(13,.d (.int .i64 k))]) (fun _=>[]) (fun k=>k≤a.length∧a.take k=b.take k) (fun k=>a.length - k) 0 ⟨Nat.zero_le _,rfl⟩ ?_ ?_
 ·exact sZ
 intro k hk IH;refine I.head af Tryz.func114 2000 ?_;(conv=>whnf);refine ah (fun h7=>?_) (fun h7=>?_)
 ·have ai:k<a.length:=by simpa using h7
  obtain ⟨u,hu⟩:=aD ai;obtain ⟨w,hw⟩:=aD (l:=b) (k:=k) (by omega);refine gO Tryz.func114 ?_;refine I.bH af bI 2000 (by kernel_rfl) ?_;(conv=>whnf);refine aB (e:=u.enc) (aN hu) rfl ?_;refine gD ?_;refine aB (e:=w.enc) (aN hw) rfl ?_;refine gD ?_;refine gO Tryz.func114 ?_;refine ah (fun h8=>?_) (fun h8=>?_)
  ·have aJ:u≠w:=by rintro rfl; simp at h8
   refine gO Tryz.func114 ?_;rw [decide_eq_false (me hu hw aJ)]
  ·have e1:u=w:=by
    obtain ⟨u1,u2,u3,u4,u5,u6⟩:=u;obtain ⟨w1,w2,w3,w4,w5,w6⟩:=w;simp at h8;simp [h8]
   refine gO Tryz.func114 ?_;refine I.back (IH (k+1) ⟨by omega,oX hk.2 hu hw e1⟩ (by omega)) ?_;exact sZ
 ·have aC:k=a.length:=by simp at h7; omega
  have sA:a=b:=oY hk.2 (by omega) (by omega);refine gO Tryz.func114 ?_;simp [sA]
end Go.Proofs.YtfmdaiojokniiaaGreatDoor.P
end
section
namespace Go.Proofs.YtfmdaiojokniiaaGreatDoor.P
open Go Go.ax
set_option maxRecDepth 100000
set_option maxHeartbeats 4000000
structure mT.Fits (w:mT):Prop where
 aA:∀ x∈w.aA,x.name.length≤maxLen
 anchor:w.anchor.Fits
 hints:w.hints.length≤maxLen
 jw:∀ p∈w.jw,p.az.Fits
theorem EL {l:List bz} {n:Nat} (h:l.all (qw n)=false):qx n l=false:=by simp [qx,h]
theorem Va {l:List bz} {k:Nat} {x:bz} (h:l[k]? = some x):(l.take (k+1)).map (·.az.aj)=(l.take k).map (·.az.aj)++[x.az.aj]:=by rw [cQ h,List.map_append]; rfl
theorem Vb (l:List bz):(dJ DV.str (l.map (·.az.aj))).length=JE l:=by
 have:=D5 uF (l.map (·.az.aj)) _ (Nat.le_refl _)
 rwa [List.take_length] at this
theorem KW (aA:List Host) (l:List bz) (a:cP) (hints:List Int) (hz:∀ p∈l,p.az.Fits):aq E 149 [DV.agg [.sl (aA.map Host.enc),.sl (l.map bz.enc),.str a.name,.int .i64 a.type,.int .i64 a.cD,.sl (a.data.map Datum.enc),.sl (hints.map (.int .i64))]] (· = .bool (qx aA.length l)):=by
 refine eP Tryz.func149 ?_;refine ah (fun h1=>?_) (fun h1=>?_)
 ·refine gO Tryz.func149 ?_;have:qx aA.length l=false:=by simp [qx]; simp at h1; omega
  rw [this]
 have hlen:l.length≤4000:=by simp at h1; omega
 refine gO Tryz.func149 ?_;refine gO Tryz.func149 ?_;refine gO Tryz.func149 ?_;refine I.loop (κ:=Nat) ([2,6,7]++rg 17 39) (fun k=>[(17,.d (.int .i64 k)),(2,.d (.bool false)),(3,.map 1),(4,.map 2)]) (fun k=>[(1,.map (dJ cS.en ((l.take k).map bz.spot))),(2,.map (dJ DV.str ((l.take k).map (·.az.aj))))]) (fun k=>k≤l.length∧(l.take k).all (qw aA.length)=true∧((l.take k).map bz.spot).Nodup) (fun k=>l.length - k) 0 ⟨Nat.zero_le _,rfl,by simp⟩ ?_ ?_
 ·(conv=>whnf);repeat (first | exact trivial | (refine sI ?_; conv=>whnf))
  refine And.intro rfl ?_;(conv=>whnf);repeat (first | exact trivial | (refine sI ?_; conv=>whnf))
  refine And.intro rfl ?_;exact sZ
 rintro i ⟨hi,aH,dg⟩ IH;refine I.head af Tryz.func149 2000 ?_;(conv=>whnf);refine ah (fun h5=>?_) (fun h5=>?_)
 ·have ai:i<l.length:=by simpa using h5
  obtain ⟨x,hx⟩:=aD ai;have eE:=hz x (List.mem_of_getElem? hx);have fe:=(mU nX ((l.take i).map bz.spot)).1;have Vc:=(mU uF ((l.take i).map (·.az.aj))).1;obtain ⟨fH,iZ⟩:=uE nX ((l.take i).map bz.spot) x.spot;refine gO Tryz.func149 ?_;refine aB (e:=x.enc) (aN hx) rfl ?_;refine gO Tryz.func149 ?_;refine ah (fun h6=>?_) (fun h6=>?_)
  ·repeat' (first | with_reducible refine cY ?_ | with_reducible refine cN ?_ | with_reducible refine ah (fun _=>?_) (fun _=>?_) | refine gA Tryz.func149 ?_ | refine gB ?_ | with_reducible rfl)
   rw [EL (cX hx (by simp [qw]; simp at h6; omega))]
  refine gO Tryz.func149 ?_;refine ah (fun h7=>?_) (fun h7=>?_)
  ·repeat' (first | with_reducible refine cY ?_ | with_reducible refine cN ?_ | with_reducible refine ah (fun _=>?_) (fun _=>?_) | refine gA Tryz.func149 ?_ | refine gB ?_ | with_reducible rfl)
   rw [EL (cX hx (by simp [qw]; simp at h7; omega))]
  refine gO Tryz.func149 ?_;refine ny (.bool false) (.bool false) ⟨_,rfl,rfl,⟨_,rfl,_,rfl⟩,rfl,⟨_,rfl,_,rfl⟩,trivial⟩ (uG fe) (fun w=>by kernel_rfl) (fun _ _ => .bool _) fH iZ ?_;refine gO Tryz.func149 ?_;refine ah (fun h8=>?_) (fun h8=>?_)
  ·repeat' (first | with_reducible refine cY ?_ | with_reducible refine cN ?_ | with_reducible refine ah (fun _=>?_) (fun _=>?_) | refine gA Tryz.func149 ?_ | refine gB ?_ | with_reducible rfl)
   have:=D3 hx (by simpa using h8);simp [qx,this]
  refine gO Tryz.func149 ?_
  with_reducible refine ao (sk x.az eE) ?_
  refine gO Tryz.func149 ?_;cases Ak:dI x.az
  ·repeat' (first | with_reducible refine cY ?_ | with_reducible refine cN ?_ | with_reducible refine ah (fun _=>?_) (fun _=>?_) | refine gA Tryz.func149 ?_ | refine gB ?_ | with_reducible rfl)
   rw [EL (cX hx (by simp [qw,Ak]))]
  refine aQ ?_;refine gO Tryz.func149 ?_;have aM:qw aA.length x=true:=by simp [qw,Ak]; simp at h6 h7; omega
  refine bc ⟨⟨_,rfl,rfl,⟨_,rfl,_,rfl⟩,rfl,⟨_,rfl,_,rfl⟩,trivial⟩,uG fe⟩ ?_;refine gO Tryz.func149 ?_;refine bc ⟨⟨_,rfl⟩,Vc⟩ ?_;refine gO Tryz.func149 ?_;refine I.back (IH (i+1) ⟨by omega,dh aH hx aM,D4 hx dg (by simpa using h8)⟩ (by omega)) ?_;rw [Ag hx,ss,Va hx,ss];(conv=>whnf);repeat (first | exact trivial | (refine sI ?_; conv=>whnf))
  refine And.intro rfl ?_;exact sZ
 ·have aC:l.length≤i:=by simpa using h5
  rw [List.take_of_length_le aC] at aH dg ⊢;refine gO Tryz.func149 ?_;refine gO Tryz.func149 ?_;have:=Vb l;rw [this];simp [qx,aH,dg,hlen];omega
theorem KX (w:mT) (hf:w.Fits):aq E 78 [w.enc] (· = .bool (Ah w)):=by
 obtain ⟨aA,jw,anchor,hints⟩:=w;obtain ⟨f1,f2,f3,f4⟩:=hf;simp only at f1 f2 f3 f4;show aq E _ [DV.agg [.sl (aA.map Host.enc),.sl (jw.map bz.enc),.str anchor.name,.int .i64 anchor.type,.int .i64 anchor.cD,.sl (anchor.data.map Datum.enc),.sl (hints.map (.int .i64))]] _;refine eP Tryz.func78 ?_;repeat' (first | with_reducible refine ao (Ab aA f1) ?_ | with_reducible refine au (Ab aA f1) ?_ | with_reducible refine ao (KW aA jw anchor hints f4) ?_ | with_reducible refine au (KW aA jw anchor hints f4) ?_ | with_reducible refine ao (Ac anchor hints f2 f3) ?_ | with_reducible refine au (Ac anchor hints f2 f3) ?_ | with_reducible refine cY ?_ | with_reducible refine cN ?_ | with_reducible refine ah (fun _=>?_) (fun _=>?_) | refine gA Tryz.func78 ?_ | refine gB ?_ | with_reducible rfl)
 all_goals simp_all [Ah]
end Go.Proofs.YtfmdaiojokniiaaGreatDoor.P
end
