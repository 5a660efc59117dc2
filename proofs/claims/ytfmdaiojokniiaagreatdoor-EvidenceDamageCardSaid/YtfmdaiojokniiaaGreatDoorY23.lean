/- Several texts of mine, one behind the other. Conditions: as each says. -/
import Derived.Test.YtfmdaiojokniiaaGreatDoorY17
import Derived.Test.YtfmdaiojokniiaaGreatDoorY18
import Derived.Ground.NamesProg
import Derived.Shelf.Small.Strs
import Derived.Shelf.Strings.OnBuilder
set_option linter.unusedVariables false
set_option linter.unusedSimpArgs false
section
namespace Go.Proofs.YtfmdaiojokniiaaGreatDoor.P
open Go Go.ax
set_option maxRecDepth 100000
set_option maxHeartbeats 4000000
def gg (q:bw):Bool:=Nm.valid q.name&&(decide (1≤q.type)&&decide (q.type≤8))
def mq (g:da):Bool:=Nm.valid g.az&&(decide (1≤g.key)&&decide (g.key≤1000000))&&(decide (1≤g.l6)&&decide (g.l6≤3))&&xd g.cj g.upto
def lx (s:Signed):Bool:=s.sigs.all mq&&ev s.set&&decide (s.sigs.length≤6)
def Ei (a:dP):Bool:=if a.kind=4 then Nm.valid a.cut else a.cut==[]
def ph (a:dP):Bool:=(decide (1≤a.kind)&&decide (a.kind≤7))&&decide (a.ab.length≤40)&&Ei a&&a.ab.all lx
def Signed.ea (s:Signed):Prop:=s.set.Fits∧s.sigs.length≤maxLen∧∀ g∈s.sigs,g.az.length≤maxLen
def dP.ea (a:dP):Prop:=a.ab.length≤maxLen∧(∀ s∈a.ab,s.ea)∧a.cut.length≤maxLen
theorem An (n a b:Int):aq E 165 [.int .i64 n,.int .i64 a,.int .i64 b] (· = .bool (decide (a≤n)&&decide (n≤b))):=by
 refine eP Tryz.func165 ?_;repeat' (first | with_reducible refine cY ?_ | with_reducible refine cN ?_ | with_reducible refine ah (fun _=>?_) (fun _=>?_) | refine gA Tryz.func165 ?_ | refine gB ?_ | with_reducible rfl)
 all_goals (simp_all; try omega)
theorem SI (g:da) (hf:g.az.length≤maxLen):aq E 243 [g.enc] (· = .bool (mq g)):=by
 refine eP Tryz.func243 ?_;repeat' (first | with_reducible refine ao (dR _ hf) ?_ | with_reducible refine au (dR _ hf) ?_ | with_reducible refine ao (An _ _ _) ?_ | with_reducible refine au (An _ _ _) ?_ | with_reducible refine ao (HX _ _) ?_ | with_reducible refine au (HX _ _) ?_ | with_reducible refine cY ?_ | with_reducible refine cN ?_ | with_reducible refine ah (fun _=>?_) (fun _=>?_) | refine gA Tryz.func243 ?_ | refine gB ?_ | with_reducible rfl)
 all_goals (simp_all [mq]; try omega)
theorem SJ (s:Signed) (hf:s.ea):aq E 166 [s.enc] (· = .bool (lx s)):=by
 obtain ⟨s,l⟩:=s;obtain ⟨h1,h2,h3⟩:=hf;simp only at h1 h2 h3;unfold maxLen at h2;unfold lx;simp only;show aq E _ [DV.agg [.str s.name,.int .i64 s.type,.int .i64 s.cD,p0 s.data,rS l]] _;refine eP Tryz.func166 ?_;refine I.loop (κ:=Nat) (rg 2 16) (fun k=>[(3,.d (.int .i64 k))]) (fun _=>[]) (fun k=>k≤l.length∧(l.take k).all mq=true) (fun k=>l.length - k) 0 ⟨Nat.zero_le _,rfl⟩ ?_ ?_
 ·exact sZ
 rintro k ⟨hk,aH⟩ IH;refine I.head af Tryz.func166 2000 ?_;(conv=>whnf);refine ah (fun h5=>?_) (fun h5=>?_)
 ·have ai:k<l.length:=by simpa using h5
  obtain ⟨x,hx⟩:=aD ai;have c1:=SI x (h3 x (List.mem_of_getElem? hx));refine gO Tryz.func166 ?_;refine aB (e:=x.enc) (aN hx) rfl ?_;refine gO Tryz.func166 ?_;refine ao (c1) ?_;refine gO Tryz.func166 ?_;cases hp:mq x
  ·refine aY ?_;refine gO Tryz.func166 ?_;rw [cX hx hp];rfl
  ·refine aQ ?_;refine gO Tryz.func166 ?_;refine I.back (IH (k+1) ⟨by omega,dh aH hx hp⟩ (by omega)) ?_;exact sZ
 ·have aC:l.length≤k:=by simpa using h5
  rw [List.take_of_length_le aC] at aH;rw [aH];have c2:=uq s h1;refine gO Tryz.func166 ?_;repeat' (first | with_reducible refine ao (c2) ?_ | with_reducible refine au (c2) ?_ | with_reducible refine cY ?_ | with_reducible refine cN ?_ | with_reducible refine ah (fun _=>?_) (fun _=>?_) | refine gA Tryz.func166 ?_ | refine gB ?_ | with_reducible rfl)
  all_goals (simp_all; try omega)
theorem J0 (a:dP) (hf:a.ea):aq E 89 [a.enc] (· = .bool (ph a)):=by
 obtain ⟨kd,l,cut⟩:=a;obtain ⟨h2,h3,h1⟩:=hf;simp only at h1 h2 h3;unfold maxLen at h2;unfold ph Ei;simp only;show aq E _ [DV.agg [.int .i64 kd,.sl (l.map Signed.enc),.str cut]] _;refine eP Tryz.func89 ?_;repeat' (first | with_reducible refine ao (An _ _ _) ?_ | with_reducible refine au (An _ _ _) ?_ | with_reducible refine ao (dR cut h1) ?_ | with_reducible refine au (dR cut h1) ?_ | with_reducible refine cY ?_ | with_reducible refine cN ?_ | with_reducible refine ah (fun _=>?_) (fun _=>?_) | refine gA Tryz.func89 ?_ | refine gB ?_ | with_reducible rfl)
 all_goals try (refine congrArg DV.bool ?_; simp_all; try omega)
 all_goals
  refine gO Tryz.func89 ?_;refine I.loop (κ:=Nat) ([2,3]++rg 35 14) (fun k=>[(3,.d (.int .i64 k))]) (fun _=>[]) (fun k=>k≤l.length∧(l.take k).all lx=true) (fun k=>l.length - k) 0 ⟨Nat.zero_le _,rfl⟩ ?_ ?_
  ·exact sZ
  rintro k ⟨hk,aH⟩ IH;refine I.head af Tryz.func89 2000 ?_;(conv=>whnf);refine ah (fun h5=>?_) (fun h5=>?_)
  ·have ai:k<l.length:=by simpa using h5
   obtain ⟨x,hx⟩:=aD ai;have c1:=SJ x (h3 x (List.mem_of_getElem? hx));refine gO Tryz.func89 ?_;refine aB (e:=x.enc) (aN hx) rfl ?_;refine gO Tryz.func89 ?_;refine ao (c1) ?_;refine gO Tryz.func89 ?_;cases hp:lx x
   ·refine aY ?_;refine gO Tryz.func89 ?_;rw [cX hx hp,Bool.and_false]
   ·refine aQ ?_;refine gO Tryz.func89 ?_;refine I.back (IH (k+1) ⟨by omega,dh aH hx hp⟩ (by omega)) ?_;exact sZ
  ·have aC:l.length≤k:=by simpa using h5
   rw [List.take_of_length_le aC] at aH;refine gO Tryz.func89 ?_;refine congrArg DV.bool ?_;rw [aH];simp_all;try omega
theorem uN (n a b:Int):aq E 178 [.int .i64 n,.int .i64 a,.int .i64 b] (· = .bool (decide (a≤n)&&decide (n≤b))):=by
 refine eP Tryz.func178 ?_;repeat' (first | with_reducible refine cY ?_ | with_reducible refine cN ?_ | with_reducible refine ah (fun _=>?_) (fun _=>?_) | refine gA Tryz.func178 ?_ | refine gB ?_ | with_reducible rfl)
 all_goals (simp_all; try omega)
theorem SK (g:da) (hf:g.az.length≤maxLen):aq E 305 [g.enc] (· = .bool (mq g)):=by
 refine eP Tryz.func305 ?_;repeat' (first | with_reducible refine ao (fZ _ hf) ?_ | with_reducible refine au (fZ _ hf) ?_ | with_reducible refine ao (uN _ _ _) ?_ | with_reducible refine au (uN _ _ _) ?_ | with_reducible refine cY ?_ | with_reducible refine cN ?_ | with_reducible refine ah (fun _=>?_) (fun _=>?_) | refine gA Tryz.func305 ?_ | refine gB ?_ | with_reducible rfl)
 all_goals (simp_all [mq,xd]; try omega)
theorem SL (g:da) (hf:g.az.length≤maxLen):aq E 304 [g.enc] (· = .bool (!mq g)):=by
 have c1:=SK g hf;refine eP Tryz.func304 ?_;refine ao (c1) ?_;refine gO Tryz.func304 ?_
 with_reducible rfl
theorem SM (l:List da) (hl:l.length≤maxLen) (hf:∀ g∈l,g.az.length≤maxLen):aw E 343 [] [.d (.sl (l.map da.enc)),.fn (.func 304) [] []] (fun a b=>∃ n:Int,a = .d (.int .i64 n)∧b=[]∧decide (n≥0) = !l.all mq):=by
 unfold maxLen at hl;refine aw.run af (fn:=Tryz.f343) Tryz.func343 (body:=Tryz.f343.body.getD .skip) rfl (by decide) 2000 rfl ?_;(conv=>whnf);refine I.loop (κ:=Nat) ([4,5]++rg 8 11) (fun k=>[(8,.d (.int .i64 k))]) (fun _=>[]) (fun k=>k≤l.length∧(l.take k).all mq=true) (fun k=>l.length - k) 0 ⟨Nat.zero_le _,rfl⟩ ?_ ?_
 ·exact sZ
 rintro k ⟨hk,aH⟩ IH;refine I.head af Tryz.func343 2000 ?_;(conv=>whnf);refine ah (fun h5=>?_) (fun h5=>?_)
 ·have ai:k<l.length:=by simpa using h5
  obtain ⟨x,hx⟩:=aD ai;have c1:=SL x (hf x (List.mem_of_getElem? hx));refine gO Tryz.func343 ?_;refine aB (e:=x.enc) (aN hx) rfl ?_;refine gO Tryz.func343 ?_;refine ao (c1) ?_;refine gO Tryz.func343 ?_;cases hp:mq x
  ·refine aY ?_;refine gO Tryz.func343 ?_;exact ⟨k,rfl,rfl,by rw [cX hx hp]; simp⟩
  ·refine aQ ?_;refine gO Tryz.func343 ?_;refine I.back (IH (k+1) ⟨by omega,dh aH hx hp⟩ (by omega)) ?_;exact sZ
 ·have aC:l.length≤k:=by simpa using h5
  rw [List.take_of_length_le aC] at aH;refine gO Tryz.func343 ?_;exact ⟨_,rfl,rfl,by rw [aH]; rfl⟩
theorem SN (l:List da) (hl:l.length≤maxLen) (hf:∀ g∈l,g.az.length≤maxLen):aw E 303 [] [.d (.sl (l.map da.enc)),.fn (.func 304) [] []] (fun a b=>a = .d (.bool (!l.all mq))∧b=[]):=by
 refine aw.run af (fn:=Tryz.f303) Tryz.func303 (body:=Tryz.f303.body.getD .skip) rfl (by decide) 2000 rfl ?_;(conv=>whnf);refine jK (SM l hl hf) ?_;rintro r b ⟨n,rfl,rfl,h⟩;refine gO Tryz.func303 ?_;exact ⟨by rw [h],rfl⟩
theorem SO (s:Signed) (hf:s.ea):aq E 258 [s.enc] (· = .bool (lx s)):=by
 obtain ⟨s,l⟩:=s;obtain ⟨h1,h2,h3⟩:=hf;simp only at h1 h2 h3;unfold lx;simp only;show aq E _ [DV.agg [.str s.name,.int .i64 s.type,.int .i64 s.cD,p0 s.data,rS l]] _;refine eP Tryz.func258 ?_;repeat' (first | with_reducible refine ao (uo s h1) ?_ | with_reducible refine au (uo s h1) ?_ | with_reducible refine cY ?_ | with_reducible refine cN ?_ | with_reducible refine ah (fun _=>?_) (fun _=>?_) | refine gA Tryz.func258 ?_ | refine gB ?_ | with_reducible rfl)
 all_goals try (refine congrArg DV.bool ?_; simp_all; try omega)
 refine jK (SN l h2 h3) ?_;rintro r b ⟨rfl,rfl⟩;refine gO Tryz.func258 ?_;refine congrArg DV.bool ?_;simp_all;try omega
theorem SP (s:Signed) (hf:s.ea):aq E 257 [s.enc] (· = .bool (!lx s)):=by
 have c1:=SO s hf;refine eP Tryz.func257 ?_;refine ao (c1) ?_;refine gO Tryz.func257 ?_
 with_reducible rfl
theorem SQ (l:List Signed) (hl:l.length≤maxLen) (hf:∀ s∈l,s.ea):aw E 302 [] [.d (.sl (l.map Signed.enc)),.fn (.func 257) [] []] (fun a b=>∃ n:Int,a = .d (.int .i64 n)∧b=[]∧decide (n≥0) = !l.all lx):=by
 unfold maxLen at hl;refine aw.run af (fn:=Tryz.f302) Tryz.func302 (body:=Tryz.f302.body.getD .skip) rfl (by decide) 2000 rfl ?_;(conv=>whnf);refine I.loop (κ:=Nat) ([4,5]++rg 8 11) (fun k=>[(8,.d (.int .i64 k))]) (fun _=>[]) (fun k=>k≤l.length∧(l.take k).all lx=true) (fun k=>l.length - k) 0 ⟨Nat.zero_le _,rfl⟩ ?_ ?_
 ·exact sZ
 rintro k ⟨hk,aH⟩ IH;refine I.head af Tryz.func302 2000 ?_;(conv=>whnf);refine ah (fun h5=>?_) (fun h5=>?_)
 ·have ai:k<l.length:=by simpa using h5
  obtain ⟨x,hx⟩:=aD ai;have c1:=SP x (hf x (List.mem_of_getElem? hx));refine gO Tryz.func302 ?_;refine aB (e:=x.enc) (aN hx) rfl ?_;refine gO Tryz.func302 ?_;refine ao (c1) ?_;refine gO Tryz.func302 ?_;cases hp:lx x
  ·refine aY ?_;refine gO Tryz.func302 ?_;exact ⟨k,rfl,rfl,by rw [cX hx hp]; simp⟩
  ·refine aQ ?_;refine gO Tryz.func302 ?_;refine I.back (IH (k+1) ⟨by omega,dh aH hx hp⟩ (by omega)) ?_;exact sZ
 ·have aC:l.length≤k:=by simpa using h5
  rw [List.take_of_length_le aC] at aH;refine gO Tryz.func302 ?_;exact ⟨_,rfl,rfl,by rw [aH]; rfl⟩
theorem SR (l:List Signed) (hl:l.length≤maxLen) (hf:∀ s∈l,s.ea):aw E 256 [] [.d (.sl (l.map Signed.enc)),.fn (.func 257) [] []] (fun a b=>a = .d (.bool (!l.all lx))∧b=[]):=by
 refine aw.run af (fn:=Tryz.f256) Tryz.func256 (body:=Tryz.f256.body.getD .skip) rfl (by decide) 2000 rfl ?_;(conv=>whnf);refine jK (SQ l hl hf) ?_;rintro r b ⟨n,rfl,rfl,h⟩;refine gO Tryz.func256 ?_;exact ⟨by rw [h],rfl⟩
theorem SS (a:dP) (hf:a.ea):aq E 179 [a.enc] (· = .bool (ph a)):=by
 obtain ⟨kd,l,cut⟩:=a;obtain ⟨h2,h3,h1⟩:=hf;simp only at h1 h2 h3;unfold ph Ei;simp only;show aq E _ [DV.agg [.int .i64 kd,.sl (l.map Signed.enc),.str cut]] _;refine eP Tryz.func179 ?_;repeat' (first | with_reducible refine ao (uN _ _ _) ?_ | with_reducible refine au (uN _ _ _) ?_ | with_reducible refine cY ?_ | with_reducible refine cN ?_ | with_reducible refine ah (fun _=>?_) (fun _=>?_) | refine gA Tryz.func179 ?_ | refine gB ?_ | with_reducible rfl)
 all_goals try (refine congrArg DV.bool ?_; simp_all; try omega)
 refine jK (SR l h2 h3) ?_;rintro r b ⟨rfl,rfl⟩;refine gO Tryz.func179 ?_;repeat' (first | with_reducible refine ao (fZ cut h1) ?_ | with_reducible refine au (fZ cut h1) ?_ | with_reducible refine cY ?_ | with_reducible refine cN ?_ | with_reducible refine ah (fun _=>?_) (fun _=>?_) | refine gA Tryz.func179 ?_ | refine gB ?_ | with_reducible rfl)
 all_goals
  refine congrArg DV.bool ?_;have e1:l.length≤40:=by simp_all; omega
  generalize l.all lx=b at *;cases b <;> simp_all
def Ej (q:bw) (a:dP):DV := .agg [.int .i64 2,.int .i64 0,.int .i64 1,.int .i64 1,.str q.name,.int .i64 q.type,.int .i64 a.kind,.sl (a.ab.map Signed.enc),.str a.cut]
theorem SU (q:bw) (a:dP) (hq:q.name.length≤maxLen) (hf:a.ea):aq E 105 [Ej q a] (· = .bool (gg q&&ph a)):=by
 unfold Ej gg;have c1:=SS a hf;refine eP Tryz.func105 ?_;repeat' (first | with_reducible refine ao (uN _ _ _) ?_ | with_reducible refine au (uN _ _ _) ?_ | with_reducible refine ao (fZ _ hq) ?_ | with_reducible refine au (fZ _ hq) ?_ | with_reducible refine ao (c1) ?_ | with_reducible refine au (c1) ?_ | with_reducible refine cY ?_ | with_reducible refine cN ?_ | with_reducible refine ah (fun _=>?_) (fun _=>?_) | refine gA Tryz.func105 ?_ | refine gB ?_ | with_reducible rfl)
 all_goals (refine congrArg DV.bool ?_; simp_all; try omega)
theorem Ek (q:bw) (hq:q.name.length≤maxLen):aq E 30 [q.enc] (· = .bool (gg q)):=by
 refine eP Tryz.func30 ?_;repeat' (first | with_reducible refine ao (dR _ hq) ?_ | with_reducible refine au (dR _ hq) ?_ | with_reducible refine cY ?_ | with_reducible refine cN ?_ | with_reducible refine ah (fun _=>?_) (fun _=>?_) | refine gA Tryz.func30 ?_ | refine gB ?_ | with_reducible rfl)
 all_goals (simp_all [gg]; try omega)
theorem J1 (q:bw) (hq:q.name.length≤maxLen):aq E 79 [q.enc] (· = .bool (gg q)):=by
 refine eP Tryz.func79 ?_;repeat' (first | with_reducible refine ao (fZ _ hq) ?_ | with_reducible refine au (fZ _ hq) ?_ | with_reducible refine cY ?_ | with_reducible refine cN ?_ | with_reducible refine ah (fun _=>?_) (fun _=>?_) | refine gA Tryz.func79 ?_ | refine gB ?_ | with_reducible rfl)
 all_goals (simp_all [gg]; try omega)
end Go.Proofs.YtfmdaiojokniiaaGreatDoor.P
end
section
namespace Go.Proofs.YtfmdaiojokniiaaGreatDoor.P
open Go Go.ax
theorem Kt {C H:List Text} (hA:gR H) (hP:qs H) (o8:∀ d∈H,d∈C) (uC:∀ c∈C,∃ d∈H,Nm.under c d=true) (aJ:∀ c∈C,c≠[]) :
  ∀ (rest done:List Text) (cut:Text) (k:Nat),gR (done++rest)→(∀ c∈C,c∈done++rest)→k≤H.length→(match done.getLast? with | none=>cut=[] | some p=>o7 H p cut)→(∀ m d,m<k→H[m]? = some d→∃ p,done.getLast? = some p∧bp d p≤0)→∀ (i:Nat) (n r:Text),rest[i]? = some n→(lp H k rest)[i]? = some r→o7 H n r
 | [],_,_,_,_,_,_,_,_=>fun i n r h=>by simp at h
 |n::rest,done,cut,k,pa,aH,hk,hcut,iV=>by
  have l5:∀ p,done.getLast? = some p→bp p n≤0:=fun p hp=>by
   have hl:0<done.length:=by cases done with | nil=>simp at hp | cons=>simp
   rw [List.getLast?_eq_getElem?] at hp;exact pa (done.length - 1) done.length p n (by omega) (by rw [List.getElem?_append_left (by omega)]; exact hp) (by simp)
  have zW:∀ d∈H,bp d n<0→∃ p,done.getLast? = some p∧bp d p≤0:=fun d hd o9=>by
   have:=aH d (o8 d hd);obtain ⟨i,hi⟩:=List.getElem?_of_mem this;have ov:(done++n::rest)[done.length]? = some n:=by simp
   have ai:i<done.length:=by
    rcases Nat.lt_trichotomy i done.length with h | h | h
    ·exact h
    ·subst h; rw [ov] at hi; cases hi; rw [mR] at o9; omega
    ·have h1:=pa done.length i n d h ov hi;have h2:=xh d n;omega
   rw [List.getElem?_append_left ai] at hi;obtain ⟨p,hp⟩:=aD (l:=done) (k:=done.length - 1) (by omega);refine ⟨p,by rw [List.getLast?_eq_getElem?]; exact hp,?_⟩;rcases Nat.lt_or_ge i (done.length - 1) with h | h
   ·exact pa i (done.length - 1) d p h (by rw [List.getElem?_append_left ai]; exact hi) (by rw [List.getElem?_append_left (by omega)]; exact hp)
   ·obtain rfl:i=done.length - 1:=by omega
    rw [hp] at hi; cases hi;rw [mR]; omega
  obtain ⟨f2,f3⟩:=IP hA hP (n:=n) hk (fun m d hm hd=>by
   obtain ⟨p,hp,ju⟩:=iV m d hm hd
   exact zV ju (l5 p hp))
  have ih:=Kt hA hP o8 uC aJ rest (done++[n]) (kB H n (dZ H n k)) (dZ H n k) (by simpa using pa) (by simpa using aH) (zL hk) (by simpa using f2) (fun m d hm hd=>⟨n,by simp,f3 m d hm hd⟩);intro i m r hm hr;cases i with
  |zero =>
   simp at hm;subst hm;simp only [lp,List.getElem?_cons_zero,Option.some.injEq] at hr;subst hr;exact f2
  |succ i=>exact ih i m r (by simpa using hm) (by simpa [lp] using hr)
end Go.Proofs.YtfmdaiojokniiaaGreatDoor.P
end
section
namespace Go.Proofs
open Go.Shelf
def Tryz.Uw:Go.Shelf.Ren:=⟨fun | 137=>288 | 217=>335 | 266=>352 | n=>n,fun | 9=>9 | 5=>5 | 3=>3 | n=>n,fun | n=>n⟩
theorem Tryz.Ux:Go.Proofs.Lays.n137 Tryz.prog Tryz.Uw:={
 mixed:=by kernel_rfl
 f137:=Tryz.func288.trans (congrArg some (by kernel_rfl))
 f217:=Tryz.func335.trans (congrArg some (by kernel_rfl))
 f266:=Tryz.func352.trans (congrArg some (by kernel_rfl))
 t3:=Tryz.underlying3
 a3:=Tryz.isAgg3
 z3:=Tryz.sizeOf3
 v3:=Tryz.zeroValue3
 t5:=Tryz.underlying5
 a5:=Tryz.isAgg5
 z5:=Tryz.sizeOf5
 v5:=Tryz.zeroValue5
 t9:=Tryz.underlying9
 a9:=Tryz.isAgg9
 z9:=Tryz.sizeOf9
 v9:=Tryz.zeroValue9 }
def Tryz.KI:Go.Shelf.Ren:=⟨fun | 156=>339 | 165=>353 | 166=>354 | 169=>355 | 240=>359 | 241=>360 | 276=>362 | 277=>363 | n=>n,fun | 31=>134 | 9=>9 | 3=>3 | 4=>4 | 0=>0 | 20=>20 | 72=>377 | 76=>315 | 70=>375 | 37=>115 | 75=>261 | 127=>379 | 164=>380 | 5=>5 | 80=>298 | n=>n,fun | n=>n⟩
theorem Tryz.Az:Go.Proofs.Lays.n156 Tryz.prog Tryz.KI:={
 mixed:=by kernel_rfl
 f156:=Tryz.func339.trans (congrArg some (by kernel_rfl))
 f165:=Tryz.func353.trans (congrArg some (by kernel_rfl))
 f166:=Tryz.func354.trans (congrArg some (by kernel_rfl))
 f169:=Tryz.func355.trans (congrArg some (by kernel_rfl))
 f240:=Tryz.func359.trans (congrArg some (by kernel_rfl))
 f241:=Tryz.func360.trans (congrArg some (by kernel_rfl))
 f276:=Tryz.func362.trans (congrArg some (by kernel_rfl))
 f277:=Tryz.func363.trans (congrArg some (by kernel_rfl))
 t0:=Tryz.underlying0
 a0:=Tryz.isAgg0
 z0:=Tryz.sizeOf0
 v0:=Tryz.zeroValue0
 t3:=Tryz.underlying3
 a3:=Tryz.isAgg3
 z3:=Tryz.sizeOf3
 v3:=Tryz.zeroValue3
 t4:=Tryz.underlying4
 a4:=Tryz.isAgg4
 z4:=Tryz.sizeOf4
 v4:=Tryz.zeroValue4
 t9:=Tryz.underlying9
 a9:=Tryz.isAgg9
 z9:=Tryz.sizeOf9
 v9:=Tryz.zeroValue9
 t20:=Tryz.underlying20
 a20:=Tryz.isAgg20
 z20:=Tryz.sizeOf20
 v20:=Tryz.zeroValue20
 t31:=Tryz.underlying134
 a31:=Tryz.isAgg134
 z31:=Tryz.sizeOf134
 v31:=Tryz.zeroValue134
 t37:=Tryz.underlying115
 a37:=Tryz.isAgg115
 z37:=Tryz.sizeOf115
 v37:=Tryz.zeroValue115
 t70:=Tryz.underlying375
 a70:=Tryz.isAgg375
 z70:=Tryz.sizeOf375
 v70:=Tryz.zeroValue375
 t72:=Tryz.underlying377
 a72:=Tryz.isAgg377
 z72:=Tryz.sizeOf377
 v72:=Tryz.zeroValue377
 t75:=Tryz.underlying261
 a75:=Tryz.isAgg261
 z75:=Tryz.sizeOf261
 v75:=Tryz.zeroValue261
 t76:=Tryz.underlying315
 a76:=Tryz.isAgg315
 z76:=Tryz.sizeOf315
 v76:=Tryz.zeroValue315
 t127:=Tryz.underlying379
 a127:=Tryz.isAgg379
 z127:=Tryz.sizeOf379
 v127:=Tryz.zeroValue379
 t164:=Tryz.underlying380
 a164:=Tryz.isAgg380
 z164:=Tryz.sizeOf380
 v164:=Tryz.zeroValue380 }
theorem Tryz.AA:Builder.Extra Tryz.prog Tryz.KI:={
 sizeBuilder:=by kernel_rfl
 liesBuilder:=by kernel_rfl
 t5:=Tryz.underlying5
 a5:=Tryz.isAgg5
 z5:=Tryz.sizeOf5
 v5:=Tryz.zeroValue5
 infoByte:=by kernel_rfl
 cellsByte:=by kernel_rfl
 sizeByte:=by kernel_rfl
 neB5:=by decide }
end Go.Proofs
end
