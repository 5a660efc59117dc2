/- Several texts of mine, one behind the other. Conditions: as each says. -/
import Derived.Test.YtfmdaiojokniiaaGreatDoorV14
import Derived.Test.YtfmdaiojokniiaaGreatDoorV18
set_option linter.unusedVariables false
set_option linter.unusedSimpArgs false
namespace Go.Proofs.YtfmdaiojokniiaaGreatDoor.P
open Go Go.aw
set_option maxRecDepth 100000
set_option maxHeartbeats 4000000
def gr (q:bj):Bool:=Nm.valid q.name&&(decide (1≤q.type)&&decide (q.type≤8))
def mO (g:cX):Bool:=Nm.valid g.az&&(decide (1≤g.key)&&decide (g.key≤1000000))&&(decide (1≤g.mz)&&decide (g.mz≤3))&&xA g.bM g.upto
def lW (s:Signed):Bool:=s.sigs.all mO&&ez s.set&&decide (s.sigs.length≤6)
def EL (a:dC):Bool:=if a.kind=4 then Nm.valid a.cut else a.cut==[]
def vp (a:dC):Bool:=(decide (1≤a.kind)&&decide (a.kind≤7))&&decide (a.ab.length≤40)&&EL a&&a.ab.all lW
def Signed.ep (s:Signed):Prop:=s.set.Fits∧s.sigs.length≤maxLen∧∀ g∈s.sigs,g.az.length≤maxLen
def dC.ep (a:dC):Prop:=a.ab.length≤maxLen∧(∀ s∈a.ab,s.ep)∧a.cut.length≤maxLen
theorem AK (n a b:Int):aq E 165 [.int .i64 n,.int .i64 a,.int .i64 b] (· = .bool (decide (a≤n)&&decide (n≤b))):=by
 refine eP Tryz.func165 ?_;repeat' (first | with_reducible refine cY ?_ | with_reducible refine cN ?_ | with_reducible refine ai (fun _=>?_) (fun _=>?_) | refine gA Tryz.func165 ?_ | refine gB ?_ | with_reducible rfl)
 all_goals (simp_all; try omega)
theorem Th (g:cX) (hf:g.az.length≤maxLen):aq E 243 [g.enc] (· = .bool (mO g)):=by
 refine eP Tryz.func243 ?_;repeat' (first | with_reducible refine ao (ey _ hf) ?_ | with_reducible refine ay (ey _ hf) ?_ | with_reducible refine ao (AK _ _ _) ?_ | with_reducible refine ay (AK _ _ _) ?_ | with_reducible refine ao (IA _ _) ?_ | with_reducible refine ay (IA _ _) ?_ | with_reducible refine cY ?_ | with_reducible refine cN ?_ | with_reducible refine ai (fun _=>?_) (fun _=>?_) | refine gA Tryz.func243 ?_ | refine gB ?_ | with_reducible rfl)
 all_goals (simp_all [mO]; try omega)
theorem Ti (s:Signed) (hf:s.ep):aq E 166 [s.enc] (· = .bool (lW s)):=by
 obtain ⟨s,l⟩:=s;obtain ⟨h1,h2,h3⟩:=hf;simp only at h1 h2 h3;unfold maxLen at h2;unfold lW;simp only;show aq E _ [DV.agg [.str s.name,.int .i64 s.type,.int .i64 s.cD,sx s.data,uE l]] _;refine eP Tryz.func166 ?_;refine I.loop (κ:=Nat) (rg 2 16) (fun k=>[(3,.d (.int .i64 k))]) (fun _=>[]) (fun k=>k≤l.length∧(l.take k).all mO=true) (fun k=>l.length - k) 0 ⟨Nat.zero_le _,rfl⟩ ?_ ?_
 ·exact sZ
 rintro k ⟨hk,aW⟩ IH;refine I.head af Tryz.func166 2000 ?_;(conv=>whnf);refine ai (fun h5=>?_) (fun h5=>?_)
 ·have aj:k<l.length:=by simpa using h5
  obtain ⟨x,hx⟩:=aL aj;have c1:=Th x (h3 x (List.mem_of_getElem? hx));refine gO Tryz.func166 ?_;refine aE (e:=x.enc) (aX hx) rfl ?_;refine gO Tryz.func166 ?_;refine ao (c1) ?_;refine gO Tryz.func166 ?_;cases hp:mO x
  ·refine aV ?_;refine gO Tryz.func166 ?_;rw [eX hx hp];rfl
  ·refine aQ ?_;refine gO Tryz.func166 ?_;refine I.back (IH (k+1) ⟨by omega,fm aW hx hp⟩ (by omega)) ?_;exact sZ
 ·have aC:l.length≤k:=by simpa using h5
  rw [List.take_of_length_le aC] at aW;rw [aW];have c2:=xB s h1;refine gO Tryz.func166 ?_;repeat' (first | with_reducible refine ao (c2) ?_ | with_reducible refine ay (c2) ?_ | with_reducible refine cY ?_ | with_reducible refine cN ?_ | with_reducible refine ai (fun _=>?_) (fun _=>?_) | refine gA Tryz.func166 ?_ | refine gB ?_ | with_reducible rfl)
  all_goals (simp_all; try omega)
theorem Tj (a:dC) (hf:a.ep):aq E 89 [a.enc] (· = .bool (vp a)):=by
 obtain ⟨kd,l,cut⟩:=a;obtain ⟨h2,h3,h1⟩:=hf;simp only at h1 h2 h3;unfold maxLen at h2;unfold vp EL;simp only;show aq E _ [DV.agg [.int .i64 kd,.sl (l.map Signed.enc),.str cut]] _;refine eP Tryz.func89 ?_;repeat' (first | with_reducible refine ao (AK _ _ _) ?_ | with_reducible refine ay (AK _ _ _) ?_ | with_reducible refine ao (ey cut h1) ?_ | with_reducible refine ay (ey cut h1) ?_ | with_reducible refine cY ?_ | with_reducible refine cN ?_ | with_reducible refine ai (fun _=>?_) (fun _=>?_) | refine gA Tryz.func89 ?_ | refine gB ?_ | with_reducible rfl)
 all_goals try (refine congrArg DV.bool ?_; simp_all; try omega)
 all_goals
  refine gO Tryz.func89 ?_;refine I.loop (κ:=Nat) ([2,3]++rg 35 14) (fun k=>[(3,.d (.int .i64 k))]) (fun _=>[]) (fun k=>k≤l.length∧(l.take k).all lW=true) (fun k=>l.length - k) 0 ⟨Nat.zero_le _,rfl⟩ ?_ ?_
  ·exact sZ
  rintro k ⟨hk,aW⟩ IH;refine I.head af Tryz.func89 2000 ?_;(conv=>whnf);refine ai (fun h5=>?_) (fun h5=>?_)
  ·have aj:k<l.length:=by simpa using h5
   obtain ⟨x,hx⟩:=aL aj;have c1:=Ti x (h3 x (List.mem_of_getElem? hx));refine gO Tryz.func89 ?_;refine aE (e:=x.enc) (aX hx) rfl ?_;refine gO Tryz.func89 ?_;refine ao (c1) ?_;refine gO Tryz.func89 ?_;cases hp:lW x
   ·refine aV ?_;refine gO Tryz.func89 ?_;rw [eX hx hp,Bool.and_false]
   ·refine aQ ?_;refine gO Tryz.func89 ?_;refine I.back (IH (k+1) ⟨by omega,fm aW hx hp⟩ (by omega)) ?_;exact sZ
  ·have aC:l.length≤k:=by simpa using h5
   rw [List.take_of_length_le aC] at aW;refine gO Tryz.func89 ?_;refine congrArg DV.bool ?_;rw [aW];simp_all;try omega
theorem vq (n a b:Int):aq E 178 [.int .i64 n,.int .i64 a,.int .i64 b] (· = .bool (decide (a≤n)&&decide (n≤b))):=by
 refine eP Tryz.func178 ?_;repeat' (first | with_reducible refine cY ?_ | with_reducible refine cN ?_ | with_reducible refine ai (fun _=>?_) (fun _=>?_) | refine gA Tryz.func178 ?_ | refine gB ?_ | with_reducible rfl)
 all_goals (simp_all; try omega)
theorem Tk (g:cX) (hf:g.az.length≤maxLen):aq E 305 [g.enc] (· = .bool (mO g)):=by
 refine eP Tryz.func305 ?_;repeat' (first | with_reducible refine ao (gm _ hf) ?_ | with_reducible refine ay (gm _ hf) ?_ | with_reducible refine ao (vq _ _ _) ?_ | with_reducible refine ay (vq _ _ _) ?_ | with_reducible refine cY ?_ | with_reducible refine cN ?_ | with_reducible refine ai (fun _=>?_) (fun _=>?_) | refine gA Tryz.func305 ?_ | refine gB ?_ | with_reducible rfl)
 all_goals (simp_all [mO,xA]; try omega)
theorem Tl (g:cX) (hf:g.az.length≤maxLen):aq E 304 [g.enc] (· = .bool (!mO g)):=by
 have c1:=Tk g hf;refine eP Tryz.func304 ?_;refine ao (c1) ?_;refine gO Tryz.func304 ?_
 with_reducible rfl
theorem Tm (l:List cX) (hl:l.length≤maxLen) (hf:∀ g∈l,g.az.length≤maxLen):au E 343 [] [.d (.sl (l.map cX.enc)),.fn (.func 304) [] []] (fun a b=>∃ n:Int,a = .d (.int .i64 n)∧b=[]∧decide (n≥0) = !l.all mO):=by
 unfold maxLen at hl;refine au.run af (fn:=Tryz.f343) Tryz.func343 (body:=Tryz.f343.body.getD .skip) rfl (by decide) 2000 rfl ?_;(conv=>whnf);refine I.loop (κ:=Nat) ([4,5]++rg 8 11) (fun k=>[(8,.d (.int .i64 k))]) (fun _=>[]) (fun k=>k≤l.length∧(l.take k).all mO=true) (fun k=>l.length - k) 0 ⟨Nat.zero_le _,rfl⟩ ?_ ?_
 ·exact sZ
 rintro k ⟨hk,aW⟩ IH;refine I.head af Tryz.func343 2000 ?_;(conv=>whnf);refine ai (fun h5=>?_) (fun h5=>?_)
 ·have aj:k<l.length:=by simpa using h5
  obtain ⟨x,hx⟩:=aL aj;have c1:=Tl x (hf x (List.mem_of_getElem? hx));refine gO Tryz.func343 ?_;refine aE (e:=x.enc) (aX hx) rfl ?_;refine gO Tryz.func343 ?_;refine ao (c1) ?_;refine gO Tryz.func343 ?_;cases hp:mO x
  ·refine aV ?_;refine gO Tryz.func343 ?_;exact ⟨k,rfl,rfl,by rw [eX hx hp]; simp⟩
  ·refine aQ ?_;refine gO Tryz.func343 ?_;refine I.back (IH (k+1) ⟨by omega,fm aW hx hp⟩ (by omega)) ?_;exact sZ
 ·have aC:l.length≤k:=by simpa using h5
  rw [List.take_of_length_le aC] at aW;refine gO Tryz.func343 ?_;exact ⟨_,rfl,rfl,by rw [aW]; rfl⟩
theorem Tn (l:List cX) (hl:l.length≤maxLen) (hf:∀ g∈l,g.az.length≤maxLen):au E 303 [] [.d (.sl (l.map cX.enc)),.fn (.func 304) [] []] (fun a b=>a = .d (.bool (!l.all mO))∧b=[]):=by
 refine au.run af (fn:=Tryz.f303) Tryz.func303 (body:=Tryz.f303.body.getD .skip) rfl (by decide) 2000 rfl ?_;(conv=>whnf);refine jx (Tm l hl hf) ?_;rintro r b ⟨n,rfl,rfl,h⟩;refine gO Tryz.func303 ?_;exact ⟨by rw [h],rfl⟩
theorem To (s:Signed) (hf:s.ep):aq E 258 [s.enc] (· = .bool (lW s)):=by
 obtain ⟨s,l⟩:=s;obtain ⟨h1,h2,h3⟩:=hf;simp only at h1 h2 h3;unfold lW;simp only;show aq E _ [DV.agg [.str s.name,.int .i64 s.type,.int .i64 s.cD,sx s.data,uE l]] _;refine eP Tryz.func258 ?_;repeat' (first | with_reducible refine ao (uM s h1) ?_ | with_reducible refine ay (uM s h1) ?_ | with_reducible refine cY ?_ | with_reducible refine cN ?_ | with_reducible refine ai (fun _=>?_) (fun _=>?_) | refine gA Tryz.func258 ?_ | refine gB ?_ | with_reducible rfl)
 all_goals try (refine congrArg DV.bool ?_; simp_all; try omega)
 refine jx (Tn l h2 h3) ?_;rintro r b ⟨rfl,rfl⟩;refine gO Tryz.func258 ?_;refine congrArg DV.bool ?_;simp_all;try omega
theorem Tp (s:Signed) (hf:s.ep):aq E 257 [s.enc] (· = .bool (!lW s)):=by
 have c1:=To s hf;refine eP Tryz.func257 ?_;refine ao (c1) ?_;refine gO Tryz.func257 ?_
 with_reducible rfl
theorem Tq (l:List Signed) (hl:l.length≤maxLen) (hf:∀ s∈l,s.ep):au E 302 [] [.d (.sl (l.map Signed.enc)),.fn (.func 257) [] []] (fun a b=>∃ n:Int,a = .d (.int .i64 n)∧b=[]∧decide (n≥0) = !l.all lW):=by
 unfold maxLen at hl;refine au.run af (fn:=Tryz.f302) Tryz.func302 (body:=Tryz.f302.body.getD .skip) rfl (by decide) 2000 rfl ?_;(conv=>whnf);refine I.loop (κ:=Nat) ([4,5]++rg 8 11) (fun k=>[(8,.d (.int .i64 k))]) (fun _=>[]) (fun k=>k≤l.length∧(l.take k).all lW=true) (fun k=>l.length - k) 0 ⟨Nat.zero_le _,rfl⟩ ?_ ?_
 ·exact sZ
 rintro k ⟨hk,aW⟩ IH;refine I.head af Tryz.func302 2000 ?_;(conv=>whnf);refine ai (fun h5=>?_) (fun h5=>?_)
 ·have aj:k<l.length:=by simpa using h5
  obtain ⟨x,hx⟩:=aL aj;have c1:=Tp x (hf x (List.mem_of_getElem? hx));refine gO Tryz.func302 ?_;refine aE (e:=x.enc) (aX hx) rfl ?_;refine gO Tryz.func302 ?_;refine ao (c1) ?_;refine gO Tryz.func302 ?_;cases hp:lW x
  ·refine aV ?_;refine gO Tryz.func302 ?_;exact ⟨k,rfl,rfl,by rw [eX hx hp]; simp⟩
  ·refine aQ ?_;refine gO Tryz.func302 ?_;refine I.back (IH (k+1) ⟨by omega,fm aW hx hp⟩ (by omega)) ?_;exact sZ
 ·have aC:l.length≤k:=by simpa using h5
  rw [List.take_of_length_le aC] at aW;refine gO Tryz.func302 ?_;exact ⟨_,rfl,rfl,by rw [aW]; rfl⟩
theorem Tr (l:List Signed) (hl:l.length≤maxLen) (hf:∀ s∈l,s.ep):au E 256 [] [.d (.sl (l.map Signed.enc)),.fn (.func 257) [] []] (fun a b=>a = .d (.bool (!l.all lW))∧b=[]):=by
 refine au.run af (fn:=Tryz.f256) Tryz.func256 (body:=Tryz.f256.body.getD .skip) rfl (by decide) 2000 rfl ?_;(conv=>whnf);refine jx (Tq l hl hf) ?_;rintro r b ⟨n,rfl,rfl,h⟩;refine gO Tryz.func256 ?_;exact ⟨by rw [h],rfl⟩
theorem Ts (a:dC) (hf:a.ep):aq E 179 [a.enc] (· = .bool (vp a)):=by
 obtain ⟨kd,l,cut⟩:=a;obtain ⟨h2,h3,h1⟩:=hf;simp only at h1 h2 h3;unfold vp EL;simp only;show aq E _ [DV.agg [.int .i64 kd,.sl (l.map Signed.enc),.str cut]] _;refine eP Tryz.func179 ?_;repeat' (first | with_reducible refine ao (vq _ _ _) ?_ | with_reducible refine ay (vq _ _ _) ?_ | with_reducible refine cY ?_ | with_reducible refine cN ?_ | with_reducible refine ai (fun _=>?_) (fun _=>?_) | refine gA Tryz.func179 ?_ | refine gB ?_ | with_reducible rfl)
 all_goals try (refine congrArg DV.bool ?_; simp_all; try omega)
 refine jx (Tr l h2 h3) ?_;rintro r b ⟨rfl,rfl⟩;refine gO Tryz.func179 ?_;repeat' (first | with_reducible refine ao (gm cut h1) ?_ | with_reducible refine ay (gm cut h1) ?_ | with_reducible refine cY ?_ | with_reducible refine cN ?_ | with_reducible refine ai (fun _=>?_) (fun _=>?_) | refine gA Tryz.func179 ?_ | refine gB ?_ | with_reducible rfl)
 all_goals
  refine congrArg DV.bool ?_;have e1:l.length≤40:=by simp_all; omega
  generalize l.all lW=b at *;cases b <;> simp_all
def EM (q:bj) (a:dC):DV := .agg [.int .i64 2,.int .i64 0,.int .i64 1,.int .i64 1,.str q.name,.int .i64 q.type,.int .i64 a.kind,.sl (a.ab.map Signed.enc),.str a.cut]
theorem Tt (q:bj) (a:dC) (hq:q.name.length≤maxLen) (hf:a.ep):aq E 105 [EM q a] (· = .bool (gr q&&vp a)):=by
 unfold EM gr;have c1:=Ts a hf;refine eP Tryz.func105 ?_;repeat' (first | with_reducible refine ao (vq _ _ _) ?_ | with_reducible refine ay (vq _ _ _) ?_ | with_reducible refine ao (gm _ hq) ?_ | with_reducible refine ay (gm _ hq) ?_ | with_reducible refine ao (c1) ?_ | with_reducible refine ay (c1) ?_ | with_reducible refine cY ?_ | with_reducible refine cN ?_ | with_reducible refine ai (fun _=>?_) (fun _=>?_) | refine gA Tryz.func105 ?_ | refine gB ?_ | with_reducible rfl)
 all_goals (refine congrArg DV.bool ?_; simp_all; try omega)
theorem Ku (q:bj) (hq:q.name.length≤maxLen):aq E 30 [q.enc] (· = .bool (gr q)):=by
 refine eP Tryz.func30 ?_;repeat' (first | with_reducible refine ao (ey _ hq) ?_ | with_reducible refine ay (ey _ hq) ?_ | with_reducible refine cY ?_ | with_reducible refine cN ?_ | with_reducible refine ai (fun _=>?_) (fun _=>?_) | refine gA Tryz.func30 ?_ | refine gB ?_ | with_reducible rfl)
 all_goals (simp_all [gr]; try omega)
theorem EN (q:bj) (hq:q.name.length≤maxLen):aq E 79 [q.enc] (· = .bool (gr q)):=by
 refine eP Tryz.func79 ?_;repeat' (first | with_reducible refine ao (gm _ hq) ?_ | with_reducible refine ay (gm _ hq) ?_ | with_reducible refine cY ?_ | with_reducible refine cN ?_ | with_reducible refine ai (fun _=>?_) (fun _=>?_) | refine gA Tryz.func79 ?_ | refine gB ?_ | with_reducible rfl)
 all_goals (simp_all [gr]; try omega)
end Go.Proofs.YtfmdaiojokniiaaGreatDoor.P
