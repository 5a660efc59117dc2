/- Several texts of mine, one behind the other. Conditions: as each says. -/
import Derived.Test.YtfmdaiojokniiaaGreatDoorY25
set_option linter.unusedVariables false
set_option linter.unusedSimpArgs false
namespace Go.Proofs.YtfmdaiojokniiaaGreatDoor.P
open Go Go.ax
set_option maxRecDepth 100000
set_option maxHeartbeats 4000000
def xI (e:Entry):Bool := !(decide ((e.signed.set.data.length:Int)>20)) && !(decide ((e.signed.sigs.length:Int)>20)) && !(decide ((e.az.length:Int)>100))
def Ap (c:Cache):Bool:=(c.list.take 411).all xI&&decide (c.list.length≤410)
theorem xJ {α:Type} {P:α→Bool} {l:List α} {k n:Nat} (h:(l.take k).all P=true) (hk:¬ (k<l.length∧k<n)) (hn:k≤n):(l.take n).all P=true:=by
 by_cases e:k=n
 ·rw [← e]; exact h
 ·rw [List.take_of_length_le (by omega)] at h ⊢; exact h
theorem S3 (c:Cache) (hl:c.list.length≤maxLen):aq E 93 [c.enc] (· = .bool (Ap c)):=by
 obtain ⟨l⟩:=c;unfold Ap;simp only at hl ⊢;unfold maxLen at hl;show aq E _ [DV.agg [.sl (l.map Entry.enc)]] _;refine eP Tryz.func93 ?_;refine I.loop (κ:=Nat) (rg 2 38) (fun k=>[(3,.d (.int .i64 k))]) (fun _=>[]) (fun k=>k≤l.length∧k≤411∧(l.take k).all xI=true) (fun k=>l.length - k) 0 ⟨Nat.zero_le _,by omega,rfl⟩ ?_ ?_
 ·exact sZ
 rintro k ⟨hk,fp,aH⟩ IH;refine I.head af Tryz.func93 2000 ?_;(conv=>whnf);by_cases ai:k<l.length∧k<411
 ·obtain ⟨x,hx⟩:=aD ai.1;have no:=fun h=>cX (l:=l.take 411) (k:=k) (p:=xI) (by rw [List.getElem?_take,if_pos ai.2]; exact hx) h;have back:=fun h=>IH (k+1) ⟨by omega,by omega,dh aH hx h⟩ (by omega);have lh:xI x=(!(decide ((x.signed.set.data.length:Int)>20)) && !(decide ((x.signed.sigs.length:Int)>20)) && !(decide ((x.az.length:Int)>100))):=rfl;refine aV (by simp; omega) ?_;refine gO Tryz.func93 ?_;refine aV (by simp; omega) ?_;refine gO Tryz.func93 ?_;repeat' (first | with_reducible refine aB (aN hx) rfl ?_ | with_reducible refine cY ?_ | with_reducible refine cN ?_ | with_reducible refine ah (fun _=>?_) (fun _=>?_) | refine gA Tryz.func93 ?_ | refine gB ?_ | with_reducible rfl)
  all_goals try (rw [no (by rw [lh]; simp_all)]; rfl)
  refine gO Tryz.func93 ?_;refine I.back (back (by rw [lh]; simp_all)) ?_;exact sZ
 ·rw [xJ aH ai fp];by_cases h:k<l.length
  ·refine aV (by simpa using h) ?_;refine gO Tryz.func93 ?_;refine aW (by simp; omega) ?_;refine gO Tryz.func93 ?_;rw [Bool.true_and];refine congrArg DV.bool (decide_eq_decide.2 ?_);simp;omega
  ·refine aW (by simpa using h) ?_;refine gO Tryz.func93 ?_;refine aQ ?_;refine gO Tryz.func93 ?_;rw [Bool.true_and];refine congrArg DV.bool (decide_eq_decide.2 ?_);simp;omega
def nZ (a:dP):Bool:=a.kind==0&&(a.ab.length:Int)==0&&a.cut==[]
theorem S4 (a:dP):aq E 90 [a.enc] (· = .bool (nZ a)):=by
 unfold nZ;refine eP Tryz.func90 ?_;repeat' (first | with_reducible refine cY ?_ | with_reducible refine cN ?_ | with_reducible refine ah (fun _=>?_) (fun _=>?_) | refine gA Tryz.func90 ?_ | refine gB ?_ | with_reducible rfl)
 all_goals (refine congrArg DV.bool ?_; simp_all)
def Eo (v:ml):Bool:=decide (1≤v.kind)&&decide (v.kind≤3) && !(v.kind != 1&&decide ((v.ab.length:Int)>0)) &&
 (if v.kind=3 then gg v.q else decide (v.q=⟨[],0⟩)&&ph ⟨1,v.ab,[]⟩)
def ml.ea (v:ml):Prop:=v.q.name.length≤maxLen∧v.ab.length≤maxLen∧∀ s∈v.ab,s.ea
theorem S5 (v:ml) (hf:v.ea):aq E 128 [v.enc] (· = .bool (Eo v)):=by
 have c1:=Ek v.q hf.1;have c2:=J0 ⟨1,v.ab,[]⟩ ⟨hf.2.1,hf.2.2,Nat.zero_le _⟩;obtain ⟨kd,⟨qn,qt⟩,l⟩:=v;unfold Eo;simp only at c1 c2 ⊢;show aq E _ [DV.agg [.int .i64 kd,.str qn,.int .i64 qt,.sl (l.map Signed.enc)]] _;refine eP Tryz.func128 ?_;repeat' (first | with_reducible refine ao (c1) ?_ | with_reducible refine au (c1) ?_ | with_reducible refine ao (c2) ?_ | with_reducible refine au (c2) ?_ | with_reducible refine cY ?_ | with_reducible refine cN ?_ | with_reducible refine ah (fun _=>?_) (fun _=>?_) | refine gA Tryz.func128 ?_ | refine gB ?_ | with_reducible rfl)
 all_goals (refine congrArg DV.bool ?_; simp_all; try omega)
def Aq (at_:Int) (x:dS):Bool:=gg x.q&&x.time==at_&&decide (1≤x.addr)&&decide (x.addr≤1000000)&&(nZ x.answer||ph x.answer)
def Ar (t:fq):Bool:=t.heard.all (Aq t.time)&&gg t.q&&decide (0≤t.time)&&decide (t.time≤10000000)&&En t.cache&&decide (t.heard.length≤40)&&Eo t.result
def dS.ea (x:dS):Prop:=x.q.name.length≤maxLen∧x.answer.ea
def fq.ea (t:fq):Prop:=t.q.name.length≤maxLen∧(t.cache.list.length≤maxLen∧∀ e∈t.cache.list,e.ea)∧(t.heard.length≤maxLen∧∀ x∈t.heard,x.ea)∧t.result.ea
theorem S6 (t:fq) (hf:t.ea):aq E 52 [t.enc] (· = .bool (Ar t)):=by
 obtain ⟨h1,⟨h2,h3⟩,⟨h4,h5⟩,h6⟩:=hf;have c1:=Ek t.q h1;have c2:=S2 t.cache h2 h3;have c3:=S5 t.result h6;obtain ⟨⟨qn,qt⟩,at_,⟨cl⟩,l,⟨rk,⟨rn,rt⟩,rl⟩⟩:=t;unfold Ar;simp only at c1 c2 c3 h4 h5 ⊢;unfold maxLen at h4;show aq E _ [DV.agg [.str qn,.int .i64 qt,.int .i64 at_,.sl (cl.map Entry.enc),.sl (l.map dS.enc),.int .i64 rk,.str rn,.int .i64 rt,.sl (rl.map Signed.enc)]] _;refine eP Tryz.func52 ?_;refine I.loop (κ:=Nat) (rg 2 4++rg 7 46) (fun k=>[(3,.d (.int .i64 k))]) (fun _=>[]) (fun k=>k≤l.length∧(l.take k).all (Aq at_)=true) (fun k=>l.length - k) 0 ⟨Nat.zero_le _,rfl⟩ ?_ ?_
 ·exact sZ
 rintro k ⟨hk,aH⟩ IH;refine I.head af Tryz.func52 2000 ?_;(conv=>whnf);refine ah (fun h7=>?_) (fun h7=>?_)
 ·have ai:k<l.length:=by simpa using h7
  obtain ⟨x,hx⟩:=aD ai;have mh:=h5 x (List.mem_of_getElem? hx);have c4:=Ek x.q mh.1;have c5:=S4 x.answer;have c6:=J0 x.answer mh.2;have no:=fun h=>cX hx (p:=Aq at_) h;have back:=fun h=>IH (k+1) ⟨by omega,dh aH hx h⟩ (by omega);have lh:Aq at_ x=(gg x.q&&x.time==at_&&decide (1≤x.addr)&&decide (x.addr≤1000000)&&(nZ x.answer||ph x.answer)):=rfl;refine gO Tryz.func52 ?_;refine aB (e:=x.enc) (aN hx) rfl ?_;refine gO Tryz.func52 ?_;repeat' (first | with_reducible refine ao (c4) ?_ | with_reducible refine au (c4) ?_ | with_reducible refine ao (c5) ?_ | with_reducible refine au (c5) ?_ | with_reducible refine ao (c6) ?_ | with_reducible refine au (c6) ?_ | with_reducible refine cY ?_ | with_reducible refine cN ?_ | with_reducible refine ah (fun _=>?_) (fun _=>?_) | refine gA Tryz.func52 ?_ | refine gB ?_ | with_reducible rfl)
  all_goals try (rw [no (by rw [lh]; simp_all; try omega)]; simp; done)
  all_goals
   refine gO Tryz.func52 ?_;refine I.back (back (by rw [lh]; simp_all; try omega)) ?_;exact sZ
 ·have aC:l.length≤k:=by simpa using h7
  rw [List.take_of_length_le aC] at aH;rw [aH];refine gO Tryz.func52 ?_;repeat' (first | with_reducible refine ao (c1) ?_ | with_reducible refine au (c1) ?_ | with_reducible refine ao (c2) ?_ | with_reducible refine au (c2) ?_ | with_reducible refine ao (c3) ?_ | with_reducible refine au (c3) ?_ | with_reducible refine cY ?_ | with_reducible refine cN ?_ | with_reducible refine ah (fun _=>?_) (fun _=>?_) | refine gA Tryz.func52 ?_ | refine gB ?_ | with_reducible rfl)
  all_goals (refine congrArg DV.bool ?_; simp_all; try omega)
def xK (x:dS):Bool:=sB x.answer.ab && !(decide ((x.answer.ab.length:Int)>40)) && !(decide ((x.answer.cut.length:Int)>100)) && !(decide ((x.q.name.length:Int)>100))
def pk (t:fq):Bool:=(t.heard.take 43).all xK&&sB t.result.ab&&Ap t.cache&&decide ((t.cache.list.length:Int)≤60)&&decide ((t.heard.length:Int)≤42)&&decide ((t.q.name.length:Int)≤100)&&decide ((t.result.q.name.length:Int)≤100)
theorem J3 (t:fq) (h1:t.cache.list.length≤maxLen) (h2:t.heard.length≤maxLen) (h3:∀ x∈t.heard,x.answer.ab.length≤maxLen) (h4:t.result.ab.length≤maxLen):aq E 35 [t.enc] (· = .bool (pk t)):=by
 have c1:=S3 t.cache h1;have c2:=J2 t.result.ab h4;obtain ⟨⟨qn,qt⟩,at_,⟨cl⟩,l,⟨rk,⟨rn,rt⟩,rl⟩⟩:=t;unfold pk;simp only at c1 c2 h2 h3 ⊢;unfold maxLen at h2;show aq E _ [DV.agg [.str qn,.int .i64 qt,.int .i64 at_,.sl (cl.map Entry.enc),.sl (l.map dS.enc),.int .i64 rk,.str rn,.int .i64 rt,.sl (rl.map Signed.enc)]] _;refine eP Tryz.func35 ?_;refine I.loop (κ:=Nat) ([2,3,4]++rg 6 54) (fun k=>[(3,.d (.int .i64 k))]) (fun _=>[]) (fun k=>k≤l.length∧k≤43∧(l.take k).all xK=true) (fun k=>l.length - k) 0 ⟨Nat.zero_le _,by omega,rfl⟩ ?_ ?_
 ·exact sZ
 rintro k ⟨hk,fp,aH⟩ IH;refine I.head af Tryz.func35 2000 ?_;(conv=>whnf);by_cases ai:k<l.length∧k<43
 ·obtain ⟨x,hx⟩:=aD ai.1;have no:=fun h=>cX (l:=l.take 43) (k:=k) (p:=xK) (by rw [List.getElem?_take,if_pos ai.2]; exact hx) h;have back:=fun h=>IH (k+1) ⟨by omega,by omega,dh aH hx h⟩ (by omega);have lh:xK x=(sB x.answer.ab && !(decide ((x.answer.ab.length:Int)>40)) && !(decide ((x.answer.cut.length:Int)>100)) && !(decide ((x.q.name.length:Int)>100))):=rfl;have c3:=J2 x.answer.ab (h3 x (List.mem_of_getElem? hx));refine aV (by simp; omega) ?_;refine gO Tryz.func35 ?_;refine aV (by simp; omega) ?_;refine gO Tryz.func35 ?_;repeat' (first | with_reducible refine aB (aN hx) rfl ?_ | with_reducible refine ao (c3) ?_ | with_reducible refine au (c3) ?_ | with_reducible refine cY ?_ | with_reducible refine cN ?_ | with_reducible refine ah (fun _=>?_) (fun _=>?_) | refine gA Tryz.func35 ?_ | refine gB ?_ | with_reducible rfl)
  all_goals try (rw [no (by rw [lh]; simp_all)]; simp; done)
  refine gO Tryz.func35 ?_;refine I.back (back (by rw [lh]; simp_all)) ?_;exact sZ
 ·rw [xJ aH ai fp];by_cases h:k<l.length
  ·refine aV (by simpa using h) ?_;refine gO Tryz.func35 ?_;refine aW (by simp; omega) ?_;refine gO Tryz.func35 ?_;repeat' (first | with_reducible refine ao (c1) ?_ | with_reducible refine au (c1) ?_ | with_reducible refine ao (c2) ?_ | with_reducible refine au (c2) ?_ | with_reducible refine cY ?_ | with_reducible refine cN ?_ | with_reducible refine ah (fun _=>?_) (fun _=>?_) | refine gA Tryz.func35 ?_ | refine gB ?_ | with_reducible rfl)
   all_goals (refine congrArg DV.bool ?_; simp_all; try omega)
  ·refine aW (by simpa using h) ?_;refine gO Tryz.func35 ?_;refine aQ ?_;refine gO Tryz.func35 ?_;repeat' (first | with_reducible refine ao (c1) ?_ | with_reducible refine au (c1) ?_ | with_reducible refine ao (c2) ?_ | with_reducible refine au (c2) ?_ | with_reducible refine cY ?_ | with_reducible refine cN ?_ | with_reducible refine ah (fun _=>?_) (fun _=>?_) | refine gA Tryz.func35 ?_ | refine gB ?_ | with_reducible rfl)
   all_goals (refine congrArg DV.bool ?_; simp_all; try omega)
end Go.Proofs.YtfmdaiojokniiaaGreatDoor.P
