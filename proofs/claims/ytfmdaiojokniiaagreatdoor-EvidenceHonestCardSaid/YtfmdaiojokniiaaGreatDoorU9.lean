/- Lemmas of mine. Conditions: as stated. -/
import Derived.Test.YtfmdaiojokniiaaGreatDoorU7
import Derived.Test.YtfmdaiojokniiaaGreatDoorU8
import Derived.Shelf.Small.Strs
import Derived.Shelf.Strings.OnBuilder
set_option linter.unusedVariables false
set_option linter.unusedSimpArgs false
section
namespace Go.Proofs.YtfmdaiojokniiaaGreatDoor.P
open Go Go.ay
set_option maxRecDepth 100000
set_option maxHeartbeats 4000000
def fF(q:bB):Bool:=Nm.valid q.name&&(decide (1<=q.type)&&decide (q.type<=8))
def mv(g:da):Bool:=Nm.valid g.aw&&(decide (1<=g.key)&&decide (g.key<=1000000))&&(decide (1<=g.jV)&&decide (g.jV<=3))&&zS g.cu g.upto
def lL(s:Signed):Bool:=s.sigs.all mv&&ef s.set&&decide (s.sigs.length<=6)
def Cz(a:dR):Bool:=if a.kind=4 then Nm.valid a.cut else a.cut==[]
def nt(a:dR):Bool:=(decide (1<=a.kind)&&decide (a.kind<=7))&&decide (a.ae.length<=40)&&Cz a&&a.ae.all lL
def Signed.cT(s:Signed):Prop:=s.set.Fits/\s.sigs.length<=maxLen/\∀ g∈s.sigs,g.aw.length<=maxLen
def dR.cT(a:dR):Prop:=a.ae.length<=maxLen/\(∀ s∈a.ae,s.cT)/\a.cut.length<=maxLen
theorem CA(n a b:Int):aq E 165 [.int .i64 n,.int .i64 a,.int .i64 b] (· = .bool (decide (a<=n)&&decide (n<=b))):=by
 refine eP Tryz.func165 ?_;repeat' (first|with_reducible(first|refine cY ?_|refine cN ?_|refine ai (fun _=>?_) (fun _=>?_))|refine gA Tryz.func165 ?_|refine gB ?_|with_reducible rfl)
 all_goals (simp_all;try omega)
theorem Un(g:da)(hf:g.aw.length<=maxLen):aq E 243 [g.enc] (· = .bool (mv g)):=by
 refine eP Tryz.func243 ?_;repeat' (first|with_reducible(first|refine ao (eG _ hf) ?_|refine au (eG _ hf) ?_|refine ao (CA _ _ _) ?_|refine au (CA _ _ _) ?_|refine ao (Lk _ _) ?_|refine au (Lk _ _) ?_|refine cY ?_|refine cN ?_|refine ai (fun _=>?_) (fun _=>?_))|refine gA Tryz.func243 ?_|refine gB ?_|with_reducible rfl)
 all_goals (simp_all[mv];try omega)
theorem Uo(s:Signed)(hf:s.cT):aq E 166 [s.enc] (· = .bool (lL s)):=by
 obtain⟨s,l⟩:=s;obtain⟨h1,h2,h3⟩:=hf;simp only at h1 h2 h3;unfold maxLen at h2;unfold lL;simp only;show aq E _ [DV.agg [.str s.name,.int .i64 s.type,.int .i64 s.cy,pE s.data,pF l]] _;refine eP F166 ?_;refine I.loop (κ:=Nat) (rg 2 16) (fun k=>[(3,.d (.int .i64 k))]) (fun _=>[]) (fun k=>k<=l.length/\(l.take k).all mv=true) (fun k=>l.length-k) 0 ⟨Nat.zero_le _,rfl⟩ ?_ ?_
 ·exact sZ
 rintro k ⟨hk,aJ⟩ IH;refine I.head ab F166 2000 ?_;(conv=>whnf);refine ai (fun h5=>?_) (fun h5=>?_)
 ·have ah:k<l.length:=by simpa using h5
  obtain⟨x,hx⟩:=aG ah;have c1:=Un x (h3 x (List.mem_of_getElem? hx));refine gO F166 ?_;refine aB (e:=x.enc) (aN hx) rfl ?_;refine gO F166 ?_;refine ao (c1) ?_;refine gO F166 ?_;cases hp:mv x
  ·refine bj ?_;refine gO F166 ?_;rw[di hx hp];rfl
  ·refine aR ?_;refine gO F166 ?_;refine I.back (IH (k+1) ⟨by omega,dw aJ hx hp⟩ (by omega)) ?_;exact sZ
 ·have aA:l.length<=k:=by simpa using h5
  rw[List.take_of_length_le aA]at aJ;rw[aJ];have c2:=xu s h1;refine gO F166 ?_;repeat' (first|with_reducible(first|refine ao (c2) ?_|refine au (c2) ?_|refine cY ?_|refine cN ?_|refine ai (fun _=>?_) (fun _=>?_))|refine gA F166 ?_|refine gB ?_|with_reducible rfl)
  all_goals (simp_all;try omega)
theorem LD(a:dR)(hf:a.cT):aq E 89 [a.enc] (· = .bool (nt a)):=by
 obtain⟨kd,l,cut⟩:=a;obtain⟨h2,h3,h1⟩:=hf;simp only at h1 h2 h3;unfold maxLen at h2;unfold nt Cz;simp only;show aq E _ [DV.agg [.int .i64 kd,.sl (l.map Signed.enc),.str cut]] _;refine eP F89 ?_;repeat' (first|with_reducible(first|refine ao (CA _ _ _) ?_|refine au (CA _ _ _) ?_|refine ao (eG cut h1) ?_|refine au (eG cut h1) ?_|refine cY ?_|refine cN ?_|refine ai (fun _=>?_) (fun _=>?_))|refine gA F89 ?_|refine gB ?_|with_reducible rfl)
 all_goals try (refine congrArg DV.bool ?_;simp_all;try omega)
 all_goals
  refine gO F89 ?_;refine I.loop (κ:=Nat) ([2,3]++rg 35 14) (fun k=>[(3,.d (.int .i64 k))]) (fun _=>[]) (fun k=>k<=l.length/\(l.take k).all lL=true) (fun k=>l.length-k) 0 ⟨Nat.zero_le _,rfl⟩ ?_ ?_
  ·exact sZ
  rintro k ⟨hk,aJ⟩ IH;refine I.head ab F89 2000 ?_;(conv=>whnf);refine ai (fun h5=>?_) (fun h5=>?_)
  ·have ah:k<l.length:=by simpa using h5
   obtain⟨x,hx⟩:=aG ah;have c1:=Uo x (h3 x (List.mem_of_getElem? hx));refine gO F89 ?_;refine aB (e:=x.enc) (aN hx) rfl ?_;refine gO F89 ?_;refine ao (c1) ?_;refine gO F89 ?_;cases hp:lL x
   ·refine bj ?_;refine gO F89 ?_;rw[di hx hp,Bool.and_false]
   ·refine aR ?_;refine gO F89 ?_;refine I.back (IH (k+1) ⟨by omega,dw aJ hx hp⟩ (by omega)) ?_;exact sZ
  ·have aA:l.length<=k:=by simpa using h5
   rw[List.take_of_length_le aA]at aJ;refine gO F89 ?_;refine congrArg DV.bool ?_;rw[aJ];simp_all;try omega
theorem xv(n a b:Int):aq E 178 [.int .i64 n,.int .i64 a,.int .i64 b] (· = .bool (decide (a<=n)&&decide (n<=b))):=by
 refine eP Tryz.func178 ?_;repeat' (first|with_reducible(first|refine cY ?_|refine cN ?_|refine ai (fun _=>?_) (fun _=>?_))|refine gA Tryz.func178 ?_|refine gB ?_|with_reducible rfl)
 all_goals (simp_all;try omega)
theorem Up(g:da)(hf:g.aw.length<=maxLen):aq E 305 [g.enc] (· = .bool (mv g)):=by
 refine eP Tryz.func305 ?_;repeat' (first|with_reducible(first|refine ao (gG _ hf) ?_|refine au (gG _ hf) ?_|refine ao (xv _ _ _) ?_|refine au (xv _ _ _) ?_|refine cY ?_|refine cN ?_|refine ai (fun _=>?_) (fun _=>?_))|refine gA Tryz.func305 ?_|refine gB ?_|with_reducible rfl)
 all_goals (simp_all[mv,zS];try omega)
theorem Uq(g:da)(hf:g.aw.length<=maxLen):aq E 304 [g.enc] (· = .bool (!mv g)):=by
 have c1:=Up g hf;refine eP Tryz.func304 ?_;refine ao (c1) ?_;refine gO Tryz.func304 ?_
 with_reducible rfl
theorem Ur(l:List da)(hl:l.length<=maxLen)(hf:∀ g∈l,g.aw.length<=maxLen):ar E 343 [] [.d (.sl (l.map da.enc)),.fn (.func 304) [] []] (fun a b=>∃ n:Int,a=.d (.int .i64 n)/\b=[]/\decide (n>=0) = !l.all mv):=by
 unfold maxLen at hl;refine ar.run ab (fn:=Tryz.f343) Tryz.func343 (body:=Tryz.f343.body.getD .skip) rfl (by decide) 2000 rfl ?_;(conv=>whnf);refine I.loop (κ:=Nat) ([4,5]++rg 8 11) (fun k=>[(8,.d (.int .i64 k))]) (fun _=>[]) (fun k=>k<=l.length/\(l.take k).all mv=true) (fun k=>l.length-k) 0 ⟨Nat.zero_le _,rfl⟩ ?_ ?_
 ·exact sZ
 rintro k ⟨hk,aJ⟩ IH;refine I.head ab F343 2000 ?_;(conv=>whnf);refine ai (fun h5=>?_) (fun h5=>?_)
 ·have ah:k<l.length:=by simpa using h5
  obtain⟨x,hx⟩:=aG ah;have c1:=Uq x (hf x (List.mem_of_getElem? hx));refine gO F343 ?_;refine aB (e:=x.enc) (aN hx) rfl ?_;refine gO F343 ?_;refine ao (c1) ?_;refine gO F343 ?_;cases hp:mv x
  ·refine bj ?_;refine gO F343 ?_;exact⟨k,rfl,rfl,by rw[di hx hp];simp⟩
  ·refine aR ?_;refine gO F343 ?_;refine I.back (IH (k+1) ⟨by omega,dw aJ hx hp⟩ (by omega)) ?_;exact sZ
 ·have aA:l.length<=k:=by simpa using h5
  rw[List.take_of_length_le aA]at aJ;refine gO F343 ?_;exact⟨_,rfl,rfl,by rw[aJ];rfl⟩
theorem Us(l:List da)(hl:l.length<=maxLen)(hf:∀ g∈l,g.aw.length<=maxLen):ar E 303 [] [.d (.sl (l.map da.enc)),.fn (.func 304) [] []] (fun a b=>a=.d (.bool (!l.all mv))/\b=[]):=by
 refine ar.run ab (fn:=Tryz.f303) Tryz.func303 (body:=Tryz.f303.body.getD .skip) rfl (by decide) 2000 rfl ?_;(conv=>whnf);refine jv (Ur l hl hf) ?_;rintro r b ⟨n,rfl,rfl,h⟩;refine gO Tryz.func303 ?_;exact⟨by rw[h],rfl⟩
theorem Ut(s:Signed)(hf:s.cT):aq E 258 [s.enc] (· = .bool (lL s)):=by
 obtain⟨s,l⟩:=s;obtain⟨h1,h2,h3⟩:=hf;simp only at h1 h2 h3;unfold lL;simp only;show aq E _ [DV.agg [.str s.name,.int .i64 s.type,.int .i64 s.cy,pE s.data,pF l]] _;refine eP Tryz.func258 ?_;repeat' (first|with_reducible(first|refine ao (sU s h1) ?_|refine au (sU s h1) ?_|refine cY ?_|refine cN ?_|refine ai (fun _=>?_) (fun _=>?_))|refine gA Tryz.func258 ?_|refine gB ?_|with_reducible rfl)
 all_goals try (refine congrArg DV.bool ?_;simp_all;try omega)
 refine jv (Us l h2 h3) ?_;rintro r b ⟨rfl,rfl⟩;refine gO Tryz.func258 ?_;refine congrArg DV.bool ?_;simp_all;try omega
theorem Uu(s:Signed)(hf:s.cT):aq E 257 [s.enc] (· = .bool (!lL s)):=by
 have c1:=Ut s hf;refine eP Tryz.func257 ?_;refine ao (c1) ?_;refine gO Tryz.func257 ?_
 with_reducible rfl
theorem Uv(l:List Signed)(hl:l.length<=maxLen)(hf:∀ s∈l,s.cT):ar E 302 [] [.d (.sl (l.map Signed.enc)),.fn (.func 257) [] []] (fun a b=>∃ n:Int,a=.d (.int .i64 n)/\b=[]/\decide (n>=0) = !l.all lL):=by
 unfold maxLen at hl;refine ar.run ab (fn:=Tryz.f302) Tryz.func302 (body:=Tryz.f302.body.getD .skip) rfl (by decide) 2000 rfl ?_;(conv=>whnf);refine I.loop (κ:=Nat) ([4,5]++rg 8 11) (fun k=>[(8,.d (.int .i64 k))]) (fun _=>[]) (fun k=>k<=l.length/\(l.take k).all lL=true) (fun k=>l.length-k) 0 ⟨Nat.zero_le _,rfl⟩ ?_ ?_
 ·exact sZ
 rintro k ⟨hk,aJ⟩ IH;refine I.head ab F302 2000 ?_;(conv=>whnf);refine ai (fun h5=>?_) (fun h5=>?_)
 ·have ah:k<l.length:=by simpa using h5
  obtain⟨x,hx⟩:=aG ah;have c1:=Uu x (hf x (List.mem_of_getElem? hx));refine gO F302 ?_;refine aB (e:=x.enc) (aN hx) rfl ?_;refine gO F302 ?_;refine ao (c1) ?_;refine gO F302 ?_;cases hp:lL x
  ·refine bj ?_;refine gO F302 ?_;exact⟨k,rfl,rfl,by rw[di hx hp];simp⟩
  ·refine aR ?_;refine gO F302 ?_;refine I.back (IH (k+1) ⟨by omega,dw aJ hx hp⟩ (by omega)) ?_;exact sZ
 ·have aA:l.length<=k:=by simpa using h5
  rw[List.take_of_length_le aA]at aJ;refine gO F302 ?_;exact⟨_,rfl,rfl,by rw[aJ];rfl⟩
theorem Uw(l:List Signed)(hl:l.length<=maxLen)(hf:∀ s∈l,s.cT):ar E 256 [] [.d (.sl (l.map Signed.enc)),.fn (.func 257) [] []] (fun a b=>a=.d (.bool (!l.all lL))/\b=[]):=by
 refine ar.run ab (fn:=Tryz.f256) Tryz.func256 (body:=Tryz.f256.body.getD .skip) rfl (by decide) 2000 rfl ?_;(conv=>whnf);refine jv (Uv l hl hf) ?_;rintro r b ⟨n,rfl,rfl,h⟩;refine gO Tryz.func256 ?_;exact⟨by rw[h],rfl⟩
theorem Ux(a:dR)(hf:a.cT):aq E 179 [a.enc] (· = .bool (nt a)):=by
 obtain⟨kd,l,cut⟩:=a;obtain⟨h2,h3,h1⟩:=hf;simp only at h1 h2 h3;unfold nt Cz;simp only;show aq E _ [DV.agg [.int .i64 kd,.sl (l.map Signed.enc),.str cut]] _;refine eP Tryz.func179 ?_;repeat' (first|with_reducible(first|refine ao (xv _ _ _) ?_|refine au (xv _ _ _) ?_|refine cY ?_|refine cN ?_|refine ai (fun _=>?_) (fun _=>?_))|refine gA Tryz.func179 ?_|refine gB ?_|with_reducible rfl)
 all_goals try (refine congrArg DV.bool ?_;simp_all;try omega)
 refine jv (Uw l h2 h3) ?_;rintro r b ⟨rfl,rfl⟩;refine gO Tryz.func179 ?_;repeat' (first|with_reducible(first|refine ao (gG cut h1) ?_|refine au (gG cut h1) ?_|refine cY ?_|refine cN ?_|refine ai (fun _=>?_) (fun _=>?_))|refine gA Tryz.func179 ?_|refine gB ?_|with_reducible rfl)
 all_goals
  refine congrArg DV.bool ?_;have e1:l.length<=40:=by simp_all;omega
  generalize l.all lL=b at *;cases b<;>simp_all
def Gq(q:bB)(a:dR):DV := .agg [.int .i64 2,.int .i64 0,.int .i64 1,.int .i64 1,.str q.name,.int .i64 q.type,.int .i64 a.kind,.sl (a.ae.map Signed.enc),.str a.cut]
theorem LF(q:bB)(a:dR)(hq:q.name.length<=maxLen)(hf:a.cT):aq E 105 [Gq q a] (· = .bool (fF q&&nt a)):=by
 unfold Gq fF;have c1:=Ux a hf;refine eP Tryz.func105 ?_;repeat' (first|with_reducible(first|refine ao (xv _ _ _) ?_|refine au (xv _ _ _) ?_|refine ao (gG _ hq) ?_|refine au (gG _ hq) ?_|refine ao (c1) ?_|refine au (c1) ?_|refine cY ?_|refine cN ?_|refine ai (fun _=>?_) (fun _=>?_))|refine gA Tryz.func105 ?_|refine gB ?_|with_reducible rfl)
 all_goals (refine congrArg DV.bool ?_;simp_all;try omega)
theorem Gr(q:bB)(hq:q.name.length<=maxLen):aq E 30 [q.enc] (· = .bool (fF q)):=by
 refine eP Tryz.func30 ?_;repeat' (first|with_reducible(first|refine ao (eG _ hq) ?_|refine au (eG _ hq) ?_|refine cY ?_|refine cN ?_|refine ai (fun _=>?_) (fun _=>?_))|refine gA Tryz.func30 ?_|refine gB ?_|with_reducible rfl)
 all_goals (simp_all[fF];try omega)
theorem LG(q:bB)(hq:q.name.length<=maxLen):aq E 79 [q.enc] (· = .bool (fF q)):=by
 refine eP Tryz.func79 ?_;repeat' (first|with_reducible(first|refine ao (gG _ hq) ?_|refine au (gG _ hq) ?_|refine cY ?_|refine cN ?_|refine ai (fun _=>?_) (fun _=>?_))|refine gA Tryz.func79 ?_|refine gB ?_|with_reducible rfl)
 all_goals (simp_all[fF];try omega)
end Go.Proofs.YtfmdaiojokniiaaGreatDoor.P
end
section
namespace Go.Proofs.YtfmdaiojokniiaaGreatDoor.P
open Go Go.ay
theorem OB{C H:List Text}(hA:jb H)(hP:tc H)(ry:∀ d∈H,d∈C)(xH:∀ c∈C,∃ d∈H,Nm.under c d=true)(aI:∀ c∈C,c≠[]) :
  ∀ (rest done:List Text) (cut:Text) (k:Nat),jb (done++rest)->(∀ c∈C,c∈done++rest)->k<=H.length->(match done.getLast? with|none=>cut=[]|some p=>rv H p cut)->(∀ m d,m<k->H[m]?=some d->∃ p,done.getLast?=some p/\bC d p<=0)->∀ (i:Nat) (n r:Text),rest[i]?=some n->(nv H k rest)[i]?=some r->rv H n r
 |[],_,_,_,_,_,_,_,_=>fun i n r h=>by simp at h
 |n::rest,done,cut,k,rA,aJ,hk,hcut,kc=>by
  have n4:∀ p,done.getLast?=some p->bC p n<=0:=fun p hp=>by
   have hl:0<done.length:=by cases done with|nil=>simp at hp|cons=>simp
   rw[List.getLast?_eq_getElem?]at hp;exact rA (done.length-1) done.length p n (by omega) (by rw[List.getElem?_append_left (by omega)];exact hp) (by simp)
  have CT:∀ d∈H,bC d n<0->∃ p,done.getLast?=some p/\bC d p<=0:=fun d hd rz=>by
   have:=aJ d (ry d hd);obtain⟨i,hi⟩:=List.getElem?_of_mem this;have qp:(done++n::rest)[done.length]?=some n:=by simp
   have ah:i<done.length:=by
    rcases Nat.lt_trichotomy i done.length with h|h|h
    ·exact h
    ·subst h;rw[qp]at hi;cases hi;rw[o3]at rz;omega
    ·have h1:=rA done.length i n d h qp hi;have h2:=Ab d n;omega
   rw[List.getElem?_append_left ah]at hi;obtain⟨p,hp⟩:=aG (l:=done) (k:=done.length-1) (by omega);refine⟨p,by rw[List.getLast?_eq_getElem?];exact hp,?_⟩;rcases Nat.lt_or_ge i (done.length-1)with h|h
   ·exact rA i (done.length-1) d p h (by rw[List.getElem?_append_left ah];exact hi) (by rw[List.getElem?_append_left (by omega)];exact hp)
   ·obtain rfl:i=done.length-1:=by omega
    rw[hp]at hi;cases hi;rw[o3];omega
  obtain⟨f2,f3⟩:=Mv hA hP (n:=n) hk (fun m d hm hd=>by
   obtain⟨p,hp,ke⟩:=kc m d hm hd
   exact CS ke (n4 p hp))
  have ih:=OB hA hP ry xH aI rest (done++[n]) (my H n (eQ H n k)) (eQ H n k) (by simpa using rA) (by simpa using aJ) (CG hk) (by simpa using f2) (fun m d hm hd=>⟨n,by simp,f3 m d hm hd⟩);intro i m r hm hr;cases i with
  |zero =>
   simp at hm;subst hm;simp only[nv,List.getElem?_cons_zero,Option.some.injEq]at hr;subst hr;exact f2
  |succ i=>exact ih i m r (by simpa using hm) (by simpa [nv]using hr)
end Go.Proofs.YtfmdaiojokniiaaGreatDoor.P
end
section
namespace Go.Proofs
open Go.Shelf
def Tryz.ZT:Go.Shelf.Ren:=⟨fun|137=>288|217=>335|266=>352|n=>n,fun|9=>9|5=>5|3=>3|n=>n,fun|n=>n⟩
theorem Tryz.ZU:Go.Proofs.Lays.n137 Tryz.prog Tryz.ZT:={
 mixed:=by kernel_rfl
 f137:=Tryz.func288.trans (congrArg some (by kernel_rfl))
 f217:=Tryz.func335.trans (congrArg some (by kernel_rfl))
 f266:=Tryz.func352.trans (congrArg some (by kernel_rfl))
 t3:=Tryz.underlying3
 a3:=Tryz.isAgg3
 z3:=Tryz.sizeOf3
 v3:=Tryz.zeroValue3
 t5:=Tryz.underlying5
 a5:=Tryz.isAgg5
 z5:=Tryz.sizeOf5
 v5:=Tryz.zeroValue5
 t9:=Tryz.underlying9
 a9:=Tryz.isAgg9
 z9:=Tryz.sizeOf9
 v9:=Tryz.zeroValue9 }
def Tryz.OQ:Go.Shelf.Ren:=⟨fun|156=>339|165=>353|166=>354|169=>355|240=>359|241=>360|276=>362|277=>363|n=>n,fun|31=>134|9=>9|3=>3|4=>4|0=>0|20=>20|72=>377|76=>315|70=>375|37=>115|75=>261|127=>379|164=>380|5=>5|80=>298|n=>n,fun|n=>n⟩
theorem Tryz.Dt:Go.Proofs.Lays.n156 Tryz.prog Tryz.OQ:={
 mixed:=by kernel_rfl
 f156:=Tryz.func339.trans (congrArg some (by kernel_rfl))
 f165:=Tryz.func353.trans (congrArg some (by kernel_rfl))
 f166:=Tryz.func354.trans (congrArg some (by kernel_rfl))
 f169:=Tryz.func355.trans (congrArg some (by kernel_rfl))
 f240:=Tryz.func359.trans (congrArg some (by kernel_rfl))
 f241:=Tryz.func360.trans (congrArg some (by kernel_rfl))
 f276:=Tryz.func362.trans (congrArg some (by kernel_rfl))
 f277:=Tryz.func363.trans (congrArg some (by kernel_rfl))
 t0:=Tryz.underlying0
 a0:=Tryz.isAgg0
 z0:=Tryz.sizeOf0
 v0:=Tryz.zeroValue0
 t3:=Tryz.underlying3
 a3:=Tryz.isAgg3
 z3:=Tryz.sizeOf3
 v3:=Tryz.zeroValue3
 t4:=Tryz.underlying4
 a4:=Tryz.isAgg4
 z4:=Tryz.sizeOf4
 v4:=Tryz.zeroValue4
 t9:=Tryz.underlying9
 a9:=Tryz.isAgg9
 z9:=Tryz.sizeOf9
 v9:=Tryz.zeroValue9
 t20:=Tryz.underlying20
 a20:=Tryz.isAgg20
 z20:=Tryz.sizeOf20
 v20:=Tryz.zeroValue20
 t31:=Tryz.underlying134
 a31:=Tryz.isAgg134
 z31:=Tryz.sizeOf134
 v31:=Tryz.zeroValue134
 t37:=Tryz.underlying115
 a37:=Tryz.isAgg115
 z37:=Tryz.sizeOf115
 v37:=Tryz.zeroValue115
 t70:=Tryz.underlying375
 a70:=Tryz.isAgg375
 z70:=Tryz.sizeOf375
 v70:=Tryz.zeroValue375
 t72:=Tryz.underlying377
 a72:=Tryz.isAgg377
 z72:=Tryz.sizeOf377
 v72:=Tryz.zeroValue377
 t75:=Tryz.underlying261
 a75:=Tryz.isAgg261
 z75:=Tryz.sizeOf261
 v75:=Tryz.zeroValue261
 t76:=Tryz.underlying315
 a76:=Tryz.isAgg315
 z76:=Tryz.sizeOf315
 v76:=Tryz.zeroValue315
 t127:=Tryz.underlying379
 a127:=Tryz.isAgg379
 z127:=Tryz.sizeOf379
 v127:=Tryz.zeroValue379
 t164:=Tryz.underlying380
 a164:=Tryz.isAgg380
 z164:=Tryz.sizeOf380
 v164:=Tryz.zeroValue380 }
theorem Tryz.Du:Builder.Extra Tryz.prog Tryz.OQ:={
 sizeBuilder:=by kernel_rfl
 liesBuilder:=by kernel_rfl
 t5:=Tryz.underlying5
 a5:=Tryz.isAgg5
 z5:=Tryz.sizeOf5
 v5:=Tryz.zeroValue5
 infoByte:=by kernel_rfl
 cellsByte:=by kernel_rfl
 sizeByte:=by kernel_rfl
 neB5:=by decide }
end Go.Proofs
end
