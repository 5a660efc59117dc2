/- Several texts of mine, one behind the other. Conditions: as each says. -/
import Derived.Test.YtfmdaiojokniiaaGreatDoorY22
import Derived.Test.YtfmdaiojokniiaaGreatDoorY23
import Derived.Test.YtfmdaiojokniiaaGreatDoorY24
set_option linter.unusedVariables false
set_option linter.unusedSimpArgs false
section
namespace Go.Proofs.YtfmdaiojokniiaaGreatDoor.P
open Go Go.ax
set_option maxRecDepth 100000
set_option maxHeartbeats 4000000
theorem R3 (c:a7):aq E 59 [c.enc] (· = .str c.az.aj):=by
 refine eP Tryz.func59 ?_
 with_reducible rfl
def xA (l:List a7):Bool:=decide (4000<l.length)||decide (500<su l)
theorem R4 (l:List a7) (hl:l.length≤1000000):aw E 60 [] [.d (.sl (l.map a7.enc)),.d (.int .i64 4000),.d (.int .i64 500),.fn (.func 59) [] []] (fun a b=>∃ es,a = .d (.bool (xA l))∧b=[.map es]):=by
 generalize hT:l.map (·.az.aj)=T;have Ae:T.length=l.length:=by rw [← hT]; simp
 have hlen:=D5 uF T T.length (Nat.le_refl _);rw [List.take_length] at hlen;have R5:xA l=(decide (4000<l.length)||decide (500<(dK [] T).length)):=by rw [xA,su,hT]
 rw [R5];refine aw.run af (fn:=Tryz.f60) Tryz.func60 (body:=Tryz.f60.body.getD .skip) rfl (by decide) 2000 rfl ?_;(conv=>whnf);refine gO Tryz.func60 ?_;refine gO Tryz.func60 ?_;refine I.loop (κ:=Nat) ([11]++rg 15 9) (fun k=>[(15,.d (.int .i64 k)),(9,.map 0)]) (fun k=>[(0,.map (dJ DV.str (T.take k)))]) (fun k=>k≤l.length) (fun k=>l.length - k) 0 (Nat.zero_le _) ?_ ?_
 ·(conv=>whnf);repeat (first | exact trivial | (refine sI ?_; conv=>whnf))
  refine And.intro rfl ?_;exact sZ
 intro k hk IH;refine I.head af Tryz.func60 2000 ?_;(conv=>whnf);refine ah (fun h5=>?_) (fun h5=>?_)
 ·have ai:k<l.length:=by simpa using h5
  obtain ⟨c,hc⟩:=aD ai;have D0:T[k]? = some c.az.aj:=by rw [← hT]; simp [hc]
  have fe:=(mU uF (T.take k)).1;refine gO Tryz.func60 ?_;refine aB (e:=c.enc) (aN hc) rfl ?_;refine gO Tryz.func60 ?_
  with_reducible refine ao (R3 c) ?_
  refine gO Tryz.func60 ?_;refine bc ⟨⟨_,rfl⟩,fe⟩ ?_;refine gO Tryz.func60 ?_;refine I.back (IH (k+1) (by omega) (by omega)) ?_;rw [DY D0];exact sZ
 ·have aC:l.length≤k:=by simpa using h5
  rw [List.take_of_length_le (by omega)];refine gO Tryz.func60 ?_;refine ah (fun h6=>?_) (fun h6=>?_)
  ·refine gO Tryz.func60 ?_;refine ⟨_,?_,rfl⟩;have:4000<l.length:=by simp at h6; omega
   simp [this]
  ·refine gO Tryz.func60 ?_;refine gO Tryz.func60 ?_;refine ⟨_,?_,rfl⟩;rw [hlen];have h7:decide (4000<l.length)=false:=by simp at h6 ⊢; omega
   rw [h7,Bool.false_or];refine congrArg (fun b=>AV.d (DV.bool b)) ?_;rw [Bool.eq_iff_iff];simp;try omega
end Go.Proofs.YtfmdaiojokniiaaGreatDoor.P
end
section
namespace Go.Proofs.YtfmdaiojokniiaaGreatDoor.P
open Go Go.ax
set_option maxRecDepth 100000
set_option maxHeartbeats 4000000
theorem SV {α:Type} {l:List α} {k:Nat} {x:α} {β:Type} {f:α→β} (h:((l.take k).map f).Nodup) (hx:l[k]? = some x) (hn:∀ j y,j<k→l[j]? = some y→f y≠f x):((l.take (k+1)).map f).Nodup:=by
 rw [cQ hx,List.map_append,List.nodup_append];refine ⟨h,by simp,fun a ha b hb e=>?_⟩;obtain ⟨y,hy,rfl⟩:=List.mem_map.1 ha;obtain ⟨j,hj⟩:=List.getElem?_of_mem hy;have Ao:j<k:=by have:=aT hj; simp at this; omega
 rw [List.getElem?_take,if_pos Ao] at hj;simp at hb;exact hn j y Ao hj (e.trans hb)
theorem SX {α:Type} {l:List α} {k j:Nat} {x y:α} {β:Type} {f:α→β} (hx:l[k]? = some x) (hy:l[j]? = some y) (hj:j<k) (e:f y=f x):¬ (l.map f).Nodup:=fun h=>by
 have h1:(l.map f)[k]? = some (f x):=by rw [List.getElem?_map,hx]; rfl
 have h2:(l.map f)[j]? = some (f x):=by rw [List.getElem?_map,hy,← e]; rfl
 have:=(List.getElem?_inj (by simpa using aT hy) h).1 (h2.trans h1.symm);omega
def uO (s:Signed):Bool := !(decide ((s.set.data.length:Int)>20)) && !(decide ((s.sigs.length:Int)>20)) && !(decide ((s.set.name.length:Int)>100))
def sB (l:List Signed):Bool:=(l.take 61).all uO&&decide (l.length≤60)
theorem J2 (l:List Signed) (hl:l.length≤maxLen):aq E 12 [.sl (l.map Signed.enc)] (· = .bool (sB l)):=by
 unfold maxLen at hl;unfold sB;refine eP Tryz.func12 ?_;refine I.loop (κ:=Nat) (rg 2 39) (fun k=>[(3,.d (.int .i64 k))]) (fun _=>[]) (fun k=>k≤l.length∧k≤61∧(l.take k).all uO=true) (fun k=>l.length - k) 0 ⟨Nat.zero_le _,by omega,rfl⟩ ?_ ?_
 ·exact sZ
 rintro k ⟨hk,fp,aH⟩ IH;refine I.head af Tryz.func12 2000 ?_;(conv=>whnf);by_cases ai:k<l.length∧k≤60
 ·obtain ⟨x,hx⟩:=aD ai.1;have no:=fun h=>cX (l:=l.take 61) (k:=k) (p:=uO) (by rw [List.getElem?_take,if_pos (by omega)]; exact hx) h;have back:=fun h=>IH (k+1) ⟨by omega,by omega,dh aH hx h⟩ (by omega);have lh:uO x=(!(decide ((x.set.data.length:Int)>20)) && !(decide ((x.sigs.length:Int)>20)) && !(decide ((x.set.name.length:Int)>100))):=rfl;refine aV (by simp; omega) ?_;refine gO Tryz.func12 ?_;refine aV (by simp; omega) ?_;refine gO Tryz.func12 ?_;repeat' (first | with_reducible refine aB (aN hx) rfl ?_ | with_reducible refine cY ?_ | with_reducible refine cN ?_ | with_reducible refine ah (fun _=>?_) (fun _=>?_) | refine gA Tryz.func12 ?_ | refine gB ?_ | with_reducible rfl)
  all_goals try (rw [no (by rw [lh]; simp_all)]; rfl)
  refine gO Tryz.func12 ?_;refine I.back (back (by rw [lh]; simp_all)) ?_;exact sZ
 ·have e:(l.take 61).all uO=true:=by
   by_cases h:k=61
   ·rw [← h]; exact aH
   ·rw [List.take_of_length_le (by omega)] at aH ⊢; exact aH
  rw [e];by_cases h:k<l.length
  ·refine aV (by simpa using h) ?_;refine gO Tryz.func12 ?_;refine aW (by simp; omega) ?_;refine gO Tryz.func12 ?_;rw [Bool.true_and];refine congrArg DV.bool (decide_eq_decide.2 ?_);simp;omega
  ·refine aW (by simpa using h) ?_;refine gO Tryz.func12 ?_;refine aQ ?_;refine gO Tryz.func12 ?_;rw [Bool.true_and];refine congrArg DV.bool (decide_eq_decide.2 ?_);simp;omega
def El (s z:Text):Bool:=Nm.valid s&&Nm.valid z && !kz z&&Nm.under s z
theorem SY (s z:Text) (hs:s.length≤maxLen) (hz:z.length≤maxLen):aq E 272 [.str s,.str z] (· = .bool (El s z)):=by
 unfold El;have c1:=dR s hs;have c2:=dR z hz;cases h1:Nm.valid s
 ·rw [h1] at c1;refine eP Tryz.func272 ?_;repeat' (first | with_reducible refine ao (c1) ?_ | with_reducible refine au (c1) ?_ | with_reducible refine ao (c2) ?_ | with_reducible refine au (c2) ?_ | with_reducible refine cY ?_ | with_reducible refine cN ?_ | with_reducible refine ah (fun _=>?_) (fun _=>?_) | refine gA Tryz.func272 ?_ | refine gB ?_ | with_reducible rfl)
  all_goals simp_all
 cases h2:Nm.valid z
 ·rw [h1] at c1;rw [h2] at c2;refine eP Tryz.func272 ?_;repeat' (first | with_reducible refine ao (c1) ?_ | with_reducible refine au (c1) ?_ | with_reducible refine ao (c2) ?_ | with_reducible refine au (c2) ?_ | with_reducible refine cY ?_ | with_reducible refine cN ?_ | with_reducible refine ah (fun _=>?_) (fun _=>?_) | refine gA Tryz.func272 ?_ | refine gB ?_ | with_reducible rfl)
  all_goals simp_all
 have l1:=eB h1;have l2:=eB h2;have c3:=zG z (by omega);have c4:=w7 s z (by omega) (by omega);rw [h1] at c1;rw [h2] at c2;refine eP Tryz.func272 ?_;repeat' (first | with_reducible refine ao (c1) ?_ | with_reducible refine au (c1) ?_ | with_reducible refine ao (c2) ?_ | with_reducible refine au (c2) ?_ | with_reducible refine ao (c3) ?_ | with_reducible refine au (c3) ?_ | with_reducible refine ao (c4) ?_ | with_reducible refine au (c4) ?_ | with_reducible refine cY ?_ | with_reducible refine cN ?_ | with_reducible refine ah (fun _=>?_) (fun _=>?_) | refine gA Tryz.func272 ?_ | refine gB ?_ | with_reducible rfl)
 all_goals simp_all
def Em (s:cP):Bool:=(s.data.length:Int)==0
theorem SZ (e:Entry):aq E 273 [e.enc] (· = .bool (Em e.signed.set)):=by
 unfold Em;refine eP Tryz.func273 ?_;simp
def xH (e:Entry):Bool:=El e.signed.set.name e.az&&decide (1≤e.upto)&&decide (e.upto≤20100001) &&
 (if Em e.signed.set then decide (1 ≤ e.signed.set.type) && decide (e.signed.set.type ≤ 8) && decide (0 ≤ e.signed.set.cD) && decide (e.signed.set.cD ≤ 100000) && ((e.signed.sigs.length : Int) == 0)
  else ev e.signed.set && ln e.signed.sigs e.az)
def Entry.ea (e:Entry):Prop:=e.signed.ea∧e.az.length≤maxLen
theorem S0 (e:Entry) (hf:e.ea):aq E 204 [e.enc] (· = .bool (xH e)):=by
 have c1:=SY e.signed.set.name e.az hf.1.1.name hf.2;have c2:=SZ e;have c3:=uq e.signed.set hf.1.1;have c4:=Dh e.signed.sigs e.az;obtain ⟨⟨s,l⟩,z,u⟩:=e;unfold xH;simp only at c1 c2 c3 c4 ⊢;show aq E _ [DV.agg [.str s.name,.int .i64 s.type,.int .i64 s.cD,p0 s.data,rS l,.str z,.int .i64 u]] _;refine eP Tryz.func204 ?_;repeat' (first | with_reducible refine ao (c1) ?_ | with_reducible refine au (c1) ?_ | with_reducible refine ao (c2) ?_ | with_reducible refine au (c2) ?_ | with_reducible refine ao (c3) ?_ | with_reducible refine au (c3) ?_ | with_reducible refine ao (c4) ?_ | with_reducible refine au (c4) ?_ | with_reducible refine cY ?_ | with_reducible refine cN ?_ | with_reducible refine ah (fun _=>?_) (fun _=>?_) | refine gA Tryz.func204 ?_ | refine gB ?_ | with_reducible rfl)
 all_goals (refine congrArg DV.bool ?_; simp_all; try omega)
def pj (e:Entry):Text × Int × Text:=(e.signed.set.name,e.signed.set.type,e.az)
theorem S1 (a b:Entry):aq E 205 [a.enc,b.enc] (· = .bool (decide (pj a=pj b))):=by
 unfold pj;refine eP Tryz.func205 ?_;repeat' (first | with_reducible refine cY ?_ | with_reducible refine cN ?_ | with_reducible refine ah (fun _=>?_) (fun _=>?_) | refine gA Tryz.func205 ?_ | refine gB ?_ | with_reducible rfl)
 all_goals (refine congrArg DV.bool ?_; rw [Bool.eq_iff_iff]; simp_all)
def En (c:Cache):Bool:=c.list.all xH&&decide ((c.list.map pj).Nodup)&&decide (c.list.length≤400)
theorem S2 (c:Cache) (hl:c.list.length≤maxLen) (hf:∀ e∈c.list,e.ea):aq E 127 [c.enc] (· = .bool (En c)):=by
 obtain ⟨l⟩:=c;unfold En;simp only at hl hf ⊢;unfold maxLen at hl;show aq E _ [DV.agg [.sl (l.map Entry.enc)]] _;refine eP Tryz.func127 ?_;refine I.loop (κ:=Nat) (rg 2 33) (fun k=>[(3,.d (.int .i64 k))]) (fun _=>[]) (fun k=>k≤l.length∧(l.take k).all xH=true∧((l.take k).map pj).Nodup) (fun k=>l.length - k) 0 ⟨Nat.zero_le _,rfl,by simp⟩ ?_ ?_
 ·exact sZ
 rintro k ⟨hk,aH,dg⟩ IH;refine I.head af Tryz.func127 2000 ?_;(conv=>whnf);refine ah (fun h5=>?_) (fun h5=>?_)
 ·have ai:k<l.length:=by simpa using h5
  obtain ⟨x,hx⟩:=aD ai;have c1:=S0 x (hf x (List.mem_of_getElem? hx));refine gO Tryz.func127 ?_;refine aB (e:=x.enc) (aN hx) rfl ?_;refine gO Tryz.func127 ?_;refine ao (c1) ?_;refine gO Tryz.func127 ?_;cases hp:xH x
  ·refine aY ?_;refine gO Tryz.func127 ?_;rw [cX hx hp];rfl
  refine aQ ?_;refine gO Tryz.func127 ?_;refine I.loop (κ:=Nat) ([2,4]++rg 19 16) (fun j=>[(4,.d (.int .i64 j))]) (fun _=>[]) (fun j=>j≤k∧∀ i y,i<j→l[i]? = some y→pj y≠pj x) (fun j=>k - j) 0 ⟨Nat.zero_le _,by omega⟩ ?_ ?_
  ·exact sZ
  rintro j ⟨hj,bL⟩ JH;refine I.head af Tryz.func127 2000 ?_;(conv=>whnf);refine ah (fun h6=>?_) (fun h6=>?_)
  ·have Ao:j<k:=by simpa using h6
   obtain ⟨y,hy⟩:=aD (l:=l) (k:=j) (by omega);have c2:=S1 y x;refine gO Tryz.func127 ?_;refine I.bH af bI 2000 (by kernel_rfl) ?_;(conv=>whnf);refine aB (e:=y.enc) (aN hy) rfl ?_;refine gD ?_;refine aB (e:=x.enc) (aN hx) rfl ?_;refine gD ?_;refine au (c2) ?_;refine gD ?_;refine gO Tryz.func127 ?_;by_cases he:pj y=pj x
   ·refine aV (decide_eq_true he) ?_;refine gO Tryz.func127 ?_;rw [decide_eq_false (SX hx hy Ao he),Bool.and_false];rfl
   ·refine aW (decide_eq_false he) ?_;refine gO Tryz.func127 ?_;refine I.back (JH (j+1) ⟨by omega,fun i w hi hw=>(Nat.lt_succ_iff_lt_or_eq.1 hi).elim (fun h=>bL i w h hw) (fun h=>by subst h; rw [hy] at hw; cases hw; exact he)⟩ (by omega)) ?_;exact sZ
  ·have aC:j=k:=by simp at h6; omega
   subst aC;refine gO Tryz.func127 ?_;refine I.back (IH (j+1) ⟨by omega,dh aH hx hp,SV dg hx bL⟩ (by omega)) ?_;exact sZ
 ·have aC:l.length≤k:=by simpa using h5
  rw [List.take_of_length_le aC] at aH dg;rw [aH,decide_eq_true dg];refine gO Tryz.func127 ?_;refine congrArg DV.bool ?_;simp;omega
end Go.Proofs.YtfmdaiojokniiaaGreatDoor.P
end
section
namespace Go.ax
open Go Go.RowKit
section
variable {E:Env} {s:List AV} {h:List ae} {c:Cx} {G:List (Nat × DV)} {P:Program}
end
end Go.ax
end
section
namespace Go.ax
open Go Go.RowKit
section
variable {E:Env} {ag:FuncId} {R:cx} {td:List aP} {s:List AV} {h:List ae}
end
end Go.ax
end
