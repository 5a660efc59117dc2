/- Several texts of mine, one behind the other. Conditions: as each says. -/
import Derived.Test.YtfmdaiojokniiaaGreatDoorY14
set_option linter.unusedVariables false
set_option linter.unusedSimpArgs false
section
namespace Go.Proofs.YtfmdaiojokniiaaGreatDoor.P
open Go Go.ax
set_option maxRecDepth 100000
set_option maxHeartbeats 4000000
def kz (t:Text):Bool:=match Nm.labels t with
 | []=>false
 |x::_=>x==[42]
theorem zG (t:Text) (ht:t.length≤1000):aq E 139 [.str t] (· = .bool (kz t)):=by
 unfold kz;refine eP Tryz.func139 ?_
 with_reducible refine ao (wZ _ ht) ?_
 refine gO Tryz.func139 ?_;cases hl:Nm.labels t with
 |nil =>
  refine aW (by simp) ?_;refine gO Tryz.func139 ?_
  with_reducible rfl
 |cons x l =>
  refine aV (by simp) ?_;refine gO Tryz.func139 ?_;refine eu (.str x) (by decide) rfl rfl ?_;refine gO Tryz.func139 ?_
  with_reducible rfl
def cmpL:List Text→List Text→Int
 | [],[]=>0
 | [],_::_ => -1
 |_::_,[]=>1
 |x::l,y::m=>if Op.bytesLess x y then -1 else if x==y then cmpL l m else 1
def bp (a b:Text):Int:=cmpL (Nm.labels a).reverse (Nm.labels b).reverse
theorem rev_at {α:Type} {l:List α} {k:Nat} (hk:k<l.length):∃ x,l[l.length - (k+1)]? = some x∧l.reverse.drop k=x::l.reverse.drop (k+1):=by
 have h1:l.length - (k+1)<l.length:=by omega
 refine ⟨l[l.length - (k+1)],by simp [h1],?_⟩;rw [List.drop_eq_getElem_cons (by simpa using hk)]
 congr 1
 simp only [List.getElem_reverse]
 congr 1
 omega
theorem Dd (a b:Text) (ha:a.length≤1000) (hb:b.length≤1000):aq E 146 [.str a,.str b] (· = .int .i64 (bp a b)):=by
 have qc:=zp a;have qd:=zp b;unfold bp;refine eP Tryz.func146 ?_
 with_reducible refine ao (wZ _ ha) ?_
 refine gO Tryz.func146 ?_
 with_reducible refine ao (wZ _ hb) ?_
 refine gO Tryz.func146 ?_;generalize Nm.labels a=l at *;generalize Nm.labels b=m at *;refine I.loop (κ:=Nat) ([4,7,8,9]++rg 14 32) (fun k=>[(7,.d (.int .i64 (k+1)))]) (fun _=>[]) (fun k=>k≤l.length∧k≤m.length∧cmpL l.reverse m.reverse=cmpL (l.reverse.drop k) (m.reverse.drop k)) (fun k=>l.length - k) 0 ⟨Nat.zero_le _,Nat.zero_le _,rfl⟩ ?_ ?_
 ·exact sZ
 ·intro k hk IH;refine I.head af Tryz.func146 2000 ?_;(conv=>whnf);refine ah (fun h1=>?_) (fun h1=>?_)
  ·refine gO Tryz.func146 ?_;refine ah (fun h2=>?_) (fun h2=>?_)
   ·have rm:k<l.length:=by simp at h1; omega
    have xe:k<m.length:=by simp at h2; omega
    obtain ⟨x,hx,De⟩:=rev_at rm;obtain ⟨y,hy,Df⟩:=rev_at xe;have ug:IntKind.i64.wrap ((l.length:Int) - (k+1))=((l.length - (k+1):Nat):Int):=by rw [wrap64 (by omega) (by omega)]; omega
    have Dg:IntKind.i64.wrap ((m.length:Int) - (k+1))=((m.length - (k+1):Nat):Int):=by rw [wrap64 (by omega) (by omega)]; omega
    have hc:=hk.2.2;rw [De,Df] at hc;refine gO Tryz.func146 ?_;simp only [List.length_map];rw [ug];refine eu (.str x) (by omega) (jQ hx) rfl ?_;refine gO Tryz.func146 ?_;simp only [List.length_map];rw [Dg];refine eu (.str y) (by omega) (jQ hy) rfl ?_;refine gO Tryz.func146 ?_;refine ah (fun h3=>?_) (fun h3=>?_)
    ·refine gO Tryz.func146 ?_;rw [hc,cmpL,if_pos h3]
    ·refine gO Tryz.func146 ?_;refine ah (fun h4=>?_) (fun h4=>?_)
     ·refine gO Tryz.func146 ?_;rw [hc,cmpL,if_neg (by rw [h3]; decide),if_neg (by simp [h3] at h4; simpa using h4)]
     ·refine gO Tryz.func146 ?_;refine I.back (IH (k+1) ⟨by omega,by omega,by rw [hc,cmpL,if_neg (by rw [h3]; decide),if_pos (by simpa [h3] using h4)]⟩ (by omega)) ?_;exact sZ
   ·have rm:k<l.length:=by simp at h1; omega
    have xe:k=m.length:=by simp at h2; omega
    obtain ⟨x,hx,De⟩:=rev_at rm;have hc:=hk.2.2;rw [De,List.drop_of_length_le (l:=m.reverse) (by simp; omega),cmpL] at hc;refine gO Tryz.func146 ?_;refine aW (by simp; omega) ?_;refine gO Tryz.func146 ?_;refine aV (by simp; omega) ?_;refine gO Tryz.func146 ?_;rw [hc]
  ·have rm:k=l.length:=by simp at h1; omega
   have hc:=hk.2.2;rw [List.drop_of_length_le (l:=l.reverse) (by simp; omega)] at hc;refine gO Tryz.func146 ?_;refine aQ ?_;refine gO Tryz.func146 ?_;refine ah (fun h2=>?_) (fun h2=>?_)
   ·have xe:k<m.length:=by simp at h2; omega
    obtain ⟨y,hy,Df⟩:=rev_at xe;rw [Df,cmpL] at hc;refine gO Tryz.func146 ?_;rw [hc]
   ·have xe:k=m.length:=by simp at h2; omega
    rw [List.drop_of_length_le (l:=m.reverse) (by simp; omega),cmpL] at hc;refine gO Tryz.func146 ?_;refine aW (by simp; omega) ?_;refine gO Tryz.func146 ?_;rw [hc]
theorem HZ (a b:Text) (ha:Nm.valid a=true) (hb:Nm.valid b=true):aq E 275 [.str a,.str b] (· = .aF [.int .i64 (bp a b),.int .i64 0]):=by
 have h1:=eB ha;have h2:=eB hb;refine eP Tryz.func275 ?_
 with_reducible refine ao (dR _ (by unfold maxLen; omega)) ?_
 refine gO Tryz.func275 ?_
 with_reducible refine ao (dR _ (by unfold maxLen; omega)) ?_
 refine gO Tryz.func275 ?_;rw [ha,hb];refine aW (by decide) ?_;refine gO Tryz.func275 ?_;refine aW (by decide) ?_;refine gO Tryz.func275 ?_
 with_reducible refine ao (Dd _ _ (by omega) (by omega)) ?_
 refine gO Tryz.func275 ?_
 with_reducible rfl
def mc (a b:cP):Int:=if bp a.name b.name≠0 then bp a.name b.name else iq a.type b.type
theorem H3 (a b:cP) (ha:Nm.valid a.name=true) (hb:Nm.valid b.name=true):aq E 212 [a.enc,b.enc] (· = .int .i64 (mc a b)):=by
 refine eP Tryz.func212 ?_;repeat' (first | with_reducible refine ao (HZ _ _ ha hb) ?_ | with_reducible refine au (HZ _ _ ha hb) ?_ | with_reducible refine cY ?_ | with_reducible refine cN ?_ | with_reducible refine ah (fun _=>?_) (fun _=>?_) | refine gA Tryz.func212 ?_ | refine gB ?_ | with_reducible rfl)
 all_goals simp_all [mc,iq]
 all_goals omega
end Go.Proofs.YtfmdaiojokniiaaGreatDoor.P
end
section
namespace Go.Proofs.YtfmdaiojokniiaaGreatDoor.P
open Go Go.ax
set_option maxRecDepth 100000
set_option maxHeartbeats 4000000
theorem oX {α:Type} {a b:List α} {k:Nat} {x y:α} (h:a.take k=b.take k) (ha:a[k]? = some x) (hb:b[k]? = some y) (e:x=y):a.take (k+1)=b.take (k+1):=by
 subst e;rw [cQ ha,cQ hb,h]
theorem oY {α:Type} {a b:List α} {k:Nat} (h:a.take k=b.take k) (ha:a.length≤k) (hb:b.length≤k):a=b:=by
 rwa [List.take_of_length_le ha,List.take_of_length_le hb] at h
theorem me {α:Type} {a b:List α} {k:Nat} {x y:α} (ha:a[k]? = some x) (hb:b[k]? = some y) (e:x≠y):a≠b:=by
 rintro rfl;rw [ha] at hb;cases hb;exact e rfl
def zH (a b:Datum):Bool:=(a.text==b.text&&(a.n==b.n&&(a.m==b.m&&true)))
theorem H4 {a b:Datum}:zH a b=true↔a=b:=by
 obtain ⟨a1,a2,a3⟩:=a;obtain ⟨b1,b2,b3⟩:=b;simp [zH]
theorem H5 (a b:cP) (ha:a.data.length≤2147483648):aq E 116 [a.enc,b.enc] (· = .bool (decide (a=b))):=by
 obtain ⟨an,at',al,ad⟩:=a;obtain ⟨bn,bt,bl,bd⟩:=b;simp only at ha;refine eP Tryz.func116 ?_;repeat' (first | with_reducible refine cY ?_ | with_reducible refine cN ?_ | with_reducible refine ah (fun _=>?_) (fun _=>?_) | refine gA Tryz.func116 ?_ | refine gB ?_ | with_reducible rfl)
 all_goals try (simp_all; done)
 case' refine_2.refine_2.refine_2.refine_1 =>
  rename_i h4;rw [decide_eq_false];intro h;have:=congrArg (fun s:cP=>s.data.length) h;simp only at this;simp [this] at h4
 all_goals
  rename_i h1 h2 h3 h4;simp only [bne_eq_false_iff_eq,Bool.not_eq_false',beq_iff_eq,List.length_map] at h1 h2 h3 h4;subst h1;subst h2;subst h3;have hl:ad.length=bd.length:=by omega
  rw [show decide (cP.mk an at' al ad=cP.mk an at' al bd)=decide (ad=bd) by simp];refine gO Tryz.func116 ?_;refine I.loop (κ:=Nat) ([4,5]++rg 34 18) (fun k=>[(5,.d (.int .i64 k))]) (fun _=>[]) (fun k=>k≤ad.length∧ad.take k=bd.take k) (fun k=>ad.length - k) 0 ⟨Nat.zero_le _,rfl⟩ ?_ ?_
  ·exact sZ
  ·intro k hk IH;refine I.head af Tryz.func116 2000 ?_;(conv=>whnf);refine ah (fun h5=>?_) (fun h5=>?_)
   ·have ai:k<ad.length:=by simpa using h5
    obtain ⟨x,hx⟩:=aD ai;obtain ⟨y,hy⟩:=aD (l:=bd) (k:=k) (by omega);refine gO Tryz.func116 ?_;refine I.bH af bI 2000 (by kernel_rfl) ?_;(conv=>whnf);refine eu x.enc (by omega) (jQ hx) rfl ?_;refine gD ?_;refine eu y.enc (by omega) (jQ hy) rfl ?_;refine gD ?_;refine gO Tryz.func116 ?_;refine ah (fun h6=>?_) (fun h6=>?_)
    ·have aJ:x≠y:=fun e=>by
      have:=H4.2 e;simp [zH] at this;simp [this] at h6
     refine gO Tryz.func116 ?_;rw [decide_eq_false (me hx hy aJ)]
    ·have he:x=y:=H4.1 (by simpa [zH] using h6);refine gO Tryz.func116 ?_;refine I.back (IH (k+1) ⟨by omega,oX hk.2 hx hy he⟩ (by omega)) ?_;exact sZ
   ·have aC:k=ad.length:=by simp at h5; omega
    refine gO Tryz.func116 ?_;rw [decide_eq_true (oY hk.2 (by omega) (by omega))]
theorem Pu (a b:Signed) (ha:a.set.data.length≤2147483648) (hs:a.sigs.length≤2147483648):aq E 138 [a.enc,b.enc] (· = .bool (decide (a=b))):=by
 obtain ⟨zI,ad⟩:=a;obtain ⟨zJ,bd⟩:=b;simp only at ha hs;rw [show decide (Signed.mk zI ad=Signed.mk zJ bd)=(decide (zI=zJ)&&decide (ad=bd)) by simp];have H6:=H5 zI zJ ha;generalize decide (zI=zJ)=q at H6 ⊢;refine eP Tryz.func138 ?_
 with_reducible refine ao (H6) ?_
 refine gO Tryz.func138 ?_;cases q
 ·refine aV rfl ?_;refine gO Tryz.func138 ?_;refine aY ?_;refine gO Tryz.func138 ?_;rfl
 ·refine aW rfl ?_;refine gO Tryz.func138 ?_;refine ah (fun h4=>?_) (fun h4=>?_)
  ·refine gO Tryz.func138 ?_;rw [decide_eq_false]
   ·rfl
   ·rintro rfl;simp at h4
  ·simp only [bne_eq_false_iff_eq,List.length_map] at h4;have hl:ad.length=bd.length:=by omega
   rw [Bool.true_and];refine gO Tryz.func138 ?_;refine I.loop (κ:=Nat) ([4,5]++rg 21 18) (fun k=>[(5,.d (.int .i64 k))]) (fun _=>[]) (fun k=>k≤ad.length∧ad.take k=bd.take k) (fun k=>ad.length - k) 0 ⟨Nat.zero_le _,rfl⟩ ?_ ?_
   ·exact sZ
   ·intro k hk IH;refine I.head af Tryz.func138 2000 ?_;(conv=>whnf);refine ah (fun h5=>?_) (fun h5=>?_)
    ·have ai:k<ad.length:=by simpa using h5
     obtain ⟨x,hx⟩:=aD ai;obtain ⟨y,hy⟩:=aD (l:=bd) (k:=k) (by omega);refine gO Tryz.func138 ?_;refine I.bH af bI 2000 (by kernel_rfl) ?_;(conv=>whnf);refine eu x.enc (by omega) (jQ hx) rfl ?_;refine gD ?_;refine eu y.enc (by omega) (jQ hy) rfl ?_;refine gD ?_;refine gO Tryz.func138 ?_;refine ah (fun h6=>?_) (fun h6=>?_)
     ·have aJ:x≠y:=fun e=>by
       have:=HV.2 e;simp [zE] at this;simp [this] at h6
      refine gO Tryz.func138 ?_;rw [decide_eq_false (me hx hy aJ)]
     ·have he:x=y:=HV.1 (by simpa [zE] using h6);refine gO Tryz.func138 ?_;refine I.back (IH (k+1) ⟨by omega,oX hk.2 hx hy he⟩ (by omega)) ?_;exact sZ
    ·have aC:k=ad.length:=by simp at h5; omega
     refine gO Tryz.func138 ?_;rw [decide_eq_true (oY hk.2 (by omega) (by omega))]
structure Signed.mf (s:Signed):Prop where
 data:s.set.data.length≤2147483648
 sigs:s.sigs.length≤2147483648
theorem Pv (a b:List Signed) (hl:a.length≤2147483648) (ha:∀ s∈a,s.mf):aq E 72 [wT a,wT b] (· = .bool (decide (a=b))):=by
 refine eP Tryz.func72 ?_;refine ah (fun h4=>?_) (fun h4=>?_)
 ·refine gO Tryz.func72 ?_;rw [decide_eq_false];rintro rfl;simp at h4
 ·simp only [bne_eq_false_iff_eq,List.length_map] at h4;have lk:a.length=b.length:=by omega
  refine gO Tryz.func72 ?_;refine I.loop (κ:=Nat) ([4,5]++rg 11 16) (fun k=>[(5,.d (.int .i64 k))]) (fun _=>[]) (fun k=>k≤a.length∧a.take k=b.take k) (fun k=>a.length - k) 0 ⟨Nat.zero_le _,rfl⟩ ?_ ?_
  ·exact sZ
  ·intro k hk IH;refine I.head af Tryz.func72 2000 ?_;(conv=>whnf);refine ah (fun h5=>?_) (fun h5=>?_)
   ·have ai:k<a.length:=by simpa using h5
    obtain ⟨x,hx⟩:=aD ai;obtain ⟨y,hy⟩:=aD (l:=b) (k:=k) (by omega);have im:=ha x (List.mem_of_getElem? hx);refine gO Tryz.func72 ?_;refine I.bH af bI 2000 (by kernel_rfl) ?_;(conv=>whnf);refine eu x.enc (by omega) (jQ hx) rfl ?_;refine gD ?_;refine eu y.enc (by omega) (jQ hy) rfl ?_;refine gD ?_;refine au (Pu x y im.data im.sigs) ?_;refine gD ?_;refine gO Tryz.func72 ?_;refine ah (fun h6=>?_) (fun h6=>?_)
    ·have aJ:x≠y:=by simpa using h6
     refine gO Tryz.func72 ?_;rw [decide_eq_false (me hx hy aJ)]
    ·have he:x=y:=by simpa using h6
     refine gO Tryz.func72 ?_;refine I.back (IH (k+1) ⟨by omega,oX hk.2 hx hy he⟩ (by omega)) ?_;exact sZ
   ·have aC:k=a.length:=by simp at h5; omega
    refine gO Tryz.func72 ?_;rw [decide_eq_true (oY hk.2 (by omega) (by omega))]
structure aR.mf (z:aR):Prop where
 ab:z.ab.length≤2147483648
 each:∀ s∈z.ab,s.mf
theorem Pw (a b:aR) (ha:a.mf):aq E 27 [a.enc,b.enc] (· = .bool (decide (a=b))):=by
 obtain ⟨aa,sa⟩:=a;obtain ⟨ba,sb⟩:=b;rw [show decide (aR.mk aa sa=aR.mk ba sb)=(decide (aa=ba)&&decide (sa=sb)) by simp];have hs:=Pv sa sb ha.ab ha.each;refine eP Tryz.func27 ?_;repeat' (first | with_reducible refine ao (hs) ?_ | with_reducible refine au (hs) ?_ | with_reducible refine cY ?_ | with_reducible refine cN ?_ | with_reducible refine ah (fun _=>?_) (fun _=>?_) | refine gA Tryz.func27 ?_ | refine gB ?_ | with_reducible rfl)
 all_goals simp_all
end Go.Proofs.YtfmdaiojokniiaaGreatDoor.P
end
section
namespace Go.Proofs.YtfmdaiojokniiaaGreatDoor.P
open Go Go.ax
set_option maxRecDepth 100000
set_option maxHeartbeats 4000000
def chain {α:Type} (ok:α→Bool) (rel:α→α→Bool):Option α→List α→Bool
 |_,[]=>true
 |p,x::l=>ok x&&(match p with | none=>true | some q=>rel q x)&&chain ok rel (some x) l
def bK {α:Type} (l:List α) (k:Nat):Option α:=if k=0 then none else l[k - 1]?
theorem ur {α:Type} {ok:α→Bool} {rel:α→α→Bool} {l:List α} {k:Nat} {x:α} (hx:l[k]? = some x):chain ok rel (bK l k) (l.drop k)=(ok x&&(match bK l k with | none=>true | some q=>rel q x)&&chain ok rel (bK l (k+1)) (l.drop (k+1))):=by
 have hk:=aT hx;rw [List.drop_eq_getElem_cons hk];have e1:l[k]=x:=by simpa [hk] using hx
 have e2:bK l (k+1)=some x:=by simp [bK,hx]
 rw [e1,e2];rfl
theorem qh {α:Type} {l:List α} {k:Nat} (h0:0<k) (hk:k≤l.length):∃ q,l[k - 1]? = some q∧bK l k=some q:=by
 obtain ⟨q,hq⟩:=aD (l:=l) (k:=k - 1) (by omega);exact ⟨q,hq,by simp [bK,hq]; omega⟩
def fb (aj:Text) (g0 g:da):Bool:=(g.az==aj)&&decide (1≤g.key)&&decide (g.key≤1000000)&&decide (1≤g.l6)&&decide (g.l6≤3)&&(g.cj==g0.cj)&&(g.upto==g0.upto)&&decide (0≤g.cj)&&decide (g.cj≤g.upto)&&decide (g.upto≤20000000)
def iT (q g:da):Bool:=decide (q.key<g.key)
def ln (l:List da) (aj:Text):Bool:=decide ((l.length:Int)≤6)&&chain (fb aj (l.headD zD)) iT none l
theorem H7 {l:List da} {k:Nat} (h:k<l.length):l[0]? = some (l.headD zD):=by
 cases l with
 |nil=>simp at h
 |cons x l=>rfl
theorem Dh (l:List da) (aj:Text):aq E 217 [rS l,.str aj] (· = .bool (ln l aj)):=by
 unfold ln;have hg:∃ g0,g0=l.headD zD:=⟨_,rfl⟩;obtain ⟨g0,hg⟩:=hg;rw [← hg];refine eP Tryz.func217 ?_;refine ah (fun h1=>?_) (fun h1=>?_)
 ·refine gO Tryz.func217 ?_;simp only [List.length_map] at h1;rw [decide_eq_false (by simp at h1; omega),Bool.false_and]
 ·have h6:l.length≤6:=by simp at h1; omega
  rw [decide_eq_true (by omega),Bool.true_and];refine gO Tryz.func217 ?_;refine I.loop (κ:=Nat) ([4,5,6]++rg 10 82) (fun k=>[(5,.d (.int .i64 k))]) (fun _=>[]) (fun k=>k≤l.length∧chain (fb aj g0) iT none l=chain (fb aj g0) iT (bK l k) (l.drop k)) (fun k=>l.length - k) 0 ⟨Nat.zero_le _,rfl⟩ ?_ ?_
  ·exact sZ
  ·intro k hk IH;refine I.head af Tryz.func217 2000 ?_;(conv=>whnf);refine ah (fun h5=>?_) (fun h5=>?_)
   ·have ai:k<l.length:=by simpa using h5
    obtain ⟨x,hx⟩:=aD ai;have h0:=H7 ai;rw [← hg] at h0;have aE:=ur (ok:=fb aj g0) (rel:=iT) hx;rw [← hk.2] at aE;refine gO Tryz.func217 ?_;refine aB (aN hx) rfl ?_;refine gO Tryz.func217 ?_;refine I.bH af bI 2000 (by kernel_rfl) ?_;(conv=>whnf);rcases Nat.eq_zero_or_pos k with cJ | cJ
    ·have dA:bK l k=none:=by simp [bK,cJ]
     rw [dA] at aE;dsimp only at aE;rw [Bool.and_true] at aE;repeat' (first | with_reducible refine aB (aN hx) rfl ?_ | with_reducible refine aB (wY h0) rfl ?_ | with_reducible refine cY ?_ | with_reducible refine cN ?_ | with_reducible refine ah (fun _=>?_) (fun _=>?_) | refine gA Tryz.func217 ?_ | refine gB ?_ | with_reducible rfl)
     all_goals first
      |(have bL : fb aj g0 x = false := by clear aE hk IH hg; simp_all [fb, iT, bK] <;> (intros; omega)
        rw [aE, bL, Bool.false_and]
        done)
      |(exfalso; clear aE hk IH hg; simp_all; done)
      |skip
     all_goals
      refine gO Tryz.func217 ?_;refine I.back (IH (k+1) ⟨by omega,by rw [aE,show fb aj g0 x=true by clear aE hk IH hg; simp_all [fb,iT,bK] <;> omega,Bool.true_and]⟩ (by omega)) ?_;exact sZ
    ·obtain ⟨q,hq,dA⟩:=qh cJ hk.1;rw [dA] at aE;repeat' (first | with_reducible refine aB (aN hx) rfl ?_ | with_reducible refine aB (wY h0) rfl ?_ | with_reducible refine aB (l9 hq cJ (by omega)) rfl ?_ | with_reducible refine cY ?_ | with_reducible refine cN ?_ | with_reducible refine ah (fun _=>?_) (fun _=>?_) | refine gA Tryz.func217 ?_ | refine gB ?_ | with_reducible rfl)
     all_goals first
      |(have bL : (fb aj g0 x && iT q x) = false := by clear aE hk IH hg; simp_all [fb, iT, bK] <;> (intros; omega)
        rw [aE, bL, Bool.false_and]
        done)
      |(exfalso; clear aE hk IH hg; simp_all; done)
      |skip
     all_goals
      refine gO Tryz.func217 ?_;refine I.back (IH (k+1) ⟨by omega,by rw [aE,show (fb aj g0 x&&iT q x)=true by clear aE hk IH hg; simp_all [fb,iT,bK] <;> omega,Bool.true_and]⟩ (by omega)) ?_;exact sZ
   ·have aC:l.length≤k:=by simpa using h5
    refine gO Tryz.func217 ?_;rw [hk.2,List.drop_of_length_le aC];rfl
def r9 (t:Int) (aj:Bool):Bool:=if aj then t != 3&&t != 6 else t != 4&&t != 7
theorem H8 (t:Int) (aj:Bool):aq E 214 [.int .i64 t,.bool aj] (· = .bool (r9 t aj)):=by
 refine eP Tryz.func214 ?_;repeat' (first | with_reducible refine cY ?_ | with_reducible refine cN ?_ | with_reducible refine ah (fun _=>?_) (fun _=>?_) | refine gA Tryz.func214 ?_ | refine gB ?_ | with_reducible rfl)
 all_goals simp_all [r9]
def cE (q:bw) (s:Signed):Bool:=s.set.name==q.name&&s.set.type==q.type
def aU (l:List Signed) (q:bw):Int:=match l.findIdx? (cE q) with
 |some i=>i
 |none => -1
theorem H9 {l:List Signed} {q:bw} {k:Nat} {x:Signed} (h:∀ j y,j<k→l[j]? = some y→cE q y=false) (hx:l[k]? = some x) (hq:cE q x=true):aU l q=k:=by
 have:l.findIdx? (cE q)=some k:=by
  rw [List.findIdx?_eq_some_iff_getElem];have hk:=aT hx;refine ⟨hk,?_,fun j hj=>?_⟩
  ·have:l[k]=x:=by simpa [hk] using hx
   rw [this]; exact hq
  ·have:=h j l[j] hj (by simp);rw [this]; decide
 rw [aU,this]
theorem Px {l:List Signed} {q:bw} (h:∀ j y,j<l.length→l[j]? = some y→cE q y=false):aU l q = -1:=by
 have:l.findIdx? (cE q)=none:=by
  rw [List.findIdx?_eq_none_iff];intro x hx;obtain ⟨j,hj⟩:=List.getElem?_of_mem hx;exact h j x (aT hj) hj
 rw [aU,this]
theorem Ia (z:aR) (q:bw) (hl:z.ab.length≤2147483648):aq E 213 [z.enc,q.enc] (· = .int .i64 (aU z.ab q)):=by
 obtain ⟨aj,l⟩:=z;simp only at hl ⊢;refine eP Tryz.func213 ?_;refine I.loop (κ:=Nat) (rg 4 32) (fun k=>[(5,.d (.int .i64 k))]) (fun _=>[]) (fun k=>k≤l.length∧∀ j y,j<k→l[j]? = some y→cE q y=false) (fun k=>l.length - k) 0 ⟨Nat.zero_le _,fun j y h=>by omega⟩ ?_ ?_
 ·exact sZ
 ·intro k hk IH;refine I.head af Tryz.func213 2000 ?_;(conv=>whnf);refine ah (fun h5=>?_) (fun h5=>?_)
  ·have ai:k<l.length:=by simpa using h5
   obtain ⟨x,hx⟩:=aD ai;refine gO Tryz.func213 ?_;refine I.bH af bI 2000 (by kernel_rfl) ?_;(conv=>whnf);repeat' (first | with_reducible refine aB (aN hx) rfl ?_ | with_reducible refine cY ?_ | with_reducible refine cN ?_ | with_reducible refine ah (fun _=>?_) (fun _=>?_) | refine gA Tryz.func213 ?_ | refine gB ?_ | with_reducible rfl)
   all_goals first
    |(rw [H9 hk.2 hx (by simp_all [cE])]; done)
    |skip
   all_goals
    refine gO Tryz.func213 ?_;refine I.back (IH (k+1) ⟨by omega,fun j y hj hy=>?_⟩ (by omega)) ?_
    ·rcases Nat.lt_or_ge j k with h | h
     ·exact hk.2 j y h hy
     ·obtain rfl:j=k:=by omega
      rw [hx] at hy;cases hy;simp_all [cE]
    ·exact sZ
  ·have aC:k=l.length:=by simp at h5; omega
   subst aC;refine gO Tryz.func213 ?_;rw [Px hk.2]
end Go.Proofs.YtfmdaiojokniiaaGreatDoor.P
end
section
namespace Go.Proofs.YtfmdaiojokniiaaGreatDoor.P
open Go Go.ax
set_option maxRecDepth 100000
set_option maxHeartbeats 4000000
def uu (s:Signed):Bool := !(decide ((s.set.data.length:Int)>20)) && !(decide ((s.sigs.length:Int)>20))
def jU (z:aR):Bool:=(z.ab.take 101).all uu&&decide ((z.ab.length:Int)≤100)
theorem Di (z:aR):aq E 34 [z.enc] (· = .bool (jU z)):=by
 obtain ⟨aj,l⟩:=z;unfold jU;simp only;refine eP Tryz.func34 ?_;refine I.loop (κ:=Nat) (rg 2 32) (fun k=>[(3,.d (.int .i64 k))]) (fun _=>[]) (fun k=>k≤l.length∧k≤101∧(l.take k).all uu=true) (fun k=>l.length - k) 0 ⟨Nat.zero_le _,by omega,rfl⟩ ?_ ?_
 ·exact sZ
 ·intro k hk IH;refine I.head af Tryz.func34 2000 ?_;(conv=>whnf);refine ah (fun h5=>?_) (fun h5=>?_)
  ·have ai:k<l.length:=by simpa using h5
   obtain ⟨x,hx⟩:=aD ai;refine gO Tryz.func34 ?_;refine ah (fun h6=>?_) (fun h6=>?_)
   ·have Ib:k≤100:=by simp at h6; omega
    have eQ:(l.take 101)[k]? = some x:=by rw [List.getElem?_take,if_pos (by omega)]; exact hx
    refine gO Tryz.func34 ?_;repeat' (first | with_reducible refine aB (aN hx) rfl ?_ | with_reducible refine cY ?_ | with_reducible refine cN ?_ | with_reducible refine ah (fun _=>?_) (fun _=>?_) | refine gA Tryz.func34 ?_ | refine gB ?_ | with_reducible rfl)
    all_goals first
     |(rw [cX eQ (by simp_all [uu]),Bool.false_and]; done)
     |skip
    all_goals
     refine gO Tryz.func34 ?_;refine I.back (IH (k+1) ⟨by omega,by omega,dh hk.2.2 hx (by simp_all [uu])⟩ (by omega)) ?_;exact sZ
   ·have Ib:k=101:=by simp at h6; omega
    subst Ib;refine gO Tryz.func34 ?_;rw [hk.2.2,Bool.true_and];simp
  ·have aC:k=l.length:=by simp at h5; omega
   refine gO Tryz.func34 ?_;refine aQ ?_;refine gO Tryz.func34 ?_;rw [show (l.take 101).all uu=true by rw [List.take_of_length_le (by omega)]; exact jS hk.2.2 (by omega),Bool.true_and];simp
def oZ (z:aR):Bool := !(decide (aU z.ab ⟨z.aj,4⟩<0)) && !(decide (aU z.ab ⟨z.aj,2⟩<0))&&z.ab.all fun s=>r9 s.set.type (s.set.name==z.aj)
theorem Ic (z:aR) (hl:z.ab.length≤2147483648):aq E 142 [z.enc] (· = .bool (oZ z)):=by
 obtain ⟨aj,l⟩:=z;simp only at hl;have h1:=Ia ⟨aj,l⟩ ⟨aj,4⟩ hl;have h2:=Ia ⟨aj,l⟩ ⟨aj,2⟩ hl;refine eP Tryz.func142 ?_;repeat' (first | with_reducible refine ao (h1) ?_ | with_reducible refine au (h1) ?_ | with_reducible refine ao (h2) ?_ | with_reducible refine au (h2) ?_ | with_reducible refine cY ?_ | with_reducible refine cN ?_ | with_reducible refine ah (fun _=>?_) (fun _=>?_) | refine gA Tryz.func142 ?_ | refine gB ?_ | with_reducible rfl)
 all_goals try (simp_all [oZ]; done)
 all_goals
  rename_i h3 h4;simp only [oZ,h3,h4,Bool.not_false,Bool.true_and];refine gO Tryz.func142 ?_;refine I.loop (κ:=Nat) ([2,3]++rg 18 26) (fun k=>[(3,.d (.int .i64 k))]) (fun _=>[]) (fun k=>k≤l.length∧(l.take k).all (fun s=>r9 s.set.type (s.set.name==aj))=true) (fun k=>l.length - k) 0 ⟨Nat.zero_le _,rfl⟩ ?_ ?_
  ·exact sZ
  ·intro k hk IH;refine I.head af Tryz.func142 2000 ?_;(conv=>whnf);refine ah (fun h5=>?_) (fun h5=>?_)
   ·have ai:k<l.length:=by simpa using h5
    obtain ⟨x,hx⟩:=aD ai;refine gO Tryz.func142 ?_;refine I.bH af bI 2000 (by kernel_rfl) ?_;(conv=>whnf);repeat' (first | with_reducible refine aB (aN hx) rfl ?_ | with_reducible refine ao (H8 _ _) ?_ | with_reducible refine au (H8 _ _) ?_ | with_reducible refine cY ?_ | with_reducible refine cN ?_ | with_reducible refine ah (fun _=>?_) (fun _=>?_) | refine gA Tryz.func142 ?_ | refine gB ?_ | with_reducible rfl)
    all_goals first
     |(rw [cX hx (by simp_all)]; done)
     |skip
    all_goals
     refine gO Tryz.func142 ?_;refine I.back (IH (k+1) ⟨by omega,dh hk.2 hx (by simp_all)⟩ (by omega)) ?_;exact sZ
   ·have aC:l.length≤k:=by simpa using h5
    refine gO Tryz.func142 ?_;rw [jS hk.2 aC]
def kA:Text→Option Text→List Signed→Bool
 |_,_,[]=>true
 |al,p,s::l=>(match p with
   |none=>true
   |some n=>if n==s.set.name then !((s.set.name != []&&s.set.type==3)||(s.set.name != []&&(s.set.name==if s.set.type==3 then s.set.name else al)&&s.set.type != 3&&s.set.type != 8)) else true)
  && kA (if s.set.type==3 then s.set.name else al) (some s.set.name) l
theorem Py {al : Text} {l : List Signed} {k : Nat} {x : Signed} (hx : l[k]? = some x) : kA al (bK (l.map (·.set.name)) k) (l.drop k) = ((match bK (l.map (·.set.name)) k with
      | none => true
      | some n => if n == x.set.name then !((x.set.name != [] && x.set.type == 3) || (x.set.name != [] && (x.set.name == if x.set.type == 3 then x.set.name else al) && x.set.type != 3 && x.set.type != 8)) else true)
  && kA (if x.set.type==3 then x.set.name else al) (bK (l.map (·.set.name)) (k+1)) (l.drop (k+1))):=by
 have hk:=aT hx;rw [List.drop_eq_getElem_cons hk];have e1:l[k]=x:=by simpa [hk] using hx
 have e2:bK (l.map (·.set.name)) (k+1)=some x.set.name:=by simp [bK,hx]
 rw [e1,e2];rfl
theorem Ie (z:aR) (hl:z.ab.length≤2147483648):aq E 143 [z.enc] (· = .bool (kA [] none z.ab)):=by
 obtain ⟨aj,l⟩:=z;simp only at hl ⊢;refine eP Tryz.func143 ?_;refine I.loop (κ:=Nat × Text) [2,3,4,5,6,7,8,9,10,11,12,13,14,15,16,17,18,19,20,21,22,23,24,25,26,27,28,29,30,31,32,33,34,35,36,37,38,39,40,41,42,43,44,45,46,47,48,49,50,51,52,53,54,55,56,57,58,59,60,61,62,63,64,65,66,67,68,69,70,71,72,73,74,75,76,77,78,79,80,81,82,83,84,85] (fun k=>[(4,.d (.int .i64 k.1)),(3,.d (.str k.2))]) (fun _=>[]) (fun k=>k.1≤l.length∧kA [] none l=kA k.2 (bK (l.map (·.set.name)) k.1) (l.drop k.1)) (fun k=>l.length - k.1) (0,[]) ⟨Nat.zero_le _,rfl⟩ ?_ ?_
 ·exact sZ
 ·rintro ⟨k,al⟩ hk IH;simp only at hk;refine I.head af Tryz.func143 2000 ?_;(conv=>whnf);refine ah (fun h5=>?_) (fun h5=>?_)
  ·have ai:k<l.length:=by simpa using h5
   obtain ⟨x,hx⟩:=aD ai;have aE:=Py (al:=al) hx;rw [← hk.2] at aE;refine gO Tryz.func143 ?_;refine aB (aN hx) rfl ?_;refine gO Tryz.func143 ?_;refine ah (fun h6=>?_) (fun h6=>?_);all_goals
    rcases Nat.eq_zero_or_pos k with cJ | cJ
    ·have dA:bK (l.map (·.set.name)) k=none:=by simp [bK,cJ]
     rw [dA] at aE;refine gO Tryz.func143 ?_;repeat' (first | with_reducible refine aB (aN hx) rfl ?_ | with_reducible refine cY ?_ | with_reducible refine cN ?_ | with_reducible refine ah (fun _=>?_) (fun _=>?_) | refine gA Tryz.func143 ?_ | refine gB ?_ | with_reducible rfl)
     refine gO Tryz.func143 ?_;refine I.bH af bI 2000 (by kernel_rfl) ?_;(conv=>whnf);repeat' (first | with_reducible refine aB (aN hx) rfl ?_ | with_reducible refine cY ?_ | with_reducible refine cN ?_ | with_reducible refine ah (fun _=>?_) (fun _=>?_) | refine gA Tryz.func143 ?_ | refine gB ?_ | with_reducible rfl)
     all_goals first
      |(exfalso; clear aE hk IH; simp_all; done)
      |skip
     all_goals
      refine gO Tryz.func143 ?_;refine I.back (IH (k+1,if x.set.type==3 then x.set.name else al) ⟨by simp only; omega,by simp only; rw [aE]; simp⟩ (by simp only; omega)) ?_;(conv=>whnf);repeat (first | exact trivial | (refine And.intro (by first | with_reducible rfl | exact congrArg (DV.int .i64) (by omega) | exact congrArg DV.str (by simp [h6]) | exact congrArg (DV.int .i64) (wrap64 (by omega) (by omega)) | exact congrArg (DV.int .i64) ((wrap64 (by omega) (by omega)).trans (by omega))) ?_; conv=>whnf))
    ·obtain ⟨q,hq,-⟩:=qh cJ hk.1;have dA:bK (l.map (·.set.name)) k=some q.set.name:=by simp [bK,hq]; omega
     rw [dA] at aE;refine gO Tryz.func143 ?_;repeat' (first | with_reducible refine aB (aN hx) rfl ?_ | with_reducible refine aB (l9 hq cJ (by omega)) rfl ?_ | with_reducible refine cY ?_ | with_reducible refine cN ?_ | with_reducible refine ah (fun _=>?_) (fun _=>?_) | refine gA Tryz.func143 ?_ | refine gB ?_ | with_reducible rfl)
     refine gO Tryz.func143 ?_;refine I.bH af bI 2000 (by kernel_rfl) ?_;(conv=>whnf);repeat' (first | with_reducible refine aB (aN hx) rfl ?_ | with_reducible refine aB (l9 hq cJ (by omega)) rfl ?_ | with_reducible refine cY ?_ | with_reducible refine cN ?_ | with_reducible refine ah (fun _=>?_) (fun _=>?_) | refine gA Tryz.func143 ?_ | refine gB ?_ | with_reducible rfl)
     all_goals first
      |(rw [aE]; clear aE hk IH; simp_all; done)
      |(exfalso; clear aE hk IH; simp_all; done)
      |skip
     all_goals
      refine gO Tryz.func143 ?_;refine I.back (IH (k+1,if x.set.type==3 then x.set.name else al) ⟨by simp only; omega,by simp only; rw [aE]; clear aE hk IH; simp_all⟩ (by simp only; omega)) ?_;(conv=>whnf);repeat (first | exact trivial | (refine And.intro (by first | with_reducible rfl | exact congrArg (DV.int .i64) (by omega) | exact congrArg DV.str (by simp [h6]) | exact congrArg (DV.int .i64) (wrap64 (by omega) (by omega)) | exact congrArg (DV.int .i64) ((wrap64 (by omega) (by omega)).trans (by omega))) ?_; conv=>whnf))
  ·have aC:l.length≤k:=by simpa using h5
   refine gO Tryz.func143 ?_;rw [hk.2,List.drop_of_length_le aC];rfl
end Go.Proofs.YtfmdaiojokniiaaGreatDoor.P
end
section
namespace Go.Proofs.YtfmdaiojokniiaaGreatDoor.P
open Go Go.ax
set_option maxRecDepth 100000
set_option maxHeartbeats 4000000
def gu (aj:Text) (s:Signed):Bool:=s.set.type==2&&s.set.name != aj
def bR (aj:Text) (l:List Signed):List Text:=(l.filter (gu aj)).map (·.set.name)
theorem Pz {aj:Text} {l:List Signed} {k:Nat} {x:Signed} (h:l[k]? = some x):bR aj (l.take (k+1))=bR aj (l.take k)++(if gu aj x then [x.set.name] else []):=by
 rw [cQ h];simp only [bR,List.filter_append,List.map_append]
 congr 1
 cases hc:gu aj x <;> simp [hc]
theorem Dj (aj:Text) (l:List Signed):(bR aj l).length≤l.length:=by
 simp only [bR,List.length_map];exact List.length_filter_le _ _
theorem nR {aj:Text} {l:List Signed} {c:Text} (h:c∈bR aj l):∃ s∈l,s.set.name=c∧gu aj s=true:=by
 simp only [bR,List.mem_map,List.mem_filter] at h;obtain ⟨s,⟨h1,h2⟩,h3⟩:=h;exact ⟨s,h1,h3,h2⟩
theorem PA (z:aR) (hl:z.ab.length≤1000000000):aq E 329 [z.enc] (· = .sl ((bR z.aj z.ab).map .str)):=by
 obtain ⟨aj,l⟩:=z;simp only at hl ⊢;refine eP Tryz.func329 ?_;refine I.tj 3 (9,1) (by decide) rfl ?_;(conv=>whnf);refine I.loop (κ:=Nat) (rg 3 31) (fun k=>[(4,.d (.int .i64 k)),(3,.own 1 1)]) (fun k=>[(1,.arr 1 (9,1) ((bR aj (l.take k)).map .str))]) (fun k=>k≤l.length) (fun k=>l.length - k) 0 (Nat.zero_le _) ?_ ?_
 ·(conv=>whnf);repeat (first | exact trivial | (refine And.intro (by first | with_reducible rfl | exact congrArg (DV.int .i64) (by omega) | exact rfl | exact congrArg (DV.int .i64) (wrap64 (by omega) (by omega)) | exact congrArg (DV.int .i64) ((wrap64 (by omega) (by omega)).trans (by omega))) ?_; conv=>whnf))
 ·intro k hk IH;have cH:=Dj aj (l.take k);rw [List.length_take] at cH;refine I.head af Tryz.func329 2000 ?_;(conv=>whnf);refine ah (fun h5=>?_) (fun h5=>?_)
  ·have ai:k<l.length:=by simpa using h5
   obtain ⟨x,hx⟩:=aD ai;have aE:=Pz (aj:=aj) hx;refine gO Tryz.func329 ?_;repeat' (first | with_reducible refine aB (aN hx) rfl ?_ | with_reducible refine cY ?_ | with_reducible refine cN ?_ | with_reducible refine ah (fun _=>?_) (fun _=>?_) | refine gA Tryz.func329 ?_ | refine gB ?_ | with_reducible rfl)
   all_goals first
    |(refine bc ⟨by simp; omega, by simp [DV.cells]⟩ ?_
      have hc : gu aj x = true := by simp_all [gu])
    |(have hc:gu aj x=false:=by simp_all [gu])
   all_goals
    rw [hc] at aE;refine gO Tryz.func329 ?_;refine I.back (IH (k+1) (by omega) (by omega)) ?_;(conv=>whnf);repeat (first | exact trivial | (refine sI ?_; conv=>whnf))
    refine And.intro (by rw [aE]; simp) ?_;exact sZ
  ·have aC:l.length≤k:=by simpa using h5
   refine gO Tryz.func329 ?_;rw [List.take_of_length_le aC]
def jt (out:List Text) (c:Text):List Text:=match out.getLast? with
 |none=>out++[c]
 |some d=>if Nm.under c d then out else out++[c]
def ew (l:List Text):List Text:=l.foldl jt []
theorem PB {l:List Text} {k:Nat} {x:Text} (h:l[k]? = some x):ew (l.take (k+1))=jt (ew (l.take k)) x:=by
 rw [cQ h,ew,List.foldl_append];rfl
theorem PC (o:List Text) (c:Text):(jt o c).length≤o.length+1:=by
 unfold jt;split
 ·simp
 ·split <;> simp
theorem Ig (l:List Text):(ew l).length≤l.length:=by
 have:∀ (l o:List Text),(l.foldl jt o).length≤o.length+l.length:=by
  intro l
  induction l with
  |nil=>simp
  |cons x l ih=>intro o; have:=ih (jt o x); have:=PC o x; simp; omega
 have:=this l []
 simpa [ew] using this
theorem uv {l:List Text}:∀ c∈ew l,c∈l:=by
 have:∀ (l o:List Text),∀ c∈l.foldl jt o,c∈o∨c∈l:=by
  intro l
  induction l with
  |nil=>intro o c h; exact .inl h
  |cons x l ih =>
   intro o c h;rcases ih (jt o x) c h with h | h
   ·have:c∈o∨c=x:=by
     unfold jt at h;split at h
     ·simpa using h
     ·split at h
      ·exact .inl h
      ·simpa using h
    rcases this with h | h
    ·exact .inl h
    ·exact .inr (by simp [h])
   ·exact .inr (List.mem_cons_of_mem _ h)
 intro c h;rcases this l [] c h with h | h
 ·simp at h
 ·exact h
theorem PD (z:aR) (hl:z.ab.length≤1000000000) (hn:∀ s∈z.ab,s.set.name.length≤1000):aq E 276 [z.enc] (· = .sl ((ew (bR z.aj z.ab)).map .str)):=by
 have dy:∀ c∈bR z.aj z.ab,c.length≤1000:=fun c hc=>by
  obtain ⟨s,h1,rfl,-⟩:=nR hc;exact hn s h1
 have cH:=Dj z.aj z.ab;refine eP Tryz.func276 ?_
 with_reducible refine ao (PA z hl) ?_
 refine gO Tryz.func276 ?_;generalize bR z.aj z.ab=l at *;refine I.tj 4 (9,1) (by decide) rfl ?_;(conv=>whnf);refine I.loop (κ:=Nat) ([4,5]++rg 8 30) (fun k=>[(5,.d (.int .i64 k)),(4,.own 1 1)]) (fun k=>[(1,.arr 1 (9,1) ((ew (l.take k)).map .str))]) (fun k=>k≤l.length) (fun k=>l.length - k) 0 (Nat.zero_le _) ?_ ?_
 ·(conv=>whnf);repeat (first | exact trivial | (refine And.intro (by first | with_reducible rfl | exact congrArg (DV.int .i64) (by omega) | exact rfl | exact congrArg (DV.int .i64) (wrap64 (by omega) (by omega)) | exact congrArg (DV.int .i64) ((wrap64 (by omega) (by omega)).trans (by omega))) ?_; conv=>whnf))
 ·intro k hk IH;have zK:=Ig (l.take k);rw [List.length_take] at zK;have PE:∀ c∈ew (l.take k),c.length≤1000:=fun c hc=>dy c (List.mem_of_mem_take (uv c hc));refine I.head af Tryz.func276 2000 ?_;(conv=>whnf);refine ah (fun h5=>?_) (fun h5=>?_)
  ·have ai:k<l.length:=by simpa using h5
   obtain ⟨x,hx⟩:=aD ai;have im:=dy x (List.mem_of_getElem? hx);have aE:=PB hx;generalize ew (l.take k)=o at *;rcases List.eq_nil_or_concat o with rfl | ⟨i,d,rfl⟩
   ·refine gO Tryz.func276 ?_;refine I.bH af bI 2000 (by kernel_rfl) ?_;(conv=>whnf);refine aV (by simp) ?_;refine gD ?_;refine gO Tryz.func276 ?_;refine aY ?_;refine gO Tryz.func276 ?_;refine aB (aN hx) rfl ?_;refine gO Tryz.func276 ?_;refine bc ⟨by simp,by simp [DV.cells]⟩ ?_;refine gO Tryz.func276 ?_;refine I.back (IH (k+1) (by omega) (by omega)) ?_;(conv=>whnf);repeat (first | exact trivial | (refine sI ?_; conv=>whnf))
    refine And.intro (by rw [aE]; simp [jt]) ?_;exact sZ
   ·simp only [List.concat_eq_append] at *;have hw:IntKind.i64.wrap ((((i++[d]).map DV.str).length:Int) - 1)=(i.length:Int):=by
     rw [wrap64 (by simp) (by simp; simp at zK; omega)]; simp
    have dv:((i++[d]).map DV.str)[((i.length:Nat):Int).toNat]? = some (.str d):=by simp
    have qi:=PE d (by simp);have aX:jt (i++[d]) x=if Nm.under x d then i++[d] else i++[d]++[x]:=by simp [jt]
    rw [aX] at aE;refine gO Tryz.func276 ?_;refine I.bH af bI 2000 (by kernel_rfl) ?_;(conv=>whnf);refine aW (by simp; omega) ?_;refine gD ?_;refine aB (aN hx) rfl ?_;refine gD ?_;rw [hw];refine bc ⟨by omega,by simp; omega⟩ ?_;refine gD ?_;refine eu (.str d) (by omega) (by simp) rfl ?_;refine gD ?_;refine au (w7 _ _ im qi) ?_;refine gD ?_;cases hu:Nm.under x d
    ·rw [hu] at aE;refine gO Tryz.func276 ?_;refine aV (by decide) ?_;refine gO Tryz.func276 ?_;refine aB (aN hx) rfl ?_;refine gO Tryz.func276 ?_;refine bc ⟨by simp; simp at zK; omega,by simp [DV.cells]⟩ ?_;refine gO Tryz.func276 ?_;refine I.back (IH (k+1) (by omega) (by omega)) ?_;(conv=>whnf);repeat (first | exact trivial | (refine sI ?_; conv=>whnf))
     refine And.intro (by rw [aE]; simp) ?_;exact sZ
    ·rw [hu] at aE;refine gO Tryz.func276 ?_;refine aW (by decide) ?_;refine gO Tryz.func276 ?_;refine I.back (IH (k+1) (by omega) (by omega)) ?_;(conv=>whnf);repeat (first | exact trivial | (refine sI ?_; conv=>whnf))
     refine And.intro (by rw [aE]; simp) ?_;exact sZ
  ·have aC:l.length≤k:=by simpa using h5
   refine gO Tryz.func276 ?_;rw [List.take_of_length_le aC]
end Go.Proofs.YtfmdaiojokniiaaGreatDoor.P
end
section
namespace Go.Proofs.YtfmdaiojokniiaaGreatDoor.P
open Go Go.ax
set_option maxRecDepth 100000
set_option maxHeartbeats 4000000
def dZ (cu:List Text) (n:Text) (k:Nat):Nat:=k+((cu.drop k).takeWhile fun c=>decide (bp c n≤0)).length
theorem PF {cu:List Text} {n c:Text} {k:Nat} (h:cu[k]? = some c) (ho:bp c n≤0):dZ cu n k=dZ cu n (k+1):=by
 have hk:=aT h;have e1:cu[k]=c:=by simpa [hk] using h
 unfold dZ;rw [List.drop_eq_getElem_cons hk,e1,List.takeWhile_cons_of_pos (by simpa using ho)];simp;omega
theorem PG {cu:List Text} {n c:Text} {k:Nat} (h:cu[k]? = some c) (ho:¬ bp c n≤0):dZ cu n k=k:=by
 have hk:=aT h;have e1:cu[k]=c:=by simpa [hk] using h
 unfold dZ;rw [List.drop_eq_getElem_cons hk,e1,List.takeWhile_cons_of_neg (by simpa using ho)];simp
theorem PH {cu:List Text} {n:Text} {k:Nat} (h:cu.length≤k):dZ cu n k=k:=by
 unfold dZ;rw [List.drop_of_length_le h];simp
theorem zL {cu:List Text} {n:Text} {k:Nat} (h:k≤cu.length):dZ cu n k≤cu.length:=by
 unfold dZ;have h1:((cu.drop k).takeWhile fun c=>decide (bp c n≤0)).length≤(cu.drop k).length:=(List.takeWhile_prefix _).length_le;simp at h1 ⊢;omega
def kB (cu:List Text) (n:Text) (k:Nat):Text:=if k=0 then [] else match cu[k - 1]? with
 |some c=>if Nm.under n c then c else []
 |none=>[]
def lp (cu:List Text):Nat→List Text→List Text
 |_,[]=>[]
 |k,n::ns=>kB cu n (dZ cu n k)::lp cu (dZ cu n k) ns
theorem Ih (cu:List Text):∀ (k:Nat) (ns:List Text),(lp cu k ns).length=ns.length
 |_,[]=>rfl
 |k,n::ns=>by simp [lp,Ih cu _ ns]
def gP (z:aR):List Text:=lp (ew (bR z.aj z.ab)) 0 (z.ab.map (·.set.name))
theorem qj (z:aR):(gP z).length=z.ab.length:=by simp [gP,Ih]
theorem qk {α:Type} {B:List α} {e x:α} {i n:Nat} (hB:B.length=n) (h:B[i]? = some x):(B.take i++List.replicate (n - i) e).set i x=B.take (i+1)++List.replicate (n - (i+1)) e:=by
 have hi:=aT h;rw [cQ h,List.set_append_right _ _ (by simp; omega)];simp only [List.length_take,List.append_assoc]
 congr 1
 rw [show n - i=(n - (i+1))+1 by omega,List.replicate_succ];simp [Nat.min_eq_left (Nat.le_of_lt hi)]
theorem zM {α:Type} {B:List α} {e:α} {i n:Nat} (hB:B.length=n) (h:B[i]? = some e):B.take i++List.replicate (n - i) e=B.take (i+1)++List.replicate (n - (i+1)) e:=by
 have hi:=aT h;rw [cQ h,List.append_assoc]
 congr 1
 rw [show n - i=(n - (i+1))+1 by omega,List.replicate_succ];rfl
theorem ql {α:Type} {B:List α} {e:α} {i n:Nat} (hB:B.length=n) (hi:i<n):(B.take i++List.replicate (n - i) e)[i]? = some e:=by
 rw [List.getElem?_append_right (by simp; omega)];simp only [List.length_take];rw [show i - min i B.length=0 by omega];rw [List.getElem?_replicate,if_pos (by omega)]
theorem Ii (z:aR) (hl:z.ab.length≤1000000) (hn:∀ s∈z.ab,s.set.name.length≤1000):aq E 215 [z.enc] (· = .sl ((gP z).map .str)):=by
 have dy:∀ c∈ew (bR z.aj z.ab),c.length≤1000:=fun c hc=>by
  obtain ⟨s,h1,rfl,-⟩:=nR (uv c hc);exact hn s h1
 have cH:(ew (bR z.aj z.ab)).length≤z.ab.length:=Nat.le_trans (Ig _) (Dj _ _);have ga:=qj z;have Dk:gP z=lp (ew (bR z.aj z.ab)) 0 (z.ab.map (·.set.name)):=rfl;generalize gP z=B at *;refine eP Tryz.func215 ?_
 with_reducible refine ao (PD z (by omega) hn) ?_
 refine gO Tryz.func215 ?_;generalize ew (bR z.aj z.ab)=cu at *;obtain ⟨aj,l⟩:=z;simp only at *;refine bc ?_ ?_
 ·simp; omega
 ·refine gO Tryz.func215 ?_;refine I.loop (κ:=Nat × Nat) [5,6,7,14,15,16,17,18,19,20,21,22,23,24,25,26,27,28,29,30,31,32,33,34,35,36,37,38,39,40,41,42,43,44,45,46,47,48,49,50,51,52,53,54,55,56,57,58,59,60,61] (fun k=>[(6,.d (.int .i64 k.1)),(5,.d (.int .i64 k.2)),(4,.own 1 0)]) (fun k=>[(1,.arr 0 (9,1) ((B.take k.1++List.replicate (l.length - k.1) []).map .str))]) (fun k=>k.1≤l.length∧k.2≤cu.length∧B.drop k.1=lp cu k.2 ((l.drop k.1).map (·.set.name))) (fun k=>l.length - k.1) (0,0) ⟨Nat.zero_le _,Nat.zero_le _,by simpa using Dk⟩ ?_ ?_
  ·(conv=>whnf);repeat (first | exact trivial | (refine sI ?_; conv=>whnf))
   refine And.intro (by simp) ?_;exact sZ
  ·rintro ⟨i,k⟩ hk IH;simp only at hk;refine I.head af Tryz.func215 2000 ?_;(conv=>whnf);refine ah (fun h5=>?_) (fun h5=>?_)
   ·have ai:i<l.length:=by simpa using h5
    obtain ⟨x,hx⟩:=aD ai;have im:=hn x (List.mem_of_getElem? hx);have Dl:(l.drop i).map (·.set.name)=x.set.name::(l.drop (i+1)).map (·.set.name):=by
     have e1:l[i]=x:=by simpa [ai] using hx
     rw [List.drop_eq_getElem_cons ai,e1];rfl
    obtain ⟨-,fp,sc⟩:=hk;rw [Dl,lp] at sc;have eK:B[i]? = some (kB cu x.set.name (dZ cu x.set.name k)):=by
     have:=congrArg (fun l=>l[0]?) sc
     simpa using this
    have gQ:B.drop (i+1)=lp cu (dZ cu x.set.name k) ((l.drop (i+1)).map (·.set.name)):=by
     have:=congrArg List.tail sc
     simpa using this
    have o0:=zL (n:=x.set.name) fp;refine gO Tryz.func215 ?_;refine aB (aN hx) rfl ?_;refine gO Tryz.func215 ?_;refine I.loop (κ:=Nat) ([5]++rg 28 15) (fun j=>[(5,.d (.int .i64 j))]) (fun _=>[]) (fun j=>j≤cu.length∧dZ cu x.set.name k=dZ cu x.set.name j) (fun j=>cu.length - j) k ⟨fp,rfl⟩ ?_ ?_
    ·exact sZ
    ·intro j hj mQ;have leave:∀ (zq:dZ cu x.set.name k=j),True:=fun _=>trivial;refine I.head af Tryz.func215 2000 ?_;(conv=>whnf);refine ah (fun h6=>?_) (fun h6=>?_)
     ·have jV:j<cu.length:=by simpa using h6
      obtain ⟨c,hc⟩:=aD jV;have PI:=dy c (List.mem_of_getElem? hc);refine gO Tryz.func215 ?_;refine aB (aN hc) rfl ?_;refine gO Tryz.func215 ?_
      with_reducible refine ao (Dd _ _ PI im) ?_
      refine gO Tryz.func215 ?_;refine ah (fun h7=>?_) (fun h7=>?_)
      ·refine gO Tryz.func215 ?_;refine I.back (mQ (j+1) ⟨by omega,by rw [hj.2]; exact PF hc (by simpa using h7)⟩ (by omega)) ?_;exact sZ
      ·have Dm:dZ cu x.set.name k=j:=by rw [hj.2]; exact PG hc (by simpa using h7)
       rw [Dm] at eK gQ;refine gO Tryz.func215 ?_;rcases Nat.eq_zero_or_pos j with mK | mK
       ·have mF:kB cu x.set.name j=[]:=by simp [kB,mK]
        rw [mF] at eK;refine aW (by simp; omega) ?_;refine gO Tryz.func215 ?_;refine aQ ?_;refine gO Tryz.func215 ?_;refine I.back (IH (i+1,j) ⟨by simp only; omega,by simp only; omega,gQ⟩ (by simp only; omega)) ?_;(conv=>whnf);repeat (first | exact trivial | (refine sI ?_; conv=>whnf))
        refine And.intro (by rw [zM ga eK]) ?_;exact sZ
       ·obtain ⟨c,hc⟩:=aD (l:=cu) (k:=j - 1) (by omega);have Dn:=dy c (List.mem_of_getElem? hc);have mF:kB cu x.set.name j=if Nm.under x.set.name c then c else []:=by simp [kB,hc]; omega
        rw [mF] at eK;refine aV (by simp; omega) ?_;refine gO Tryz.func215 ?_;refine aB (l9 hc mK (by omega)) rfl ?_;refine gO Tryz.func215 ?_
        with_reducible refine ao (w7 _ _ im Dn) ?_
        refine gO Tryz.func215 ?_;cases hu:Nm.under x.set.name c
        ·rw [hu] at eK;refine aQ ?_;refine gO Tryz.func215 ?_;refine I.back (IH (i+1,j) ⟨by simp only; omega,by simp only; omega,gQ⟩ (by simp only; omega)) ?_;(conv=>whnf);repeat (first | exact trivial | (refine sI ?_; conv=>whnf))
         refine And.intro (by rw [zM ga (by simpa using eK)]) ?_;exact sZ
        ·rw [hu] at eK;refine aY ?_;refine gO Tryz.func215 ?_;refine aB (l9 hc mK (by omega)) rfl ?_;refine gO Tryz.func215 ?_;refine bc ⟨by omega,by simp; omega⟩ ?_;refine gO Tryz.func215 ?_;refine eu (.str []) (by omega) (by simp only [Int.toNat_natCast,List.getElem?_map]; rw [ql ga ai]; rfl) rfl ?_;refine gO Tryz.func215 ?_;refine I.back (IH (i+1,j) ⟨by simp only; omega,by simp only; omega,gQ⟩ (by simp only; omega)) ?_;(conv=>whnf);repeat (first | exact trivial | (refine sI ?_; conv=>whnf))
         refine And.intro (by rw [← qk (e:=[]) ga (by simpa using eK)]; simp [List.map_set]) ?_;exact sZ
     ·have Dm:dZ cu x.set.name k=j:=by rw [hj.2]; exact PH (by simpa using h6)
      rw [Dm] at eK gQ;refine gO Tryz.func215 ?_;refine aQ ?_;refine gO Tryz.func215 ?_;rcases Nat.eq_zero_or_pos j with mK | mK
      ·have mF:kB cu x.set.name j=[]:=by simp [kB,mK]
       rw [mF] at eK;refine aW (by simp; omega) ?_;refine gO Tryz.func215 ?_;refine aQ ?_;refine gO Tryz.func215 ?_;refine I.back (IH (i+1,j) ⟨by simp only; omega,by simp only; omega,gQ⟩ (by simp only; omega)) ?_;(conv=>whnf);repeat (first | exact trivial | (refine sI ?_; conv=>whnf))
       refine And.intro (by rw [zM ga eK]) ?_;exact sZ
      ·obtain ⟨c,hc⟩:=aD (l:=cu) (k:=j - 1) (by omega);have Dn:=dy c (List.mem_of_getElem? hc);have mF:kB cu x.set.name j=if Nm.under x.set.name c then c else []:=by simp [kB,hc]; omega
       rw [mF] at eK;refine aV (by simp; omega) ?_;refine gO Tryz.func215 ?_;refine aB (l9 hc mK (by omega)) rfl ?_;refine gO Tryz.func215 ?_
       with_reducible refine ao (w7 _ _ im Dn) ?_
       refine gO Tryz.func215 ?_;cases hu:Nm.under x.set.name c
       ·rw [hu] at eK;refine aQ ?_;refine gO Tryz.func215 ?_;refine I.back (IH (i+1,j) ⟨by simp only; omega,by simp only; omega,gQ⟩ (by simp only; omega)) ?_;(conv=>whnf);repeat (first | exact trivial | (refine sI ?_; conv=>whnf))
        refine And.intro (by rw [zM ga (by simpa using eK)]) ?_;exact sZ
       ·rw [hu] at eK;refine aY ?_;refine gO Tryz.func215 ?_;refine aB (l9 hc mK (by omega)) rfl ?_;refine gO Tryz.func215 ?_;refine bc ⟨by omega,by simp; omega⟩ ?_;refine gO Tryz.func215 ?_;refine eu (.str []) (by omega) (by simp only [Int.toNat_natCast,List.getElem?_map]; rw [ql ga ai]; rfl) rfl ?_;refine gO Tryz.func215 ?_;refine I.back (IH (i+1,j) ⟨by simp only; omega,by simp only; omega,gQ⟩ (by simp only; omega)) ?_;(conv=>whnf);repeat (first | exact trivial | (refine sI ?_; conv=>whnf))
        refine And.intro (by rw [← qk (e:=[]) ga (by simpa using eK)]; simp [List.map_set]) ?_;exact sZ
   ·have aC:l.length≤i:=by simpa using h5
    refine gO Tryz.func215 ?_;simp only [show l.length - i=0 by omega,List.replicate_zero,List.append_nil];rw [List.take_of_length_le (by omega)]
end Go.Proofs.YtfmdaiojokniiaaGreatDoor.P
end
section
namespace Go.Proofs.YtfmdaiojokniiaaGreatDoor.P
open Go Go.ax
set_option maxRecDepth 100000
set_option maxHeartbeats 4000000
theorem uw {α β:Type} {a:List α} {b:List β} {k:Nat} {x:α} {y:β} (ha:a[k]? = some x) (hb:b[k]? = some y):(a.zip b)[k]? = some (x,y):=by
 rw [List.getElem?_zip_eq_some];exact ⟨ha,hb⟩
def o3 (s:Signed) (b:Text):Bool:=b==[]||(s.set.type != 2&&s.set.type != 1)
def o4 (z:aR):List Bool:=(z.ab.zip (gP z)).map fun p=>o3 p.1 p.2
theorem Dp (z:aR):(o4 z).length=z.ab.length:=by simp [o4,qj]
theorem PJ (z:aR) (hl:z.ab.length≤1000000) (hn:∀ s∈z.ab,s.set.name.length≤1000):aq E 216 [z.enc] (· = .sl ((o4 z).map .bool)):=by
 have ga:=qj z;have Dq:=Dp z;have hO:o4 z=(z.ab.zip (gP z)).map fun p=>o3 p.1 p.2:=rfl;generalize o4 z=O at *;refine eP Tryz.func216 ?_
 with_reducible refine ao (Ii z hl hn) ?_
 refine gO Tryz.func216 ?_;generalize gP z=B at *;obtain ⟨aj,l⟩:=z;simp only at *;refine bc (by simp; omega) ?_;refine gO Tryz.func216 ?_;refine I.loop (κ:=Nat) ([5,6]++rg 13 30) (fun k=>[(5,.d (.int .i64 k)),(4,.own 1 0)]) (fun k=>[(1,.arr 0 (4,1) ((O.take k++List.replicate (l.length - k) false).map .bool))]) (fun k=>k≤l.length) (fun k=>l.length - k) 0 (Nat.zero_le _) ?_ ?_
 ·(conv=>whnf);repeat (first | exact trivial | (refine sI ?_; conv=>whnf))
  refine And.intro (by simp) ?_;exact sZ
 ·intro k hk IH;refine I.head af Tryz.func216 2000 ?_;(conv=>whnf);refine ah (fun h5=>?_) (fun h5=>?_)
  ·have ai:k<l.length:=by simpa using h5
   obtain ⟨x,hx⟩:=aD ai;obtain ⟨b,hb⟩:=aD (l:=B) (k:=k) (by omega);have Ij:O[k]? = some (o3 x b):=by rw [hO,List.getElem?_map,uw hx hb]; rfl
   have Ik:=ql (e:=false) Dq ai;have iN:=qk (e:=false) Dq Ij;refine gO Tryz.func216 ?_;repeat' (first | with_reducible refine aB (aN hx) rfl ?_ | with_reducible refine aB (aN hb) rfl ?_ | with_reducible refine cY ?_ | with_reducible refine cN ?_ | with_reducible refine ah (fun _=>?_) (fun _=>?_) | refine gA Tryz.func216 ?_ | refine gB ?_ | with_reducible rfl)
   all_goals
    refine bc ⟨by omega,by simp; omega⟩ ?_;refine gO Tryz.func216 ?_;refine eu (.bool false) (by omega) (by simp only [Int.toNat_natCast,List.getElem?_map]; rw [Ik]; rfl) rfl ?_;refine gO Tryz.func216 ?_;refine I.back (IH (k+1) (by omega) (by omega)) ?_;(conv=>whnf);repeat (first | exact trivial | (refine sI ?_; conv=>whnf))
    refine And.intro (by rw [← iN]; simp only [Int.toNat_natCast,List.map_set]; congr 2; clear iN Ik Ij hO IH hb; rcases b with _ | ⟨c,b⟩ <;> simp_all [o3]) ?_;exact sZ
  ·have aC:l.length≤k:=by simpa using h5
   refine gO Tryz.func216 ?_;simp only [show l.length - k=0 by omega,List.replicate_zero,List.append_nil];rw [List.take_of_length_le (by omega)]
def eC (aj:Text) (s:Signed):Bool:=ev s.set&&Nm.under s.set.name aj
def fK (q s:Signed):Bool:=decide (mc q.set s.set<0)
def mg (z:aR):Bool:=Nm.valid z.aj && !kz z.aj && !(decide ((z.ab.length:Int)>20000))&&chain (eC z.aj) fK none z.ab
theorem sd {s:cP} (h:ev s=true):Nm.valid s.name=true:=by
 simp only [ev,Bool.and_eq_true] at h;exact h.1.1.1.1.1.1
structure aR.Fits (z:aR):Prop where
 aj:z.aj.length≤maxLen
 ab:∀ s∈z.ab,s.set.Fits
theorem Il (z:aR) (hf:z.Fits):aq E 141 [z.enc] (· = .bool (mg z)):=by
 obtain ⟨aj,l⟩:=z;have mG:aj.length≤maxLen:=hf.aj;have fS:∀ s∈l,s.set.Fits:=hf.ab;unfold mg;simp only;cases hv:Nm.valid aj
 ·refine eP Tryz.func141 ?_
  with_reducible refine ao (dR _ mG) ?_
  refine gO Tryz.func141 ?_;rw [hv];refine aV rfl ?_;refine gO Tryz.func141 ?_;refine aY ?_;refine gO Tryz.func141 ?_;refine aY ?_;refine gO Tryz.func141 ?_;simp
 ·have o0:=eB hv;refine eP Tryz.func141 ?_
  with_reducible refine ao (dR _ mG) ?_
  refine gO Tryz.func141 ?_;rw [hv];refine aW rfl ?_;refine gO Tryz.func141 ?_
  with_reducible refine ao (zG aj (by omega)) ?_
  refine gO Tryz.func141 ?_;cases hw:kz aj
  case true =>
   refine aY ?_;refine gO Tryz.func141 ?_;refine aY ?_;refine gO Tryz.func141 ?_;simp
  refine aQ ?_;refine gO Tryz.func141 ?_;refine ah (fun h3=>?_) (fun h3=>?_)
  ·refine gO Tryz.func141 ?_;simp only [List.length_map] at h3;rw [h3];simp
  ·simp only [List.length_map] at h3;rw [h3];simp only [Bool.not_false,Bool.true_and];have ux:l.length≤20000:=by simp at h3; omega
   refine gO Tryz.func141 ?_;refine I.loop (κ:=Nat) ([2,3,4]++rg 20 40) (fun k=>[(3,.d (.int .i64 k))]) (fun _=>[]) (fun k=>k≤l.length∧chain (eC aj) fK none l=chain (eC aj) fK (bK l k) (l.drop k)∧∀ q,bK l k=some q→ev q.set=true) (fun k=>l.length - k) 0 ⟨Nat.zero_le _,rfl,fun q h=>by simp [bK] at h⟩ ?_ ?_
   ·exact sZ
   ·intro k hk IH;refine I.head af Tryz.func141 2000 ?_;(conv=>whnf);refine ah (fun h5=>?_) (fun h5=>?_)
    ·have ai:k<l.length:=by simpa using h5
     obtain ⟨x,hx⟩:=aD ai;have aE:=ur (ok:=eC aj) (rel:=fK) hx;rw [← hk.2.1] at aE;have mh:=fS x (List.mem_of_getElem? hx);have se:bK l (k+1)=some x:=by simp [bK,hx]
     cases hs:ev x.set
     ·refine gO Tryz.func141 ?_;refine aB (aN hx) rfl ?_;refine gO Tryz.func141 ?_;refine I.bH af bI 2000 (by kernel_rfl) ?_;(conv=>whnf);refine au (uq x.set mh) ?_;refine gD ?_;rw [hs];refine aV rfl ?_;refine gD ?_;repeat' (first | with_reducible refine cY ?_ | with_reducible refine cN ?_ | with_reducible refine ah (fun _=>?_) (fun _=>?_) | refine gA Tryz.func141 ?_ | refine gB ?_ | with_reducible rfl)
      rw [aE,eC,hs];simp
     ·have cy:=sd hs;have im:=eB cy;refine gO Tryz.func141 ?_;refine aB (aN hx) rfl ?_;refine gO Tryz.func141 ?_;refine I.bH af bI 2000 (by kernel_rfl) ?_;(conv=>whnf);refine au (uq x.set mh) ?_;refine gD ?_;rw [hs];refine aW rfl ?_;refine gD ?_;refine au (w7 x.set.name aj (by omega) (by omega)) ?_;refine gD ?_;rcases Nat.eq_zero_or_pos k with cJ | cJ
      ·have dA:bK l k=none:=by simp [bK,cJ]
       rw [dA] at aE;dsimp only at aE;rw [Bool.and_true] at aE;repeat' (first | with_reducible refine cY ?_ | with_reducible refine cN ?_ | with_reducible refine ah (fun _=>?_) (fun _=>?_) | refine gA Tryz.func141 ?_ | refine gB ?_ | with_reducible rfl)
       all_goals first
        |(have bL : eC aj x = false := by clear aE hk IH; simp_all [eC]
          rw [aE, bL, Bool.false_and]
          done)
        |(exfalso; clear aE hk IH; simp_all; done)
        |skip
       all_goals
        refine gO Tryz.func141 ?_;refine I.back (IH (k+1) ⟨by omega,by rw [aE,show eC aj x=true by clear aE hk IH; simp_all [eC],Bool.true_and],fun q hq=>by rw [se] at hq; cases hq; exact hs⟩ (by omega)) ?_;exact sZ
      ·obtain ⟨q,hq,dA⟩:=qh cJ hk.1;have zN:=sd (hk.2.2 q dA);rw [dA] at aE;repeat' (first | with_reducible refine aB (l9 hq cJ (by omega)) rfl ?_ | with_reducible refine ao (H3 q.set x.set zN cy) ?_ | with_reducible refine au (H3 q.set x.set zN cy) ?_ | with_reducible refine cY ?_ | with_reducible refine cN ?_ | with_reducible refine ah (fun _=>?_) (fun _=>?_) | refine gA Tryz.func141 ?_ | refine gB ?_ | with_reducible rfl)
       all_goals first
        |(have bL : (eC aj x && fK q x) = false := by clear aE hk IH; simp_all [eC, fK]
          rw [aE, bL, Bool.false_and]
          done)
        |(exfalso; clear aE hk IH; simp_all; omega)
        |skip
       all_goals
        refine gO Tryz.func141 ?_;refine I.back (IH (k+1) ⟨by omega,by rw [aE,show (eC aj x&&fK q x)=true by clear aE hk IH; simp_all [eC,fK],Bool.true_and],fun q hq=>by rw [se] at hq; cases hq; exact hs⟩ (by omega)) ?_;exact sZ
    ·have aC:l.length≤k:=by simpa using h5
     refine gO Tryz.func141 ?_;rw [hk.2.1,List.drop_of_length_le aC];rfl
def nS (s:Signed) (b:Text):Bool := !(b != []&&s.set.type != 1 && !(b != []&&s.set.name==b)) && !((b != []&&s.set.name==b)&&s.set.type != 1&&s.set.type != 2&&s.set.type != 6&&s.set.type != 8) && !(s.set.type==6 && !(b != []&&s.set.name==b))
def xf (z:aR):Bool:=(z.ab.zip (gP z)).all fun p=>nS p.1 p.2
theorem Im (z:aR) (hl:z.ab.length≤1000000) (hn:∀ s∈z.ab,s.set.name.length≤1000):aq E 144 [z.enc] (· = .bool (xf z)):=by
 have ga:=qj z;unfold xf;refine eP Tryz.func144 ?_
 with_reducible refine ao (Ii z hl hn) ?_
 refine gO Tryz.func144 ?_;generalize gP z=B at *;obtain ⟨aj,l⟩:=z;simp only at *;refine I.loop (κ:=Nat) ([2,4,5,6]++rg 9 69) (fun k=>[(4,.d (.int .i64 k))]) (fun _=>[]) (fun k=>k≤l.length∧((l.zip B).take k).all (fun p=>nS p.1 p.2)=true) (fun k=>l.length - k) 0 ⟨Nat.zero_le _,rfl⟩ ?_ ?_
 ·exact sZ
 ·intro k hk IH;refine I.head af Tryz.func144 2000 ?_;(conv=>whnf);refine ah (fun h5=>?_) (fun h5=>?_)
  ·have ai:k<l.length:=by simpa using h5
   obtain ⟨x,hx⟩:=aD ai;obtain ⟨b,hb⟩:=aD (l:=B) (k:=k) (by omega);have hz:=uw hx hb;refine gO Tryz.func144 ?_;refine aB (aN hx) rfl ?_;refine gO Tryz.func144 ?_;refine I.bH af bI 2000 (by kernel_rfl) ?_;(conv=>whnf);repeat' (first | with_reducible refine aB (aN hb) rfl ?_ | with_reducible refine cY ?_ | with_reducible refine cN ?_ | with_reducible refine ah (fun _=>?_) (fun _=>?_) | refine gA Tryz.func144 ?_ | refine gB ?_ | with_reducible rfl)
   all_goals first
    |(rw [cX hz (by clear hz hb hk IH; rcases b with _ | ⟨c,b⟩ <;> simp_all [nS])]; done)
    |(exfalso; clear hz hb hk IH; rcases b with _ | ⟨c,b⟩ <;> simp_all; done)
    |skip
   all_goals
    refine gO Tryz.func144 ?_;refine I.back (IH (k+1) ⟨by omega,dh hk.2 hz (by clear hz hb hk IH; rcases b with _ | ⟨c,b⟩ <;> simp_all [nS])⟩ (by omega)) ?_;exact sZ
  ·have aC:l.length≤k:=by simpa using h5
   refine gO Tryz.func144 ?_;rw [jS hk.2 (by simp; omega)]
def sf (aj:Text) (s:Signed) (o:Bool):Bool:=ln s.sigs aj && !(!o&&decide ((s.sigs.length:Int)>0))
def zO (z:aR):Bool:=(z.ab.zip (o4 z)).all fun p=>sf z.aj p.1 p.2
theorem Io (z:aR) (hl:z.ab.length≤1000000) (hn:∀ s∈z.ab,s.set.name.length≤1000):aq E 145 [z.enc] (· = .bool (zO z)):=by
 have Dq:=Dp z;unfold zO;refine eP Tryz.func145 ?_
 with_reducible refine ao (PJ z hl hn) ?_
 refine gO Tryz.func145 ?_;generalize o4 z=O at *;obtain ⟨aj,l⟩:=z;simp only at *;refine I.loop (κ:=Nat) ([2,4]++rg 7 34) (fun k=>[(4,.d (.int .i64 k))]) (fun _=>[]) (fun k=>k≤l.length∧((l.zip O).take k).all (fun p=>sf aj p.1 p.2)=true) (fun k=>l.length - k) 0 ⟨Nat.zero_le _,rfl⟩ ?_ ?_
 ·exact sZ
 ·intro k hk IH;refine I.head af Tryz.func145 2000 ?_;(conv=>whnf);refine ah (fun h5=>?_) (fun h5=>?_)
  ·have ai:k<l.length:=by simpa using h5
   obtain ⟨x,hx⟩:=aD ai;obtain ⟨b,hb⟩:=aD (l:=O) (k:=k) (by omega);have hz:=uw hx hb;refine gO Tryz.func145 ?_;refine I.bH af bI 2000 (by kernel_rfl) ?_;(conv=>whnf);repeat' (first | with_reducible refine aB (aN hx) rfl ?_ | with_reducible refine aB (aN hb) rfl ?_ | with_reducible refine ao (Dh _ _) ?_ | with_reducible refine au (Dh _ _) ?_ | with_reducible refine cY ?_ | with_reducible refine cN ?_ | with_reducible refine ah (fun _=>?_) (fun _=>?_) | refine gA Tryz.func145 ?_ | refine gB ?_ | with_reducible rfl)
   all_goals first
    |(rw [cX hz (by clear hz hb hk IH; simp_all [sf])]; done)
    |(exfalso; clear hz hb hk IH; simp_all; done)
    |skip
   all_goals
    refine gO Tryz.func145 ?_;refine I.back (IH (k+1) ⟨by omega,dh hk.2 hz (by clear hz hb hk IH; simp_all [sf])⟩ (by omega)) ?_;exact sZ
  ·have aC:l.length≤k:=by simpa using h5
   refine gO Tryz.func145 ?_;rw [jS hk.2 (by simp; omega)]
def dI (z:aR):Bool:=mg z&&(oZ z&&(kA [] none z.ab&&(xf z&&zO z)))
theorem zP {α:Type} {ok:α→Bool} {rel:α→α→Bool}:∀ {p:Option α} {l:List α},chain ok rel p l=true→∀ x∈l,ok x=true
 |_,[],_,x,hx=>by simp at hx
 |p,y::l,h,x,hx=>by
  simp only [chain,Bool.and_eq_true] at h;rcases List.mem_cons.1 hx with rfl | hx
  ·exact h.1.1
  ·exact zP h.2 x hx
theorem uy {z:aR} (h:mg z=true):z.ab.length≤20000∧(∀ s∈z.ab,eC z.aj s=true)∧Nm.valid z.aj=true:=by
 simp only [mg,Bool.and_eq_true] at h;refine ⟨by have:=h.1.2; simp at this; omega,zP h.2,h.1.1.1⟩
theorem PK {aj:Text} {s:Signed} (h:eC aj s=true):s.set.name.length≤60:=by
 simp only [eC,Bool.and_eq_true] at h;exact eB (sd h.1)
theorem Dr (z:aR) (hf:z.Fits):aq E 75 [z.enc] (· = .bool (dI z)):=by
 unfold dI;cases h1:mg z
 ·have bZ:=Il z hf;rw [h1] at bZ;refine eP Tryz.func75 ?_;repeat' (first | with_reducible refine ao (bZ) ?_ | with_reducible refine au (bZ) ?_ | with_reducible refine cY ?_ | with_reducible refine cN ?_ | with_reducible refine ah (fun _=>?_) (fun _=>?_) | refine gA Tryz.func75 ?_ | refine gB ?_ | with_reducible rfl)
  all_goals simp_all
 ·obtain ⟨g1,g2,-⟩:=uy h1;have gl:z.ab.length≤1000000:=by omega
  have gn:∀ s∈z.ab,s.set.name.length≤1000:=fun s hs=>by have:=PK (g2 s hs); omega
  have bZ:=Il z hf;rw [h1] at bZ;refine eP Tryz.func75 ?_;repeat' (first | with_reducible refine ao (bZ) ?_ | with_reducible refine au (bZ) ?_ | with_reducible refine ao (Ic z (by omega)) ?_ | with_reducible refine au (Ic z (by omega)) ?_ | with_reducible refine ao (Ie z (by omega)) ?_ | with_reducible refine au (Ie z (by omega)) ?_ | with_reducible refine ao (Im z gl gn) ?_ | with_reducible refine au (Im z gl gn) ?_ | with_reducible refine ao (Io z gl gn) ?_ | with_reducible refine au (Io z gl gn) ?_ | with_reducible refine cY ?_ | with_reducible refine cN ?_ | with_reducible refine ah (fun _=>?_) (fun _=>?_) | refine gA Tryz.func75 ?_ | refine gB ?_ | with_reducible rfl)
  all_goals simp_all
end Go.Proofs.YtfmdaiojokniiaaGreatDoor.P
end
