/- Several texts of mine, one behind the other. Conditions: as each says. -/
import Derived.Test.YtfmdaiojokniiaaGreatDoorV14
set_option linter.unusedVariables false
set_option linter.unusedSimpArgs false
section
namespace Go.Proofs.YtfmdaiojokniiaaGreatDoor.P
open Go Go.aw
set_option maxRecDepth 100000
set_option maxHeartbeats 4000000
def mF (t:Text):Bool:=match Nm.labels t with
 | []=>false
 |x::_=>x==[42]
theorem DI (t:Text) (ht:t.length≤1000):aq E 139 [.str t] (· = .bool (mF t)):=by
 unfold mF;refine eP Tryz.func139 ?_
 with_reducible refine ao (xr _ ht) ?_
 refine gO Tryz.func139 ?_;cases hl:Nm.labels t with
 |nil =>
  refine aZ (by simp) ?_;refine gO Tryz.func139 ?_
  with_reducible rfl
 |cons x l =>
  refine bh (by simp) ?_;refine gO Tryz.func139 ?_;refine ev (.str x) (by decide) rfl rfl ?_;refine gO Tryz.func139 ?_
  with_reducible rfl
def cmpL:List Text→List Text→Int
 | [],[]=>0
 | [],_::_ => -1
 |_::_,[]=>1
 |x::l,y::m=>if Op.bytesLess x y then -1 else if x==y then cmpL l m else 1
def bu (a b:Text):Int:=cmpL (Nm.labels a).reverse (Nm.labels b).reverse
theorem rev_at {α:Type} {l:List α} {k:Nat} (hk:k<l.length):∃ x,l[l.length - (k+1)]? = some x∧l.reverse.drop k=x::l.reverse.drop (k+1):=by
 have h1:l.length - (k+1)<l.length:=by omega
 refine ⟨l[l.length - (k+1)],by simp [h1],?_⟩;rw [List.drop_eq_getElem_cons (by simpa using hk)]
 congr 1
 simp only [List.getElem_reverse]
 congr 1
 omega
theorem DJ (a b:Text) (ha:a.length≤1000) (hb:b.length≤1000):aq E 146 [.str a,.str b] (· = .int .i64 (bu a b)):=by
 have qJ:=zS a;have qL:=zS b;unfold bu;refine eP Tryz.func146 ?_
 with_reducible refine ao (xr _ ha) ?_
 refine gO Tryz.func146 ?_
 with_reducible refine ao (xr _ hb) ?_
 refine gO Tryz.func146 ?_;generalize Nm.labels a=l at *;generalize Nm.labels b=m at *;refine I.loop (κ:=Nat) ([4,7,8,9]++rg 14 32) (fun k=>[(7,.d (.int .i64 (k+1)))]) (fun _=>[]) (fun k=>k≤l.length∧k≤m.length∧cmpL l.reverse m.reverse=cmpL (l.reverse.drop k) (m.reverse.drop k)) (fun k=>l.length - k) 0 ⟨Nat.zero_le _,Nat.zero_le _,rfl⟩ ?_ ?_
 ·exact sZ
 ·intro k hk IH;refine I.head af Tryz.func146 2000 ?_;(conv=>whnf);refine ai (fun h1=>?_) (fun h1=>?_)
  ·refine gO Tryz.func146 ?_;refine ai (fun h2=>?_) (fun h2=>?_)
   ·have rS:k<l.length:=by simp at h1; omega
    have xC:k<m.length:=by simp at h2; omega
    obtain ⟨x,hx,DK⟩:=rev_at rS;obtain ⟨y,hy,DL⟩:=rev_at xC;have uI:IntKind.i64.wrap ((l.length:Int) - (k+1))=((l.length - (k+1):Nat):Int):=by rw [wrap64 (by omega) (by omega)]; omega
    have DM:IntKind.i64.wrap ((m.length:Int) - (k+1))=((m.length - (k+1):Nat):Int):=by rw [wrap64 (by omega) (by omega)]; omega
    have hc:=hk.2.2;rw [DK,DL] at hc;refine gO Tryz.func146 ?_;simp only [List.length_map];rw [uI];refine ev (.str x) (by omega) (jY hx) rfl ?_;refine gO Tryz.func146 ?_;simp only [List.length_map];rw [DM];refine ev (.str y) (by omega) (jY hy) rfl ?_;refine gO Tryz.func146 ?_;refine ai (fun h3=>?_) (fun h3=>?_)
    ·refine gO Tryz.func146 ?_;rw [hc,cmpL,if_pos h3]
    ·refine gO Tryz.func146 ?_;refine ai (fun h4=>?_) (fun h4=>?_)
     ·refine gO Tryz.func146 ?_;rw [hc,cmpL,if_neg (by rw [h3]; decide),if_neg (by simp [h3] at h4; simpa using h4)]
     ·refine gO Tryz.func146 ?_;refine I.back (IH (k+1) ⟨by omega,by omega,by rw [hc,cmpL,if_neg (by rw [h3]; decide),if_pos (by simpa [h3] using h4)]⟩ (by omega)) ?_;exact sZ
   ·have rS:k<l.length:=by simp at h1; omega
    have xC:k=m.length:=by simp at h2; omega
    obtain ⟨x,hx,DK⟩:=rev_at rS;have hc:=hk.2.2;rw [DK,List.drop_of_length_le (l:=m.reverse) (by simp; omega),cmpL] at hc;refine gO Tryz.func146 ?_;refine aZ (by simp; omega) ?_;refine gO Tryz.func146 ?_;refine bh (by simp; omega) ?_;refine gO Tryz.func146 ?_;rw [hc]
  ·have rS:k=l.length:=by simp at h1; omega
   have hc:=hk.2.2;rw [List.drop_of_length_le (l:=l.reverse) (by simp; omega)] at hc;refine gO Tryz.func146 ?_;refine aQ ?_;refine gO Tryz.func146 ?_;refine ai (fun h2=>?_) (fun h2=>?_)
   ·have xC:k<m.length:=by simp at h2; omega
    obtain ⟨y,hy,DL⟩:=rev_at xC;rw [DL,cmpL] at hc;refine gO Tryz.func146 ?_;rw [hc]
   ·have xC:k=m.length:=by simp at h2; omega
    rw [List.drop_of_length_le (l:=m.reverse) (by simp; omega),cmpL] at hc;refine gO Tryz.func146 ?_;refine aZ (by simp; omega) ?_;refine gO Tryz.func146 ?_;rw [hc]
theorem IC (a b:Text) (ha:Nm.valid a=true) (hb:Nm.valid b=true):aq E 275 [.str a,.str b] (· = .aD [.int .i64 (bu a b),.int .i64 0]):=by
 have h1:=eJ ha;have h2:=eJ hb;refine eP Tryz.func275 ?_
 with_reducible refine ao (ey _ (by unfold maxLen; omega)) ?_
 refine gO Tryz.func275 ?_
 with_reducible refine ao (ey _ (by unfold maxLen; omega)) ?_
 refine gO Tryz.func275 ?_;rw [ha,hb];refine aZ (by decide) ?_;refine gO Tryz.func275 ?_;refine aZ (by decide) ?_;refine gO Tryz.func275 ?_
 with_reducible refine ao (DJ _ _ (by omega) (by omega)) ?_
 refine gO Tryz.func275 ?_
 with_reducible rfl
def mG (a b:cS):Int:=if bu a.name b.name≠0 then bu a.name b.name else iE a.type b.type
theorem ID (a b:cS) (ha:Nm.valid a.name=true) (hb:Nm.valid b.name=true):aq E 212 [a.enc,b.enc] (· = .int .i64 (mG a b)):=by
 refine eP Tryz.func212 ?_;repeat' (first | with_reducible refine ao (IC _ _ ha hb) ?_ | with_reducible refine ay (IC _ _ ha hb) ?_ | with_reducible refine cY ?_ | with_reducible refine cN ?_ | with_reducible refine ai (fun _=>?_) (fun _=>?_) | refine gA Tryz.func212 ?_ | refine gB ?_ | with_reducible rfl)
 all_goals simp_all [mG,iE]
 all_goals omega
end Go.Proofs.YtfmdaiojokniiaaGreatDoor.P
end
section
namespace Go.Proofs.YtfmdaiojokniiaaGreatDoor.P
open Go Go.aw
set_option maxRecDepth 100000
set_option maxHeartbeats 4000000
theorem pv {α:Type} {a b:List α} {k:Nat} {x y:α} (h:a.take k=b.take k) (ha:a[k]? = some x) (hb:b[k]? = some y) (e:x=y):a.take (k+1)=b.take (k+1):=by
 subst e;rw [cI ha,cI hb,h]
theorem pw {α:Type} {a b:List α} {k:Nat} (h:a.take k=b.take k) (ha:a.length≤k) (hb:b.length≤k):a=b:=by
 rwa [List.take_of_length_le ha,List.take_of_length_le hb] at h
theorem mH {α:Type} {a b:List α} {k:Nat} {x y:α} (ha:a[k]? = some x) (hb:b[k]? = some y) (e:x≠y):a≠b:=by
 rintro rfl;rw [ha] at hb;cases hb;exact e rfl
def Ad (a b:Datum):Bool:=(a.text==b.text&&(a.n==b.n&&(a.m==b.m&&true)))
theorem IE {a b:Datum}:Ad a b=true↔a=b:=by
 obtain ⟨a1,a2,a3⟩:=a;obtain ⟨b1,b2,b3⟩:=b;simp [Ad]
theorem IF (a b:cS) (ha:a.data.length≤2147483648):aq E 116 [a.enc,b.enc] (· = .bool (decide (a=b))):=by
 obtain ⟨an,at',al,ad⟩:=a;obtain ⟨bn,bt,bl,bd⟩:=b;simp only at ha;refine eP Tryz.func116 ?_;repeat' (first | with_reducible refine cY ?_ | with_reducible refine cN ?_ | with_reducible refine ai (fun _=>?_) (fun _=>?_) | refine gA Tryz.func116 ?_ | refine gB ?_ | with_reducible rfl)
 all_goals try (simp_all; done)
 case' refine_2.refine_2.refine_2.refine_1 =>
  rename_i h4;rw [decide_eq_false];intro h;have:=congrArg (fun s:cS=>s.data.length) h;simp only at this;simp [this] at h4
 all_goals
  rename_i h1 h2 h3 h4;simp only [bne_eq_false_iff_eq,Bool.not_eq_false',beq_iff_eq,List.length_map] at h1 h2 h3 h4;subst h1;subst h2;subst h3;have hl:ad.length=bd.length:=by omega
  rw [show decide (cS.mk an at' al ad=cS.mk an at' al bd)=decide (ad=bd) by simp];refine gO Tryz.func116 ?_;refine I.loop (κ:=Nat) ([4,5]++rg 34 18) (fun k=>[(5,.d (.int .i64 k))]) (fun _=>[]) (fun k=>k≤ad.length∧ad.take k=bd.take k) (fun k=>ad.length - k) 0 ⟨Nat.zero_le _,rfl⟩ ?_ ?_
  ·exact sZ
  ·intro k hk IH;refine I.head af Tryz.func116 2000 ?_;(conv=>whnf);refine ai (fun h5=>?_) (fun h5=>?_)
   ·have aj:k<ad.length:=by simpa using h5
    obtain ⟨x,hx⟩:=aL aj;obtain ⟨y,hy⟩:=aL (l:=bd) (k:=k) (by omega);refine gO Tryz.func116 ?_;refine I.bH af bI 2000 (by kernel_rfl) ?_;(conv=>whnf);refine ev x.enc (by omega) (jY hx) rfl ?_;refine gD ?_;refine ev y.enc (by omega) (jY hy) rfl ?_;refine gD ?_;refine gO Tryz.func116 ?_;refine ai (fun h6=>?_) (fun h6=>?_)
    ·have aJ:x≠y:=fun e=>by
      have:=IE.2 e;simp [Ad] at this;simp [this] at h6
     refine gO Tryz.func116 ?_;rw [decide_eq_false (mH hx hy aJ)]
    ·have he:x=y:=IE.1 (by simpa [Ad] using h6);refine gO Tryz.func116 ?_;refine I.back (IH (k+1) ⟨by omega,pv hk.2 hx hy he⟩ (by omega)) ?_;exact sZ
   ·have aC:k=ad.length:=by simp at h5; omega
    refine gO Tryz.func116 ?_;rw [decide_eq_true (pw hk.2 (by omega) (by omega))]
theorem Qk (a b:Signed) (ha:a.set.data.length≤2147483648) (hs:a.sigs.length≤2147483648):aq E 138 [a.enc,b.enc] (· = .bool (decide (a=b))):=by
 obtain ⟨Ae,ad⟩:=a;obtain ⟨Af,bd⟩:=b;simp only at ha hs;rw [show decide (Signed.mk Ae ad=Signed.mk Af bd)=(decide (Ae=Af)&&decide (ad=bd)) by simp];have IG:=IF Ae Af ha;generalize decide (Ae=Af)=q at IG ⊢;refine eP Tryz.func138 ?_
 with_reducible refine ao (IG) ?_
 refine gO Tryz.func138 ?_;cases q
 ·refine bh rfl ?_;refine gO Tryz.func138 ?_;refine aV ?_;refine gO Tryz.func138 ?_;rfl
 ·refine aZ rfl ?_;refine gO Tryz.func138 ?_;refine ai (fun h4=>?_) (fun h4=>?_)
  ·refine gO Tryz.func138 ?_;rw [decide_eq_false]
   ·rfl
   ·rintro rfl;simp at h4
  ·simp only [bne_eq_false_iff_eq,List.length_map] at h4;have hl:ad.length=bd.length:=by omega
   rw [Bool.true_and];refine gO Tryz.func138 ?_;refine I.loop (κ:=Nat) ([4,5]++rg 21 18) (fun k=>[(5,.d (.int .i64 k))]) (fun _=>[]) (fun k=>k≤ad.length∧ad.take k=bd.take k) (fun k=>ad.length - k) 0 ⟨Nat.zero_le _,rfl⟩ ?_ ?_
   ·exact sZ
   ·intro k hk IH;refine I.head af Tryz.func138 2000 ?_;(conv=>whnf);refine ai (fun h5=>?_) (fun h5=>?_)
    ·have aj:k<ad.length:=by simpa using h5
     obtain ⟨x,hx⟩:=aL aj;obtain ⟨y,hy⟩:=aL (l:=bd) (k:=k) (by omega);refine gO Tryz.func138 ?_;refine I.bH af bI 2000 (by kernel_rfl) ?_;(conv=>whnf);refine ev x.enc (by omega) (jY hx) rfl ?_;refine gD ?_;refine ev y.enc (by omega) (jY hy) rfl ?_;refine gD ?_;refine gO Tryz.func138 ?_;refine ai (fun h6=>?_) (fun h6=>?_)
     ·have aJ:x≠y:=fun e=>by
       have:=Iy.2 e;simp [Ab] at this;simp [this] at h6
      refine gO Tryz.func138 ?_;rw [decide_eq_false (mH hx hy aJ)]
     ·have he:x=y:=Iy.1 (by simpa [Ab] using h6);refine gO Tryz.func138 ?_;refine I.back (IH (k+1) ⟨by omega,pv hk.2 hx hy he⟩ (by omega)) ?_;exact sZ
    ·have aC:k=ad.length:=by simp at h5; omega
     refine gO Tryz.func138 ?_;rw [decide_eq_true (pw hk.2 (by omega) (by omega))]
structure Signed.kb (s:Signed):Prop where
 data:s.set.data.length≤2147483648
 sigs:s.sigs.length≤2147483648
theorem Ql (a b:List Signed) (hl:a.length≤2147483648) (ha:∀ s∈a,s.kb):aq E 72 [xl a,xl b] (· = .bool (decide (a=b))):=by
 refine eP Tryz.func72 ?_;refine ai (fun h4=>?_) (fun h4=>?_)
 ·refine gO Tryz.func72 ?_;rw [decide_eq_false];rintro rfl;simp at h4
 ·simp only [bne_eq_false_iff_eq,List.length_map] at h4;have lL:a.length=b.length:=by omega
  refine gO Tryz.func72 ?_;refine I.loop (κ:=Nat) ([4,5]++rg 11 16) (fun k=>[(5,.d (.int .i64 k))]) (fun _=>[]) (fun k=>k≤a.length∧a.take k=b.take k) (fun k=>a.length - k) 0 ⟨Nat.zero_le _,rfl⟩ ?_ ?_
  ·exact sZ
  ·intro k hk IH;refine I.head af Tryz.func72 2000 ?_;(conv=>whnf);refine ai (fun h5=>?_) (fun h5=>?_)
   ·have aj:k<a.length:=by simpa using h5
    obtain ⟨x,hx⟩:=aL aj;obtain ⟨y,hy⟩:=aL (l:=b) (k:=k) (by omega);have iA:=ha x (List.mem_of_getElem? hx);refine gO Tryz.func72 ?_;refine I.bH af bI 2000 (by kernel_rfl) ?_;(conv=>whnf);refine ev x.enc (by omega) (jY hx) rfl ?_;refine gD ?_;refine ev y.enc (by omega) (jY hy) rfl ?_;refine gD ?_;refine ay (Qk x y iA.data iA.sigs) ?_;refine gD ?_;refine gO Tryz.func72 ?_;refine ai (fun h6=>?_) (fun h6=>?_)
    ·have aJ:x≠y:=by simpa using h6
     refine gO Tryz.func72 ?_;rw [decide_eq_false (mH hx hy aJ)]
    ·have he:x=y:=by simpa using h6
     refine gO Tryz.func72 ?_;refine I.back (IH (k+1) ⟨by omega,pv hk.2 hx hy he⟩ (by omega)) ?_;exact sZ
   ·have aC:k=a.length:=by simp at h5; omega
    refine gO Tryz.func72 ?_;rw [decide_eq_true (pw hk.2 (by omega) (by omega))]
structure aG.kb (z:aG):Prop where
 ab:z.ab.length≤2147483648
 each:∀ s∈z.ab,s.kb
theorem Qm (a b:aG) (ha:a.kb):aq E 27 [a.enc,b.enc] (· = .bool (decide (a=b))):=by
 obtain ⟨aa,sa⟩:=a;obtain ⟨ba,sb⟩:=b;rw [show decide (aG.mk aa sa=aG.mk ba sb)=(decide (aa=ba)&&decide (sa=sb)) by simp];have hs:=Ql sa sb ha.ab ha.each;refine eP Tryz.func27 ?_;repeat' (first | with_reducible refine ao (hs) ?_ | with_reducible refine ay (hs) ?_ | with_reducible refine cY ?_ | with_reducible refine cN ?_ | with_reducible refine ai (fun _=>?_) (fun _=>?_) | refine gA Tryz.func27 ?_ | refine gB ?_ | with_reducible rfl)
 all_goals simp_all
end Go.Proofs.YtfmdaiojokniiaaGreatDoor.P
end
section
namespace Go.Proofs.YtfmdaiojokniiaaGreatDoor.P
open Go Go.aw
set_option maxRecDepth 100000
set_option maxHeartbeats 4000000
def chain {α:Type} (ok:α→Bool) (rel:α→α→Bool):Option α→List α→Bool
 |_,[]=>true
 |p,x::l=>ok x&&(match p with | none=>true | some q=>rel q x)&&chain ok rel (some x) l
def bT {α:Type} (l:List α) (k:Nat):Option α:=if k=0 then none else l[k - 1]?
theorem xD {α:Type} {ok:α→Bool} {rel:α→α→Bool} {l:List α} {k:Nat} {x:α} (hx:l[k]? = some x):chain ok rel (bT l k) (l.drop k)=(ok x&&(match bT l k with | none=>true | some q=>rel q x)&&chain ok rel (bT l (k+1)) (l.drop (k+1))):=by
 have hk:=aR hx;rw [List.drop_eq_getElem_cons hk];have e1:l[k]=x:=by simpa [hk] using hx
 have e2:bT l (k+1)=some x:=by simp [bT,hx]
 rw [e1,e2];rfl
theorem uN {α:Type} {l:List α} {k:Nat} (h0:0<k) (hk:k≤l.length):∃ q,l[k - 1]? = some q∧bT l k=some q:=by
 obtain ⟨q,hq⟩:=aL (l:=l) (k:=k - 1) (by omega);exact ⟨q,hq,by simp [bT,hq]; omega⟩
def fo (ah:Text) (g0 g:cX):Bool:=(g.az==ah)&&decide (1≤g.key)&&decide (g.key≤1000000)&&decide (1≤g.mz)&&decide (g.mz≤3)&&(g.bM==g0.bM)&&(g.upto==g0.upto)&&decide (0≤g.bM)&&decide (g.bM≤g.upto)&&decide (g.upto≤20000000)
def jc (q g:cX):Bool:=decide (q.key<g.key)
def mI (l:List cX) (ah:Text):Bool:=decide ((l.length:Int)≤6)&&chain (fo ah (l.headD Aa)) jc none l
theorem II {l:List cX} {k:Nat} (h:k<l.length):l[0]? = some (l.headD Aa):=by
 cases l with
 |nil=>simp at h
 |cons x l=>rfl
theorem IJ (l:List cX) (ah:Text):aq E 217 [uE l,.str ah] (· = .bool (mI l ah)):=by
 unfold mI;have hg:∃ g0,g0=l.headD Aa:=⟨_,rfl⟩;obtain ⟨g0,hg⟩:=hg;rw [← hg];refine eP Tryz.func217 ?_;refine ai (fun h1=>?_) (fun h1=>?_)
 ·refine gO Tryz.func217 ?_;simp only [List.length_map] at h1;rw [decide_eq_false (by simp at h1; omega),Bool.false_and]
 ·have h6:l.length≤6:=by simp at h1; omega
  rw [decide_eq_true (by omega),Bool.true_and];refine gO Tryz.func217 ?_;refine I.loop (κ:=Nat) ([4,5,6]++rg 10 82) (fun k=>[(5,.d (.int .i64 k))]) (fun _=>[]) (fun k=>k≤l.length∧chain (fo ah g0) jc none l=chain (fo ah g0) jc (bT l k) (l.drop k)) (fun k=>l.length - k) 0 ⟨Nat.zero_le _,rfl⟩ ?_ ?_
  ·exact sZ
  ·intro k hk IH;refine I.head af Tryz.func217 2000 ?_;(conv=>whnf);refine ai (fun h5=>?_) (fun h5=>?_)
   ·have aj:k<l.length:=by simpa using h5
    obtain ⟨x,hx⟩:=aL aj;have h0:=II aj;rw [← hg] at h0;have aF:=xD (ok:=fo ah g0) (rel:=jc) hx;rw [← hk.2] at aF;refine gO Tryz.func217 ?_;refine aE (aX hx) rfl ?_;refine gO Tryz.func217 ?_;refine I.bH af bI 2000 (by kernel_rfl) ?_;(conv=>whnf);rcases Nat.eq_zero_or_pos k with cH | cH
    ·have dU:bT l k=none:=by simp [bT,cH]
     rw [dU] at aF;dsimp only at aF;rw [Bool.and_true] at aF;repeat' (first | with_reducible refine aE (aX hx) rfl ?_ | with_reducible refine aE (xq h0) rfl ?_ | with_reducible refine cY ?_ | with_reducible refine cN ?_ | with_reducible refine ai (fun _=>?_) (fun _=>?_) | refine gA Tryz.func217 ?_ | refine gB ?_ | with_reducible rfl)
     all_goals first
      |(have bL : fo ah g0 x = false := by clear aF hk IH hg; simp_all [fo, jc, bT] <;> (intros; omega)
        rw [aF, bL, Bool.false_and]
        done)
      |(exfalso; clear aF hk IH hg; simp_all; done)
      |skip
     all_goals
      refine gO Tryz.func217 ?_;refine I.back (IH (k+1) ⟨by omega,by rw [aF,show fo ah g0 x=true by clear aF hk IH hg; simp_all [fo,jc,bT] <;> omega,Bool.true_and]⟩ (by omega)) ?_;exact sZ
    ·obtain ⟨q,hq,dU⟩:=uN cH hk.1;rw [dU] at aF;repeat' (first | with_reducible refine aE (aX hx) rfl ?_ | with_reducible refine aE (xq h0) rfl ?_ | with_reducible refine aE (nr hq cH (by omega)) rfl ?_ | with_reducible refine cY ?_ | with_reducible refine cN ?_ | with_reducible refine ai (fun _=>?_) (fun _=>?_) | refine gA Tryz.func217 ?_ | refine gB ?_ | with_reducible rfl)
     all_goals first
      |(have bL : (fo ah g0 x && jc q x) = false := by clear aF hk IH hg; simp_all [fo, jc, bT] <;> (intros; omega)
        rw [aF, bL, Bool.false_and]
        done)
      |(exfalso; clear aF hk IH hg; simp_all; done)
      |skip
     all_goals
      refine gO Tryz.func217 ?_;refine I.back (IH (k+1) ⟨by omega,by rw [aF,show (fo ah g0 x&&jc q x)=true by clear aF hk IH hg; simp_all [fo,jc,bT] <;> omega,Bool.true_and]⟩ (by omega)) ?_;exact sZ
   ·have aC:l.length≤k:=by simpa using h5
    refine gO Tryz.func217 ?_;rw [hk.2,List.drop_of_length_le aC];rfl
def sK (t:Int) (ah:Bool):Bool:=if ah then t != 3&&t != 6 else t != 4&&t != 7
theorem IK (t:Int) (ah:Bool):aq E 214 [.int .i64 t,.bool ah] (· = .bool (sK t ah)):=by
 refine eP Tryz.func214 ?_;repeat' (first | with_reducible refine cY ?_ | with_reducible refine cN ?_ | with_reducible refine ai (fun _=>?_) (fun _=>?_) | refine gA Tryz.func214 ?_ | refine gB ?_ | with_reducible rfl)
 all_goals simp_all [sK]
def cE (q:bj) (s:Signed):Bool:=s.set.name==q.name&&s.set.type==q.type
def aU (l:List Signed) (q:bj):Int:=match l.findIdx? (cE q) with
 |some i=>i
 |none => -1
theorem IL {l:List Signed} {q:bj} {k:Nat} {x:Signed} (h:∀ j y,j<k→l[j]? = some y→cE q y=false) (hx:l[k]? = some x) (hq:cE q x=true):aU l q=k:=by
 have:l.findIdx? (cE q)=some k:=by
  rw [List.findIdx?_eq_some_iff_getElem];have hk:=aR hx;refine ⟨hk,?_,fun j hj=>?_⟩
  ·have:l[k]=x:=by simpa [hk] using hx
   rw [this]; exact hq
  ·have:=h j l[j] hj (by simp);rw [this]; decide
 rw [aU,this]
theorem Qn {l:List Signed} {q:bj} (h:∀ j y,j<l.length→l[j]? = some y→cE q y=false):aU l q = -1:=by
 have:l.findIdx? (cE q)=none:=by
  rw [List.findIdx?_eq_none_iff];intro x hx;obtain ⟨j,hj⟩:=List.getElem?_of_mem hx;exact h j x (aR hj) hj
 rw [aU,this]
theorem IM (z:aG) (q:bj) (hl:z.ab.length≤2147483648):aq E 213 [z.enc,q.enc] (· = .int .i64 (aU z.ab q)):=by
 obtain ⟨ah,l⟩:=z;simp only at hl ⊢;refine eP Tryz.func213 ?_;refine I.loop (κ:=Nat) (rg 4 32) (fun k=>[(5,.d (.int .i64 k))]) (fun _=>[]) (fun k=>k≤l.length∧∀ j y,j<k→l[j]? = some y→cE q y=false) (fun k=>l.length - k) 0 ⟨Nat.zero_le _,fun j y h=>by omega⟩ ?_ ?_
 ·exact sZ
 ·intro k hk IH;refine I.head af Tryz.func213 2000 ?_;(conv=>whnf);refine ai (fun h5=>?_) (fun h5=>?_)
  ·have aj:k<l.length:=by simpa using h5
   obtain ⟨x,hx⟩:=aL aj;refine gO Tryz.func213 ?_;refine I.bH af bI 2000 (by kernel_rfl) ?_;(conv=>whnf);repeat' (first | with_reducible refine aE (aX hx) rfl ?_ | with_reducible refine cY ?_ | with_reducible refine cN ?_ | with_reducible refine ai (fun _=>?_) (fun _=>?_) | refine gA Tryz.func213 ?_ | refine gB ?_ | with_reducible rfl)
   all_goals first
    |(rw [IL hk.2 hx (by simp_all [cE])]; done)
    |skip
   all_goals
    refine gO Tryz.func213 ?_;refine I.back (IH (k+1) ⟨by omega,fun j y hj hy=>?_⟩ (by omega)) ?_
    ·rcases Nat.lt_or_ge j k with h | h
     ·exact hk.2 j y h hy
     ·obtain rfl:j=k:=by omega
      rw [hx] at hy;cases hy;simp_all [cE]
    ·exact sZ
  ·have aC:k=l.length:=by simp at h5; omega
   subst aC;refine gO Tryz.func213 ?_;rw [Qn hk.2]
end Go.Proofs.YtfmdaiojokniiaaGreatDoor.P
end
section
namespace Go.Proofs.YtfmdaiojokniiaaGreatDoor.P
open Go Go.aw
set_option maxRecDepth 100000
set_option maxHeartbeats 4000000
def uO (s:Signed):Bool := !(decide ((s.set.data.length:Int)>20)) && !(decide ((s.sigs.length:Int)>20))
def uP (z:aG):Bool:=(z.ab.take 101).all uO&&decide ((z.ab.length:Int)≤100)
theorem Qo (z:aG):aq E 34 [z.enc] (· = .bool (uP z)):=by
 obtain ⟨ah,l⟩:=z;unfold uP;simp only;refine eP Tryz.func34 ?_;refine I.loop (κ:=Nat) (rg 2 32) (fun k=>[(3,.d (.int .i64 k))]) (fun _=>[]) (fun k=>k≤l.length∧k≤101∧(l.take k).all uO=true) (fun k=>l.length - k) 0 ⟨Nat.zero_le _,by omega,rfl⟩ ?_ ?_
 ·exact sZ
 ·intro k hk IH;refine I.head af Tryz.func34 2000 ?_;(conv=>whnf);refine ai (fun h5=>?_) (fun h5=>?_)
  ·have aj:k<l.length:=by simpa using h5
   obtain ⟨x,hx⟩:=aL aj;refine gO Tryz.func34 ?_;refine ai (fun h6=>?_) (fun h6=>?_)
   ·have IN:k≤100:=by simp at h6; omega
    have fa:(l.take 101)[k]? = some x:=by rw [List.getElem?_take,if_pos (by omega)]; exact hx
    refine gO Tryz.func34 ?_;repeat' (first | with_reducible refine aE (aX hx) rfl ?_ | with_reducible refine cY ?_ | with_reducible refine cN ?_ | with_reducible refine ai (fun _=>?_) (fun _=>?_) | refine gA Tryz.func34 ?_ | refine gB ?_ | with_reducible rfl)
    all_goals first
     |(rw [eX fa (by simp_all [uO]),Bool.false_and]; done)
     |skip
    all_goals
     refine gO Tryz.func34 ?_;refine I.back (IH (k+1) ⟨by omega,by omega,fm hk.2.2 hx (by simp_all [uO])⟩ (by omega)) ?_;exact sZ
   ·have IN:k=101:=by simp at h6; omega
    subst IN;refine gO Tryz.func34 ?_;rw [hk.2.2,Bool.true_and];simp
  ·have aC:k=l.length:=by simp at h5; omega
   refine gO Tryz.func34 ?_;refine aQ ?_;refine gO Tryz.func34 ?_;rw [show (l.take 101).all uO=true by rw [List.take_of_length_le (by omega)]; exact mE hk.2.2 (by omega),Bool.true_and];simp
def qN (z:aG):Bool := !(decide (aU z.ab ⟨z.ah,4⟩<0)) && !(decide (aU z.ab ⟨z.ah,2⟩<0))&&z.ab.all fun s=>sK s.set.type (s.set.name==z.ah)
theorem IP (z:aG) (hl:z.ab.length≤2147483648):aq E 142 [z.enc] (· = .bool (qN z)):=by
 obtain ⟨ah,l⟩:=z;simp only at hl;have h1:=IM ⟨ah,l⟩ ⟨ah,4⟩ hl;have h2:=IM ⟨ah,l⟩ ⟨ah,2⟩ hl;refine eP Tryz.func142 ?_;repeat' (first | with_reducible refine ao (h1) ?_ | with_reducible refine ay (h1) ?_ | with_reducible refine ao (h2) ?_ | with_reducible refine ay (h2) ?_ | with_reducible refine cY ?_ | with_reducible refine cN ?_ | with_reducible refine ai (fun _=>?_) (fun _=>?_) | refine gA Tryz.func142 ?_ | refine gB ?_ | with_reducible rfl)
 all_goals try (simp_all [qN]; done)
 all_goals
  rename_i h3 h4;simp only [qN,h3,h4,Bool.not_false,Bool.true_and];refine gO Tryz.func142 ?_;refine I.loop (κ:=Nat) ([2,3]++rg 18 26) (fun k=>[(3,.d (.int .i64 k))]) (fun _=>[]) (fun k=>k≤l.length∧(l.take k).all (fun s=>sK s.set.type (s.set.name==ah))=true) (fun k=>l.length - k) 0 ⟨Nat.zero_le _,rfl⟩ ?_ ?_
  ·exact sZ
  ·intro k hk IH;refine I.head af Tryz.func142 2000 ?_;(conv=>whnf);refine ai (fun h5=>?_) (fun h5=>?_)
   ·have aj:k<l.length:=by simpa using h5
    obtain ⟨x,hx⟩:=aL aj;refine gO Tryz.func142 ?_;refine I.bH af bI 2000 (by kernel_rfl) ?_;(conv=>whnf);repeat' (first | with_reducible refine aE (aX hx) rfl ?_ | with_reducible refine ao (IK _ _) ?_ | with_reducible refine ay (IK _ _) ?_ | with_reducible refine cY ?_ | with_reducible refine cN ?_ | with_reducible refine ai (fun _=>?_) (fun _=>?_) | refine gA Tryz.func142 ?_ | refine gB ?_ | with_reducible rfl)
    all_goals first
     |(rw [eX hx (by simp_all)]; done)
     |skip
    all_goals
     refine gO Tryz.func142 ?_;refine I.back (IH (k+1) ⟨by omega,fm hk.2 hx (by simp_all)⟩ (by omega)) ?_;exact sZ
   ·have aC:l.length≤k:=by simpa using h5
    refine gO Tryz.func142 ?_;rw [mE hk.2 aC]
def kL:Text→Option Text→List Signed→Bool
 |_,_,[]=>true
 |al,p,s::l=>(match p with
   |none=>true
   |some n=>if n==s.set.name then !((s.set.name != []&&s.set.type==3)||(s.set.name != []&&(s.set.name==if s.set.type==3 then s.set.name else al)&&s.set.type != 3&&s.set.type != 8)) else true)
  && kL (if s.set.type==3 then s.set.name else al) (some s.set.name) l
theorem Qp {al : Text} {l : List Signed} {k : Nat} {x : Signed} (hx : l[k]? = some x) : kL al (bT (l.map (·.set.name)) k) (l.drop k) = ((match bT (l.map (·.set.name)) k with
      | none => true
      | some n => if n == x.set.name then !((x.set.name != [] && x.set.type == 3) || (x.set.name != [] && (x.set.name == if x.set.type == 3 then x.set.name else al) && x.set.type != 3 && x.set.type != 8)) else true)
  && kL (if x.set.type==3 then x.set.name else al) (bT (l.map (·.set.name)) (k+1)) (l.drop (k+1))):=by
 have hk:=aR hx;rw [List.drop_eq_getElem_cons hk];have e1:l[k]=x:=by simpa [hk] using hx
 have e2:bT (l.map (·.set.name)) (k+1)=some x.set.name:=by simp [bT,hx]
 rw [e1,e2];rfl
theorem IQ (z:aG) (hl:z.ab.length≤2147483648):aq E 143 [z.enc] (· = .bool (kL [] none z.ab)):=by
 obtain ⟨ah,l⟩:=z;simp only at hl ⊢;refine eP Tryz.func143 ?_;refine I.loop (κ:=Nat × Text) [2,3,4,5,6,7,8,9,10,11,12,13,14,15,16,17,18,19,20,21,22,23,24,25,26,27,28,29,30,31,32,33,34,35,36,37,38,39,40,41,42,43,44,45,46,47,48,49,50,51,52,53,54,55,56,57,58,59,60,61,62,63,64,65,66,67,68,69,70,71,72,73,74,75,76,77,78,79,80,81,82,83,84,85] (fun k=>[(4,.d (.int .i64 k.1)),(3,.d (.str k.2))]) (fun _=>[]) (fun k=>k.1≤l.length∧kL [] none l=kL k.2 (bT (l.map (·.set.name)) k.1) (l.drop k.1)) (fun k=>l.length - k.1) (0,[]) ⟨Nat.zero_le _,rfl⟩ ?_ ?_
 ·exact sZ
 ·rintro ⟨k,al⟩ hk IH;simp only at hk;refine I.head af Tryz.func143 2000 ?_;(conv=>whnf);refine ai (fun h5=>?_) (fun h5=>?_)
  ·have aj:k<l.length:=by simpa using h5
   obtain ⟨x,hx⟩:=aL aj;have aF:=Qp (al:=al) hx;rw [← hk.2] at aF;refine gO Tryz.func143 ?_;refine aE (aX hx) rfl ?_;refine gO Tryz.func143 ?_;refine ai (fun h6=>?_) (fun h6=>?_);all_goals
    rcases Nat.eq_zero_or_pos k with cH | cH
    ·have dU:bT (l.map (·.set.name)) k=none:=by simp [bT,cH]
     rw [dU] at aF;refine gO Tryz.func143 ?_;repeat' (first | with_reducible refine aE (aX hx) rfl ?_ | with_reducible refine cY ?_ | with_reducible refine cN ?_ | with_reducible refine ai (fun _=>?_) (fun _=>?_) | refine gA Tryz.func143 ?_ | refine gB ?_ | with_reducible rfl)
     refine gO Tryz.func143 ?_;refine I.bH af bI 2000 (by kernel_rfl) ?_;(conv=>whnf);repeat' (first | with_reducible refine aE (aX hx) rfl ?_ | with_reducible refine cY ?_ | with_reducible refine cN ?_ | with_reducible refine ai (fun _=>?_) (fun _=>?_) | refine gA Tryz.func143 ?_ | refine gB ?_ | with_reducible rfl)
     all_goals first
      |(exfalso; clear aF hk IH; simp_all; done)
      |skip
     all_goals
      refine gO Tryz.func143 ?_;refine I.back (IH (k+1,if x.set.type==3 then x.set.name else al) ⟨by simp only; omega,by simp only; rw [aF]; simp⟩ (by simp only; omega)) ?_;(conv=>whnf);repeat (first | exact trivial | (refine And.intro (by first | with_reducible rfl | exact congrArg (DV.int .i64) (by omega) | exact congrArg DV.str (by simp [h6]) | exact congrArg (DV.int .i64) (wrap64 (by omega) (by omega)) | exact congrArg (DV.int .i64) ((wrap64 (by omega) (by omega)).trans (by omega))) ?_; conv=>whnf))
    ·obtain ⟨q,hq,-⟩:=uN cH hk.1;have dU:bT (l.map (·.set.name)) k=some q.set.name:=by simp [bT,hq]; omega
     rw [dU] at aF;refine gO Tryz.func143 ?_;repeat' (first | with_reducible refine aE (aX hx) rfl ?_ | with_reducible refine aE (nr hq cH (by omega)) rfl ?_ | with_reducible refine cY ?_ | with_reducible refine cN ?_ | with_reducible refine ai (fun _=>?_) (fun _=>?_) | refine gA Tryz.func143 ?_ | refine gB ?_ | with_reducible rfl)
     refine gO Tryz.func143 ?_;refine I.bH af bI 2000 (by kernel_rfl) ?_;(conv=>whnf);repeat' (first | with_reducible refine aE (aX hx) rfl ?_ | with_reducible refine aE (nr hq cH (by omega)) rfl ?_ | with_reducible refine cY ?_ | with_reducible refine cN ?_ | with_reducible refine ai (fun _=>?_) (fun _=>?_) | refine gA Tryz.func143 ?_ | refine gB ?_ | with_reducible rfl)
     all_goals first
      |(rw [aF]; clear aF hk IH; simp_all; done)
      |(exfalso; clear aF hk IH; simp_all; done)
      |skip
     all_goals
      refine gO Tryz.func143 ?_;refine I.back (IH (k+1,if x.set.type==3 then x.set.name else al) ⟨by simp only; omega,by simp only; rw [aF]; clear aF hk IH; simp_all⟩ (by simp only; omega)) ?_;(conv=>whnf);repeat (first | exact trivial | (refine And.intro (by first | with_reducible rfl | exact congrArg (DV.int .i64) (by omega) | exact congrArg DV.str (by simp [h6]) | exact congrArg (DV.int .i64) (wrap64 (by omega) (by omega)) | exact congrArg (DV.int .i64) ((wrap64 (by omega) (by omega)).trans (by omega))) ?_; conv=>whnf))
  ·have aC:l.length≤k:=by simpa using h5
   refine gO Tryz.func143 ?_;rw [hk.2,List.drop_of_length_le aC];rfl
end Go.Proofs.YtfmdaiojokniiaaGreatDoor.P
end
section
namespace Go.Proofs.YtfmdaiojokniiaaGreatDoor.P
open Go Go.aw
set_option maxRecDepth 100000
set_option maxHeartbeats 4000000
def gH (ah:Text) (s:Signed):Bool:=s.set.type==2&&s.set.name != ah
def bV (ah:Text) (l:List Signed):List Text:=(l.filter (gH ah)).map (·.set.name)
theorem Qq {ah:Text} {l:List Signed} {k:Nat} {x:Signed} (h:l[k]? = some x):bV ah (l.take (k+1))=bV ah (l.take k)++(if gH ah x then [x.set.name] else []):=by
 rw [cI h];simp only [bV,List.filter_append,List.map_append]
 congr 1
 cases hc:gH ah x <;> simp [hc]
theorem DN (ah:Text) (l:List Signed):(bV ah l).length≤l.length:=by
 simp only [bV,List.length_map];exact List.length_filter_le _ _
theorem ou {ah:Text} {l:List Signed} {c:Text} (h:c∈bV ah l):∃ s∈l,s.set.name=c∧gH ah s=true:=by
 simp only [bV,List.mem_map,List.mem_filter] at h;obtain ⟨s,⟨h1,h2⟩,h3⟩:=h;exact ⟨s,h1,h3,h2⟩
theorem Qr (z:aG) (hl:z.ab.length≤1000000000):aq E 329 [z.enc] (· = .sl ((bV z.ah z.ab).map .str)):=by
 obtain ⟨ah,l⟩:=z;simp only at hl ⊢;refine eP Tryz.func329 ?_;refine I.tN 3 (9,1) (by decide) rfl ?_;(conv=>whnf);refine I.loop (κ:=Nat) (rg 3 31) (fun k=>[(4,.d (.int .i64 k)),(3,.own 1 1)]) (fun k=>[(1,.arr 1 (9,1) ((bV ah (l.take k)).map .str))]) (fun k=>k≤l.length) (fun k=>l.length - k) 0 (Nat.zero_le _) ?_ ?_
 ·(conv=>whnf);repeat (first | exact trivial | (refine And.intro (by first | with_reducible rfl | exact congrArg (DV.int .i64) (by omega) | exact rfl | exact congrArg (DV.int .i64) (wrap64 (by omega) (by omega)) | exact congrArg (DV.int .i64) ((wrap64 (by omega) (by omega)).trans (by omega))) ?_; conv=>whnf))
 ·intro k hk IH;have dm:=DN ah (l.take k);rw [List.length_take] at dm;refine I.head af Tryz.func329 2000 ?_;(conv=>whnf);refine ai (fun h5=>?_) (fun h5=>?_)
  ·have aj:k<l.length:=by simpa using h5
   obtain ⟨x,hx⟩:=aL aj;have aF:=Qq (ah:=ah) hx;refine gO Tryz.func329 ?_;repeat' (first | with_reducible refine aE (aX hx) rfl ?_ | with_reducible refine cY ?_ | with_reducible refine cN ?_ | with_reducible refine ai (fun _=>?_) (fun _=>?_) | refine gA Tryz.func329 ?_ | refine gB ?_ | with_reducible rfl)
   all_goals first
    |(refine a8 ⟨by simp; omega, by simp [DV.cells]⟩ ?_
      have hc : gH ah x = true := by simp_all [gH])
    |(have hc:gH ah x=false:=by simp_all [gH])
   all_goals
    rw [hc] at aF;refine gO Tryz.func329 ?_;refine I.back (IH (k+1) (by omega) (by omega)) ?_;(conv=>whnf);repeat (first | exact trivial | (refine sI ?_; conv=>whnf))
    refine And.intro (by rw [aF]; simp) ?_;exact sZ
  ·have aC:l.length≤k:=by simpa using h5
   refine gO Tryz.func329 ?_;rw [List.take_of_length_le aC]
def jB (out:List Text) (c:Text):List Text:=match out.getLast? with
 |none=>out++[c]
 |some d=>if Nm.under c d then out else out++[c]
def eA (l:List Text):List Text:=l.foldl jB []
theorem Qs {l:List Text} {k:Nat} {x:Text} (h:l[k]? = some x):eA (l.take (k+1))=jB (eA (l.take k)) x:=by
 rw [cI h,eA,List.foldl_append];rfl
theorem Qt (o:List Text) (c:Text):(jB o c).length≤o.length+1:=by
 unfold jB;split
 ·simp
 ·split <;> simp
theorem IS (l:List Text):(eA l).length≤l.length:=by
 have:∀ (l o:List Text),(l.foldl jB o).length≤o.length+l.length:=by
  intro l
  induction l with
  |nil=>simp
  |cons x l ih=>intro o; have:=ih (jB o x); have:=Qt o x; simp; omega
 have:=this l []
 simpa [eA] using this
theorem uQ {l:List Text}:∀ c∈eA l,c∈l:=by
 have:∀ (l o:List Text),∀ c∈l.foldl jB o,c∈o∨c∈l:=by
  intro l
  induction l with
  |nil=>intro o c h; exact .inl h
  |cons x l ih =>
   intro o c h;rcases ih (jB o x) c h with h | h
   ·have:c∈o∨c=x:=by
     unfold jB at h;split at h
     ·simpa using h
     ·split at h
      ·exact .inl h
      ·simpa using h
    rcases this with h | h
    ·exact .inl h
    ·exact .inr (by simp [h])
   ·exact .inr (List.mem_cons_of_mem _ h)
 intro c h;rcases this l [] c h with h | h
 ·simp at h
 ·exact h
theorem Qu (z:aG) (hl:z.ab.length≤1000000000) (hn:∀ s∈z.ab,s.set.name.length≤1000):aq E 276 [z.enc] (· = .sl ((eA (bV z.ah z.ab)).map .str)):=by
 have dA:∀ c∈bV z.ah z.ab,c.length≤1000:=fun c hc=>by
  obtain ⟨s,h1,rfl,-⟩:=ou hc;exact hn s h1
 have dm:=DN z.ah z.ab;refine eP Tryz.func276 ?_
 with_reducible refine ao (Qr z hl) ?_
 refine gO Tryz.func276 ?_;generalize bV z.ah z.ab=l at *;refine I.tN 4 (9,1) (by decide) rfl ?_;(conv=>whnf);refine I.loop (κ:=Nat) ([4,5]++rg 8 30) (fun k=>[(5,.d (.int .i64 k)),(4,.own 1 1)]) (fun k=>[(1,.arr 1 (9,1) ((eA (l.take k)).map .str))]) (fun k=>k≤l.length) (fun k=>l.length - k) 0 (Nat.zero_le _) ?_ ?_
 ·(conv=>whnf);repeat (first | exact trivial | (refine And.intro (by first | with_reducible rfl | exact congrArg (DV.int .i64) (by omega) | exact rfl | exact congrArg (DV.int .i64) (wrap64 (by omega) (by omega)) | exact congrArg (DV.int .i64) ((wrap64 (by omega) (by omega)).trans (by omega))) ?_; conv=>whnf))
 ·intro k hk IH;have xE:=IS (l.take k);rw [List.length_take] at xE;have Qv:∀ c∈eA (l.take k),c.length≤1000:=fun c hc=>dA c (List.mem_of_mem_take (uQ c hc));refine I.head af Tryz.func276 2000 ?_;(conv=>whnf);refine ai (fun h5=>?_) (fun h5=>?_)
  ·have aj:k<l.length:=by simpa using h5
   obtain ⟨x,hx⟩:=aL aj;have iA:=dA x (List.mem_of_getElem? hx);have aF:=Qs hx;generalize eA (l.take k)=o at *;rcases List.eq_nil_or_concat o with rfl | ⟨i,d,rfl⟩
   ·refine gO Tryz.func276 ?_;refine I.bH af bI 2000 (by kernel_rfl) ?_;(conv=>whnf);refine bh (by simp) ?_;refine gD ?_;refine gO Tryz.func276 ?_;refine aV ?_;refine gO Tryz.func276 ?_;refine aE (aX hx) rfl ?_;refine gO Tryz.func276 ?_;refine a8 ⟨by simp,by simp [DV.cells]⟩ ?_;refine gO Tryz.func276 ?_;refine I.back (IH (k+1) (by omega) (by omega)) ?_;(conv=>whnf);repeat (first | exact trivial | (refine sI ?_; conv=>whnf))
    refine And.intro (by rw [aF]; simp [jB]) ?_;exact sZ
   ·simp only [List.concat_eq_append] at *;have hw:IntKind.i64.wrap ((((i++[d]).map DV.str).length:Int) - 1)=(i.length:Int):=by
     rw [wrap64 (by simp) (by simp; simp at xE; omega)]; simp
    have dx:((i++[d]).map DV.str)[((i.length:Nat):Int).toNat]? = some (.str d):=by simp
    have qO:=Qv d (by simp);have bc:jB (i++[d]) x=if Nm.under x d then i++[d] else i++[d]++[x]:=by simp [jB]
    rw [bc] at aF;refine gO Tryz.func276 ?_;refine I.bH af bI 2000 (by kernel_rfl) ?_;(conv=>whnf);refine aZ (by simp; omega) ?_;refine gD ?_;refine aE (aX hx) rfl ?_;refine gD ?_;rw [hw];refine a8 ⟨by omega,by simp; omega⟩ ?_;refine gD ?_;refine ev (.str d) (by omega) (by simp) rfl ?_;refine gD ?_;refine ay (zT _ _ iA qO) ?_;refine gD ?_;cases hu:Nm.under x d
    ·rw [hu] at aF;refine gO Tryz.func276 ?_;refine bh (by decide) ?_;refine gO Tryz.func276 ?_;refine aE (aX hx) rfl ?_;refine gO Tryz.func276 ?_;refine a8 ⟨by simp; simp at xE; omega,by simp [DV.cells]⟩ ?_;refine gO Tryz.func276 ?_;refine I.back (IH (k+1) (by omega) (by omega)) ?_;(conv=>whnf);repeat (first | exact trivial | (refine sI ?_; conv=>whnf))
     refine And.intro (by rw [aF]; simp) ?_;exact sZ
    ·rw [hu] at aF;refine gO Tryz.func276 ?_;refine aZ (by decide) ?_;refine gO Tryz.func276 ?_;refine I.back (IH (k+1) (by omega) (by omega)) ?_;(conv=>whnf);repeat (first | exact trivial | (refine sI ?_; conv=>whnf))
     refine And.intro (by rw [aF]; simp) ?_;exact sZ
  ·have aC:l.length≤k:=by simpa using h5
   refine gO Tryz.func276 ?_;rw [List.take_of_length_le aC]
end Go.Proofs.YtfmdaiojokniiaaGreatDoor.P
end
section
namespace Go.Proofs.YtfmdaiojokniiaaGreatDoor.P
open Go Go.aw
set_option maxRecDepth 100000
set_option maxHeartbeats 4000000
def dZ (cq:List Text) (n:Text) (k:Nat):Nat:=k+((cq.drop k).takeWhile fun c=>decide (bu c n≤0)).length
theorem Qw {cq:List Text} {n c:Text} {k:Nat} (h:cq[k]? = some c) (ho:bu c n≤0):dZ cq n k=dZ cq n (k+1):=by
 have hk:=aR h;have e1:cq[k]=c:=by simpa [hk] using h
 unfold dZ;rw [List.drop_eq_getElem_cons hk,e1,List.takeWhile_cons_of_pos (by simpa using ho)];simp;omega
theorem Qx {cq:List Text} {n c:Text} {k:Nat} (h:cq[k]? = some c) (ho:¬ bu c n≤0):dZ cq n k=k:=by
 have hk:=aR h;have e1:cq[k]=c:=by simpa [hk] using h
 unfold dZ;rw [List.drop_eq_getElem_cons hk,e1,List.takeWhile_cons_of_neg (by simpa using ho)];simp
theorem Qy {cq:List Text} {n:Text} {k:Nat} (h:cq.length≤k):dZ cq n k=k:=by
 unfold dZ;rw [List.drop_of_length_le h];simp
theorem Ag {cq:List Text} {n:Text} {k:Nat} (h:k≤cq.length):dZ cq n k≤cq.length:=by
 unfold dZ;have h1:((cq.drop k).takeWhile fun c=>decide (bu c n≤0)).length≤(cq.drop k).length:=(List.takeWhile_prefix _).length_le;simp at h1 ⊢;omega
def kM (cq:List Text) (n:Text) (k:Nat):Text:=if k=0 then [] else match cq[k - 1]? with
 |some c=>if Nm.under n c then c else []
 |none=>[]
def lM (cq:List Text):Nat→List Text→List Text
 |_,[]=>[]
 |k,n::ns=>kM cq n (dZ cq n k)::lM cq (dZ cq n k) ns
theorem IT (cq:List Text):∀ (k:Nat) (ns:List Text),(lM cq k ns).length=ns.length
 |_,[]=>rfl
 |k,n::ns=>by simp [lM,IT cq _ ns]
def hU (z:aG):List Text:=lM (eA (bV z.ah z.ab)) 0 (z.ab.map (·.set.name))
theorem qP (z:aG):(hU z).length=z.ab.length:=by simp [hU,IT]
theorem qQ {α:Type} {B:List α} {e x:α} {i n:Nat} (hB:B.length=n) (h:B[i]? = some x):(B.take i++List.replicate (n - i) e).set i x=B.take (i+1)++List.replicate (n - (i+1)) e:=by
 have hi:=aR h;rw [cI h,List.set_append_right _ _ (by simp; omega)];simp only [List.length_take,List.append_assoc]
 congr 1
 rw [show n - i=(n - (i+1))+1 by omega,List.replicate_succ];simp [Nat.min_eq_left (Nat.le_of_lt hi)]
theorem Ah {α:Type} {B:List α} {e:α} {i n:Nat} (hB:B.length=n) (h:B[i]? = some e):B.take i++List.replicate (n - i) e=B.take (i+1)++List.replicate (n - (i+1)) e:=by
 have hi:=aR h;rw [cI h,List.append_assoc]
 congr 1
 rw [show n - i=(n - (i+1))+1 by omega,List.replicate_succ];rfl
theorem qR {α:Type} {B:List α} {e:α} {i n:Nat} (hB:B.length=n) (hi:i<n):(B.take i++List.replicate (n - i) e)[i]? = some e:=by
 rw [List.getElem?_append_right (by simp; omega)];simp only [List.length_take];rw [show i - min i B.length=0 by omega];rw [List.getElem?_replicate,if_pos (by omega)]
theorem IU (z:aG) (hl:z.ab.length≤1000000) (hn:∀ s∈z.ab,s.set.name.length≤1000):aq E 215 [z.enc] (· = .sl ((hU z).map .str)):=by
 have dA:∀ c∈eA (bV z.ah z.ab),c.length≤1000:=fun c hc=>by
  obtain ⟨s,h1,rfl,-⟩:=ou (uQ c hc);exact hn s h1
 have dm:(eA (bV z.ah z.ab)).length≤z.ab.length:=Nat.le_trans (IS _) (DN _ _);have gp:=qP z;have DO:hU z=lM (eA (bV z.ah z.ab)) 0 (z.ab.map (·.set.name)):=rfl;generalize hU z=B at *;refine eP Tryz.func215 ?_
 with_reducible refine ao (Qu z (by omega) hn) ?_
 refine gO Tryz.func215 ?_;generalize eA (bV z.ah z.ab)=cq at *;obtain ⟨ah,l⟩:=z;simp only at *;refine a8 ?_ ?_
 ·simp; omega
 ·refine gO Tryz.func215 ?_;refine I.loop (κ:=Nat × Nat) [5,6,7,14,15,16,17,18,19,20,21,22,23,24,25,26,27,28,29,30,31,32,33,34,35,36,37,38,39,40,41,42,43,44,45,46,47,48,49,50,51,52,53,54,55,56,57,58,59,60,61] (fun k=>[(6,.d (.int .i64 k.1)),(5,.d (.int .i64 k.2)),(4,.own 1 0)]) (fun k=>[(1,.arr 0 (9,1) ((B.take k.1++List.replicate (l.length - k.1) []).map .str))]) (fun k=>k.1≤l.length∧k.2≤cq.length∧B.drop k.1=lM cq k.2 ((l.drop k.1).map (·.set.name))) (fun k=>l.length - k.1) (0,0) ⟨Nat.zero_le _,Nat.zero_le _,by simpa using DO⟩ ?_ ?_
  ·(conv=>whnf);repeat (first | exact trivial | (refine sI ?_; conv=>whnf))
   refine And.intro (by simp) ?_;exact sZ
  ·rintro ⟨i,k⟩ hk IH;simp only at hk;refine I.head af Tryz.func215 2000 ?_;(conv=>whnf);refine ai (fun h5=>?_) (fun h5=>?_)
   ·have aj:i<l.length:=by simpa using h5
    obtain ⟨x,hx⟩:=aL aj;have iA:=hn x (List.mem_of_getElem? hx);have DP:(l.drop i).map (·.set.name)=x.set.name::(l.drop (i+1)).map (·.set.name):=by
     have e1:l[i]=x:=by simpa [aj] using hx
     rw [List.drop_eq_getElem_cons aj,e1];rfl
    obtain ⟨-,np,sL⟩:=hk;rw [DP,lM] at sL;have eR:B[i]? = some (kM cq x.set.name (dZ cq x.set.name k)):=by
     have:=congrArg (fun l=>l[0]?) sL
     simpa using this
    have hX:B.drop (i+1)=lM cq (dZ cq x.set.name k) ((l.drop (i+1)).map (·.set.name)):=by
     have:=congrArg List.tail sL
     simpa using this
    have px:=Ag (n:=x.set.name) np;refine gO Tryz.func215 ?_;refine aE (aX hx) rfl ?_;refine gO Tryz.func215 ?_;refine I.loop (κ:=Nat) ([5]++rg 28 15) (fun j=>[(5,.d (.int .i64 j))]) (fun _=>[]) (fun j=>j≤cq.length∧dZ cq x.set.name k=dZ cq x.set.name j) (fun j=>cq.length - j) k ⟨np,rfl⟩ ?_ ?_
    ·exact sZ
    ·intro j hj py;have leave:∀ (zU:dZ cq x.set.name k=j),True:=fun _=>trivial;refine I.head af Tryz.func215 2000 ?_;(conv=>whnf);refine ai (fun h6=>?_) (fun h6=>?_)
     ·have lN:j<cq.length:=by simpa using h6
      obtain ⟨c,hc⟩:=aL lN;have Qz:=dA c (List.mem_of_getElem? hc);refine gO Tryz.func215 ?_;refine aE (aX hc) rfl ?_;refine gO Tryz.func215 ?_
      with_reducible refine ao (DJ _ _ Qz iA) ?_
      refine gO Tryz.func215 ?_;refine ai (fun h7=>?_) (fun h7=>?_)
      ·refine gO Tryz.func215 ?_;refine I.back (py (j+1) ⟨by omega,by rw [hj.2]; exact Qw hc (by simpa using h7)⟩ (by omega)) ?_;exact sZ
      ·have DQ:dZ cq x.set.name k=j:=by rw [hj.2]; exact Qx hc (by simpa using h7)
       rw [DQ] at eR hX;refine gO Tryz.func215 ?_;rcases Nat.eq_zero_or_pos j with ni | ni
       ·have nb:kM cq x.set.name j=[]:=by simp [kM,ni]
        rw [nb] at eR;refine aZ (by simp; omega) ?_;refine gO Tryz.func215 ?_;refine aQ ?_;refine gO Tryz.func215 ?_;refine I.back (IH (i+1,j) ⟨by simp only; omega,by simp only; omega,hX⟩ (by simp only; omega)) ?_;(conv=>whnf);repeat (first | exact trivial | (refine sI ?_; conv=>whnf))
        refine And.intro (by rw [Ah gp eR]) ?_;exact sZ
       ·obtain ⟨c,hc⟩:=aL (l:=cq) (k:=j - 1) (by omega);have DR:=dA c (List.mem_of_getElem? hc);have nb:kM cq x.set.name j=if Nm.under x.set.name c then c else []:=by simp [kM,hc]; omega
        rw [nb] at eR;refine bh (by simp; omega) ?_;refine gO Tryz.func215 ?_;refine aE (nr hc ni (by omega)) rfl ?_;refine gO Tryz.func215 ?_
        with_reducible refine ao (zT _ _ iA DR) ?_
        refine gO Tryz.func215 ?_;cases hu:Nm.under x.set.name c
        ·rw [hu] at eR;refine aQ ?_;refine gO Tryz.func215 ?_;refine I.back (IH (i+1,j) ⟨by simp only; omega,by simp only; omega,hX⟩ (by simp only; omega)) ?_;(conv=>whnf);repeat (first | exact trivial | (refine sI ?_; conv=>whnf))
         refine And.intro (by rw [Ah gp (by simpa using eR)]) ?_;exact sZ
        ·rw [hu] at eR;refine aV ?_;refine gO Tryz.func215 ?_;refine aE (nr hc ni (by omega)) rfl ?_;refine gO Tryz.func215 ?_;refine a8 ⟨by omega,by simp; omega⟩ ?_;refine gO Tryz.func215 ?_;refine ev (.str []) (by omega) (by simp only [Int.toNat_natCast,List.getElem?_map]; rw [qR gp aj]; rfl) rfl ?_;refine gO Tryz.func215 ?_;refine I.back (IH (i+1,j) ⟨by simp only; omega,by simp only; omega,hX⟩ (by simp only; omega)) ?_;(conv=>whnf);repeat (first | exact trivial | (refine sI ?_; conv=>whnf))
         refine And.intro (by rw [← qQ (e:=[]) gp (by simpa using eR)]; simp [List.map_set]) ?_;exact sZ
     ·have DQ:dZ cq x.set.name k=j:=by rw [hj.2]; exact Qy (by simpa using h6)
      rw [DQ] at eR hX;refine gO Tryz.func215 ?_;refine aQ ?_;refine gO Tryz.func215 ?_;rcases Nat.eq_zero_or_pos j with ni | ni
      ·have nb:kM cq x.set.name j=[]:=by simp [kM,ni]
       rw [nb] at eR;refine aZ (by simp; omega) ?_;refine gO Tryz.func215 ?_;refine aQ ?_;refine gO Tryz.func215 ?_;refine I.back (IH (i+1,j) ⟨by simp only; omega,by simp only; omega,hX⟩ (by simp only; omega)) ?_;(conv=>whnf);repeat (first | exact trivial | (refine sI ?_; conv=>whnf))
       refine And.intro (by rw [Ah gp eR]) ?_;exact sZ
      ·obtain ⟨c,hc⟩:=aL (l:=cq) (k:=j - 1) (by omega);have DR:=dA c (List.mem_of_getElem? hc);have nb:kM cq x.set.name j=if Nm.under x.set.name c then c else []:=by simp [kM,hc]; omega
       rw [nb] at eR;refine bh (by simp; omega) ?_;refine gO Tryz.func215 ?_;refine aE (nr hc ni (by omega)) rfl ?_;refine gO Tryz.func215 ?_
       with_reducible refine ao (zT _ _ iA DR) ?_
       refine gO Tryz.func215 ?_;cases hu:Nm.under x.set.name c
       ·rw [hu] at eR;refine aQ ?_;refine gO Tryz.func215 ?_;refine I.back (IH (i+1,j) ⟨by simp only; omega,by simp only; omega,hX⟩ (by simp only; omega)) ?_;(conv=>whnf);repeat (first | exact trivial | (refine sI ?_; conv=>whnf))
        refine And.intro (by rw [Ah gp (by simpa using eR)]) ?_;exact sZ
       ·rw [hu] at eR;refine aV ?_;refine gO Tryz.func215 ?_;refine aE (nr hc ni (by omega)) rfl ?_;refine gO Tryz.func215 ?_;refine a8 ⟨by omega,by simp; omega⟩ ?_;refine gO Tryz.func215 ?_;refine ev (.str []) (by omega) (by simp only [Int.toNat_natCast,List.getElem?_map]; rw [qR gp aj]; rfl) rfl ?_;refine gO Tryz.func215 ?_;refine I.back (IH (i+1,j) ⟨by simp only; omega,by simp only; omega,hX⟩ (by simp only; omega)) ?_;(conv=>whnf);repeat (first | exact trivial | (refine sI ?_; conv=>whnf))
        refine And.intro (by rw [← qQ (e:=[]) gp (by simpa using eR)]; simp [List.map_set]) ?_;exact sZ
   ·have aC:l.length≤i:=by simpa using h5
    refine gO Tryz.func215 ?_;simp only [show l.length - i=0 by omega,List.replicate_zero,List.append_nil];rw [List.take_of_length_le (by omega)]
end Go.Proofs.YtfmdaiojokniiaaGreatDoor.P
end
section
namespace Go.Proofs.YtfmdaiojokniiaaGreatDoor.P
open Go Go.aw
set_option maxRecDepth 100000
set_option maxHeartbeats 4000000
theorem uR {α β:Type} {a:List α} {b:List β} {k:Nat} {x:α} {y:β} (ha:a[k]? = some x) (hb:b[k]? = some y):(a.zip b)[k]? = some (x,y):=by
 rw [List.getElem?_zip_eq_some];exact ⟨ha,hb⟩
def pz (s:Signed) (b:Text):Bool:=b==[]||(s.set.type != 2&&s.set.type != 1)
def pA (z:aG):List Bool:=(z.ab.zip (hU z)).map fun p=>pz p.1 p.2
theorem DS (z:aG):(pA z).length=z.ab.length:=by simp [pA,qP]
theorem QA (z:aG) (hl:z.ab.length≤1000000) (hn:∀ s∈z.ab,s.set.name.length≤1000):aq E 216 [z.enc] (· = .sl ((pA z).map .bool)):=by
 have gp:=qP z;have DT:=DS z;have hO:pA z=(z.ab.zip (hU z)).map fun p=>pz p.1 p.2:=rfl;generalize pA z=O at *;refine eP Tryz.func216 ?_
 with_reducible refine ao (IU z hl hn) ?_
 refine gO Tryz.func216 ?_;generalize hU z=B at *;obtain ⟨ah,l⟩:=z;simp only at *;refine a8 (by simp; omega) ?_;refine gO Tryz.func216 ?_;refine I.loop (κ:=Nat) ([5,6]++rg 13 30) (fun k=>[(5,.d (.int .i64 k)),(4,.own 1 0)]) (fun k=>[(1,.arr 0 (4,1) ((O.take k++List.replicate (l.length - k) false).map .bool))]) (fun k=>k≤l.length) (fun k=>l.length - k) 0 (Nat.zero_le _) ?_ ?_
 ·(conv=>whnf);repeat (first | exact trivial | (refine sI ?_; conv=>whnf))
  refine And.intro (by simp) ?_;exact sZ
 ·intro k hk IH;refine I.head af Tryz.func216 2000 ?_;(conv=>whnf);refine ai (fun h5=>?_) (fun h5=>?_)
  ·have aj:k<l.length:=by simpa using h5
   obtain ⟨x,hx⟩:=aL aj;obtain ⟨b,hb⟩:=aL (l:=B) (k:=k) (by omega);have uS:O[k]? = some (pz x b):=by rw [hO,List.getElem?_map,uR hx hb]; rfl
   have IV:=qR (e:=false) DT aj;have iW:=qQ (e:=false) DT uS;refine gO Tryz.func216 ?_;repeat' (first | with_reducible refine aE (aX hx) rfl ?_ | with_reducible refine aE (aX hb) rfl ?_ | with_reducible refine cY ?_ | with_reducible refine cN ?_ | with_reducible refine ai (fun _=>?_) (fun _=>?_) | refine gA Tryz.func216 ?_ | refine gB ?_ | with_reducible rfl)
   all_goals
    refine a8 ⟨by omega,by simp; omega⟩ ?_;refine gO Tryz.func216 ?_;refine ev (.bool false) (by omega) (by simp only [Int.toNat_natCast,List.getElem?_map]; rw [IV]; rfl) rfl ?_;refine gO Tryz.func216 ?_;refine I.back (IH (k+1) (by omega) (by omega)) ?_;(conv=>whnf);repeat (first | exact trivial | (refine sI ?_; conv=>whnf))
    refine And.intro (by rw [← iW]; simp only [Int.toNat_natCast,List.map_set]; congr 2; clear iW IV uS hO IH hb; rcases b with _ | ⟨c,b⟩ <;> simp_all [pz]) ?_;exact sZ
  ·have aC:l.length≤k:=by simpa using h5
   refine gO Tryz.func216 ?_;simp only [show l.length - k=0 by omega,List.replicate_zero,List.append_nil];rw [List.take_of_length_le (by omega)]
def eB (ah:Text) (s:Signed):Bool:=ez s.set&&Nm.under s.set.name ah
def fT (q s:Signed):Bool:=decide (mG q.set s.set<0)
def lO (z:aG):Bool:=Nm.valid z.ah && !mF z.ah && !(decide ((z.ab.length:Int)>20000))&&chain (eB z.ah) fT none z.ab
theorem sM {s:cS} (h:ez s=true):Nm.valid s.name=true:=by
 simp only [ez,Bool.and_eq_true] at h;exact h.1.1.1.1.1.1
structure aG.Fits (z:aG):Prop where
 ah:z.ah.length≤maxLen
 ab:∀ s∈z.ab,s.set.Fits
theorem IW (z:aG) (hf:z.Fits):aq E 141 [z.enc] (· = .bool (lO z)):=by
 obtain ⟨ah,l⟩:=z;have nd:ah.length≤maxLen:=hf.ah;have ga:∀ s∈l,s.set.Fits:=hf.ab;unfold lO;simp only;cases hv:Nm.valid ah
 ·refine eP Tryz.func141 ?_
  with_reducible refine ao (ey _ nd) ?_
  refine gO Tryz.func141 ?_;rw [hv];refine bh rfl ?_;refine gO Tryz.func141 ?_;refine aV ?_;refine gO Tryz.func141 ?_;refine aV ?_;refine gO Tryz.func141 ?_;simp
 ·have px:=eJ hv;refine eP Tryz.func141 ?_
  with_reducible refine ao (ey _ nd) ?_
  refine gO Tryz.func141 ?_;rw [hv];refine aZ rfl ?_;refine gO Tryz.func141 ?_
  with_reducible refine ao (DI ah (by omega)) ?_
  refine gO Tryz.func141 ?_;cases hw:mF ah
  case true =>
   refine aV ?_;refine gO Tryz.func141 ?_;refine aV ?_;refine gO Tryz.func141 ?_;simp
  refine aQ ?_;refine gO Tryz.func141 ?_;refine ai (fun h3=>?_) (fun h3=>?_)
  ·refine gO Tryz.func141 ?_;simp only [List.length_map] at h3;rw [h3];simp
  ·simp only [List.length_map] at h3;rw [h3];simp only [Bool.not_false,Bool.true_and];have IX:l.length≤20000:=by simp at h3; omega
   refine gO Tryz.func141 ?_;refine I.loop (κ:=Nat) ([2,3,4]++rg 20 40) (fun k=>[(3,.d (.int .i64 k))]) (fun _=>[]) (fun k=>k≤l.length∧chain (eB ah) fT none l=chain (eB ah) fT (bT l k) (l.drop k)∧∀ q,bT l k=some q→ez q.set=true) (fun k=>l.length - k) 0 ⟨Nat.zero_le _,rfl,fun q h=>by simp [bT] at h⟩ ?_ ?_
   ·exact sZ
   ·intro k hk IH;refine I.head af Tryz.func141 2000 ?_;(conv=>whnf);refine ai (fun h5=>?_) (fun h5=>?_)
    ·have aj:k<l.length:=by simpa using h5
     obtain ⟨x,hx⟩:=aL aj;have aF:=xD (ok:=eB ah) (rel:=fT) hx;rw [← hk.2.1] at aF;have jC:=ga x (List.mem_of_getElem? hx);have sN:bT l (k+1)=some x:=by simp [bT,hx]
     cases hs:ez x.set
     ·refine gO Tryz.func141 ?_;refine aE (aX hx) rfl ?_;refine gO Tryz.func141 ?_;refine I.bH af bI 2000 (by kernel_rfl) ?_;(conv=>whnf);refine ay (xB x.set jC) ?_;refine gD ?_;rw [hs];refine bh rfl ?_;refine gD ?_;repeat' (first | with_reducible refine cY ?_ | with_reducible refine cN ?_ | with_reducible refine ai (fun _=>?_) (fun _=>?_) | refine gA Tryz.func141 ?_ | refine gB ?_ | with_reducible rfl)
      rw [aF,eB,hs];simp
     ·have cx:=sM hs;have iA:=eJ cx;refine gO Tryz.func141 ?_;refine aE (aX hx) rfl ?_;refine gO Tryz.func141 ?_;refine I.bH af bI 2000 (by kernel_rfl) ?_;(conv=>whnf);refine ay (xB x.set jC) ?_;refine gD ?_;rw [hs];refine aZ rfl ?_;refine gD ?_;refine ay (zT x.set.name ah (by omega) (by omega)) ?_;refine gD ?_;rcases Nat.eq_zero_or_pos k with cH | cH
      ·have dU:bT l k=none:=by simp [bT,cH]
       rw [dU] at aF;dsimp only at aF;rw [Bool.and_true] at aF;repeat' (first | with_reducible refine cY ?_ | with_reducible refine cN ?_ | with_reducible refine ai (fun _=>?_) (fun _=>?_) | refine gA Tryz.func141 ?_ | refine gB ?_ | with_reducible rfl)
       all_goals first
        |(have bL : eB ah x = false := by clear aF hk IH; simp_all [eB]
          rw [aF, bL, Bool.false_and]
          done)
        |(exfalso; clear aF hk IH; simp_all; done)
        |skip
       all_goals
        refine gO Tryz.func141 ?_;refine I.back (IH (k+1) ⟨by omega,by rw [aF,show eB ah x=true by clear aF hk IH; simp_all [eB],Bool.true_and],fun q hq=>by rw [sN] at hq; cases hq; exact hs⟩ (by omega)) ?_;exact sZ
      ·obtain ⟨q,hq,dU⟩:=uN cH hk.1;have Ai:=sM (hk.2.2 q dU);rw [dU] at aF;repeat' (first | with_reducible refine aE (nr hq cH (by omega)) rfl ?_ | with_reducible refine ao (ID q.set x.set Ai cx) ?_ | with_reducible refine ay (ID q.set x.set Ai cx) ?_ | with_reducible refine cY ?_ | with_reducible refine cN ?_ | with_reducible refine ai (fun _=>?_) (fun _=>?_) | refine gA Tryz.func141 ?_ | refine gB ?_ | with_reducible rfl)
       all_goals first
        |(have bL : (eB ah x && fT q x) = false := by clear aF hk IH; simp_all [eB, fT]
          rw [aF, bL, Bool.false_and]
          done)
        |(exfalso; clear aF hk IH; simp_all; omega)
        |skip
       all_goals
        refine gO Tryz.func141 ?_;refine I.back (IH (k+1) ⟨by omega,by rw [aF,show (eB ah x&&fT q x)=true by clear aF hk IH; simp_all [eB,fT],Bool.true_and],fun q hq=>by rw [sN] at hq; cases hq; exact hs⟩ (by omega)) ?_;exact sZ
    ·have aC:l.length≤k:=by simpa using h5
     refine gO Tryz.func141 ?_;rw [hk.2.1,List.drop_of_length_le aC];rfl
def ov (s:Signed) (b:Text):Bool := !(b != []&&s.set.type != 1 && !(b != []&&s.set.name==b)) && !((b != []&&s.set.name==b)&&s.set.type != 1&&s.set.type != 2&&s.set.type != 6&&s.set.type != 8) && !(s.set.type==6 && !(b != []&&s.set.name==b))
def xF (z:aG):Bool:=(z.ab.zip (hU z)).all fun p=>ov p.1 p.2
theorem IY (z:aG) (hl:z.ab.length≤1000000) (hn:∀ s∈z.ab,s.set.name.length≤1000):aq E 144 [z.enc] (· = .bool (xF z)):=by
 have gp:=qP z;unfold xF;refine eP Tryz.func144 ?_
 with_reducible refine ao (IU z hl hn) ?_
 refine gO Tryz.func144 ?_;generalize hU z=B at *;obtain ⟨ah,l⟩:=z;simp only at *;refine I.loop (κ:=Nat) ([2,4,5,6]++rg 9 69) (fun k=>[(4,.d (.int .i64 k))]) (fun _=>[]) (fun k=>k≤l.length∧((l.zip B).take k).all (fun p=>ov p.1 p.2)=true) (fun k=>l.length - k) 0 ⟨Nat.zero_le _,rfl⟩ ?_ ?_
 ·exact sZ
 ·intro k hk IH;refine I.head af Tryz.func144 2000 ?_;(conv=>whnf);refine ai (fun h5=>?_) (fun h5=>?_)
  ·have aj:k<l.length:=by simpa using h5
   obtain ⟨x,hx⟩:=aL aj;obtain ⟨b,hb⟩:=aL (l:=B) (k:=k) (by omega);have hz:=uR hx hb;refine gO Tryz.func144 ?_;refine aE (aX hx) rfl ?_;refine gO Tryz.func144 ?_;refine I.bH af bI 2000 (by kernel_rfl) ?_;(conv=>whnf);repeat' (first | with_reducible refine aE (aX hb) rfl ?_ | with_reducible refine cY ?_ | with_reducible refine cN ?_ | with_reducible refine ai (fun _=>?_) (fun _=>?_) | refine gA Tryz.func144 ?_ | refine gB ?_ | with_reducible rfl)
   all_goals first
    |(rw [eX hz (by clear hz hb hk IH; rcases b with _ | ⟨c,b⟩ <;> simp_all [ov])]; done)
    |(exfalso; clear hz hb hk IH; rcases b with _ | ⟨c,b⟩ <;> simp_all; done)
    |skip
   all_goals
    refine gO Tryz.func144 ?_;refine I.back (IH (k+1) ⟨by omega,fm hk.2 hz (by clear hz hb hk IH; rcases b with _ | ⟨c,b⟩ <;> simp_all [ov])⟩ (by omega)) ?_;exact sZ
  ·have aC:l.length≤k:=by simpa using h5
   refine gO Tryz.func144 ?_;rw [mE hk.2 (by simp; omega)]
def sO (ah:Text) (s:Signed) (o:Bool):Bool:=mI s.sigs ah && !(!o&&decide ((s.sigs.length:Int)>0))
def Aj (z:aG):Bool:=(z.ab.zip (pA z)).all fun p=>sO z.ah p.1 p.2
theorem IZ (z:aG) (hl:z.ab.length≤1000000) (hn:∀ s∈z.ab,s.set.name.length≤1000):aq E 145 [z.enc] (· = .bool (Aj z)):=by
 have DT:=DS z;unfold Aj;refine eP Tryz.func145 ?_
 with_reducible refine ao (QA z hl hn) ?_
 refine gO Tryz.func145 ?_;generalize pA z=O at *;obtain ⟨ah,l⟩:=z;simp only at *;refine I.loop (κ:=Nat) ([2,4]++rg 7 34) (fun k=>[(4,.d (.int .i64 k))]) (fun _=>[]) (fun k=>k≤l.length∧((l.zip O).take k).all (fun p=>sO ah p.1 p.2)=true) (fun k=>l.length - k) 0 ⟨Nat.zero_le _,rfl⟩ ?_ ?_
 ·exact sZ
 ·intro k hk IH;refine I.head af Tryz.func145 2000 ?_;(conv=>whnf);refine ai (fun h5=>?_) (fun h5=>?_)
  ·have aj:k<l.length:=by simpa using h5
   obtain ⟨x,hx⟩:=aL aj;obtain ⟨b,hb⟩:=aL (l:=O) (k:=k) (by omega);have hz:=uR hx hb;refine gO Tryz.func145 ?_;refine I.bH af bI 2000 (by kernel_rfl) ?_;(conv=>whnf);repeat' (first | with_reducible refine aE (aX hx) rfl ?_ | with_reducible refine aE (aX hb) rfl ?_ | with_reducible refine ao (IJ _ _) ?_ | with_reducible refine ay (IJ _ _) ?_ | with_reducible refine cY ?_ | with_reducible refine cN ?_ | with_reducible refine ai (fun _=>?_) (fun _=>?_) | refine gA Tryz.func145 ?_ | refine gB ?_ | with_reducible rfl)
   all_goals first
    |(rw [eX hz (by clear hz hb hk IH; simp_all [sO])]; done)
    |(exfalso; clear hz hb hk IH; simp_all; done)
    |skip
   all_goals
    refine gO Tryz.func145 ?_;refine I.back (IH (k+1) ⟨by omega,fm hk.2 hz (by clear hz hb hk IH; simp_all [sO])⟩ (by omega)) ?_;exact sZ
  ·have aC:l.length≤k:=by simpa using h5
   refine gO Tryz.func145 ?_;rw [mE hk.2 (by simp; omega)]
def dE (z:aG):Bool:=lO z&&(qN z&&(kL [] none z.ab&&(xF z&&Aj z)))
theorem xG {α:Type} {ok:α→Bool} {rel:α→α→Bool}:∀ {p:Option α} {l:List α},chain ok rel p l=true→∀ x∈l,ok x=true
 |_,[],_,x,hx=>by simp at hx
 |p,y::l,h,x,hx=>by
  simp only [chain,Bool.and_eq_true] at h;rcases List.mem_cons.1 hx with rfl | hx
  ·exact h.1.1
  ·exact xG h.2 x hx
theorem uT {z:aG} (h:lO z=true):z.ab.length≤20000∧(∀ s∈z.ab,eB z.ah s=true)∧Nm.valid z.ah=true:=by
 simp only [lO,Bool.and_eq_true] at h;refine ⟨by have:=h.1.2; simp at this; omega,xG h.2,h.1.1.1⟩
theorem QB {ah:Text} {s:Signed} (h:eB ah s=true):s.set.name.length≤60:=by
 simp only [eB,Bool.and_eq_true] at h;exact eJ (sM h.1)
theorem I0 (z:aG) (hf:z.Fits):aq E 75 [z.enc] (· = .bool (dE z)):=by
 unfold dE;cases h1:lO z
 ·have bX:=IW z hf;rw [h1] at bX;refine eP Tryz.func75 ?_;repeat' (first | with_reducible refine ao (bX) ?_ | with_reducible refine ay (bX) ?_ | with_reducible refine cY ?_ | with_reducible refine cN ?_ | with_reducible refine ai (fun _=>?_) (fun _=>?_) | refine gA Tryz.func75 ?_ | refine gB ?_ | with_reducible rfl)
  all_goals simp_all
 ·obtain ⟨g1,g2,-⟩:=uT h1;have gl:z.ab.length≤1000000:=by omega
  have gn:∀ s∈z.ab,s.set.name.length≤1000:=fun s hs=>by have:=QB (g2 s hs); omega
  have bX:=IW z hf;rw [h1] at bX;refine eP Tryz.func75 ?_;repeat' (first | with_reducible refine ao (bX) ?_ | with_reducible refine ay (bX) ?_ | with_reducible refine ao (IP z (by omega)) ?_ | with_reducible refine ay (IP z (by omega)) ?_ | with_reducible refine ao (IQ z (by omega)) ?_ | with_reducible refine ay (IQ z (by omega)) ?_ | with_reducible refine ao (IY z gl gn) ?_ | with_reducible refine ay (IY z gl gn) ?_ | with_reducible refine ao (IZ z gl gn) ?_ | with_reducible refine ay (IZ z gl gn) ?_ | with_reducible refine cY ?_ | with_reducible refine cN ?_ | with_reducible refine ai (fun _=>?_) (fun _=>?_) | refine gA Tryz.func75 ?_ | refine gB ?_ | with_reducible rfl)
  all_goals simp_all
end Go.Proofs.YtfmdaiojokniiaaGreatDoor.P
end
