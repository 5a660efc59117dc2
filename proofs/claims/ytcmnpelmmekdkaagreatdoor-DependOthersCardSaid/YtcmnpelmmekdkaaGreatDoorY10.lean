/- Several texts of mine, one behind the other. Conditions: as each says. -/
import Derived.Test.YtcmnpelmmekdkaaGreatDoorY8
import Derived.Test.YtcmnpelmmekdkaaGreatDoorY9
set_option linter.unusedVariables false
set_option linter.unusedSimpArgs false
section
namespace Go.Proofs.YtcmnpelmmekdkaaGreatDoor.P
open Go Go.ax
set_option maxRecDepth 100000
set_option maxHeartbeats 4000000
theorem Ni (t:Int) (ab:Bool):aA E 206 [.int .i64 t,.bool ab] (· = .bool (uN t ab)):=by
 refine eP Tryz.func206 ?_;repeat' (first | with_reducible refine cY ?_ | with_reducible refine cN ?_ | with_reducible refine aw (fun _=>?_) (fun _=>?_) | refine gA Tryz.func206 ?_ | refine gB ?_ | refine gC ?_ | with_reducible rfl)
 all_goals (cases ab <;> simp_all [uN])
theorem Nj (l:List gW) (ab:Text):aA E 207 [Gx l,.str ab] (· = .bool (nL l ab)):=by
 unfold nL;have hg:∃ g0,g0=l.headD Cy:=⟨_,rfl⟩;obtain ⟨g0,hg⟩:=hg;rw [← hg];refine eP Tryz.func207 ?_;refine aw (fun h1=>?_) (fun h1=>?_)
 ·refine gO Tryz.func207 ?_;simp only [List.length_map] at h1;rw [decide_eq_false (by simp at h1; omega),Bool.false_and]
 ·have h6:l.length≤6:=by simp at h1; omega
  rw [decide_eq_true (by omega),Bool.true_and];refine gO Tryz.func207 ?_;refine aa.loop (κ:=Nat) ([4,5,6]++rg 12 76) (fun k=>[(12,.d (.int .i64 k))]) (fun _=>[]) (fun k=>k≤l.length∧chain (ga ab g0) jT none l=chain (ga ab g0) jT (cT l k) (l.drop k)) (fun k=>l.length - k) 0 ⟨Nat.zero_le _,rfl⟩ ?_ ?_
  ·exact sZ
  ·intro k hk IH;refine aa.head aj Tryz.func207 2000 ?_;(conv=>whnf);refine aw (fun h5=>?_) (fun h5=>?_)
   ·have ai:k<l.length:=by simpa using h5
    obtain ⟨x,hx⟩:=aY ai;have h0:=MP ai;rw [← hg] at h0;have aX:=CN (ok:=ga ab g0) (rel:=jT) hx;rw [← hk.2] at aX;rcases Nat.eq_zero_or_pos k with df | df
    ·have eE:cT l k=none:=by simp [cT,df]
     rw [eE] at aX;dsimp only at aX;rw [Bool.and_true] at aX;have CZ:x=g0:=by subst df; rw [hx] at h0; exact Option.some.inj h0
     refine gO Tryz.func207 ?_;repeat' (first | with_reducible refine aF (a7 hx) rfl ?_ | with_reducible refine cY ?_ | with_reducible refine cN ?_ | with_reducible refine aw (fun _=>?_) (fun _=>?_) | refine gA Tryz.func207 ?_ | refine gB ?_ | refine gC ?_ | with_reducible rfl)
     all_goals first
      |(have dQ : ga ab g0 x = false := by clear aX hk IH hg; simp_all [ga] <;> (intros; omega)
        rw [aX, dQ, Bool.false_and]
        done)
      |skip
     refine gO Tryz.func207 ?_;refine aa.draw aj bW 31 2000 (by kernel_rfl) ?_;(conv=>whnf);repeat' (first | with_reducible refine aF (a7 hx) rfl ?_ | with_reducible refine aF (uM h0) rfl ?_ | with_reducible refine cY ?_ | with_reducible refine cN ?_ | with_reducible refine aw (fun _=>?_) (fun _=>?_) | refine gA Tryz.func207 ?_ | refine gB ?_ | refine gC ?_ | with_reducible rfl)
     all_goals first
      |(exfalso; clear aX hk IH hg; simp_all; done)
      |skip
     all_goals
      refine gO Tryz.func207 ?_;refine aa.back (IH (k+1) ⟨by omega,by rw [aX,show ga ab g0 x=true by clear aX hk IH hg; simp_all [ga] <;> omega,Bool.true_and]⟩ (by omega)) ?_;exact sZ
    ·obtain ⟨q,hq,eE⟩:=w8 df hk.1;rw [eE] at aX;refine gO Tryz.func207 ?_;repeat' (first | with_reducible refine aF (a7 hx) rfl ?_ | with_reducible refine cY ?_ | with_reducible refine cN ?_ | with_reducible refine aw (fun _=>?_) (fun _=>?_) | refine gA Tryz.func207 ?_ | refine gB ?_ | refine gC ?_ | with_reducible rfl)
     all_goals first
      |(have dQ : ga ab g0 x = false := by clear aX hk IH hg; simp_all [ga] <;> (intros; omega)
        rw [aX, dQ, Bool.false_and, Bool.false_and]
        done)
      |skip
     refine gO Tryz.func207 ?_;refine aa.draw aj bW 31 2000 (by kernel_rfl) ?_;(conv=>whnf);repeat' (first | with_reducible refine aF (a7 hx) rfl ?_ | with_reducible refine aF (uM h0) rfl ?_ | with_reducible refine aF (oG hq df (by omega)) rfl ?_ | with_reducible refine cY ?_ | with_reducible refine cN ?_ | with_reducible refine aw (fun _=>?_) (fun _=>?_) | refine gA Tryz.func207 ?_ | refine gB ?_ | refine gC ?_ | with_reducible rfl)
     all_goals first
      |(have dQ : (ga ab g0 x && jT q x) = false := by clear aX hk IH hg; simp_all [ga, jT] <;> (intros; omega)
        rw [aX, dQ, Bool.false_and]
        done)
      |(exfalso; clear aX hk IH hg; simp_all; omega)
      |skip
     all_goals
      refine gO Tryz.func207 ?_;refine aa.back (IH (k+1) ⟨by omega,by rw [aX,show (ga ab g0 x&&jT q x)=true by clear aX hk IH hg; simp_all [ga,jT] <;> omega,Bool.true_and]⟩ (by omega)) ?_;exact sZ
   ·have aP:l.length≤k:=by simpa using h5
    refine gO Tryz.func207 ?_;rw [hk.2,List.drop_of_length_le aP];rfl
@[reducible] def z6 (z : aU) (b : List Text) : DV := .agg [.str z.ab, zH z.af, .sl (b.map .str)]
theorem Wh (z:aU) (B:List Text) (hB:B.length=z.af.length) (hl:z.af.length≤1000000):aA E 138 [z6 z B] (· = .bool ((z.af.zip B).all fun p=>pG p.1 p.2)):=by
 obtain ⟨ab,l⟩:=z;simp only at *;refine eP Tryz.func138 ?_;refine aa.loop (κ:=Nat) (rg 2 4++rg 11 39) (fun k=>[(11,.d (.int .i64 k))]) (fun _=>[]) (fun k=>k≤l.length∧((l.zip B).take k).all (fun p=>pG p.1 p.2)=true) (fun k=>l.length - k) 0 ⟨Nat.zero_le _,rfl⟩ ?_ ?_
 ·exact sZ
 ·intro k hk IH;refine aa.head aj Tryz.func138 2000 ?_;(conv=>whnf);refine aw (fun h5=>?_) (fun h5=>?_)
  ·have ai:k<l.length:=by simpa using h5
   obtain ⟨x,hx⟩:=aY ai;obtain ⟨b,hb⟩:=aY (l:=B) (k:=k) (by omega);have hz:=xd hx hb;refine gO Tryz.func138 ?_;repeat' (first | with_reducible refine aF (a7 hx) rfl ?_ | with_reducible refine aF (a7 hb) rfl ?_ | with_reducible refine cY ?_ | with_reducible refine cN ?_ | with_reducible refine aw (fun _=>?_) (fun _=>?_) | refine gA Tryz.func138 ?_ | refine gB ?_ | refine gC ?_ | with_reducible rfl)
   all_goals first
    |(have dQ : pG x b = false := by clear hz hb hk IH hx; obtain ⟨⟨nm, ty, lf, dt⟩, sg⟩ := x; rcases b with _ | ⟨c, b⟩ <;> simp_all [pG] <;> first | (rintro rfl; simp_all; done) | (intro h; exact absurd h.symm (by assumption)) | (subst_vars; simp_all; done) | (intros; simp_all; done)
      rw [iI hz dQ]
      done)
    |(exfalso; clear hz hb hk IH; rcases b with _ | ⟨c,b⟩ <;> simp_all; done)
    |skip
   all_goals
    refine gO Tryz.func138 ?_;refine aa.back (IH (k+1) ⟨by omega,jx hk.2 hz (by clear hz hb hk IH hx; obtain ⟨⟨nm,ty,lf,dt⟩,sg⟩:=x; rcases b with _ | ⟨c,b⟩ <;> simp_all [pG] <;> first | (rintro rfl; simp_all; done) | (intro h; exact absurd h.symm (by assumption)) | (subst_vars; simp_all; done) | (intros; simp_all; done))⟩ (by omega)) ?_;exact sZ
  ·have aP:l.length≤k:=by simpa using h5
   refine gO Tryz.func138 ?_;rw [nI hk.2 (by simp; omega)]
def sN (s:Signed) (b:Text):Bool := !(!jU s b&&decide ((s.sigs.length:Int)>0))
theorem Wi (z:aU) (B:List Text) (hB:B.length=z.af.length) (hl:z.af.length≤1000000):aA E 139 [z6 z B] (· = .bool ((z.af.zip B).all fun p=>sN p.1 p.2)):=by
 obtain ⟨ab,l⟩:=z;simp only at *;refine eP Tryz.func139 ?_;refine aa.loop (κ:=Nat) (rg 2 4++rg 11 31) (fun k=>[(11,.d (.int .i64 k))]) (fun _=>[]) (fun k=>k≤l.length∧((l.zip B).take k).all (fun p=>sN p.1 p.2)=true) (fun k=>l.length - k) 0 ⟨Nat.zero_le _,rfl⟩ ?_ ?_
 ·exact sZ
 ·intro k hk IH;refine aa.head aj Tryz.func139 2000 ?_;(conv=>whnf);refine aw (fun h5=>?_) (fun h5=>?_)
  ·have ai:k<l.length:=by simpa using h5
   obtain ⟨x,hx⟩:=aY ai;obtain ⟨b,hb⟩:=aY (l:=B) (k:=k) (by omega);have hz:=xd hx hb;refine gO Tryz.func139 ?_;repeat' (first | with_reducible refine aF (a7 hx) rfl ?_ | with_reducible refine aF (a7 hb) rfl ?_ | with_reducible refine cY ?_ | with_reducible refine cN ?_ | with_reducible refine aw (fun _=>?_) (fun _=>?_) | refine gA Tryz.func139 ?_ | refine gB ?_ | refine gC ?_ | with_reducible rfl)
   all_goals first
    |(rw [iI hz (by clear hz hb hk IH; rcases b with _ | ⟨c,b⟩ <;> simp_all [sN,jU])]; done)
    |(exfalso; clear hz hb hk IH; rcases b with _ | ⟨c,b⟩ <;> simp_all; done)
    |skip
   all_goals
    refine gO Tryz.func139 ?_;refine aa.back (IH (k+1) ⟨by omega,jx hk.2 hz (by clear hz hb hk IH; rcases b with _ | ⟨c,b⟩ <;> simp_all [sN,jU])⟩ (by omega)) ?_;exact sZ
  ·have aP:l.length≤k:=by simpa using h5
   refine gO Tryz.func139 ?_;rw [nI hk.2 (by simp; omega)]
theorem Wj (z:aU) (B:List Text) (hl:z.af.length≤1000000):aA E 140 [z6 z B] (· = .bool (z.af.all fun s=>nL s.sigs z.ab)):=by
 obtain ⟨ab,l⟩:=z;simp only at *;refine eP Tryz.func140 ?_;refine aa.loop (κ:=Nat) ([2,4]++rg 10 13) (fun k=>[(10,.d (.int .i64 k))]) (fun _=>[]) (fun k=>k≤l.length∧(l.take k).all (fun s=>nL s.sigs ab)=true) (fun k=>l.length - k) 0 ⟨Nat.zero_le _,rfl⟩ ?_ ?_
 ·exact sZ
 ·intro k hk IH;refine aa.head aj Tryz.func140 2000 ?_;(conv=>whnf);refine aw (fun h5=>?_) (fun h5=>?_)
  ·have ai:k<l.length:=by simpa using h5
   obtain ⟨x,hx⟩:=aY ai;refine gO Tryz.func140 ?_;repeat' (first | with_reducible refine aF (a7 hx) rfl ?_ | with_reducible refine ar (Nj _ _) ?_ | with_reducible refine bg (Nj _ _) ?_ | with_reducible refine cY ?_ | with_reducible refine cN ?_ | with_reducible refine aw (fun _=>?_) (fun _=>?_) | refine gA Tryz.func140 ?_ | refine gB ?_ | refine gC ?_ | with_reducible rfl)
   all_goals first
    |(rw [iI hx (by simp_all)]; done)
    |skip
   all_goals
    refine gO Tryz.func140 ?_;refine aa.back (IH (k+1) ⟨by omega,jx hk.2 hx (by simp_all)⟩ (by omega)) ?_;exact sZ
  ·have aP:l.length≤k:=by simpa using h5
   refine gO Tryz.func140 ?_;rw [nI hk.2 aP]
def sO (p:Option Text) (s:Signed) (t:Option Signed):Bool:=s.set.type != 3||(p != some s.set.name&&(match t with | none=>true | some t => !(t.set.name==s.set.name&&t.set.type != 8)))
def jV:Option Text→List Signed→Bool
 |_,[]=>true
 |p,s::l=>sO p s l.head? && jV (some s.set.name) l
theorem Wk {l:List Signed} {k:Nat} {x:Signed} (hx:l[k]? = some x):jV (cT (l.map (·.set.name)) k) (l.drop k)=(sO (cT (l.map (·.set.name)) k) x l[k+1]? && jV (cT (l.map (·.set.name)) (k+1)) (l.drop (k+1))):=by
 have hk:=aZ hx;rw [List.drop_eq_getElem_cons hk];have e1:l[k]=x:=by simpa [hk] using hx
 have e2:cT (l.map (·.set.name)) (k+1)=some x.set.name:=by simp [cT,hx]
 have e3:(l.drop (k+1)).head? = l[k+1]? := by rw [List.head?_drop]
 rw [e1,e2,jV,e3]
theorem Wl (z:aU) (B:List Text) (hl:z.af.length≤1000000):aA E 137 [z6 z B] (· = .bool (jV none z.af)):=by
 obtain ⟨ab,l⟩:=z;simp only at *;refine eP Tryz.func137 ?_;refine aa.loop (κ:=Nat) ([2,3,4]++rg 10 65) (fun k=>[(10,.d (.int .i64 k))]) (fun _=>[]) (fun k=>k≤l.length∧jV none l=jV (cT (l.map (·.set.name)) k) (l.drop k)) (fun k=>l.length - k) 0 ⟨Nat.zero_le _,rfl⟩ ?_ ?_
 ·exact sZ
 ·intro k hk IH;refine aa.head aj Tryz.func137 2000 ?_;(conv=>whnf);refine aw (fun h5=>?_) (fun h5=>?_)
  ·have ai:k<l.length:=by simpa using h5
   obtain ⟨x,hx⟩:=aY ai;have aX:=Wk hx;rw [← hk.2] at aX;have hw:IntKind.i64.wrap ((k:Int)+1)=((k+1:Nat):Int):=by rw [wrap64 (by omega) (by omega)]; omega
   refine gO Tryz.func137 ?_;refine aF (a7 hx) rfl ?_;refine gO Tryz.func137 ?_;refine aw (fun h6=>?_) (fun h6=>?_)
   ·refine gO Tryz.func137 ?_;refine aa.back (IH (k+1) ⟨by omega,by rw [aX]; simp only [sO,h6,Bool.true_or,Bool.true_and]⟩ (by omega)) ?_;exact sZ
   ·have e1:sO (cT (l.map (·.set.name)) k) x l[k+1]? = (cT (l.map (·.set.name)) k != some x.set.name&&(match l[k+1]? with | none=>true | some t => !(t.set.name==x.set.name&&t.set.type != 8))):=by simp only [sO,h6,Bool.false_or]
    rw [e1] at aX;clear e1;rcases Nat.eq_zero_or_pos k with df | df
    ·have eE:cT (l.map (·.set.name)) k=none:=by simp [cT,df]
     rw [eE] at aX;refine gO Tryz.func137 ?_;refine aa.draw aj bW 18 2000 (by kernel_rfl) ?_;(conv=>whnf);refine aI (by simp; omega) ?_;refine gD ?_;refine gS ?_;refine gO Tryz.func137 ?_;refine ba ?_;refine gO Tryz.func137 ?_;refine aa.draw aj bW 37 2000 (by kernel_rfl) ?_;(conv=>whnf);by_cases gu:k+1<l.length
     ·obtain ⟨t,ht⟩:=aY gu;rw [ht] at aX;refine aM (by rw [hw]; simp; omega) ?_;refine gD ?_;repeat' (first | with_reducible refine aF (at_next ht (by omega)) rfl ?_ | with_reducible refine cY ?_ | with_reducible refine cN ?_ | with_reducible refine aw (fun _=>?_) (fun _=>?_) | refine gA Tryz.func137 ?_ | refine gB ?_ | refine gC ?_ | with_reducible rfl)
      all_goals first
       |(rw [aX]; clear aX hk IH eE; simp_all; done)
       |skip
      all_goals
       refine gO Tryz.func137 ?_;refine aa.back (IH (k+1) ⟨by omega,by rw [aX]; clear aX hk IH eE; simp_all⟩ (by omega)) ?_;exact sZ
     ·have ht:l[k+1]? = none:=List.getElem?_eq_none (by omega);rw [ht] at aX;refine aI (by rw [hw]; simp; omega) ?_;refine gD ?_;repeat' (first | with_reducible refine cY ?_ | with_reducible refine cN ?_ | with_reducible refine aw (fun _=>?_) (fun _=>?_) | refine gA Tryz.func137 ?_ | refine gB ?_ | refine gC ?_ | with_reducible rfl)
      refine gO Tryz.func137 ?_;refine aa.back (IH (k+1) ⟨by omega,by rw [aX]; clear aX hk IH eE; simp_all⟩ (by omega)) ?_;exact sZ
    ·obtain ⟨q,hq,-⟩:=w8 df hk.1;have eE:cT (l.map (·.set.name)) k=some q.set.name:=by simp [cT,hq]; omega
     rw [eE] at aX;refine gO Tryz.func137 ?_;refine aa.draw aj bW 18 2000 (by kernel_rfl) ?_;(conv=>whnf);refine aM (by simp; omega) ?_;refine gD ?_;refine aF (oG hq df (by omega)) rfl ?_;refine gD ?_;refine gS ?_;refine gO Tryz.func137 ?_;refine aw (fun h7=>?_) (fun h7=>?_)
     ·refine gO Tryz.func137 ?_;rw [aX];clear aX hk IH eE;simp_all
     ·refine gO Tryz.func137 ?_;refine aa.draw aj bW 37 2000 (by kernel_rfl) ?_;(conv=>whnf);by_cases gu:k+1<l.length
      ·obtain ⟨t,ht⟩:=aY gu;rw [ht] at aX;refine aM (by rw [hw]; simp; omega) ?_;refine gD ?_;repeat' (first | with_reducible refine aF (at_next ht (by omega)) rfl ?_ | with_reducible refine cY ?_ | with_reducible refine cN ?_ | with_reducible refine aw (fun _=>?_) (fun _=>?_) | refine gA Tryz.func137 ?_ | refine gB ?_ | refine gC ?_ | with_reducible rfl)
       all_goals first
        |(rw [aX]; clear aX hk IH eE; simp_all; done)
        |skip
       all_goals
        refine gO Tryz.func137 ?_;refine aa.back (IH (k+1) ⟨by omega,by rw [aX]; clear aX hk IH eE; simp_all⟩ (by omega)) ?_;exact sZ
      ·have ht:l[k+1]? = none:=List.getElem?_eq_none (by omega);rw [ht] at aX;refine aI (by rw [hw]; simp; omega) ?_;refine gD ?_;repeat' (first | with_reducible refine cY ?_ | with_reducible refine cN ?_ | with_reducible refine aw (fun _=>?_) (fun _=>?_) | refine gA Tryz.func137 ?_ | refine gB ?_ | refine gC ?_ | with_reducible rfl)
       refine gO Tryz.func137 ?_;refine aa.back (IH (k+1) ⟨by omega,by rw [aX]; clear aX hk IH eE; simp_all⟩ (by omega)) ?_;exact sZ
  ·have aP:l.length≤k:=by simpa using h5
   refine gO Tryz.func137 ?_;rw [hk.2,List.drop_of_length_le aP];rfl
end Go.Proofs.YtcmnpelmmekdkaaGreatDoor.P
end
section
namespace Go.Proofs.YtcmnpelmmekdkaaGreatDoor.P
open Go Go.ax
set_option maxRecDepth 100000
set_option maxHeartbeats 4000000
theorem Nk (c d:UInt8):c<d∨c=d∨d<c:=by
 rcases Nat.lt_trichotomy c.toNat d.toNat with h | h | h
 ·exact .inl (UInt8.lt_iff_toNat_lt.2 h)
 ·exact .inr (.inl (UInt8.toNat_inj.1 h))
 ·exact .inr (.inr (UInt8.lt_iff_toNat_lt.2 h))
theorem G2 {c d:UInt8} {a b:Text}:Op.bytesLess (c::a) (d::b)=true↔c<d∨(c=d∧Op.bytesLess a b=true):=by
 simp [Op.bytesLess]
theorem G3:∀ {a b c:Text},Op.bytesLess a b=true→Op.bytesLess b c=true→Op.bytesLess a c=true
 |_,[],_,h,_=>by simp [Op.bytesLess] at h
 |_,_::_,[],_,h=>by simp [Op.bytesLess] at h
 | [],_::_,_::_,_,_=>by simp [Op.bytesLess]
 |x::a,y::b,z::c,h,k=>by
  rw [G2] at h k ⊢;rcases h with h | ⟨rfl,h⟩
  ·rcases k with k | ⟨rfl,k⟩
   ·exact .inl (UInt8.lt_trans h k)
   ·exact .inl h
  ·rcases k with k | ⟨rfl,k⟩
   ·exact .inl k
   ·exact .inr ⟨rfl,G3 h k⟩
theorem Nl:∀ (a b:Text),Op.bytesLess a b=true∨a=b∨Op.bytesLess b a=true
 | [],[] => .inr (.inl rfl)
 | [],_::_ => .inl (by simp [Op.bytesLess])
 |_::_,[] => .inr (.inr (by simp [Op.bytesLess]))
 |c::a,d::b=>by
  rw [G2,G2];rcases Nk c d with h | rfl | h
  ·exact .inl (.inl h)
  ·rcases Nl a b with h | rfl | h
   ·exact .inl (.inr ⟨rfl,h⟩)
   ·exact .inr (.inl rfl)
   ·exact .inr (.inr (.inr ⟨rfl,h⟩))
  ·exact .inr (.inr (.inl h))
theorem C0 {a b:Text} (h:Op.bytesLess a b=true):Op.bytesLess b a=false:=by
 rw [← Bool.not_eq_true];intro k;have:=G3 h k;rw [l7] at this;cases this
theorem G4 {a b:Text} (h:Op.bytesLess a b=true):a≠b:=by
 rintro rfl;rw [l7] at h;cases h
theorem Nn:∀ (a b:Text),Lib.compareBytes a b=if Op.bytesLess a b then -1 else if a==b then 0 else 1
 | [],[]=>by simp [Lib.compareBytes,Op.bytesLess]
 | [],_::_=>by simp [Lib.compareBytes,Op.bytesLess]
 |_::_,[]=>by simp [Lib.compareBytes,Op.bytesLess]
 |c::a,d::b=>by
  simp only [Lib.compareBytes,Op.bytesLess];rcases Nk c d with h | rfl | h
  ·simp [h]
  ·simp [Nn a b]
  ·have h1:¬ c<d:=UInt8.not_lt.2 (UInt8.le_of_lt h);have h2:¬ c=d:=by rintro rfl; exact absurd h (by simp)
   simp [h,h1,h2]
theorem pH (x y:Text) (l m:List Text):(Op.bytesLess x y=true∧cmpL (x::l) (y::m) = -1)∨(x=y∧cmpL (x::l) (y::m)=cmpL l m)∨(Op.bytesLess y x=true∧cmpL (x::l) (y::m)=1):=by
 rcases Nl x y with h | rfl | h
 ·exact .inl ⟨h,by simp [cmpL,h]⟩
 ·exact .inr (.inl ⟨rfl,by simp [cmpL,l7]⟩)
 ·exact .inr (.inr ⟨h,by simp [cmpL,C0 h,(G4 h).symm]⟩)
theorem No:∀ (l:List Text),cmpL l l=0
 | []=>rfl
 |x::l=>by simp [cmpL,l7,No l]
theorem Np:∀ {l m:List Text},cmpL l m=0→l=m
 | [],[],_=>rfl
 | [],_::_,h=>by simp [cmpL] at h
 |_::_,[],h=>by simp [cmpL] at h
 |x::l,y::m,h=>by
  rcases pH x y l m with ⟨-,e⟩ | ⟨rfl,e⟩ | ⟨-,e⟩
  ·rw [e] at h; cases h
  ·rw [e] at h; rw [Np h]
  ·rw [e] at h; cases h
theorem Nq:∀ (l m:List Text),cmpL m l = - cmpL l m
 | [],[]=>rfl
 | [],_::_=>rfl
 |_::_,[]=>rfl
 |x::l,y::m=>by
  rcases pH x y l m with ⟨h,e⟩ | ⟨rfl,e⟩ | ⟨h,e⟩
  ·rw [e];simp [cmpL,C0 h,(G4 h).symm]
  ·rw [e,← Nq l m];simp [cmpL,l7]
  ·rw [e];simp [cmpL,h]
theorem Nr:∀ {a b c:List Text},cmpL a b<0→cmpL b c<0→cmpL a c<0
 | [],[],_,h,_=>by simp [cmpL] at h
 |_::_,[],_,h,_=>by simp [cmpL] at h
 |_,_::_,[],_,h=>by simp [cmpL] at h
 | [],_::_,_::_,_,_=>by simp [cmpL]
 |x::a,y::b,z::c,h,k=>by
  rcases pH x y a b with ⟨h1,e1⟩ | ⟨rfl,e1⟩ | ⟨h1,e1⟩
  ·rcases pH y z b c with ⟨h2,e2⟩ | ⟨rfl,e2⟩ | ⟨h2,e2⟩
   ·simp [cmpL,G3 h1 h2]
   ·simp [cmpL,h1]
   ·rw [e2] at k; simp at k
  ·rcases pH x z b c with ⟨h2,e2⟩ | ⟨rfl,e2⟩ | ⟨h2,e2⟩
   ·simp [cmpL,h2]
   ·rw [e1] at h;rw [e2] at k;have:=Nr h k;rcases pH x x a c with ⟨h3,-⟩ | ⟨-,e3⟩ | ⟨h3,-⟩
    ·rw [l7] at h3; cases h3
    ·rw [e3]; exact this
    ·rw [l7] at h3; cases h3
   ·rw [e2] at k; simp at k
  ·rw [e1] at h; simp at h
theorem Ns:∀ {c m n:List Text},cmpL c m≤0→cmpL m n≤0→c <+: n→c <+: m
 | [],_,_,_,_,_=>List.nil_prefix
 |_::_,[],_,h,_,_=>by simp [cmpL] at h
 |_::_,_::_,[],_,_,h=>by simp at h
 |x::c,y::m,z::n,h,k,hp=>by
  rw [List.cons_prefix_cons] at hp;obtain ⟨rfl,hp⟩:=hp;rcases pH x y c m with ⟨h1,e1⟩ | ⟨rfl,e1⟩ | ⟨h1,e1⟩
  ·rcases pH y x m n with ⟨h2,e2⟩ | ⟨rfl,e2⟩ | ⟨h2,e2⟩
   ·have:=C0 h1; rw [h2] at this; cases this
   ·rw [l7] at h1; cases h1
   ·rw [e2] at k; simp at k
  ·rcases pH x x m n with ⟨h2,-⟩ | ⟨-,e2⟩ | ⟨h2,-⟩
   ·rw [l7] at h2; cases h2
   ·rw [List.cons_prefix_cons];rw [e1] at h;rw [e2] at k;exact ⟨rfl,Ns h k hp⟩
   ·rw [l7] at h2; cases h2
  ·rw [e1] at h; simp at h
theorem Nt:∀ {c n:List Text},c <+: n→cmpL c n≤0
 | [],[],_=>by simp [cmpL]
 | [],_::_,_=>by simp [cmpL]
 |_::_,[],h=>by simp at h
 |x::c,y::n,h=>by
  rw [List.cons_prefix_cons] at h;obtain ⟨rfl,h⟩:=h;simp only [cmpL,l7,Bool.false_eq_true,if_false,beq_self_eq_true,if_true];exact Nt h
theorem mb (a:Text):bA a a=0:=No _
theorem pI {a b:Text} (h:bA a b=0):a=b:=zV (List.reverse_inj.1 (Np h))
theorem uR (a b:Text):bA b a = - bA a b:=Nq _ _
theorem pJ {a b c:Text} (h:bA a b<0) (k:bA b c<0):bA a c<0:=Nr h k
theorem sG {s z:Text}:Nm.under s z=true↔(Nm.labels z).reverse <+: (Nm.labels s).reverse:=by
 simp [Nm.under,List.reverse_prefix]
theorem xi {c m n:Text} (h:bA c m≤0) (k:bA m n≤0) (hp:Nm.under n c=true):Nm.under m c=true:=sG.2 (Ns h k (sG.1 hp))
theorem xj {c n:Text} (h:Nm.under n c=true):bA c n≤0:=Nt (sG.1 h)
theorem Nu:∀ (l m:List Text),kD (l.map bs) (m.map bs)=cmpL l m
 | [],[]=>rfl
 | [],_::_=>rfl
 |_::_,[]=>rfl
 |x::l,y::m=>by
  simp only [List.map_cons,kD,zG,Nn];rw [Nu l m];rcases pH x y l m with ⟨h,e⟩ | ⟨rfl,e⟩ | ⟨h,e⟩
  ·simp [cmpL,h]
  ·simp [cmpL,l7]
  ·simp [cmpL,C0 h,(G4 h).symm]
theorem Wm (a b:Text):kD (Nm.back ⟨a.toArray⟩) (Nm.back ⟨b.toArray⟩)=bA a b:=by
 simp only [Nm.back,jS];exact Nu _ _
theorem C1 (a b:Text) (ha:Nm.valid a=true) (hb:Nm.valid b=true):aA E 76 [.str a,.str b] (· = .aL [.int .i64 (bA a b),.int .i64 0]):=by
 refine Gy (g:=fun a b => .aL [.int .i64 (bA a b),.int .i64 0]) a b ⟨_,Tryz.func76,rfl,by decide⟩ fun w=>?_;have vd:∀ (v:Int) (bad:Nat→Prop) (w:World),VD bad w (.aL [.int .i64 v,.int .i64 0]) (.tuple #[.int .i64 v,.int .i64 0]):=fun v bad w => .aL _ _ rfl fun j x u hx hu=>by
  match j with
  | 0=>simp at hx hu; subst hx; subst hu; exact .int _ _
  | 1=>simp at hx hu; subst hx; subst hu; exact .int _ _
  |j+2=>simp at hx
 by_cases he:a=b
 ·subst he;refine (Wa ⟨a.toArray⟩ w (by rw [jS]; exact ha)).mono fun e w' ⟨h1,h2⟩=>⟨_,h1,fun bad w=>?_,h2⟩;rw [mb];exact vd 0 bad w
 ·refine (V3 ⟨a.toArray⟩ ⟨b.toArray⟩ w (by rw [jS]; exact ha) (by rw [jS]; exact hb) (by rw [jS,jS]; exact he)).mono fun e w' ⟨h1,h2⟩=>⟨_,h1,fun bad w=>?_,h2⟩;rw [Wm];exact vd _ bad w
def nN (a:Text) (s:Int) (b:Text) (t:Int):Int:=if a≠b then bA a b else fZ s t
theorem Nv (a:Text) (s:Int) (b:Text) (t:Int) (ha:Nm.valid a=true) (hb:Nm.valid b=true):aA E 145 [.str a,.int .i64 s,.str b,.int .i64 t] (· = .int .i64 (nN a s b t)):=by
 refine eP Tryz.func145 ?_;repeat' (first | with_reducible refine ar (C1 _ _ ha hb) ?_ | with_reducible refine bg (C1 _ _ ha hb) ?_ | with_reducible refine ar (zJ _ _) ?_ | with_reducible refine bg (zJ _ _) ?_ | with_reducible refine cY ?_ | with_reducible refine cN ?_ | with_reducible refine aw (fun _=>?_) (fun _=>?_) | refine gA Tryz.func145 ?_ | refine gB ?_ | refine gC ?_ | with_reducible rfl)
 all_goals simp_all [nN]
theorem xk (a b:eu):nN a.name a.type b.name b.type=nJ a b:=by
 unfold nN nJ;by_cases h:a.name=b.name
 ·simp [h,mb]
 ·have:bA a.name b.name≠0:=fun e=>h (pI e);simp [h,this]
end Go.Proofs.YtcmnpelmmekdkaaGreatDoor.P
end
section
namespace Go.Proofs.YtcmnpelmmekdkaaGreatDoor.P
open Go Go.ax
set_option maxRecDepth 100000
set_option maxHeartbeats 4000000
def uS (s:Signed) (q:aS):Int:=nN s.set.name s.set.type q.name q.type
theorem Wn {a b:Int}:fZ a b=0↔a=b:=by
 unfold fZ;split
 ·omega
 ·split <;> omega
theorem C2 {s:Signed} {q:aS}:(uS s q==0)=dp q s:=by
 rw [Bool.eq_iff_iff,beq_iff_eq];unfold uS nN dp;by_cases h:s.set.name=q.name
 ·simp [h,Wn]
 ·have:bA s.set.name q.name≠0:=fun e=>h (pI e);simp [h,this]
def fI (l:List Signed):Prop:=∀ (i j:Nat) (x y:Signed),i<j→l[i]? = some x→l[j]? = some y→nJ x.set y.set<0
theorem Wo {a b c:Int} (h:fZ a b<0) (k:fZ b c<0):fZ a c<0:=by
 unfold fZ at *;repeat' split at h
 all_goals first | omega | skip
 repeat' split at k
 all_goals first | omega | skip
 repeat' split
 all_goals omega
theorem G5 {a b c:Text} {s t u:Int} (h:nN a s b t<0) (k:nN b t c u<0):nN a s c u<0:=by
 unfold nN at *;by_cases e1:a=b
 ·subst e1;simp only [ne_eq,not_true_eq_false,if_false] at h;by_cases e2:a=c
  ·subst e2;simp only [ne_eq,not_true_eq_false,if_false] at k ⊢;exact Wo h k
  ·simp only [ne_eq,e2,not_false_eq_true,if_true] at k ⊢;exact k
 ·simp only [ne_eq,e1,not_false_eq_true,if_true] at h;by_cases e2:b=c
  ·subst e2;simp only [ne_eq,e1,not_false_eq_true,if_true];exact h
  ·simp only [ne_eq,e2,not_false_eq_true,if_true] at k;have:=pJ h k;have e3:a≠c:=by
    rintro rfl;rw [mb] at this;omega
   simp only [ne_eq,e3,not_false_eq_true,if_true];exact this
theorem Nw (s:Signed) (q:aS) (hs:Nm.valid s.set.name=true) (hq:Nm.valid q.name=true):aA E 144 [s.enc,q.enc] (· = .int .i64 (uS s q)):=by
 refine eP Tryz.func144 ?_
 with_reducible refine ar (Nv _ _ _ _ hs hq) ?_
 refine gO Tryz.func144 ?_;rfl
theorem Nx {i j:Nat} (h:i+j≤4294967296):IntKind.i64.wrap (qC .shr .u64 (IntKind.u64.wrap (IntKind.i64.wrap ((i:Int)+j))) (Int.toNat 1))=(((i+j) / 2:Nat):Int):=by
 rw [wrap64 (n:=(i:Int)+j) (by omega) (by omega)];have e1:IntKind.u64.wrap ((i:Int)+j)=(i:Int)+j:=by
  simp [IntKind.wrap,IntKind.signed,IntKind.bits];omega
 rw [e1];have e2:qC .shr .u64 ((i:Int)+j) (Int.toNat 1)=(((i+j) / 2:Nat):Int):=by
  show ((i:Int)+j).fdiv (2 ^ 1)=_;rw [Int.fdiv_eq_ediv_of_nonneg _ (by decide)];omega
 rw [e2,wrap64 (by omega) (by omega)]
theorem Wp (l:List Signed) (q:aS) (hl:l.length≤1000000) (hv:∀ s∈l,Nm.valid s.set.name=true) (hq:Nm.valid q.name=true) (hs:fI l) :
  aC E 143 [] [.d (zH l),.d q.enc,.fn (.func 144) [] []] (fun a b=>(∃ i:Nat,i≤l.length∧a = .aL [.d (.int .i64 i),.d (.bool (l.any (dp q)))]∧∀ j x,l[j]? = some x→dp q x=true→j=i)∧b=[.cells [.d (.str q.name),.d (.int .i64 q.type)]]):=by
 refine aC.run aj (fn:=Tryz.f143) Tryz.func143 (body:=Tryz.f143.body.getD .skip) rfl (by decide) 2000 rfl ?_;(conv=>whnf);refine aa.loop (κ:=Nat × Nat) [9,10,11,15,16,17,18,19,20,21,22,23,24,25,26,27,28,29,30,31,32,33,34] (fun k=>[(9,.d (.int .i64 k.1)),(10,.d (.int .i64 k.2))]) (fun _=>[]) (fun k=>k.1≤k.2∧k.2≤l.length∧(∀ m x,m<k.1→l[m]? = some x→uS x q<0)∧(∀ m x,k.2≤m→l[m]? = some x→¬ uS x q<0)) (fun k=>k.2 - k.1) (0,l.length) ⟨Nat.zero_le _,Nat.le_refl _,fun m x h=>by omega,fun m x h hx=>by have:=aZ hx; omega⟩ ?_ ?_
 ·(conv=>whnf);repeat (first | exact trivial | (refine And.intro (by first | with_reducible rfl | exact congrArg (DV.int .i64) (by omega) | exact congrArg (DV.int .i64) (by simp) | exact congrArg (DV.int .i64) (wrap64 (by omega) (by omega)) | exact congrArg (DV.int .i64) ((wrap64 (by omega) (by omega)).trans (by omega))) ?_; conv=>whnf))
 ·rintro ⟨i,j⟩ hk IH;obtain ⟨k1,k2,k3,k4⟩:=hk;simp only at k1 k2 k3 k4;refine aa.head aj Tryz.func143 2000 ?_;(conv=>whnf);refine aw (fun h5=>?_) (fun h5=>?_)
  ·have ai:i<j:=by simpa using h5
   obtain ⟨x,hx⟩:=aY (l:=l) (k:=(i+j) / 2) (by omega);have dg:=hv x (List.mem_of_getElem? hx);have z7:=Nx (i:=i) (j:=j) (by omega);refine gO Tryz.func143 ?_;refine bQ (by decide) ?_;refine gO Tryz.func143 ?_;refine aa.draw aj bW 8 2000 (by kernel_rfl) ?_;(conv=>whnf);rw [show IntKind.i64.wrap (qC .shr .u64 (IntKind.u64.wrap (IntKind.i64.wrap (((i,j).fst:Int)+((i,j).snd:Int)))) (Int.toNat 1))=(((i+j) / 2:Nat):Int) from z7];refine aF (a7 hx) rfl ?_;refine gD ?_
   with_reducible refine bg (Nw x q dg hq) ?_
   refine gD ?_;refine gS ?_;refine gO Tryz.func143 ?_;refine aw (fun h6=>?_) (fun h6=>?_)
   ·have hc:uS x q<0:=by simpa using h6
    refine gO Tryz.func143 ?_;refine aa.back (IH ((i+j) / 2+1,j) ⟨by simp only; omega,k2,fun m y hm hy=>?_,k4⟩ (by simp only; omega)) ?_
    ·simp only at hm;rcases Nat.lt_or_ge m ((i+j) / 2) with h | h
     ·have h1:=hs m ((i+j) / 2) y x h hy hx;rw [← xk] at h1;exact G5 h1 hc
     ·obtain rfl:m=(i+j) / 2:=by omega
      rw [hx] at hy;cases hy;exact hc
    ·exact sZ
   ·have hc:¬ uS x q<0:=by simpa using h6
    refine gO Tryz.func143 ?_;refine aa.back (IH (i,(i+j) / 2) ⟨by simp only; omega,by simp only; omega,k3,fun m y hm hy=>?_⟩ (by simp only; omega)) ?_
    ·simp only at hm;rcases Nat.lt_or_ge ((i+j) / 2) m with h | h
     ·intro G6;have h1:=hs ((i+j) / 2) m x y h hx hy;rw [← xk] at h1;exact hc (G5 h1 G6)
     ·obtain rfl:m=(i+j) / 2:=by omega
      rw [hx] at hy;cases hy;exact hc
    ·exact sZ
  ·have aP:i=j:=by simp at h5; omega
   subst aP;have only:∀ m y,l[m]? = some y→dp q y=true→m=i:=fun m y hy ha=>by
    rw [← C2,beq_iff_eq] at ha;rcases Nat.lt_trichotomy m i with h | h | h
    ·have:=k3 m y h hy; omega
    ·exact h
    ·obtain ⟨x,hx⟩:=aY (l:=l) (k:=i) (by have:=aZ hy; omega);have h1:=hs i m x y h hx hy;rw [← xk] at h1;have h2:=k4 i x (Nat.le_refl _) hx;have h3:nN x.set.name x.set.type q.name q.type<0:=by
      have e:y.set.name=q.name∧y.set.type=q.type:=by
       have:dp q y=true:=by rw [← C2,beq_iff_eq]; exact ha
       simpa [dp] using this
      rw [e.1,e.2] at h1;exact h1
     exact absurd h3 h2
   rcases Nat.lt_or_ge i l.length with hi | hi
   ·obtain ⟨x,hx⟩:=aY hi;have dg:=hv x (List.mem_of_getElem? hx);have G7:l.any (dp q)=dp q x:=by
     cases ha:dp q x
     ·rw [← Bool.not_eq_true,List.any_eq_true];rintro ⟨y,hy,z8⟩;obtain ⟨m,hm⟩:=List.getElem?_of_mem hy;obtain rfl:=only m y hm z8;rw [hx] at hm;cases hm;rw [ha] at z8;cases z8
     ·rw [List.any_eq_true];exact ⟨x,List.mem_of_getElem? hx,ha⟩
    refine gO Tryz.func143 ?_;refine aa.draw aj bW 16 2000 (by kernel_rfl) ?_;(conv=>whnf);refine aM (by simp; omega) ?_;refine gD ?_;refine aF (a7 hx) rfl ?_;refine gD ?_
    with_reducible refine bg (Nw x q dg hq) ?_
    refine gD ?_;refine gS ?_;refine gO Tryz.func143 ?_;exact ⟨⟨i,by omega,by rw [G7,← C2],only⟩,rfl⟩
   ·have G7:l.any (dp q)=false:=by
     rw [← Bool.not_eq_true,List.any_eq_true];rintro ⟨y,hy,z8⟩;obtain ⟨m,hm⟩:=List.getElem?_of_mem hy;obtain rfl:=only m y hm z8;have:=aZ hm;omega
    refine gO Tryz.func143 ?_;refine aa.draw aj bW 16 2000 (by kernel_rfl) ?_;(conv=>whnf);refine aI (by simp; omega) ?_;refine gD ?_;refine gS ?_;refine gO Tryz.func143 ?_;exact ⟨⟨i,by omega,by rw [G7],only⟩,rfl⟩
theorem C3 (z:aU) (q:aS) (hl:z.af.length≤1000000) (hv:∀ s∈z.af,Nm.valid s.set.name=true) (hq:Nm.valid q.name=true) (hs:fI z.af) :
  aA E 93 [z.enc,q.enc] (fun r=>∃ i:Nat,i≤z.af.length∧r = .aL [.int .i64 i,.bool (z.af.any (dp q))]∧∀ j x,z.af[j]? = some x→dp q x=true→j=i):=by
 refine eP Tryz.func93 ?_;refine uf (Wp z.af q hl hv hq hs) ?_;rintro r h1 ⟨⟨i,hi,rfl,ho⟩,rfl⟩;refine gO Tryz.func93 ?_;exact ⟨i,hi,rfl,ho⟩
theorem Wq {t:Text} (h:Nm.valid t=true):rf t=Nm.gJ t:=by
 unfold rf Nm.labels;by_cases hr:t=[46]
 ·subst hr; rfl
 ·rw [if_neg hr];have hp:Nm.parts (Nm.split t)=true:=by
   simp only [Nm.valid,Bool.or_eq_true,decide_eq_true_eq,Bool.and_eq_true] at h;rcases h with h | h
   ·exact absurd h hr
   ·exact h.2
  cases t with
  |nil=>rfl
  |cons c r =>
   by_cases hc:c=46
   ·subst hc;simp [Nm.split,Nm.parts,Nm.label] at hp
   ·obtain ⟨x,u,h1,h2⟩:=Nm.qU c r hc;rw [h2] at hp ⊢;simp only [Nm.parts,Bool.and_eq_true,Bool.or_eq_true] at hp;show (c::x==[42])=(c==42);rcases hp.2.1 with hl | hl
    ·have h0:Nm.nD (c::x) 0=true:=by
      simp only [Nm.label,decide_eq_true_eq] at hl;exact hl.2.2 0 (by simp)
     have aJ:(c==42)=false:=by
      rw [← Bool.not_eq_true];intro e;have:c=42:=by simpa using e
      subst this;simp [Nm.nD,Nm.F5] at h0
     have F0:c≠42:=by simpa using aJ
     rw [aJ];simp [F0]
    ·have:c::x=[42]:=by simpa using hl
     injection this with e1 e2;subst e1;subst e2;rfl
theorem Aa {s z:Text} (hs:Nm.valid s=true) (hz:Nm.valid z=true):Nm.mL s z=Nm.under s z:=by simp [Nm.mL,hs,hz]
theorem Ny (z:aU) (hf:z.Fits):aA E 134 [z.enc] (· = .bool (nM z)):=by
 obtain ⟨ab,l⟩:=z;have lR:ab.length≤maxLen:=hf.ab;have il:∀ s∈l,s.set.Fits:=hf.af;unfold nM;simp only;cases hv:Nm.valid ab
 ·refine eP Tryz.func134 ?_
  with_reducible refine ar (lk _ lR) ?_
  refine gO Tryz.func134 ?_;rw [hv];refine aM rfl ?_;refine gO Tryz.func134 ?_;refine bq ?_;refine gO Tryz.func134 ?_;refine bq ?_;refine gO Tryz.func134 ?_;simp
 ·have ri:=fF hv;rw [Wq hv];refine eP Tryz.func134 ?_
  with_reducible refine ar (lk _ lR) ?_
  refine gO Tryz.func134 ?_;rw [hv];refine aI rfl ?_;refine gO Tryz.func134 ?_
  with_reducible refine ar (Mg _ _) ?_
  refine gO Tryz.func134 ?_;rw [show preB ab _=Nm.gJ ab from Mh ab];cases hw:Nm.gJ ab
  case true =>
   refine bq ?_;refine gO Tryz.func134 ?_;refine bq ?_;refine gO Tryz.func134 ?_;simp
  refine ba ?_;refine gO Tryz.func134 ?_;refine aw (fun h3=>?_) (fun h3=>?_)
  ·refine gO Tryz.func134 ?_;simp only [List.length_map] at h3;rw [h3];simp
  ·simp only [List.length_map] at h3;rw [h3];simp only [Bool.not_false,Bool.true_and];have M3:l.length≤20000:=by simp at h3; omega
   refine gO Tryz.func134 ?_;refine aa.loop (κ:=Nat) (rg 2 6++rg 30 44) (fun k=>[(30,.d (.int .i64 k))]) (fun _=>[]) (fun k=>k≤l.length∧chain (fo ab) gY none l=chain (fo ab) gY (cT l k) (l.drop k)∧∀ q,cT l k=some q→fc q.set=true) (fun k=>l.length - k) 0 ⟨Nat.zero_le _,rfl,fun q h=>by simp [cT] at h⟩ ?_ ?_
   ·exact sZ
   ·intro k hk IH;refine aa.head aj Tryz.func134 2000 ?_;(conv=>whnf);refine aw (fun h5=>?_) (fun h5=>?_)
    ·have ai:k<l.length:=by simpa using h5
     obtain ⟨x,hx⟩:=aY ai;have aX:=CN (ok:=fo ab) (rel:=gY) hx;rw [← hk.2.1] at aX;have zS:=il x (List.mem_of_getElem? hx);have zT:cT l (k+1)=some x:=by simp [cT,hx]
     cases hs:fc x.set
     ·refine gO Tryz.func134 ?_;refine aF (a7 hx) rfl ?_;refine gO Tryz.func134 ?_
      with_reducible refine ar (Cv x.set zS) ?_
      refine gO Tryz.func134 ?_;rw [hs];refine aM rfl ?_;refine gO Tryz.func134 ?_;rw [aX,fo,hs];simp
     ·have dg:=uO hs;have gK:=fF dg;have sP:=zK x.set.name ab (by unfold maxLen; omega) lR;rw [Aa dg hv] at sP;refine gO Tryz.func134 ?_;refine aF (a7 hx) rfl ?_;refine gO Tryz.func134 ?_
      with_reducible refine ar (Cv x.set zS) ?_
      refine gO Tryz.func134 ?_;rw [hs];refine aI rfl ?_;refine gO Tryz.func134 ?_
      with_reducible refine ar (sP) ?_
      refine gO Tryz.func134 ?_;cases hu:Nm.under x.set.name ab
      ·refine aM rfl ?_;refine gO Tryz.func134 ?_;rw [aX,fo,hu];simp
      ·have aK:fo ab x=true:=by simp [fo,hs,hu]
       refine aI rfl ?_;refine gO Tryz.func134 ?_;rcases Nat.eq_zero_or_pos k with df | df
       ·have eE:cT l k=none:=by simp [cT,df]
        rw [eE] at aX;dsimp only at aX;rw [Bool.and_true,aK,Bool.true_and] at aX;refine aM (by simp [df]) ?_;refine gO Tryz.func134 ?_;refine aa.back (IH (k+1) ⟨by omega,aX,fun q hq=>by rw [zT] at hq; cases hq; exact hs⟩ (by omega)) ?_;exact sZ
       ·obtain ⟨q,hq,eE⟩:=w8 df hk.1;have rl:=uO (hk.2.2 q eE);rw [eE] at aX;dsimp only at aX;rw [aK,Bool.true_and] at aX;have hc:=Nv q.set.name q.set.type x.set.name x.set.type rl dg;rw [xk] at hc;refine aI (by simp; omega) ?_;refine gO Tryz.func134 ?_;refine aF (oG hq df (by omega)) rfl ?_;refine gO Tryz.func134 ?_
        with_reducible refine ar (hc) ?_
        refine gO Tryz.func134 ?_;refine aw (fun h8=>?_) (fun h8=>?_)
        ·have hb:gY q x=false:=by simp at h8; simp [gY]; omega
         refine gO Tryz.func134 ?_;rw [aX,hb,Bool.false_and]
        ·have hb:gY q x=true:=by simp at h8; simp [gY]; omega
         refine gO Tryz.func134 ?_;refine aa.back (IH (k+1) ⟨by omega,by rw [aX,hb,Bool.true_and],fun q hq=>by rw [zT] at hq; cases hq; exact hs⟩ (by omega)) ?_;exact sZ
    ·have aP:l.length≤k:=by simpa using h5
     refine gO Tryz.func134 ?_;rw [hk.2.1,List.drop_of_length_le aP];rfl
theorem Nz {l:List Signed} {q:aS}:l.any (dp q) = !(decide (aO l q<0)):=by
 unfold aO;cases h:l.findIdx? (dp q) with
 |none =>
  have h1:=List.findIdx?_eq_none_iff.1 h;have:l.any (dp q)=false:=by
   rw [← Bool.not_eq_true,List.any_eq_true];rintro ⟨x,hx,ha⟩;rw [h1 x hx] at ha;cases ha
  rw [this];rfl
 |some i =>
  obtain ⟨hi,ha,-⟩:=List.findIdx?_eq_some_iff_getElem.1 h;have:l.any (dp q)=true:=List.any_eq_true.2 ⟨_,List.getElem_mem hi,ha⟩;rw [this];simp
theorem Wr (z:aU) (hl:z.af.length≤1000000) (hv:∀ s∈z.af,Nm.valid s.set.name=true) (hq:Nm.valid z.ab=true) (hs:fI z.af):aA E 135 [z.enc] (· = .bool (rh z)):=by
 have f1:=C3 z ⟨z.ab,4⟩ hl hv hq hs;have f2:=C3 z ⟨z.ab,2⟩ hl hv hq hs;obtain ⟨ab,l⟩:=z;simp only at *;unfold rh;simp only [← Nz];refine eP Tryz.func135 ?_;refine aa.zj ?_;refine aa.run aj Tryz.func135 2000 ?_;(conv=>whnf);refine aM (by decide) ?_;refine gO Tryz.func135 ?_;refine ee (.int .i64 4) (by decide) rfl rfl ?_;refine gO Tryz.func135 ?_
 with_reducible refine ug (f1) ?_
 rintro r ⟨i,-,rfl,-⟩;refine gO Tryz.func135 ?_;cases h1:l.any (dp ⟨ab,4⟩)
 ·refine aM rfl ?_;refine gO Tryz.func135 ?_;rfl
 refine aI rfl ?_;refine gO Tryz.func135 ?_;refine aa.again ?_;refine aa.run aj Tryz.func135 2000 ?_;(conv=>whnf);refine aM (by decide) ?_;refine gO Tryz.func135 ?_;refine ee (.int .i64 2) (by decide) rfl rfl ?_;refine gO Tryz.func135 ?_
 with_reducible refine ug (f2) ?_
 rintro r ⟨j,-,rfl,-⟩;refine gO Tryz.func135 ?_;cases h2:l.any (dp ⟨ab,2⟩)
 ·refine aM rfl ?_;refine gO Tryz.func135 ?_;rfl
 refine aI rfl ?_;refine gO Tryz.func135 ?_;refine aa.again ?_;refine aa.run aj Tryz.func135 2000 ?_;(conv=>whnf);refine aI (by decide) ?_;refine gO Tryz.func135 ?_;simp only [Bool.true_and];refine aa.loop (κ:=Nat) ([2,8]++rg 32 17) (fun k=>[(32,.d (.int .i64 k))]) (fun _=>[]) (fun k=>k≤l.length∧(l.take k).all (fun s=>uN s.set.type (s.set.name==ab))=true) (fun k=>l.length - k) 0 ⟨Nat.zero_le _,rfl⟩ ?_ ?_
 ·exact sZ
 ·intro k hk IH;refine aa.head aj Tryz.func135 2000 ?_;(conv=>whnf);refine aw (fun h5=>?_) (fun h5=>?_)
  ·have ai:k<l.length:=by simpa using h5
   obtain ⟨x,hx⟩:=aY ai;refine gO Tryz.func135 ?_;repeat' (first | with_reducible refine aF (a7 hx) rfl ?_ | with_reducible refine ar (Ni _ _) ?_ | with_reducible refine bg (Ni _ _) ?_ | with_reducible refine cY ?_ | with_reducible refine cN ?_ | with_reducible refine aw (fun _=>?_) (fun _=>?_) | refine gA Tryz.func135 ?_ | refine gB ?_ | refine gC ?_ | with_reducible rfl)
   all_goals first
    |(rw [iI hx (by simp_all)]; done)
    |skip
   all_goals
    refine gO Tryz.func135 ?_;refine aa.back (IH (k+1) ⟨by omega,jx hk.2 hx (by simp_all)⟩ (by omega)) ?_;exact sZ
  ·have aP:l.length≤k:=by simpa using h5
   refine gO Tryz.func135 ?_;rw [nI hk.2 aP]
end Go.Proofs.YtcmnpelmmekdkaaGreatDoor.P
end
section
namespace Go.Proofs.YtcmnpelmmekdkaaGreatDoor.P
open Go Go.ax
set_option maxRecDepth 100000
set_option maxHeartbeats 4000000
def sQ (ab:Text) (l:List Signed):List (DV × DV):=l.foldl (fun es s=>if ir ab s then cD (.str s.set.name) (.bool true) es else es) []
theorem Ws {ab:Text} {l:List Signed} {k:Nat} {x:Signed} (h:l[k]? = some x):sQ ab (l.take (k+1))=if ir ab x then cD (.str x.set.name) (.bool true) (sQ ab (l.take k)) else sQ ab (l.take k):=by
 rw [eI h,sQ,List.foldl_append];rfl
theorem C4 (a b:Text):eS (.str a) (.str b)=(a==b):=rfl
def StrKeys (es:List (DV × DV)):Prop:=∀ p∈es,∃ s,p.1=DV.str s
theorem NA {n:Text} {v:DV}:∀ {es:List (DV × DV)},StrKeys es→StrKeys (cD (.str n) v es)
 | [],_,p,hp=>by simp [cD] at hp; subst hp; exact ⟨_,rfl⟩
 |q::es,h,p,hp=>by
  unfold cD at hp;split at hp
  ·rcases List.mem_cons.1 hp with rfl | hp
   ·exact ⟨_,rfl⟩
   ·exact h p (List.mem_cons_of_mem _ hp)
  ·rcases List.mem_cons.1 hp with rfl | hp
   ·exact h _ (List.mem_cons_self ..)
   ·exact NA (fun r hr=>h r (List.mem_cons_of_mem _ hr)) p hp
theorem NB {n m:Text} {v:DV}:∀ {es:List (DV × DV)},StrKeys es→findD (.str m) (cD (.str n) v es)=if m==n then some v else findD (.str m) es
 | [],_=>by simp [cD,findD,C4]
 |q::es,h=>by
  obtain ⟨s,hs⟩:=h q (List.mem_cons_self ..);obtain ⟨q1,q2⟩:=q;simp only at hs;subst hs;unfold cD;simp only [C4];by_cases e:n=s
  ·subst e;simp only [beq_self_eq_true,if_true,findD,C4];by_cases e2:m=n
   ·simp [e2]
   ·simp [e2]
  ·have ih:=NB (n:=n) (m:=m) (v:=v) (es:=es) (fun r hr=>h r (List.mem_cons_of_mem _ hr));have e':(n==s)=false:=by simpa using e
   simp only [e',Bool.false_eq_true,if_false,findD,C4,ih];by_cases e2:m=s
   ·subst e2;have:(m==n)=false:=by simpa using fun h=>e h.symm
    simp [this]
   ·simp [e2]
theorem Ab (ab:Text) (l:List Signed):StrKeys (sQ ab l)∧∀ n,findD (.str n) (sQ ab l)=if (bN ab l).contains n then some (.bool true) else none:=by
 have main:∀ (l:List Signed) (es:List (DV × DV)) (C:List Text),StrKeys es→(∀ n,findD (.str n) es=if C.contains n then some (.bool true) else none) →
   StrKeys (l.foldl (fun es s=>if ir ab s then cD (.str s.set.name) (.bool true) es else es) es)∧∀ n,findD (.str n) (l.foldl (fun es s=>if ir ab s then cD (.str s.set.name) (.bool true) es else es) es)=if (C++bN ab l).contains n then some (.bool true) else none:=by
  intro l
  induction l with
  |nil=>intro es C h1 h2; exact ⟨h1,by simpa [bN] using h2⟩
  |cons s l ih =>
   intro es C h1 h2;cases hc:ir ab s
   ·have e:bN ab (s::l)=bN ab l:=by simp [bN,hc]
    simp only [List.foldl_cons,hc,Bool.false_eq_true,if_false,e];exact ih es C h1 h2
   ·have e:bN ab (s::l)=s.set.name::bN ab l:=by simp [bN,hc]
    simp only [List.foldl_cons,hc,if_true,e]
    have:=ih (cD (.str s.set.name) (.bool true) es) (C++[s.set.name]) (NA h1) (fun n=>by
     rw [NB h1,h2 n];by_cases h:n=s.set.name
     ·simp [h]
     ·simp [h])
    simpa using this
 have:=main l [] [] (fun p hp=>by simp at hp) (fun n=>by simp [findD])
 simpa [sQ] using this
def ek (C:List Text) (cut n:Text):Text:=if (if cut != [] && !Nm.under n cut then [] else cut)==[]&&C.contains n then n else (if cut != [] && !Nm.under n cut then [] else cut)
def mS (C:List Text):Text→List Text→List Text
 |_,[]=>[]
 |cut,n::ns=>ek C cut n::mS C (ek C cut n) ns
theorem NC (C:List Text):∀ (k:Text) (ns:List Text),(mS C k ns).length=ns.length
 |_,[]=>rfl
 |k,n::ns=>by simp [mS,NC C _ ns]
def xl (z:aU):List Text:=mS (bN z.ab z.af) [] (z.af.map (·.set.name))
theorem Wt (z:aU):(xl z).length=z.af.length:=by simp [xl,NC]
theorem pK {C:List Text} {cut n:Text} (hn:Nm.valid n=true) (hc:cut=[]∨Nm.valid cut=true):ek C cut n=[]∨Nm.valid (ek C cut n)=true:=by
 cases h:(cut != [] && !Nm.under n cut)
 ·simp only [ek,h,Bool.false_eq_true,if_false];split
  ·exact .inr hn
  ·exact hc
 ·simp only [ek,h,if_true];split
  ·exact .inr hn
  ·exact .inl rfl
theorem Wu (z:aU) (hl:z.af.length≤1000000) (hv:∀ s∈z.af,Nm.valid s.set.name=true):aA E 136 [z.enc] (· = z6 z (xl z)):=by
 have eK:=Wt z;have jt:xl z=mS (bN z.ab z.af) [] (z.af.map (·.set.name)):=rfl;generalize xl z=B at *;obtain ⟨ab,l⟩:=z;simp only at *;refine eP Tryz.func136 ?_;refine gO Tryz.func136 ?_;refine aa.loop (κ:=Nat) ([5]++rg 18 22) (fun k=>[(18,.d (.int .i64 k)),(3,.map 2)]) (fun k=>[(2,.map (sQ ab (l.take k)))]) (fun k=>k≤l.length) (fun k=>l.length - k) 0 (Nat.zero_le _) ?_ ?_
 ·(conv=>whnf);repeat (first | exact trivial | (refine And.intro (by first | with_reducible rfl | exact congrArg (DV.int .i64) (by omega) | exact rfl | exact congrArg (DV.int .i64) (wrap64 (by omega) (by omega)) | exact congrArg (DV.int .i64) ((wrap64 (by omega) (by omega)).trans (by omega))) ?_; conv=>whnf))
 ·intro k hk IH;refine aa.head aj Tryz.func136 2000 ?_;(conv=>whnf);refine aw (fun h5=>?_) (fun h5=>?_)
  ·have ai:k<l.length:=by simpa using h5
   obtain ⟨x,hx⟩:=aY ai;have aX:=Ws (ab:=ab) hx;have mT:=(Ab ab (l.take k)).1;refine gO Tryz.func136 ?_;repeat' (first | with_reducible refine aF (a7 hx) rfl ?_ | with_reducible refine cY ?_ | with_reducible refine cN ?_ | with_reducible refine aw (fun _=>?_) (fun _=>?_) | refine gA Tryz.func136 ?_ | refine gB ?_ | refine gC ?_ | with_reducible rfl)
   all_goals first
    |(refine bQ ⟨⟨_, rfl⟩, mT⟩ ?_
      have hc : ir ab x = true := by simp_all [ir])
    |(have hc:ir ab x=false:=by simp_all [ir])
   all_goals
    rw [hc] at aX;refine gO Tryz.func136 ?_;refine aa.back (IH (k+1) (by omega) (by omega)) ?_;(conv=>whnf);repeat (first | exact trivial | (refine sI ?_; conv=>whnf))
    refine And.intro (by rw [aX]; simp) ?_;exact sZ
  ·have aP:l.length≤k:=by simpa using h5
   rw [List.take_of_length_le aP];refine gO Tryz.func136 ?_;refine aa.TN aj bW (.alt 0 (.alt 1 (.alt 2 (.alt 3 (.alt 4 (.alt 5 (.alt 6 (.alt 7 (.alt 8 .leaf .leaf) .leaf) (.alt 7 (.alt 6 (.alt 8 .leaf .leaf) .leaf) .leaf)) (.alt 7 (.alt 5 (.alt 6 (.alt 8 .leaf .leaf) .leaf) .leaf) .leaf)) (.alt 7 (.alt 4 (.alt 5 (.alt 6 (.alt 8 .leaf .leaf) .leaf) .leaf) .leaf) .leaf)) (.alt 7 (.alt 3 (.alt 4 (.alt 5 (.alt 6 (.alt 8 .leaf .leaf) .leaf) .leaf) .leaf) .leaf) .leaf)) (.alt 7 (.alt 2 (.alt 3 (.alt 4 (.alt 5 (.alt 6 (.alt 8 .leaf .leaf) .leaf) .leaf) .leaf) .leaf) .leaf) .leaf)) (.alt 7 (.alt 1 (.alt 2 (.alt 3 (.alt 4 (.alt 5 (.alt 6 (.alt 8 .leaf .leaf) .leaf) .leaf) .leaf) .leaf) .leaf) .leaf) .leaf)) (.alt 1 (.alt 0 (.alt 2 (.alt 3 (.alt 4 (.alt 5 (.alt 6 (.alt 7 (.alt 8 .leaf .leaf) .leaf) (.alt 7 (.alt 6 (.alt 8 .leaf .leaf) .leaf) .leaf)) (.alt 7 (.alt 5 (.alt 6 (.alt 8 .leaf .leaf) .leaf) .leaf) .leaf)) (.alt 7 (.alt 4 (.alt 5 (.alt 6 (.alt 8 .leaf .leaf) .leaf) .leaf) .leaf) .leaf)) (.alt 7 (.alt 3 (.alt 4 (.alt 5 (.alt 6 (.alt 8 .leaf .leaf) .leaf) .leaf) .leaf) .leaf) .leaf)) (.alt 7 (.alt 2 (.alt 3 (.alt 4 (.alt 5 (.alt 6 (.alt 8 .leaf .leaf) .leaf) .leaf) .leaf) .leaf) .leaf) .leaf)) (.alt 2 (.alt 0 (.alt 3 (.alt 4 (.alt 5 (.alt 6 (.alt 7 (.alt 8 .leaf .leaf) .leaf) (.alt 7 (.alt 6 (.alt 8 .leaf .leaf) .leaf) .leaf)) (.alt 7 (.alt 5 (.alt 6 (.alt 8 .leaf .leaf) .leaf) .leaf) .leaf)) (.alt 7 (.alt 4 (.alt 5 (.alt 6 (.alt 8 .leaf .leaf) .leaf) .leaf) .leaf) .leaf)) (.alt 7 (.alt 3 (.alt 4 (.alt 5 (.alt 6 (.alt 8 .leaf .leaf) .leaf) .leaf) .leaf) .leaf) .leaf)) (.alt 3 (.alt 0 (.alt 4 (.alt 5 (.alt 6 (.alt 7 (.alt 8 .leaf .leaf) .leaf) (.alt 7 (.alt 6 (.alt 8 .leaf .leaf) .leaf) .leaf)) (.alt 7 (.alt 5 (.alt 6 (.alt 8 .leaf .leaf) .leaf) .leaf) .leaf)) (.alt 7 (.alt 4 (.alt 5 (.alt 6 (.alt 8 .leaf .leaf) .leaf) .leaf) .leaf) .leaf)) (.alt 4 (.alt 0 (.alt 5 (.alt 6 (.alt 7 (.alt 8 .leaf .leaf) .leaf) (.alt 7 (.alt 6 (.alt 8 .leaf .leaf) .leaf) .leaf)) (.alt 7 (.alt 5 (.alt 6 (.alt 8 .leaf .leaf) .leaf) .leaf) .leaf)) (.alt 5 (.alt 0 (.alt 6 (.alt 7 (.alt 8 .leaf .leaf) .leaf) (.alt 7 (.alt 6 (.alt 8 .leaf .leaf) .leaf) .leaf)) (.alt 7 (.alt 0 (.alt 6 (.alt 8 .leaf .leaf) .leaf) .leaf) .leaf)) (.alt 7 (.alt 0 (.alt 5 (.alt 6 (.alt 8 .leaf .leaf) .leaf) .leaf) (.alt 5 (.alt 0 (.alt 6 (.alt 8 .leaf .leaf) .leaf) .leaf) .leaf)) .leaf))) (.alt 7 (.alt 0 (.alt 4 (.alt 5 (.alt 6 (.alt 8 .leaf .leaf) .leaf) .leaf) .leaf) (.alt 4 (.alt 0 (.alt 5 (.alt 6 (.alt 8 .leaf .leaf) .leaf) .leaf) (.alt 5 (.alt 0 (.alt 6 (.alt 8 .leaf .leaf) .leaf) .leaf) .leaf)) .leaf)) .leaf))) (.alt 7 (.alt 0 (.alt 3 (.alt 4 (.alt 5 (.alt 6 (.alt 8 .leaf .leaf) .leaf) .leaf) .leaf) .leaf) (.alt 3 (.alt 0 (.alt 4 (.alt 5 (.alt 6 (.alt 8 .leaf .leaf) .leaf) .leaf) .leaf) (.alt 4 (.alt 0 (.alt 5 (.alt 6 (.alt 8 .leaf .leaf) .leaf) .leaf) (.alt 5 (.alt 0 (.alt 6 (.alt 8 .leaf .leaf) .leaf) .leaf) .leaf)) .leaf)) .leaf)) .leaf))) (.alt 7 (.alt 0 (.alt 2 (.alt 3 (.alt 4 (.alt 5 (.alt 6 (.alt 8 .leaf .leaf) .leaf) .leaf) .leaf) .leaf) .leaf) (.alt 2 (.alt 0 (.alt 3 (.alt 4 (.alt 5 (.alt 6 (.alt 8 .leaf .leaf) .leaf) .leaf) .leaf) .leaf) (.alt 3 (.alt 0 (.alt 4 (.alt 5 (.alt 6 (.alt 8 .leaf .leaf) .leaf) .leaf) .leaf) (.alt 4 (.alt 0 (.alt 5 (.alt 6 (.alt 8 .leaf .leaf) .leaf) .leaf) (.alt 5 (.alt 0 (.alt 6 (.alt 8 .leaf .leaf) .leaf) .leaf) .leaf)) .leaf)) .leaf)) .leaf)) .leaf))) (.alt 7 (.alt 0 (.alt 1 (.alt 2 (.alt 3 (.alt 4 (.alt 5 (.alt 6 (.alt 8 .leaf .leaf) .leaf) .leaf) .leaf) .leaf) .leaf) .leaf) (.alt 1 (.alt 0 (.alt 2 (.alt 3 (.alt 4 (.alt 5 (.alt 6 (.alt 8 .leaf .leaf) .leaf) .leaf) .leaf) .leaf) .leaf) (.alt 2 (.alt 0 (.alt 3 (.alt 4 (.alt 5 (.alt 6 (.alt 8 .leaf .leaf) .leaf) .leaf) .leaf) .leaf) (.alt 3 (.alt 0 (.alt 4 (.alt 5 (.alt 6 (.alt 8 .leaf .leaf) .leaf) .leaf) .leaf) (.alt 4 (.alt 0 (.alt 5 (.alt 6 (.alt 8 .leaf .leaf) .leaf) .leaf) (.alt 5 (.alt 0 (.alt 6 (.alt 8 .leaf .leaf) .leaf) .leaf) .leaf)) .leaf)) .leaf)) .leaf)) .leaf)) .leaf))) ?pstate ?qstate (by kernel_rfl) ?tree ?first ?second
   case tree =>
    repeat' ((try conv=>whnf); first
     |with_reducible exact True.intro
     |with_reducible exact gI.fst
     |with_reducible exact gI.snd
     |with_reducible refine bQ (by simp; omega) ?_
     |with_reducible refine And.intro ?_ ?_
     |with_reducible refine gI.step aj ?_)
   case first =>
    (conv=>whnf);refine gO Tryz.func136 ?_;refine aa.loop (κ:=Nat × Text) [7,8,9,10,11,12,51,52,53,54,55,56,57,58,59,60,61,62,63,64,65,66,67,68,69,70,71,72,73,74,75,76,77,78,79,80,81,82] (fun k=>[(51,.d (.int .i64 k.1)),(7,.d (.str k.2))]) (fun k=>[(3,.arr 0 (9,1) ((B.take k.1++List.replicate (l.length - k.1) []).map .str))]) (fun k=>k.1≤l.length∧B.drop k.1=mS (bN ab l) k.2 ((l.drop k.1).map (·.set.name))∧(k.2=[]∨Nm.valid k.2=true)) (fun k=>l.length - k.1) (0,[]) ⟨Nat.zero_le _,by simpa using jt,.inl rfl⟩ ?_ ?_
    ·(conv=>whnf);repeat (first | exact trivial | (refine sI ?_; conv=>whnf))
     refine And.intro (by simp) ?_;exact sZ
    ·rintro ⟨i,cut⟩ hk IH;simp only at hk;refine aa.head aj Tryz.func136 2000 ?_;(conv=>whnf);refine aw (fun h5=>?_) (fun h5=>?_)
     ·have ai:i<l.length:=by simpa using h5
      obtain ⟨x,hx⟩:=aY ai;have dg:=hv x (List.mem_of_getElem? hx);have gK:=fF dg;have zR:(l.drop i).map (·.set.name)=x.set.name::(l.drop (i+1)).map (·.set.name):=by
       have e1:l[i]=x:=by simpa [ai] using hx
       rw [List.drop_eq_getElem_cons ai,e1];rfl
      obtain ⟨-,oI,hcut⟩:=hk;rw [zR,mS] at oI;have dU:B[i]? = some (ek (bN ab l) cut x.set.name):=by
       have:=congrArg (fun l=>l[0]?) oI
       simpa using this
      have eU:B.drop (i+1)=mS (bN ab l) (ek (bN ab l) cut x.set.name) ((l.drop (i+1)).map (·.set.name)):=by
       have:=congrArg List.tail oI
       simpa using this
      have dr:=(Ab ab l).2 x.set.name;have mT:=(Ab ab l).1;refine gO Tryz.func136 ?_;refine aF (a7 hx) rfl ?_;refine gO Tryz.func136 ?_;rcases rm:cut with _ | ⟨c0,Wv⟩
      ·subst rm;refine aI (by simp) ?_;refine gO Tryz.func136 ?_;refine aM (by simp) ?_;refine gO Tryz.func136 ?_;refine iR (.bool false) (.bool false) (v := .bool ((bN ab l).contains x.set.name)) (f:=(bN ab l).contains x.set.name) ⟨_,rfl⟩ mT (fun w=>by kernel_rfl) (fun _ _ => .bool _) (by rw [dr]; split <;> simp_all) (by rw [dr]; split <;> simp_all) ?_;refine gO Tryz.func136 ?_;cases oM:(bN ab l).contains x.set.name
       ·refine ba ?_;refine gO Tryz.func136 ?_;have hS:ek (bN ab l) ([]:Text) x.set.name=[]:=by simp [ek]; intro h; exact absurd h (by simpa using oM)
        refine bQ ⟨by omega,by simp; omega⟩ ?_;refine gO Tryz.func136 ?_;refine ee (.str []) (by omega) (by simp only [Int.toNat_natCast,List.getElem?_map]; rw [mQ eK ai]; rfl) rfl ?_;refine gO Tryz.func136 ?_;refine aa.back (IH (i+1,[]) ⟨by simp only; omega,by rw [hS] at eU; exact eU,by have hq:=pK (C:=bN ab l) dg hcut; rw [hS] at hq; exact hq⟩ (by simp only; omega)) ?_;(conv=>whnf);repeat (first | exact trivial | (refine sI ?_; conv=>whnf))
        refine And.intro (by rw [← mP (e:=[]) (x:=[]) eK (by rw [hS] at dU; exact dU)]; simp [List.map_set]) ?_;exact sZ
       ·refine bq ?_;refine gO Tryz.func136 ?_;have hS:ek (bN ab l) ([]:Text) x.set.name=x.set.name:=by simp [ek]; intro h; exact absurd (by simpa using oM) h
        refine bQ ⟨by omega,by simp; omega⟩ ?_;refine gO Tryz.func136 ?_;refine ee (.str []) (by omega) (by simp only [Int.toNat_natCast,List.getElem?_map]; rw [mQ eK ai]; rfl) rfl ?_;refine gO Tryz.func136 ?_;refine aa.back (IH (i+1,x.set.name) ⟨by simp only; omega,by rw [hS] at eU; exact eU,by have hq:=pK (C:=bN ab l) dg hcut; rw [hS] at hq; exact hq⟩ (by simp only; omega)) ?_;(conv=>whnf);repeat (first | exact trivial | (refine sI ?_; conv=>whnf))
        refine And.intro (by rw [← mP (e:=[]) (x:=x.set.name) eK (by rw [hS] at dU; exact dU)]; simp [List.map_set]) ?_;exact sZ
      ·have oa:Nm.valid cut=true:=by
        rcases hcut with h | h
        ·rw [rm] at h; cases h
        ·exact h
       have eh:=fF oa;have sP:=zK x.set.name cut (by unfold maxLen; omega) (by unfold maxLen; omega);rw [Aa dg oa] at sP;rw [← rm];have aJ:cut≠[]:=by rw [rm]; simp
       refine aM (by simpa using aJ) ?_;refine gO Tryz.func136 ?_
       with_reducible refine ar (sP) ?_
       refine gO Tryz.func136 ?_;cases hu:Nm.under x.set.name cut
       ·refine aM rfl ?_;refine gO Tryz.func136 ?_;refine aM (by simp) ?_;refine gO Tryz.func136 ?_;refine iR (.bool false) (.bool false) (v := .bool ((bN ab l).contains x.set.name)) (f:=(bN ab l).contains x.set.name) ⟨_,rfl⟩ mT (fun w=>by kernel_rfl) (fun _ _ => .bool _) (by rw [dr]; split <;> simp_all) (by rw [dr]; split <;> simp_all) ?_;refine gO Tryz.func136 ?_;cases oM:(bN ab l).contains x.set.name
        ·refine ba ?_;refine gO Tryz.func136 ?_;have hS:ek (bN ab l) cut x.set.name=[]:=by simp [ek,hu,aJ]; intro h; exact absurd h (by simpa using oM)
         refine bQ ⟨by omega,by simp; omega⟩ ?_;refine gO Tryz.func136 ?_;refine ee (.str []) (by omega) (by simp only [Int.toNat_natCast,List.getElem?_map]; rw [mQ eK ai]; rfl) rfl ?_;refine gO Tryz.func136 ?_;refine aa.back (IH (i+1,[]) ⟨by simp only; omega,by rw [hS] at eU; exact eU,by have hq:=pK (C:=bN ab l) dg hcut; rw [hS] at hq; exact hq⟩ (by simp only; omega)) ?_;(conv=>whnf);repeat (first | exact trivial | (refine sI ?_; conv=>whnf))
         refine And.intro (by rw [← mP (e:=[]) (x:=[]) eK (by rw [hS] at dU; exact dU)]; simp [List.map_set]) ?_;exact sZ
        ·refine bq ?_;refine gO Tryz.func136 ?_;have hS:ek (bN ab l) cut x.set.name=x.set.name:=by simp [ek,hu,aJ]; intro h; exact absurd (by simpa using oM) h
         refine bQ ⟨by omega,by simp; omega⟩ ?_;refine gO Tryz.func136 ?_;refine ee (.str []) (by omega) (by simp only [Int.toNat_natCast,List.getElem?_map]; rw [mQ eK ai]; rfl) rfl ?_;refine gO Tryz.func136 ?_;refine aa.back (IH (i+1,x.set.name) ⟨by simp only; omega,by rw [hS] at eU; exact eU,by have hq:=pK (C:=bN ab l) dg hcut; rw [hS] at hq; exact hq⟩ (by simp only; omega)) ?_;(conv=>whnf);repeat (first | exact trivial | (refine sI ?_; conv=>whnf))
         refine And.intro (by rw [← mP (e:=[]) (x:=x.set.name) eK (by rw [hS] at dU; exact dU)]; simp [List.map_set]) ?_;exact sZ
       ·have hS:ek (bN ab l) cut x.set.name=cut:=by simp [ek,hu,aJ]
        refine aI rfl ?_;refine gO Tryz.func136 ?_;refine aI (by simpa using aJ) ?_;refine gO Tryz.func136 ?_;refine ba ?_;refine gO Tryz.func136 ?_;refine bQ ⟨by omega,by simp; omega⟩ ?_;refine gO Tryz.func136 ?_;refine ee (.str []) (by omega) (by simp only [Int.toNat_natCast,List.getElem?_map]; rw [mQ eK ai]; rfl) rfl ?_;refine gO Tryz.func136 ?_;refine aa.back (IH (i+1,cut) ⟨by simp only; omega,by rw [hS] at eU; exact eU,by have hq:=pK (C:=bN ab l) dg hcut; rw [hS] at hq; exact hq⟩ (by simp only; omega)) ?_;(conv=>whnf);repeat (first | exact trivial | (refine sI ?_; conv=>whnf))
        refine And.intro (by rw [← mP (e:=[]) (x:=cut) eK (by rw [hS] at dU; exact dU)]; simp [List.map_set]) ?_;exact sZ
     ·have aP:l.length≤i:=by simpa using h5
      refine gO Tryz.func136 ?_;simp only [show l.length - i=0 by omega,List.replicate_zero,List.append_nil];rw [List.take_of_length_le (by omega)]
   case second =>
    (conv=>whnf);refine gO Tryz.func136 ?_;refine aa.loop (κ:=Nat × Text) [7,8,9,10,11,12,51,52,53,54,55,56,57,58,59,60,61,62,63,64,65,66,67,68,69,70,71,72,73,74,75,76,77,78,79,80,81,82] (fun k=>[(51,.d (.int .i64 k.1)),(7,.d (.str k.2))]) (fun k=>[(4,.arr 0 (9,1) ((B.take k.1++List.replicate (l.length - k.1) []).map .str))]) (fun k=>k.1≤l.length∧B.drop k.1=mS (bN ab l) k.2 ((l.drop k.1).map (·.set.name))∧(k.2=[]∨Nm.valid k.2=true)) (fun k=>l.length - k.1) (0,[]) ⟨Nat.zero_le _,by simpa using jt,.inl rfl⟩ ?_ ?_
    ·(conv=>whnf);repeat (first | exact trivial | (refine sI ?_; conv=>whnf))
     refine And.intro (by simp) ?_;exact sZ
    ·rintro ⟨i,cut⟩ hk IH;simp only at hk;refine aa.head aj Tryz.func136 2000 ?_;(conv=>whnf);refine aw (fun h5=>?_) (fun h5=>?_)
     ·have ai:i<l.length:=by simpa using h5
      obtain ⟨x,hx⟩:=aY ai;have dg:=hv x (List.mem_of_getElem? hx);have gK:=fF dg;have zR:(l.drop i).map (·.set.name)=x.set.name::(l.drop (i+1)).map (·.set.name):=by
       have e1:l[i]=x:=by simpa [ai] using hx
       rw [List.drop_eq_getElem_cons ai,e1];rfl
      obtain ⟨-,oI,hcut⟩:=hk;rw [zR,mS] at oI;have dU:B[i]? = some (ek (bN ab l) cut x.set.name):=by
       have:=congrArg (fun l=>l[0]?) oI
       simpa using this
      have eU:B.drop (i+1)=mS (bN ab l) (ek (bN ab l) cut x.set.name) ((l.drop (i+1)).map (·.set.name)):=by
       have:=congrArg List.tail oI
       simpa using this
      have dr:=(Ab ab l).2 x.set.name;have mT:=(Ab ab l).1;refine gO Tryz.func136 ?_;refine aF (a7 hx) rfl ?_;refine gO Tryz.func136 ?_;rcases rm:cut with _ | ⟨c0,Wv⟩
      ·subst rm;refine aI (by simp) ?_;refine gO Tryz.func136 ?_;refine aM (by simp) ?_;refine gO Tryz.func136 ?_;refine iR (.bool false) (.bool false) (v := .bool ((bN ab l).contains x.set.name)) (f:=(bN ab l).contains x.set.name) ⟨_,rfl⟩ mT (fun w=>by kernel_rfl) (fun _ _ => .bool _) (by rw [dr]; split <;> simp_all) (by rw [dr]; split <;> simp_all) ?_;refine gO Tryz.func136 ?_;cases oM:(bN ab l).contains x.set.name
       ·refine ba ?_;refine gO Tryz.func136 ?_;have hS:ek (bN ab l) ([]:Text) x.set.name=[]:=by simp [ek]; intro h; exact absurd h (by simpa using oM)
        refine bQ ⟨by omega,by simp; omega⟩ ?_;refine gO Tryz.func136 ?_;refine ee (.str []) (by omega) (by simp only [Int.toNat_natCast,List.getElem?_map]; rw [mQ eK ai]; rfl) rfl ?_;refine gO Tryz.func136 ?_;refine aa.back (IH (i+1,[]) ⟨by simp only; omega,by rw [hS] at eU; exact eU,by have hq:=pK (C:=bN ab l) dg hcut; rw [hS] at hq; exact hq⟩ (by simp only; omega)) ?_;(conv=>whnf);repeat (first | exact trivial | (refine sI ?_; conv=>whnf))
        refine And.intro (by rw [← mP (e:=[]) (x:=[]) eK (by rw [hS] at dU; exact dU)]; simp [List.map_set]) ?_;exact sZ
       ·refine bq ?_;refine gO Tryz.func136 ?_;have hS:ek (bN ab l) ([]:Text) x.set.name=x.set.name:=by simp [ek]; intro h; exact absurd (by simpa using oM) h
        refine bQ ⟨by omega,by simp; omega⟩ ?_;refine gO Tryz.func136 ?_;refine ee (.str []) (by omega) (by simp only [Int.toNat_natCast,List.getElem?_map]; rw [mQ eK ai]; rfl) rfl ?_;refine gO Tryz.func136 ?_;refine aa.back (IH (i+1,x.set.name) ⟨by simp only; omega,by rw [hS] at eU; exact eU,by have hq:=pK (C:=bN ab l) dg hcut; rw [hS] at hq; exact hq⟩ (by simp only; omega)) ?_;(conv=>whnf);repeat (first | exact trivial | (refine sI ?_; conv=>whnf))
        refine And.intro (by rw [← mP (e:=[]) (x:=x.set.name) eK (by rw [hS] at dU; exact dU)]; simp [List.map_set]) ?_;exact sZ
      ·have oa:Nm.valid cut=true:=by
        rcases hcut with h | h
        ·rw [rm] at h; cases h
        ·exact h
       have eh:=fF oa;have sP:=zK x.set.name cut (by unfold maxLen; omega) (by unfold maxLen; omega);rw [Aa dg oa] at sP;rw [← rm];have aJ:cut≠[]:=by rw [rm]; simp
       refine aM (by simpa using aJ) ?_;refine gO Tryz.func136 ?_
       with_reducible refine ar (sP) ?_
       refine gO Tryz.func136 ?_;cases hu:Nm.under x.set.name cut
       ·refine aM rfl ?_;refine gO Tryz.func136 ?_;refine aM (by simp) ?_;refine gO Tryz.func136 ?_;refine iR (.bool false) (.bool false) (v := .bool ((bN ab l).contains x.set.name)) (f:=(bN ab l).contains x.set.name) ⟨_,rfl⟩ mT (fun w=>by kernel_rfl) (fun _ _ => .bool _) (by rw [dr]; split <;> simp_all) (by rw [dr]; split <;> simp_all) ?_;refine gO Tryz.func136 ?_;cases oM:(bN ab l).contains x.set.name
        ·refine ba ?_;refine gO Tryz.func136 ?_;have hS:ek (bN ab l) cut x.set.name=[]:=by simp [ek,hu,aJ]; intro h; exact absurd h (by simpa using oM)
         refine bQ ⟨by omega,by simp; omega⟩ ?_;refine gO Tryz.func136 ?_;refine ee (.str []) (by omega) (by simp only [Int.toNat_natCast,List.getElem?_map]; rw [mQ eK ai]; rfl) rfl ?_;refine gO Tryz.func136 ?_;refine aa.back (IH (i+1,[]) ⟨by simp only; omega,by rw [hS] at eU; exact eU,by have hq:=pK (C:=bN ab l) dg hcut; rw [hS] at hq; exact hq⟩ (by simp only; omega)) ?_;(conv=>whnf);repeat (first | exact trivial | (refine sI ?_; conv=>whnf))
         refine And.intro (by rw [← mP (e:=[]) (x:=[]) eK (by rw [hS] at dU; exact dU)]; simp [List.map_set]) ?_;exact sZ
        ·refine bq ?_;refine gO Tryz.func136 ?_;have hS:ek (bN ab l) cut x.set.name=x.set.name:=by simp [ek,hu,aJ]; intro h; exact absurd (by simpa using oM) h
         refine bQ ⟨by omega,by simp; omega⟩ ?_;refine gO Tryz.func136 ?_;refine ee (.str []) (by omega) (by simp only [Int.toNat_natCast,List.getElem?_map]; rw [mQ eK ai]; rfl) rfl ?_;refine gO Tryz.func136 ?_;refine aa.back (IH (i+1,x.set.name) ⟨by simp only; omega,by rw [hS] at eU; exact eU,by have hq:=pK (C:=bN ab l) dg hcut; rw [hS] at hq; exact hq⟩ (by simp only; omega)) ?_;(conv=>whnf);repeat (first | exact trivial | (refine sI ?_; conv=>whnf))
         refine And.intro (by rw [← mP (e:=[]) (x:=x.set.name) eK (by rw [hS] at dU; exact dU)]; simp [List.map_set]) ?_;exact sZ
       ·have hS:ek (bN ab l) cut x.set.name=cut:=by simp [ek,hu,aJ]
        refine aI rfl ?_;refine gO Tryz.func136 ?_;refine aI (by simpa using aJ) ?_;refine gO Tryz.func136 ?_;refine ba ?_;refine gO Tryz.func136 ?_;refine bQ ⟨by omega,by simp; omega⟩ ?_;refine gO Tryz.func136 ?_;refine ee (.str []) (by omega) (by simp only [Int.toNat_natCast,List.getElem?_map]; rw [mQ eK ai]; rfl) rfl ?_;refine gO Tryz.func136 ?_;refine aa.back (IH (i+1,cut) ⟨by simp only; omega,by rw [hS] at eU; exact eU,by have hq:=pK (C:=bN ab l) dg hcut; rw [hS] at hq; exact hq⟩ (by simp only; omega)) ?_;(conv=>whnf);repeat (first | exact trivial | (refine sI ?_; conv=>whnf))
        refine And.intro (by rw [← mP (e:=[]) (x:=cut) eK (by rw [hS] at dU; exact dU)]; simp [List.map_set]) ?_;exact sZ
     ·have aP:l.length≤i:=by simpa using h5
      refine gO Tryz.func136 ?_;simp only [show l.length - i=0 by omega,List.replicate_zero,List.append_nil];rw [List.take_of_length_le (by omega)]
end Go.Proofs.YtcmnpelmmekdkaaGreatDoor.P
end
section
namespace Go.Proofs.YtcmnpelmmekdkaaGreatDoor.P
open Go Go.ax
set_option maxRecDepth 100000
set_option maxHeartbeats 4000000
theorem C5 {a b c:Text} (h:bA a b≤0) (k:bA b c≤0):bA a c≤0:=by
 rcases Int.lt_or_eq_of_le h with h | h
 ·rcases Int.lt_or_eq_of_le k with k | k
  ·exact Int.le_of_lt (pJ h k)
  ·rw [← pI k]; exact Int.le_of_lt h
 ·rw [pI h]; exact k
theorem ND (a:Text):Nm.under a a=true:=by simp [Nm.under]
def iW (l:List Text):Prop:=∀ (i j:Nat) (x y:Text),i<j→l[i]? = some x→l[j]? = some y→bA x y≤0
def sR (l:List Text):Prop:=∀ (i j:Nat) (x y:Text),i<j→l[i]? = some x→l[j]? = some y→Nm.under y x=false
theorem iW.snoc {l:List Text} {c:Text} (h:iW (l++[c])):iW l∧∀ x∈l,bA x c≤0:=by
 refine ⟨fun i j x y dA hx hy=>h i j x y dA (by rw [List.getElem?_append_left (aZ hx)]; exact hx) (by rw [List.getElem?_append_left (aZ hy)]; exact hy),fun x hx=>?_⟩;obtain ⟨i,hi⟩:=List.getElem?_of_mem hx;have:=aZ hi;exact h i l.length x c this (by rw [List.getElem?_append_left this]; exact hi) (by simp)
theorem uT {α:Type} {l:List α} {c x:α} {i:Nat} (h:(l++[c])[i]? = some x):l[i]? = some x∨(i=l.length∧x=c):=by
 rcases Nat.lt_or_ge i l.length with hi | hi
 ·rw [List.getElem?_append_left hi] at h; exact .inl h
 ·rw [List.getElem?_append_right hi] at h;have h0:i - l.length=0:=by
   have:=aZ h;simp at this;omega
  rw [h0] at h;simp at h;exact .inr ⟨by omega,h.symm⟩
theorem NF:∀ (C:List Text),iW C→iW (fe C)∧sR (fe C)∧(∀ c∈C,∃ d∈fe C,Nm.under c d=true):=by
 have main:∀ (n:Nat) (C:List Text),C.length=n→iW C→iW (fe C)∧sR (fe C)∧(∀ c∈C,∃ d∈fe C,Nm.under c d=true):=by
  intro n
  induction n with
  |zero =>
   intro C hn _;obtain rfl:C=[]:=List.eq_nil_of_length_eq_zero hn;exact ⟨fun i j x y _ h=>by simp [fe] at h,fun i j x y _ h=>by simp [fe] at h,fun c h=>by simp at h⟩
  |succ n ih =>
   intro C hn hA;rcases List.eq_nil_or_concat C with rfl | ⟨P,c,rfl⟩
   ·simp at hn
   rw [List.concat_eq_append] at *;obtain ⟨Ww,Wx⟩:=hA.snoc;obtain ⟨i1,i2,i3⟩:=ih P (by simpa using hn) Ww;have e:fe (P++[c])=kC (fe P) c:=by rw [fe,List.foldl_append]; rfl
   have hle:∀ d∈fe P,bA d c≤0:=fun d hd=>Wx d (xb d hd);rw [e];generalize fe P=H at *;rcases List.eq_nil_or_concat H with rfl | ⟨H0,d,rfl⟩
   ·have e2:kC [] c=[c]:=rfl;rw [e2];refine ⟨fun i j x y dA hx hy=>?_,fun i j x y dA hx hy=>?_,fun x hx=>?_⟩
    ·have:=aZ hy; simp at this; omega
    ·have:=aZ hy; simp at this; omega
    ·rcases List.mem_append.1 hx with hx | hx
     ·obtain ⟨d,hd,-⟩:=i3 x hx;simp at hd
     ·simp at hx; subst hx; exact ⟨x,by simp,ND x⟩
   ·rw [List.concat_eq_append] at *;have e2:kC (H0++[d]) c=if Nm.under c d then H0++[d] else H0++[d]++[c]:=by simp [kC]
    rw [e2];cases hu:Nm.under c d
    ·simp only [Bool.false_eq_true,if_false];refine ⟨fun i j x y dA hx hy=>?_,fun i j x y dA hx hy=>?_,fun x hx=>?_⟩
     ·rcases uT hy with ji | ⟨rfl,rfl⟩
      ·rcases uT hx with hx | ⟨rfl,rfl⟩
       ·exact i1 i j x y dA hx ji
       ·exact absurd (aZ ji) (by omega)
      ·rcases uT hx with hx | ⟨h,-⟩
       ·exact hle x (List.mem_of_getElem? hx)
       ·omega
     ·rcases uT hy with ji | ⟨rfl,rfl⟩
      ·rcases uT hx with hx | ⟨rfl,rfl⟩
       ·exact i2 i j x y dA hx ji
       ·exact absurd (aZ ji) (by omega)
      ·rcases uT hx with hx | ⟨h,-⟩
       ·rcases uT hx with CZ | ⟨-,rfl⟩
        ·rw [← Bool.not_eq_true];intro Wy;have hd:(H0++[d])[H0.length]? = some d:=by simp
         have iC:=aZ CZ;have h1:=i1 i H0.length x d iC hx hd;have h2:=hle d (by simp);have h3:=xi h1 h2 Wy;rw [i2 i H0.length x d iC hx hd] at h3;cases h3
        ·exact hu
       ·omega
     ·rcases List.mem_append.1 hx with hx | hx
      ·obtain ⟨q,hq,Wz⟩:=i3 x hx;exact ⟨q,List.mem_append_left _ hq,Wz⟩
      ·simp at hx; subst hx; exact ⟨x,by simp,ND x⟩
    ·simp only [if_true];refine ⟨i1,i2,fun x hx=>?_⟩;rcases List.mem_append.1 hx with hx | hx
     ·exact i3 x hx
     ·simp at hx; subst hx; exact ⟨d,by simp,hu⟩
 exact fun C=>main C.length C rfl
def rn (H:List Text) (n r:Text):Prop:=(r∈H∧Nm.under n r=true)∨(r=[]∧∀ d∈H,Nm.under n d=false)
theorem NG {H:List Text} (hA:iW H) (hP:sR H) {n d e:Text} (hd:d∈H) (he:e∈H) (h1:Nm.under n d=true) (h2:Nm.under n e=true):d=e:=by
 obtain ⟨i,hi⟩:=List.getElem?_of_mem hd;obtain ⟨j,hj⟩:=List.getElem?_of_mem he;rcases Nat.lt_trichotomy i j with h | h | h
 ·have:=xi (hA i j d e h hi hj) (xj h2) h1;rw [hP i j d e h hi hj] at this;cases this
 ·subst h; rw [hi] at hj; exact Option.some.inj hj
 ·have:=xi (hA j i e d h hj hi) (xj h1) h2;rw [hP j i e d h hj hi] at this;cases this
theorem rn.unique {H:List Text} (hA:iW H) (hP:sR H) {n r s:Text} (h1:rn H n r) (h2:rn H n s):r=s:=by
 rcases h1 with ⟨a1,a2⟩ | ⟨a1,a2⟩
 ·rcases h2 with ⟨b1,b2⟩ | ⟨b1,b2⟩
  ·exact NG hA hP a1 b1 a2 b2
  ·rw [b2 r a1] at a2; cases a2
 ·rcases h2 with ⟨b1,b2⟩ | ⟨b1,b2⟩
  ·rw [a2 s b1] at b2; cases b2
  ·rw [a1,b1]
theorem G8 {α:Type} (p:α→Bool):∀ (l:List α),∀ x∈l.takeWhile p,p x=true
 | [],x,h=>by simp at h
 |a::l,x,h=>by
  rw [List.takeWhile_cons] at h;cases ha:p a
  ·rw [ha] at h; simp at h
  ·rw [ha] at h;rcases List.mem_cons.1 h with rfl | h
   ·exact ha
   ·exact G8 p l x h
theorem NH {α:Type} (p:α→Bool):∀ (l:List α) (x:α),l[(l.takeWhile p).length]? = some x→p x=false
 | [],x,h=>by simp at h
 |a::l,x,h=>by
  rw [List.takeWhile_cons] at h;cases ha:p a
  ·rw [ha] at h; simp at h; rw [← h]; exact ha
  ·rw [ha] at h;exact NH p l x (by simpa using h)
theorem NI {H:List Text} (hA:iW H) (hP:sR H) {n:Text} {k:Nat} (hk:k≤H.length) (uU:∀ m d,m<k→H[m]? = some d→bA d n≤0) :
  rn H n (l9 H n (eJ H n k))∧(∀ m d,m<eJ H n k→H[m]? = some d→bA d n≤0):=by
 have ri:=CP (n:=n) hk;have low:∀ m d,m<eJ H n k→H[m]? = some d→bA d n≤0:=fun m d hm hd=>by
  rcases Nat.lt_or_ge m k with h | h
  ·exact uU m d h hd
  ·unfold eJ at hm;have h1:(H.drop k)[m - k]? = some d:=by rw [List.getElem?_drop,show k+(m - k)=m by omega]; exact hd
   have h2:=List.takeWhile_prefix (fun c=>decide (bA c n≤0)) (l:=H.drop k);have h3:((H.drop k).takeWhile fun c=>decide (bA c n≤0))[m - k]? = some d:=by
    obtain ⟨r,hr⟩:=h2;rw [← hr,List.getElem?_append_left (by omega)] at h1;exact h1
   simpa using G8 _ _ d (List.mem_of_getElem? h3)
 have high:∀ m d,eJ H n k≤m→H[m]? = some d→Nm.under n d=false:=fun m d hm hd=>by
  rw [← Bool.not_eq_true];intro hu;have h1:=xj hu;obtain ⟨e,he⟩:=aY (l:=H) (k:=eJ H n k) (by have:=aZ hd; omega);have h2:bA e n≤0:=by
   rcases Nat.lt_or_ge (eJ H n k) m with h | h
   ·exact C5 (hA _ m e d h he hd) h1
   ·obtain rfl:m=eJ H n k:=by omega
    rw [he] at hd; cases hd; exact h1
  have h3:(H.drop k)[((H.drop k).takeWhile fun c=>decide (bA c n≤0)).length]? = some e:=by
   rw [List.getElem?_drop]; exact he
  have h6:=NH _ _ e h3;simp at h6;omega
 refine ⟨?_,low⟩;generalize eJ H n k=j at *;unfold l9;by_cases hj:j=0
 ·rw [if_pos hj];refine .inr ⟨rfl,fun d hd=>?_⟩;obtain ⟨m,hm⟩:=List.getElem?_of_mem hd;exact high m d (by omega) hm
 ·rw [if_neg hj];obtain ⟨c,hc⟩:=aY (l:=H) (k:=j - 1) (by omega);rw [hc];dsimp only;cases hu:Nm.under n c
  ·simp only [Bool.false_eq_true,if_false];refine .inr ⟨rfl,fun d hd=>?_⟩;obtain ⟨m,hm⟩:=List.getElem?_of_mem hd;rcases Nat.lt_or_ge m j with h | h
   ·rcases Nat.lt_or_ge m (j - 1) with h' | h'
    ·rw [← Bool.not_eq_true];intro WA;have:=xi (hA m (j - 1) d c h' hm hc) (low (j - 1) c (by omega) hc) WA;rw [hP m (j - 1) d c h' hm hc] at this;cases this
    ·obtain rfl:m=j - 1:=by omega
     rw [hc] at hm;cases hm;exact hu
   ·exact high m d h hm
  ·simp only [if_true];exact .inl ⟨List.mem_of_getElem? hc,hu⟩
theorem WB {C H:List Text} (hA:iW H) (hP:sR H) (rp:∀ d∈H,d∈C) (xm:∀ c∈C,∃ d∈H,Nm.under c d=true) (aJ:∀ c∈C,c≠[]) {cut n:Text} {prev:Option Text}
  (hcut:match prev with | none=>cut=[] | some p=>rn H p cut) (C6:∀ d∈H,bA d n<0→∃ p,prev=some p∧bA d p≤0) (xp:∀ p,prev=some p→bA p n≤0):rn H n (ek C cut n):=by
 have key:∀ d∈H,Nm.under n d=true→d≠n→cut=d:=fun d hd hu rq=>by
  have h1:=xj hu;have h2:bA d n<0:=by
   rcases Int.lt_or_eq_of_le h1 with h | h
   ·exact h
   ·exact absurd (pI h) rq
  obtain ⟨p,hp,lY⟩:=C6 d hd h2;have h3:=xi lY (xp p hp) hu;rw [hp] at hcut;exact hcut.unique hA hP (.inl ⟨hd,h3⟩)
 by_cases hc:cut≠[]∧Nm.under n cut=true
 ·have e:ek C cut n=cut:=by simp [ek,hc.1,hc.2]
  rw [e];refine .inl ⟨?_,hc.2⟩;cases prev with
  |none=>exact absurd hcut hc.1
  |some p =>
   rcases hcut with h | h
   ·exact h.1
   ·exact absurd h.1 hc.1
 ·have no:∀ d∈H,Nm.under n d=true→d=n:=fun d hd hu=>by
   apply Classical.byContradiction;intro rq;have:=key d hd hu rq;subst this;exact hc ⟨aJ _ (rp _ hd),hu⟩
  have e0:(if cut != [] && !Nm.under n cut then [] else cut)=[]:=by
   by_cases h1:cut=[]
   ·simp [h1]
   ·have:Nm.under n cut=false:=by
     rw [← Bool.not_eq_true];exact fun h=>hc ⟨h1,h⟩
    simp [h1,this]
  have e:ek C cut n=if C.contains n then n else []:=by
   simp only [ek,e0];cases C.contains n <;> rfl
  rw [e];cases eB:C.contains n
  ·refine .inr ⟨by simp,fun d hd=>?_⟩;rw [← Bool.not_eq_true];intro hu;have:=no d hd hu;subst this;have:C.contains d=true:=by simpa using rp d hd
   rw [eB] at this;cases this
  ·simp only [if_true];have hn:n∈C:=by simpa using eB
   obtain ⟨d,hd,hu⟩:=xm n hn;have:=no d hd hu;subst this;exact .inl ⟨hd,hu⟩
theorem NJ {C H:List Text} (hA:iW H) (hP:sR H) (rp:∀ d∈H,d∈C) (xm:∀ c∈C,∃ d∈H,Nm.under c d=true) (aJ:∀ c∈C,c≠[]) :
  ∀ (rest done:List Text) (cut:Text) (k:Nat),iW (done++rest)→(∀ c∈C,c∈done++rest)→k≤H.length→(match done.getLast? with | none=>cut=[] | some p=>rn H p cut)→(∀ m d,m<k→H[m]? = some d→∃ p,done.getLast? = some p∧bA d p≤0)→mS C cut rest=mO H k rest
 | [],_,_,_,_,_,_,_,_=>rfl
 |n::rest,done,cut,k,ru,aT,hk,hcut,uU=>by
  have xp:∀ p,done.getLast? = some p→bA p n≤0:=fun p hp=>by
   have hl:0<done.length:=by cases done with | nil=>simp at hp | cons=>simp
   rw [List.getLast?_eq_getElem?] at hp;exact ru (done.length - 1) done.length p n (by omega) (by rw [List.getElem?_append_left (by omega)]; exact hp) (by simp)
  have C6:∀ d∈H,bA d n<0→∃ p,done.getLast? = some p∧bA d p≤0:=fun d hd rq=>by
   have:=aT d (rp d hd);obtain ⟨i,hi⟩:=List.getElem?_of_mem this;have qy:(done++n::rest)[done.length]? = some n:=by simp
   have ai:i<done.length:=by
    rcases Nat.lt_trichotomy i done.length with h | h | h
    ·exact h
    ·subst h; rw [qy] at hi; cases hi; rw [mb] at rq; omega
    ·have h1:=ru done.length i n d h qy hi;have h2:=uR d n;omega
   rw [List.getElem?_append_left ai] at hi;obtain ⟨p,hp⟩:=aY (l:=done) (k:=done.length - 1) (by omega);refine ⟨p,by rw [List.getLast?_eq_getElem?]; exact hp,?_⟩;rcases Nat.lt_or_ge i (done.length - 1) with h | h
   ·exact ru i (done.length - 1) d p h (by rw [List.getElem?_append_left ai]; exact hi) (by rw [List.getElem?_append_left (by omega)]; exact hp)
   ·obtain rfl:i=done.length - 1:=by omega
    rw [hp] at hi; cases hi;rw [mb]; omega
  have f1:=WB hA hP rp xm aJ hcut C6 xp
  obtain ⟨f2,f3⟩:=NI hA hP (n:=n) hk (fun m d hm hd=>by
   obtain ⟨p,hp,lY⟩:=uU m d hm hd
   exact C5 lY (xp p hp))
  have e:=f1.unique hA hP f2;simp only [mS,mO,e]
  congr 1
  have ih:=NJ hA hP rp xm aJ rest (done++[n]) (l9 H n (eJ H n k)) (eJ H n k) (by simpa using ru) (by simpa using aT) (CP hk) (by simpa using f2) (fun m d hm hd=>⟨n,by simp,f3 m d hm hd⟩);exact ih
end Go.Proofs.YtcmnpelmmekdkaaGreatDoor.P
end
