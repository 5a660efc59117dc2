/- Several texts of mine, one behind the other. Conditions: as each says. -/
import Derived.Test.YtfmdaiojokniiaaGreatDoorY15
import Derived.Lib.Bytealg
set_option linter.unusedVariables false
set_option linter.unusedSimpArgs false
section
namespace Go.Proofs.YtfmdaiojokniiaaGreatDoor.P
open Go Go.ax
set_option maxRecDepth 100000
set_option maxHeartbeats 4000000
theorem Ip (t:Int) (aj:Bool):aq E 245 [.int .i64 t,.bool aj] (· = .bool (r9 t aj)):=by
 refine eP Tryz.func245 ?_;repeat' (first | with_reducible refine cY ?_ | with_reducible refine cN ?_ | with_reducible refine ah (fun _=>?_) (fun _=>?_) | refine gA Tryz.func245 ?_ | refine gB ?_ | with_reducible rfl)
 all_goals (cases aj <;> simp_all [r9])
theorem Iq (l:List da) (aj:Text):aq E 246 [rS l,.str aj] (· = .bool (ln l aj)):=by
 unfold ln;have hg:∃ g0,g0=l.headD zD:=⟨_,rfl⟩;obtain ⟨g0,hg⟩:=hg;rw [← hg];refine eP Tryz.func246 ?_;refine ah (fun h1=>?_) (fun h1=>?_)
 ·refine gO Tryz.func246 ?_;simp only [List.length_map] at h1;rw [decide_eq_false (by simp at h1; omega),Bool.false_and]
 ·have h6:l.length≤6:=by simp at h1; omega
  rw [decide_eq_true (by omega),Bool.true_and];refine gO Tryz.func246 ?_;refine I.loop (κ:=Nat) ([4,5,6]++rg 12 76) (fun k=>[(12,.d (.int .i64 k))]) (fun _=>[]) (fun k=>k≤l.length∧chain (fb aj g0) iT none l=chain (fb aj g0) iT (bK l k) (l.drop k)) (fun k=>l.length - k) 0 ⟨Nat.zero_le _,rfl⟩ ?_ ?_
  ·exact sZ
  ·intro k hk IH;refine I.head af Tryz.func246 2000 ?_;(conv=>whnf);refine ah (fun h5=>?_) (fun h5=>?_)
   ·have ai:k<l.length:=by simpa using h5
    obtain ⟨x,hx⟩:=aD ai;have h0:=H7 ai;rw [← hg] at h0;have aE:=ur (ok:=fb aj g0) (rel:=iT) hx;rw [← hk.2] at aE;rcases Nat.eq_zero_or_pos k with cJ | cJ
    ·have dA:bK l k=none:=by simp [bK,cJ]
     rw [dA] at aE;dsimp only at aE;rw [Bool.and_true] at aE;have zQ:x=g0:=by subst cJ; rw [hx] at h0; exact Option.some.inj h0
     refine gO Tryz.func246 ?_;repeat' (first | with_reducible refine aB (aN hx) rfl ?_ | with_reducible refine cY ?_ | with_reducible refine cN ?_ | with_reducible refine ah (fun _=>?_) (fun _=>?_) | refine gA Tryz.func246 ?_ | refine gB ?_ | with_reducible rfl)
     all_goals first
      |(have bL : fb aj g0 x = false := by clear aE hk IH hg; simp_all [fb] <;> (intros; omega)
        rw [aE, bL, Bool.false_and]
        done)
      |skip
     refine gO Tryz.func246 ?_;refine I.bH af bI 2000 (by kernel_rfl) ?_;(conv=>whnf);repeat' (first | with_reducible refine aB (aN hx) rfl ?_ | with_reducible refine aB (wY h0) rfl ?_ | with_reducible refine cY ?_ | with_reducible refine cN ?_ | with_reducible refine ah (fun _=>?_) (fun _=>?_) | refine gA Tryz.func246 ?_ | refine gB ?_ | with_reducible rfl)
     all_goals first
      |(exfalso; clear aE hk IH hg; simp_all; done)
      |skip
     all_goals
      refine gO Tryz.func246 ?_;refine I.back (IH (k+1) ⟨by omega,by rw [aE,show fb aj g0 x=true by clear aE hk IH hg; simp_all [fb] <;> omega,Bool.true_and]⟩ (by omega)) ?_;exact sZ
    ·obtain ⟨q,hq,dA⟩:=qh cJ hk.1;rw [dA] at aE;refine gO Tryz.func246 ?_;repeat' (first | with_reducible refine aB (aN hx) rfl ?_ | with_reducible refine cY ?_ | with_reducible refine cN ?_ | with_reducible refine ah (fun _=>?_) (fun _=>?_) | refine gA Tryz.func246 ?_ | refine gB ?_ | with_reducible rfl)
     all_goals first
      |(have bL : fb aj g0 x = false := by clear aE hk IH hg; simp_all [fb] <;> (intros; omega)
        rw [aE, bL, Bool.false_and, Bool.false_and]
        done)
      |skip
     refine gO Tryz.func246 ?_;refine I.bH af bI 2000 (by kernel_rfl) ?_;(conv=>whnf);repeat' (first | with_reducible refine aB (aN hx) rfl ?_ | with_reducible refine aB (wY h0) rfl ?_ | with_reducible refine aB (l9 hq cJ (by omega)) rfl ?_ | with_reducible refine cY ?_ | with_reducible refine cN ?_ | with_reducible refine ah (fun _=>?_) (fun _=>?_) | refine gA Tryz.func246 ?_ | refine gB ?_ | with_reducible rfl)
     all_goals first
      |(have bL : (fb aj g0 x && iT q x) = false := by clear aE hk IH hg; simp_all [fb, iT] <;> (intros; omega)
        rw [aE, bL, Bool.false_and]
        done)
      |(exfalso; clear aE hk IH hg; simp_all; omega)
      |skip
     all_goals
      refine gO Tryz.func246 ?_;refine I.back (IH (k+1) ⟨by omega,by rw [aE,show (fb aj g0 x&&iT q x)=true by clear aE hk IH hg; simp_all [fb,iT] <;> omega,Bool.true_and]⟩ (by omega)) ?_;exact sZ
   ·have aC:l.length≤k:=by simpa using h5
    refine gO Tryz.func246 ?_;rw [hk.2,List.drop_of_length_le aC];rfl
@[reducible] def xg (z : aR) (b : List Text) : DV := .agg [.str z.aj, wT z.ab, .sl (b.map .str)]
theorem PL (z:aR) (B:List Text) (hB:B.length=z.ab.length) (hl:z.ab.length≤1000000):aq E 172 [xg z B] (· = .bool ((z.ab.zip B).all fun p=>nS p.1 p.2)):=by
 obtain ⟨aj,l⟩:=z;simp only at *;refine eP Tryz.func172 ?_;refine I.loop (κ:=Nat) (rg 2 4++rg 11 39) (fun k=>[(11,.d (.int .i64 k))]) (fun _=>[]) (fun k=>k≤l.length∧((l.zip B).take k).all (fun p=>nS p.1 p.2)=true) (fun k=>l.length - k) 0 ⟨Nat.zero_le _,rfl⟩ ?_ ?_
 ·exact sZ
 ·intro k hk IH;refine I.head af Tryz.func172 2000 ?_;(conv=>whnf);refine ah (fun h5=>?_) (fun h5=>?_)
  ·have ai:k<l.length:=by simpa using h5
   obtain ⟨x,hx⟩:=aD ai;obtain ⟨b,hb⟩:=aD (l:=B) (k:=k) (by omega);have hz:=uw hx hb;refine gO Tryz.func172 ?_;repeat' (first | with_reducible refine aB (aN hx) rfl ?_ | with_reducible refine aB (aN hb) rfl ?_ | with_reducible refine cY ?_ | with_reducible refine cN ?_ | with_reducible refine ah (fun _=>?_) (fun _=>?_) | refine gA Tryz.func172 ?_ | refine gB ?_ | with_reducible rfl)
   all_goals first
    |(have bL : nS x b = false := by clear hz hb hk IH hx; obtain ⟨⟨nm, ty, lf, dt⟩, sg⟩ := x; rcases b with _ | ⟨c, b⟩ <;> simp_all [nS] <;> first | (rintro rfl; simp_all; done) | (intro h; exact absurd h.symm (by assumption)) | (subst_vars; simp_all; done) | (intros; simp_all; done)
      rw [cX hz bL]
      done)
    |(exfalso; clear hz hb hk IH; rcases b with _ | ⟨c,b⟩ <;> simp_all; done)
    |skip
   all_goals
    refine gO Tryz.func172 ?_;refine I.back (IH (k+1) ⟨by omega,dh hk.2 hz (by clear hz hb hk IH hx; obtain ⟨⟨nm,ty,lf,dt⟩,sg⟩:=x; rcases b with _ | ⟨c,b⟩ <;> simp_all [nS] <;> first | (rintro rfl; simp_all; done) | (intro h; exact absurd h.symm (by assumption)) | (subst_vars; simp_all; done) | (intros; simp_all; done))⟩ (by omega)) ?_;exact sZ
  ·have aC:l.length≤k:=by simpa using h5
   refine gO Tryz.func172 ?_;rw [jS hk.2 (by simp; omega)]
def qm (s:Signed) (b:Text):Bool := !(!o3 s b&&decide ((s.sigs.length:Int)>0))
theorem PM (z:aR) (B:List Text) (hB:B.length=z.ab.length) (hl:z.ab.length≤1000000):aq E 173 [xg z B] (· = .bool ((z.ab.zip B).all fun p=>qm p.1 p.2)):=by
 obtain ⟨aj,l⟩:=z;simp only at *;refine eP Tryz.func173 ?_;refine I.loop (κ:=Nat) (rg 2 4++rg 11 31) (fun k=>[(11,.d (.int .i64 k))]) (fun _=>[]) (fun k=>k≤l.length∧((l.zip B).take k).all (fun p=>qm p.1 p.2)=true) (fun k=>l.length - k) 0 ⟨Nat.zero_le _,rfl⟩ ?_ ?_
 ·exact sZ
 ·intro k hk IH;refine I.head af Tryz.func173 2000 ?_;(conv=>whnf);refine ah (fun h5=>?_) (fun h5=>?_)
  ·have ai:k<l.length:=by simpa using h5
   obtain ⟨x,hx⟩:=aD ai;obtain ⟨b,hb⟩:=aD (l:=B) (k:=k) (by omega);have hz:=uw hx hb;refine gO Tryz.func173 ?_;repeat' (first | with_reducible refine aB (aN hx) rfl ?_ | with_reducible refine aB (aN hb) rfl ?_ | with_reducible refine cY ?_ | with_reducible refine cN ?_ | with_reducible refine ah (fun _=>?_) (fun _=>?_) | refine gA Tryz.func173 ?_ | refine gB ?_ | with_reducible rfl)
   all_goals first
    |(rw [cX hz (by clear hz hb hk IH; rcases b with _ | ⟨c,b⟩ <;> simp_all [qm,o3])]; done)
    |(exfalso; clear hz hb hk IH; rcases b with _ | ⟨c,b⟩ <;> simp_all; done)
    |skip
   all_goals
    refine gO Tryz.func173 ?_;refine I.back (IH (k+1) ⟨by omega,dh hk.2 hz (by clear hz hb hk IH; rcases b with _ | ⟨c,b⟩ <;> simp_all [qm,o3])⟩ (by omega)) ?_;exact sZ
  ·have aC:l.length≤k:=by simpa using h5
   refine gO Tryz.func173 ?_;rw [jS hk.2 (by simp; omega)]
theorem PN (z:aR) (B:List Text) (hl:z.ab.length≤1000000):aq E 174 [xg z B] (· = .bool (z.ab.all fun s=>ln s.sigs z.aj)):=by
 obtain ⟨aj,l⟩:=z;simp only at *;refine eP Tryz.func174 ?_;refine I.loop (κ:=Nat) ([2,4]++rg 10 13) (fun k=>[(10,.d (.int .i64 k))]) (fun _=>[]) (fun k=>k≤l.length∧(l.take k).all (fun s=>ln s.sigs aj)=true) (fun k=>l.length - k) 0 ⟨Nat.zero_le _,rfl⟩ ?_ ?_
 ·exact sZ
 ·intro k hk IH;refine I.head af Tryz.func174 2000 ?_;(conv=>whnf);refine ah (fun h5=>?_) (fun h5=>?_)
  ·have ai:k<l.length:=by simpa using h5
   obtain ⟨x,hx⟩:=aD ai;refine gO Tryz.func174 ?_;repeat' (first | with_reducible refine aB (aN hx) rfl ?_ | with_reducible refine ao (Iq _ _) ?_ | with_reducible refine au (Iq _ _) ?_ | with_reducible refine cY ?_ | with_reducible refine cN ?_ | with_reducible refine ah (fun _=>?_) (fun _=>?_) | refine gA Tryz.func174 ?_ | refine gB ?_ | with_reducible rfl)
   all_goals first
    |(rw [cX hx (by simp_all)]; done)
    |skip
   all_goals
    refine gO Tryz.func174 ?_;refine I.back (IH (k+1) ⟨by omega,dh hk.2 hx (by simp_all)⟩ (by omega)) ?_;exact sZ
  ·have aC:l.length≤k:=by simpa using h5
   refine gO Tryz.func174 ?_;rw [jS hk.2 aC]
def qo (p:Option Text) (s:Signed) (t:Option Signed):Bool:=s.set.type != 3||(p != some s.set.name&&(match t with | none=>true | some t => !(t.set.name==s.set.name&&t.set.type != 8)))
def iU:Option Text→List Signed→Bool
 |_,[]=>true
 |p,s::l=>qo p s l.head? && iU (some s.set.name) l
theorem PO {l:List Signed} {k:Nat} {x:Signed} (hx:l[k]? = some x):iU (bK (l.map (·.set.name)) k) (l.drop k)=(qo (bK (l.map (·.set.name)) k) x l[k+1]? && iU (bK (l.map (·.set.name)) (k+1)) (l.drop (k+1))):=by
 have hk:=aT hx;rw [List.drop_eq_getElem_cons hk];have e1:l[k]=x:=by simpa [hk] using hx
 have e2:bK (l.map (·.set.name)) (k+1)=some x.set.name:=by simp [bK,hx]
 have e3:(l.drop (k+1)).head? = l[k+1]? := by rw [List.head?_drop]
 rw [e1,e2,iU,e3]
theorem PQ (z:aR) (B:List Text) (hl:z.ab.length≤1000000):aq E 171 [xg z B] (· = .bool (iU none z.ab)):=by
 obtain ⟨aj,l⟩:=z;simp only at *;refine eP Tryz.func171 ?_;refine I.loop (κ:=Nat) ([2,3,4]++rg 10 65) (fun k=>[(10,.d (.int .i64 k))]) (fun _=>[]) (fun k=>k≤l.length∧iU none l=iU (bK (l.map (·.set.name)) k) (l.drop k)) (fun k=>l.length - k) 0 ⟨Nat.zero_le _,rfl⟩ ?_ ?_
 ·exact sZ
 ·intro k hk IH;refine I.head af Tryz.func171 2000 ?_;(conv=>whnf);refine ah (fun h5=>?_) (fun h5=>?_)
  ·have ai:k<l.length:=by simpa using h5
   obtain ⟨x,hx⟩:=aD ai;have aE:=PO hx;rw [← hk.2] at aE;have hw:IntKind.i64.wrap ((k:Int)+1)=((k+1:Nat):Int):=by rw [wrap64 (by omega) (by omega)]; omega
   refine gO Tryz.func171 ?_;refine aB (aN hx) rfl ?_;refine gO Tryz.func171 ?_;refine ah (fun h6=>?_) (fun h6=>?_)
   ·refine gO Tryz.func171 ?_;refine I.back (IH (k+1) ⟨by omega,by rw [aE]; simp only [qo,h6,Bool.true_or,Bool.true_and]⟩ (by omega)) ?_;exact sZ
   ·have e1:qo (bK (l.map (·.set.name)) k) x l[k+1]? = (bK (l.map (·.set.name)) k != some x.set.name&&(match l[k+1]? with | none=>true | some t => !(t.set.name==x.set.name&&t.set.type != 8))):=by simp only [qo,h6,Bool.false_or]
    rw [e1] at aE;clear e1;rcases Nat.eq_zero_or_pos k with cJ | cJ
    ·have dA:bK (l.map (·.set.name)) k=none:=by simp [bK,cJ]
     rw [dA] at aE;refine gO Tryz.func171 ?_;refine I.bH af bI 2000 (by kernel_rfl) ?_;(conv=>whnf);refine aW (by simp; omega) ?_;refine gD ?_;refine gO Tryz.func171 ?_;refine aQ ?_;refine gO Tryz.func171 ?_;refine I.bH af bI 2000 (by kernel_rfl) ?_;(conv=>whnf);by_cases cZ:k+1<l.length
     ·obtain ⟨t,ht⟩:=aD cZ;rw [ht] at aE;refine aV (by rw [hw]; simp; omega) ?_;refine gD ?_;repeat' (first | with_reducible refine aB (at_next ht (by omega)) rfl ?_ | with_reducible refine cY ?_ | with_reducible refine cN ?_ | with_reducible refine ah (fun _=>?_) (fun _=>?_) | refine gA Tryz.func171 ?_ | refine gB ?_ | with_reducible rfl)
      all_goals first
       |(rw [aE]; clear aE hk IH dA; simp_all; done)
       |skip
      all_goals
       refine gO Tryz.func171 ?_;refine I.back (IH (k+1) ⟨by omega,by rw [aE]; clear aE hk IH dA; simp_all⟩ (by omega)) ?_;exact sZ
     ·have ht:l[k+1]? = none:=List.getElem?_eq_none (by omega);rw [ht] at aE;refine aW (by rw [hw]; simp; omega) ?_;refine gD ?_;repeat' (first | with_reducible refine cY ?_ | with_reducible refine cN ?_ | with_reducible refine ah (fun _=>?_) (fun _=>?_) | refine gA Tryz.func171 ?_ | refine gB ?_ | with_reducible rfl)
      refine gO Tryz.func171 ?_;refine I.back (IH (k+1) ⟨by omega,by rw [aE]; clear aE hk IH dA; simp_all⟩ (by omega)) ?_;exact sZ
    ·obtain ⟨q,hq,-⟩:=qh cJ hk.1;have dA:bK (l.map (·.set.name)) k=some q.set.name:=by simp [bK,hq]; omega
     rw [dA] at aE;refine gO Tryz.func171 ?_;refine I.bH af bI 2000 (by kernel_rfl) ?_;(conv=>whnf);refine aV (by simp; omega) ?_;refine gD ?_;refine aB (l9 hq cJ (by omega)) rfl ?_;refine gD ?_;refine gO Tryz.func171 ?_;refine ah (fun h7=>?_) (fun h7=>?_)
     ·refine gO Tryz.func171 ?_;rw [aE];clear aE hk IH dA;simp_all
     ·refine gO Tryz.func171 ?_;refine I.bH af bI 2000 (by kernel_rfl) ?_;(conv=>whnf);by_cases cZ:k+1<l.length
      ·obtain ⟨t,ht⟩:=aD cZ;rw [ht] at aE;refine aV (by rw [hw]; simp; omega) ?_;refine gD ?_;repeat' (first | with_reducible refine aB (at_next ht (by omega)) rfl ?_ | with_reducible refine cY ?_ | with_reducible refine cN ?_ | with_reducible refine ah (fun _=>?_) (fun _=>?_) | refine gA Tryz.func171 ?_ | refine gB ?_ | with_reducible rfl)
       all_goals first
        |(rw [aE]; clear aE hk IH dA; simp_all; done)
        |skip
       all_goals
        refine gO Tryz.func171 ?_;refine I.back (IH (k+1) ⟨by omega,by rw [aE]; clear aE hk IH dA; simp_all⟩ (by omega)) ?_;exact sZ
      ·have ht:l[k+1]? = none:=List.getElem?_eq_none (by omega);rw [ht] at aE;refine aW (by rw [hw]; simp; omega) ?_;refine gD ?_;repeat' (first | with_reducible refine cY ?_ | with_reducible refine cN ?_ | with_reducible refine ah (fun _=>?_) (fun _=>?_) | refine gA Tryz.func171 ?_ | refine gB ?_ | with_reducible rfl)
       refine gO Tryz.func171 ?_;refine I.back (IH (k+1) ⟨by omega,by rw [aE]; clear aE hk IH dA; simp_all⟩ (by omega)) ?_;exact sZ
  ·have aC:l.length≤k:=by simpa using h5
   refine gO Tryz.func171 ?_;rw [hk.2,List.drop_of_length_le aC];rfl
end Go.Proofs.YtfmdaiojokniiaaGreatDoor.P
end
section
namespace Go.Proofs.YtfmdaiojokniiaaGreatDoor.P
open Go Go.ax
set_option maxRecDepth 100000
set_option maxHeartbeats 4000000
theorem Ir (c d:UInt8):c<d∨c=d∨d<c:=by
 rcases Nat.lt_trichotomy c.toNat d.toNat with h | h | h
 ·exact .inl (UInt8.lt_iff_toNat_lt.2 h)
 ·exact .inr (.inl (UInt8.toNat_inj.1 h))
 ·exact .inr (.inr (UInt8.lt_iff_toNat_lt.2 h))
theorem Ds {c d:UInt8} {a b:Text}:Op.bytesLess (c::a) (d::b)=true↔c<d∨(c=d∧Op.bytesLess a b=true):=by
 simp [Op.bytesLess]
theorem Dt:∀ {a b c:Text},Op.bytesLess a b=true→Op.bytesLess b c=true→Op.bytesLess a c=true
 |_,[],_,h,_=>by simp [Op.bytesLess] at h
 |_,_::_,[],_,h=>by simp [Op.bytesLess] at h
 | [],_::_,_::_,_,_=>by simp [Op.bytesLess]
 |x::a,y::b,z::c,h,k=>by
  rw [Ds] at h k ⊢;rcases h with h | ⟨rfl,h⟩
  ·rcases k with k | ⟨rfl,k⟩
   ·exact .inl (UInt8.lt_trans h k)
   ·exact .inl h
  ·rcases k with k | ⟨rfl,k⟩
   ·exact .inl k
   ·exact .inr ⟨rfl,Dt h k⟩
theorem Is:∀ (a b:Text),Op.bytesLess a b=true∨a=b∨Op.bytesLess b a=true
 | [],[] => .inr (.inl rfl)
 | [],_::_ => .inl (by simp [Op.bytesLess])
 |_::_,[] => .inr (.inr (by simp [Op.bytesLess]))
 |c::a,d::b=>by
  rw [Ds,Ds];rcases Ir c d with h | rfl | h
  ·exact .inl (.inl h)
  ·rcases Is a b with h | rfl | h
   ·exact .inl (.inr ⟨rfl,h⟩)
   ·exact .inr (.inl rfl)
   ·exact .inr (.inr (.inr ⟨rfl,h⟩))
  ·exact .inr (.inr (.inl h))
theorem Du {a b:Text} (h:Op.bytesLess a b=true):Op.bytesLess b a=false:=by
 rw [← Bool.not_eq_true];intro k;have:=Dt h k;rw [jT] at this;cases this
theorem It {a b:Text} (h:Op.bytesLess a b=true):a≠b:=by
 rintro rfl;rw [jT] at h;cases h
theorem Iu:∀ (a b:Text),Lib.compareBytes a b=if Op.bytesLess a b then -1 else if a==b then 0 else 1
 | [],[]=>by simp [Lib.compareBytes,Op.bytesLess]
 | [],_::_=>by simp [Lib.compareBytes,Op.bytesLess]
 |_::_,[]=>by simp [Lib.compareBytes,Op.bytesLess]
 |c::a,d::b=>by
  simp only [Lib.compareBytes,Op.bytesLess];rcases Ir c d with h | rfl | h
  ·simp [h]
  ·simp [Iu a b]
  ·have h1:¬ c<d:=UInt8.not_lt.2 (UInt8.le_of_lt h);have h2:¬ c=d:=by rintro rfl; exact absurd h (by simp)
   simp [h,h1,h2]
theorem o5 (x y:Text) (l m:List Text):(Op.bytesLess x y=true∧cmpL (x::l) (y::m) = -1)∨(x=y∧cmpL (x::l) (y::m)=cmpL l m)∨(Op.bytesLess y x=true∧cmpL (x::l) (y::m)=1):=by
 rcases Is x y with h | rfl | h
 ·exact .inl ⟨h,by simp [cmpL,h]⟩
 ·exact .inr (.inl ⟨rfl,by simp [cmpL,jT]⟩)
 ·exact .inr (.inr ⟨h,by simp [cmpL,Du h,(It h).symm]⟩)
theorem Iv:∀ (l:List Text),cmpL l l=0
 | []=>rfl
 |x::l=>by simp [cmpL,jT,Iv l]
theorem Iw:∀ {l m:List Text},cmpL l m=0→l=m
 | [],[],_=>rfl
 | [],_::_,h=>by simp [cmpL] at h
 |_::_,[],h=>by simp [cmpL] at h
 |x::l,y::m,h=>by
  rcases o5 x y l m with ⟨-,e⟩ | ⟨rfl,e⟩ | ⟨-,e⟩
  ·rw [e] at h; cases h
  ·rw [e] at h; rw [Iw h]
  ·rw [e] at h; cases h
theorem Ix:∀ (l m:List Text),cmpL m l = - cmpL l m
 | [],[]=>rfl
 | [],_::_=>rfl
 |_::_,[]=>rfl
 |x::l,y::m=>by
  rcases o5 x y l m with ⟨h,e⟩ | ⟨rfl,e⟩ | ⟨h,e⟩
  ·rw [e];simp [cmpL,Du h,(It h).symm]
  ·rw [e,← Ix l m];simp [cmpL,jT]
  ·rw [e];simp [cmpL,h]
theorem Iy:∀ {a b c:List Text},cmpL a b<0→cmpL b c<0→cmpL a c<0
 | [],[],_,h,_=>by simp [cmpL] at h
 |_::_,[],_,h,_=>by simp [cmpL] at h
 |_,_::_,[],_,h=>by simp [cmpL] at h
 | [],_::_,_::_,_,_=>by simp [cmpL]
 |x::a,y::b,z::c,h,k=>by
  rcases o5 x y a b with ⟨h1,e1⟩ | ⟨rfl,e1⟩ | ⟨h1,e1⟩
  ·rcases o5 y z b c with ⟨h2,e2⟩ | ⟨rfl,e2⟩ | ⟨h2,e2⟩
   ·simp [cmpL,Dt h1 h2]
   ·simp [cmpL,h1]
   ·rw [e2] at k; simp at k
  ·rcases o5 x z b c with ⟨h2,e2⟩ | ⟨rfl,e2⟩ | ⟨h2,e2⟩
   ·simp [cmpL,h2]
   ·rw [e1] at h;rw [e2] at k;have:=Iy h k;rcases o5 x x a c with ⟨h3,-⟩ | ⟨-,e3⟩ | ⟨h3,-⟩
    ·rw [jT] at h3; cases h3
    ·rw [e3]; exact this
    ·rw [jT] at h3; cases h3
   ·rw [e2] at k; simp at k
  ·rw [e1] at h; simp at h
theorem Iz:∀ {c m n:List Text},cmpL c m≤0→cmpL m n≤0→c <+: n→c <+: m
 | [],_,_,_,_,_=>List.nil_prefix
 |_::_,[],_,h,_,_=>by simp [cmpL] at h
 |_::_,_::_,[],_,_,h=>by simp at h
 |x::c,y::m,z::n,h,k,hp=>by
  rw [List.cons_prefix_cons] at hp;obtain ⟨rfl,hp⟩:=hp;rcases o5 x y c m with ⟨h1,e1⟩ | ⟨rfl,e1⟩ | ⟨h1,e1⟩
  ·rcases o5 y x m n with ⟨h2,e2⟩ | ⟨rfl,e2⟩ | ⟨h2,e2⟩
   ·have:=Du h1; rw [h2] at this; cases this
   ·rw [jT] at h1; cases h1
   ·rw [e2] at k; simp at k
  ·rcases o5 x x m n with ⟨h2,-⟩ | ⟨-,e2⟩ | ⟨h2,-⟩
   ·rw [jT] at h2; cases h2
   ·rw [List.cons_prefix_cons];rw [e1] at h;rw [e2] at k;exact ⟨rfl,Iz h k hp⟩
   ·rw [jT] at h2; cases h2
  ·rw [e1] at h; simp at h
theorem IA:∀ {c n:List Text},c <+: n→cmpL c n≤0
 | [],[],_=>by simp [cmpL]
 | [],_::_,_=>by simp [cmpL]
 |_::_,[],h=>by simp at h
 |x::c,y::n,h=>by
  rw [List.cons_prefix_cons] at h;obtain ⟨rfl,h⟩:=h;simp only [cmpL,jT,Bool.false_eq_true,if_false,beq_self_eq_true,if_true];exact IA h
theorem mR (a:Text):bp a a=0:=Iv _
theorem nT {a b:Text} (h:bp a b=0):a=b:=O5 (List.reverse_inj.1 (Iw h))
theorem xh (a b:Text):bp b a = - bp a b:=Ix _ _
theorem xi {a b c:Text} (h:bp a b<0) (k:bp b c<0):bp a c<0:=Iy h k
theorem w9 {s z:Text}:Nm.under s z=true↔(Nm.labels z).reverse <+: (Nm.labels s).reverse:=by
 simp [Nm.under,List.reverse_prefix]
theorem uz {c m n:Text} (h:bp c m≤0) (k:bp m n≤0) (hp:Nm.under n c=true):Nm.under m c=true:=w9.2 (Iz h k (w9.1 hp))
theorem xj {c n:Text} (h:Nm.under n c=true):bp c n≤0:=IA (w9.1 h)
set_option maxHeartbeats 1000000 in
open Go.RowKit in
theorem PR (a b:ByteArray) (w:World):Calls Tryz.prog 357 #[.string a,.string b] w fun e w'=>e = .returned (.int .i64 (Lib.compareBytes a.data.toList b.data.toList))∧w'=w:=by
  go_enter Tryz.func357,Tryz.ntmps357
  go_wp2
  rw [run_callFunc_extern Tryz.func361 (by kernel_rfl) (by kernel_rfl) (by kernel_rfl) (e:=Extern.BytealgCompare.compare) (by kernel_rfl),Lib.run_compareString];simp only [Result.andThen];rw [Oper.upon_value]
  go_wp2
  go_ret
  exact ⟨rfl,rfl⟩
theorem PT (a b:Text):aq E 357 [.str a,.str b] (· = .int .i64 (Lib.compareBytes a b)):=by
 unfold aq;refine ⟨⟨_,Tryz.func357,rfl,by decide⟩,fun ay w vs _ _ ⟨hl,hv⟩=>?_⟩;obtain ⟨u,v,rfl⟩:∃ u v,vs=[u,v]:=by
  match vs,hl with
  | [u,v],_=>exact ⟨u,v,rfl⟩
 have h1:=hv 0 (.str a) u rfl rfl;have h2:=hv 1 (.str b) v rfl rfl;cases h1;cases h2;refine (PR ⟨a.toArray⟩ ⟨b.toArray⟩ w).mono fun e w' ⟨h1,h2⟩=>⟨_,_,h1,rfl,?_,h2 ▸ Ext.refl w⟩
 simpa using VD.int _ _
theorem PU (a b:Text):aq E 341 [.str a,.str b] (· = .int .i64 (Lib.compareBytes a b)):=by
 have c1:=PT a b;refine eP Tryz.func341 ?_;refine ao (c1) ?_;refine gO Tryz.func341 ?_
 with_reducible rfl
def PS (more:Bool) (rest:Text) (R:List Text):Prop:=if more then (Nm.split rest).reverse=R else R=[]
theorem PV (t:Text):aw E 340 [] [.d (.str t)] (fun x h=>x = .fn (.func 356) [] [.ptr 1 0,.ptr 0 0]∧h=[.cells [.d (.str t)],.cells [.d (.bool (t != [46]))]]):=by
 refine aw.run af (fn:=Tryz.f340) Tryz.func340 (body:=Tryz.f340.body.getD .skip) rfl (by decide) 2000 rfl ?_;(conv=>whnf);exact ⟨rfl,rfl⟩
theorem PW (rest:Text):aw E 356 [.cells [.d (.bool false)],.cells [.d (.str rest)]] [.ptr 0 0,.ptr 1 0] (fun x h=>x = .aF [.d (.str []),.d (.bool false)]∧h=[.cells [.d (.bool false)],.cells [.d (.str rest)]]):=by
 refine aw.run af (fn:=Tryz.f356) Tryz.func356 (body:=Tryz.f356.body.getD .skip) rfl (by decide) 2000 rfl ?_;(conv=>whnf);refine aV (by decide) ?_;refine gO Tryz.func356 ?_;exact ⟨rfl,rfl⟩
theorem PX (rest:Text) (hl:rest.length≤60) {y:Text} {R:List Text} (h:PS true rest (y::R)):aw E 356 [.cells [.d (.bool true)],.cells [.d (.str rest)]] [.ptr 0 0,.ptr 1 0] (fun x h=>x = .aF [.d (.str y),.d (.bool true)]∧∃ m r,h=[.cells [.d (.bool m)],.cells [.d (.str r)]]∧PS m r R∧r.length≤60):=by
 have c1:=zw rest (by unfold maxLen; omega);obtain ⟨i,x,P,e1,e2,e3,e4,e5,e6,e7⟩:=zx rest;have hw:IntKind.i64.wrap (i+1)=i+1:=wrap64 (by omega) (by omega);rw [e1] at c1;refine aw.run af (fn:=Tryz.f356) Tryz.func356 (body:=Tryz.f356.body.getD .skip) rfl (by decide) 2000 rfl ?_;(conv=>whnf);refine aW (by decide) ?_;refine gO Tryz.func356 ?_;refine ao (c1) ?_;refine gO Tryz.func356 ?_;refine bc ⟨by rw [hw]; simp; omega,by rw [hw]; simp; omega,by simp⟩ ?_;refine gO Tryz.func356 ?_;rw [hw];simp only [Option.getD_none,Option.getD_some,Int.toNat_natCast,List.take_length,e4];have hR:x=y∧P.reverse=R:=by
  have:(Nm.split rest).reverse=y::R:=h;rw [e5] at this
  simpa using this
 obtain ⟨rfl,rfl⟩:=hR;refine ah (fun h5=>?_) (fun h5=>?_)
 ·refine gO Tryz.func356 ?_;rw [e6 (of_decide_eq_true h5)];exact ⟨rfl,false,rest,rfl,rfl,hl⟩
 ·have h5:0≤i:=by simpa using h5
  refine gO Tryz.func356 ?_;refine bc ⟨by simp,by simp; omega,by simp; omega⟩ ?_;refine gO Tryz.func356 ?_;refine ⟨rfl,true,rest.take i.toNat,rfl,?_,by simp; omega⟩;rw [e7 h5];rfl
theorem Dv (a b:Text) (ha:Nm.valid a=true) (hb:Nm.valid b=true):aq E 298 [.str a,.str b] (· = .aF [.int .i64 (bp a b),.int .i64 0]):=by
 have c1:=r8 a (ou (by have:=eB ha; omega));have c2:=r8 b (ou (by have:=eB hb; omega));rw [ha] at c1;rw [hb] at c2;have qc:=eB ha;have qd:=eB hb;refine eP Tryz.func298 ?_;refine ao (c1) ?_;refine gO Tryz.func298 ?_;refine aQ ?_;refine gO Tryz.func298 ?_;refine ao (c2) ?_;refine gO Tryz.func298 ?_;refine aQ ?_;refine gO Tryz.func298 ?_;refine ah (fun h3=>?_) (fun h3=>?_)
 ·obtain rfl:a=b:=by simpa using h3
  refine gO Tryz.func298 ?_;rw [mR]
 have aJ:a≠b:=by simpa using h3
 refine gO Tryz.func298 ?_;refine wm (PV b) rfl ?_;refine gO Tryz.func298 ?_;refine I.rangeFunc (bg rfl) Tryz.func233 rfl (by decide) rfl (fun ll d tt=>?_);refine gO Tryz.func233 ?_;refine ah (fun h4=>?_) (fun h4=>?_)
 ·obtain rfl:a=[46]:=by simpa using h4
  refine gO Tryz.func233 ?_;refine I.jr af Tryz.func233 rfl rfl rfl rfl (fun e=>nomatch e) ?_;(conv=>whnf);refine gO Tryz.func298 ?_;refine I.kx af Tryz.func298 rfl rfl rfl rfl rfl ?_;have:bp [46] b = -1:=by
   have h0:=fun h=>aJ (nT (a:=[46]) (b:=b) h);unfold bp at h0 ⊢;rw [show (Nm.labels [46]).reverse=[] from rfl] at h0 ⊢;cases h5:(Nm.labels b).reverse with
   |nil=>rw [h5] at h0; exact absurd rfl h0
   |cons z R=>rfl
  rw [this];rfl
 have hr:a≠[46]:=by simpa using h4
 refine gO Tryz.func233 ?_;refine I.loop (κ:=Text × Bool × Text × List Text) [4,5,9,10,11,12,13,14,15,16,17,18,19,20,21,22,23,24] (fun x=>[(4,.d (.str x.1))]) (fun x=>[(2,.cells [.d (.str x.2.2.1)]),(3,.cells [.d (.bool x.2.1)])]) (fun x=>x.1.length≤60∧x.2.2.1.length≤60∧PS x.2.1 x.2.2.1 x.2.2.2∧bp a b=cmpL (Nm.split x.1).reverse x.2.2.2) (fun x=>x.1.length) (a,b != [46],b,(Nm.labels b).reverse) ⟨qc,qd,by by_cases h:b=[46] <;> simp [PS,Nm.labels,h],by simp [bp,Nm.labels,hr]⟩ ?_ ?_
 ·exact sZ
 rintro ⟨rest,more,rb,R⟩ ⟨k1,k2,k3,k4⟩ IH;simp only at k1 k2 k3 k4;obtain ⟨i,x,P,e1,e2,e3,e4,e5,e6,e7⟩:=zx rest;have c1:=zw rest (by unfold maxLen; omega);have hw:IntKind.i64.wrap (i+1)=i+1:=wrap64 (by omega) (by omega);rw [e5,List.reverse_append,List.reverse_singleton,List.singleton_append] at k4;rw [e1] at c1;refine I.head af Tryz.func233 2000 ?_;(conv=>whnf);refine ao (c1) ?_;refine gO Tryz.func233 ?_;refine bc ⟨by rw [hw]; simp; omega,by rw [hw]; simp; omega,by simp⟩ ?_;refine gO Tryz.func233 ?_;rw [hw];simp only [Option.getD_none,Option.getD_some,Int.toNat_natCast,List.take_length,e4];refine I.yield 0 rfl rfl rfl (bg rfl) (l8 (bg rfl)) rfl ?_;(conv=>whnf);refine gO Tryz.func298 ?_;refine I.begin 0 rfl rfl rfl ?_;(conv=>whnf);refine gO Tryz.func298 ?_;cases R with
 |nil =>
  obtain rfl:more=false:=by
   cases more
   ·rfl
   ·exact absurd (List.reverse_eq_nil_iff.1 k3) (Nm.l7 rb)
  with_reducible refine bF (PW rb) ?_
  refine gO Tryz.func298 ?_;refine aY ?_;refine gO Tryz.func298 ?_;refine I.zt 0 rfl rfl rfl ?_;(conv=>whnf);refine gO Tryz.func233 ?_;refine aV (by decide) ?_;refine gO Tryz.func233 ?_;refine aY ?_;refine gO Tryz.func233 ?_;refine I.jr af Tryz.func233 rfl rfl rfl rfl (fun e=>nomatch e) ?_;(conv=>whnf);refine gO Tryz.func298 ?_;refine I.kx af Tryz.func298 rfl rfl rfl rfl rfl ?_;rw [k4];rfl
 |cons y R =>
  obtain rfl:more=true:=by
   cases more
   ·exact absurd k3 (by simp [PS])
   ·rfl
  with_reducible refine jK (PX rb k2 k3) ?_
  rintro r h1 ⟨rfl,m,rr,rfl,q1,q2⟩;have c3:=PU x y;rw [Iu] at c3;refine gO Tryz.func298 ?_;refine aQ ?_;refine gO Tryz.func298 ?_;refine ao (c3) ?_;refine gO Tryz.func298 ?_;by_cases lg:x=y
  ·subst lg;rw [jT];refine aW (by simp) ?_;refine gO Tryz.func298 ?_;refine I.nN 0 rfl rfl rfl ?_;(conv=>whnf);refine gO Tryz.func233 ?_;refine aW (by decide) ?_;refine gO Tryz.func233 ?_;have k5:bp a b=cmpL P.reverse R:=by rw [k4]; simp [cmpL,jT]
   refine ah (fun h5=>?_) (fun h5=>?_)
   ·refine gO Tryz.func233 ?_;refine I.jr af Tryz.func233 rfl rfl rfl rfl (fun e=>nomatch e) ?_;(conv=>whnf);refine gO Tryz.func298 ?_;refine I.kx af Tryz.func298 rfl rfl rfl rfl rfl ?_;rw [e6 (by simpa using h5)] at k5;have:bp a b = -1:=by
     cases R with
     |nil=>exact absurd (nT k5) aJ
     |cons z R=>exact k5
    rw [this];rfl
   ·have h5:0≤i:=by simpa using h5
    refine gO Tryz.func233 ?_;refine bc ⟨by simp,by simp; omega,by simp; omega⟩ ?_;refine gO Tryz.func233 ?_;simp only [Option.getD_none,Option.getD_some,Int.toNat_zero,List.drop_zero];refine I.back (IH (rest.take i.toNat,m,rr,R) ⟨by simp; omega,q2,q1,by simp only; rw [k5,e7 h5]⟩ (by simp; omega)) ?_;exact sZ
  ·refine aV (by split <;> simp [lg]) ?_;refine gO Tryz.func298 ?_;refine I.zt 0 rfl rfl rfl ?_;(conv=>whnf);refine gO Tryz.func233 ?_;refine aV (by decide) ?_;refine gO Tryz.func233 ?_;refine aY ?_;refine gO Tryz.func233 ?_;refine I.jr af Tryz.func233 rfl rfl rfl rfl (fun e=>nomatch e) ?_;(conv=>whnf);refine gO Tryz.func298 ?_;refine I.kx af Tryz.func298 rfl rfl rfl rfl rfl ?_;have:bp a b=if Op.bytesLess x y=true then -1 else if (x==y)=true then 0 else 1:=by
    rw [k4,cmpL];split
    ·rfl
    ·simp [lg]
   rw [this];rfl
def mi (a:Text) (s:Int) (b:Text) (t:Int):Int:=if a≠b then bp a b else iq s t
theorem IB (a:Text) (s:Int) (b:Text) (t:Int) (ha:Nm.valid a=true) (hb:Nm.valid b=true):aq E 244 [.str a,.int .i64 s,.str b,.int .i64 t] (· = .int .i64 (mi a s b t)):=by
 refine eP Tryz.func244 ?_;repeat' (first | with_reducible refine ao (Dv _ _ ha hb) ?_ | with_reducible refine au (Dv _ _ ha hb) ?_ | with_reducible refine ao (zz _ _) ?_ | with_reducible refine au (zz _ _) ?_ | with_reducible refine cY ?_ | with_reducible refine cN ?_ | with_reducible refine ah (fun _=>?_) (fun _=>?_) | refine gA Tryz.func244 ?_ | refine gB ?_ | with_reducible rfl)
 all_goals simp_all [mi]
theorem uA (a b:cP):mi a.name a.type b.name b.type=mc a b:=by
 unfold mi mc;by_cases h:a.name=b.name
 ·simp [h,mR]
 ·have:bp a.name b.name≠0:=fun e=>h (nT e);simp [h,this]
end Go.Proofs.YtfmdaiojokniiaaGreatDoor.P
end
section
namespace Go.Proofs.YtfmdaiojokniiaaGreatDoor.P
open Go Go.ax
set_option maxRecDepth 100000
set_option maxHeartbeats 4000000
def sh (s:Signed) (q:bw):Int:=mi s.set.name s.set.type q.name q.type
theorem PY {a b:Int}:iq a b=0↔a=b:=by
 unfold iq;split
 ·omega
 ·split <;> omega
theorem zR {s:Signed} {q:bw}:(sh s q==0)=cE q s:=by
 rw [Bool.eq_iff_iff,beq_iff_eq];unfold sh mi cE;by_cases h:s.set.name=q.name
 ·simp [h,PY]
 ·have:bp s.set.name q.name≠0:=fun e=>h (nT e);simp [h,this]
def fc (l:List Signed):Prop:=∀ (i j:Nat) (x y:Signed),i<j→l[i]? = some x→l[j]? = some y→mc x.set y.set<0
theorem PZ {a b c:Int} (h:iq a b<0) (k:iq b c<0):iq a c<0:=by
 unfold iq at *;repeat' split at h
 all_goals first | omega | skip
 repeat' split at k
 all_goals first | omega | skip
 repeat' split
 all_goals omega
theorem Dw {a b c:Text} {s t u:Int} (h:mi a s b t<0) (k:mi b t c u<0):mi a s c u<0:=by
 unfold mi at *;by_cases e1:a=b
 ·subst e1;simp only [ne_eq,not_true_eq_false,if_false] at h;by_cases e2:a=c
  ·subst e2;simp only [ne_eq,not_true_eq_false,if_false] at k ⊢;exact PZ h k
  ·simp only [ne_eq,e2,not_false_eq_true,if_true] at k ⊢;exact k
 ·simp only [ne_eq,e1,not_false_eq_true,if_true] at h;by_cases e2:b=c
  ·subst e2;simp only [ne_eq,e1,not_false_eq_true,if_true];exact h
  ·simp only [ne_eq,e2,not_false_eq_true,if_true] at k;have:=xi h k;have e3:a≠c:=by
    rintro rfl;rw [mR] at this;omega
   simp only [ne_eq,e3,not_false_eq_true,if_true];exact this
theorem IC (s:Signed) (q:bw) (hs:Nm.valid s.set.name=true) (hq:Nm.valid q.name=true):aq E 290 [s.enc,q.enc] (· = .int .i64 (sh s q)):=by
 refine eP Tryz.func290 ?_
 with_reducible refine ao (IB _ _ _ _ hs hq) ?_
 refine gO Tryz.func290 ?_;rfl
theorem ID {i j:Nat} (h:i+j≤4294967296):IntKind.i64.wrap (oy .shr .u64 (IntKind.u64.wrap (IntKind.i64.wrap ((i:Int)+j))) (Int.toNat 1))=(((i+j) / 2:Nat):Int):=by
 rw [wrap64 (n:=(i:Int)+j) (by omega) (by omega)];have e1:IntKind.u64.wrap ((i:Int)+j)=(i:Int)+j:=by
  simp [IntKind.wrap,IntKind.signed,IntKind.bits];omega
 rw [e1];have e2:oy .shr .u64 ((i:Int)+j) (Int.toNat 1)=(((i+j) / 2:Nat):Int):=by
  show ((i:Int)+j).fdiv (2 ^ 1)=_;rw [Int.fdiv_eq_ediv_of_nonneg _ (by decide)];omega
 rw [e2,wrap64 (by omega) (by omega)]
theorem P0 (l:List Signed) (q:bw) (hl:l.length≤1000000) (hv:∀ s∈l,Nm.valid s.set.name=true) (hq:Nm.valid q.name=true) (hs:fc l) :
  aw E 289 [] [.d (wT l),.d q.enc,.fn (.func 290) [] []] (fun a b=>(∃ i:Nat,i≤l.length∧a = .aF [.d (.int .i64 i),.d (.bool (l.any (cE q)))]∧∀ j x,l[j]? = some x→cE q x=true→j=i)∧b=[.cells [.d (.str q.name),.d (.int .i64 q.type)]]):=by
 refine aw.run af (fn:=Tryz.f289) Tryz.func289 (body:=Tryz.f289.body.getD .skip) rfl (by decide) 2000 rfl ?_;(conv=>whnf);refine I.loop (κ:=Nat × Nat) [9,10,11,15,16,17,18,19,20,21,22,23,24,25,26,27,28,29,30,31,32,33,34] (fun k=>[(9,.d (.int .i64 k.1)),(10,.d (.int .i64 k.2))]) (fun _=>[]) (fun k=>k.1≤k.2∧k.2≤l.length∧(∀ m x,m<k.1→l[m]? = some x→sh x q<0)∧(∀ m x,k.2≤m→l[m]? = some x→¬ sh x q<0)) (fun k=>k.2 - k.1) (0,l.length) ⟨Nat.zero_le _,Nat.le_refl _,fun m x h=>by omega,fun m x h hx=>by have:=aT hx; omega⟩ ?_ ?_
 ·(conv=>whnf);repeat (first | exact trivial | (refine And.intro (by first | with_reducible rfl | exact congrArg (DV.int .i64) (by omega) | exact congrArg (DV.int .i64) (by simp) | exact congrArg (DV.int .i64) (wrap64 (by omega) (by omega)) | exact congrArg (DV.int .i64) ((wrap64 (by omega) (by omega)).trans (by omega))) ?_; conv=>whnf))
 ·rintro ⟨i,j⟩ hk IH;obtain ⟨k1,k2,k3,k4⟩:=hk;simp only at k1 k2 k3 k4;refine I.head af Tryz.func289 2000 ?_;(conv=>whnf);refine ah (fun h5=>?_) (fun h5=>?_)
  ·have ai:i<j:=by simpa using h5
   obtain ⟨x,hx⟩:=aD (l:=l) (k:=(i+j) / 2) (by omega);have cy:=hv x (List.mem_of_getElem? hx);have xk:=ID (i:=i) (j:=j) (by omega);refine gO Tryz.func289 ?_;refine bc (by decide) ?_;refine gO Tryz.func289 ?_;refine I.bH af bI 2000 (by kernel_rfl) ?_;(conv=>whnf);rw [show IntKind.i64.wrap (oy .shr .u64 (IntKind.u64.wrap (IntKind.i64.wrap (((i,j).fst:Int)+((i,j).snd:Int)))) (Int.toNat 1))=(((i+j) / 2:Nat):Int) from xk];refine aB (aN hx) rfl ?_;refine gD ?_;refine au (IC x q cy hq) ?_;refine gD ?_;refine gO Tryz.func289 ?_;refine ah (fun h6=>?_) (fun h6=>?_)
   ·have hc:sh x q<0:=by simpa using h6
    refine gO Tryz.func289 ?_;refine I.back (IH ((i+j) / 2+1,j) ⟨by simp only; omega,k2,fun m y hm hy=>?_,k4⟩ (by simp only; omega)) ?_
    ·simp only at hm;rcases Nat.lt_or_ge m ((i+j) / 2) with h | h
     ·have h1:=hs m ((i+j) / 2) y x h hy hx;rw [← uA] at h1;exact Dw h1 hc
     ·obtain rfl:m=(i+j) / 2:=by omega
      rw [hx] at hy;cases hy;exact hc
    ·exact sZ
   ·have hc:¬ sh x q<0:=by simpa using h6
    refine gO Tryz.func289 ?_;refine I.back (IH (i,(i+j) / 2) ⟨by simp only; omega,by simp only; omega,k3,fun m y hm hy=>?_⟩ (by simp only; omega)) ?_
    ·simp only at hm;rcases Nat.lt_or_ge ((i+j) / 2) m with h | h
     ·intro P1;have h1:=hs ((i+j) / 2) m x y h hx hy;rw [← uA] at h1;exact hc (Dw h1 P1)
     ·obtain rfl:m=(i+j) / 2:=by omega
      rw [hx] at hy;cases hy;exact hc
    ·exact sZ
  ·have aC:i=j:=by simp at h5; omega
   subst aC;have only:∀ m y,l[m]? = some y→cE q y=true→m=i:=fun m y hy ha=>by
    rw [← zR,beq_iff_eq] at ha;rcases Nat.lt_trichotomy m i with h | h | h
    ·have:=k3 m y h hy; omega
    ·exact h
    ·obtain ⟨x,hx⟩:=aD (l:=l) (k:=i) (by have:=aT hy; omega);have h1:=hs i m x y h hx hy;rw [← uA] at h1;have h2:=k4 i x (Nat.le_refl _) hx;have h3:mi x.set.name x.set.type q.name q.type<0:=by
      have e:y.set.name=q.name∧y.set.type=q.type:=by
       have:cE q y=true:=by rw [← zR,beq_iff_eq]; exact ha
       simpa [cE] using this
      rw [e.1,e.2] at h1;exact h1
     exact absurd h3 h2
   rcases Nat.lt_or_ge i l.length with hi | hi
   ·obtain ⟨x,hx⟩:=aD hi;have cy:=hv x (List.mem_of_getElem? hx);have Dx:l.any (cE q)=cE q x:=by
     cases ha:cE q x
     ·rw [← Bool.not_eq_true,List.any_eq_true];rintro ⟨y,hy,xl⟩;obtain ⟨m,hm⟩:=List.getElem?_of_mem hy;obtain rfl:=only m y hm xl;rw [hx] at hm;cases hm;rw [ha] at xl;cases xl
     ·rw [List.any_eq_true];exact ⟨x,List.mem_of_getElem? hx,ha⟩
    refine gO Tryz.func289 ?_;refine I.bH af bI 2000 (by kernel_rfl) ?_;(conv=>whnf);refine aV (by simp; omega) ?_;refine gD ?_;refine aB (aN hx) rfl ?_;refine gD ?_;refine au (IC x q cy hq) ?_;refine gD ?_;refine gO Tryz.func289 ?_;exact ⟨⟨i,by omega,by rw [Dx,← zR],only⟩,rfl⟩
   ·have Dx:l.any (cE q)=false:=by
     rw [← Bool.not_eq_true,List.any_eq_true];rintro ⟨y,hy,xl⟩;obtain ⟨m,hm⟩:=List.getElem?_of_mem hy;obtain rfl:=only m y hm xl;have:=aT hm;omega
    refine gO Tryz.func289 ?_;refine I.bH af bI 2000 (by kernel_rfl) ?_;(conv=>whnf);refine aW (by simp; omega) ?_;refine gD ?_;refine gO Tryz.func289 ?_;exact ⟨⟨i,by omega,by rw [Dx],only⟩,rfl⟩
theorem Dy (z:aR) (q:bw) (hl:z.ab.length≤1000000) (hv:∀ s∈z.ab,Nm.valid s.set.name=true) (hq:Nm.valid q.name=true) (hs:fc z.ab) :
  aq E 235 [z.enc,q.enc] (fun r=>∃ i:Nat,i≤z.ab.length∧r = .aF [.int .i64 i,.bool (z.ab.any (cE q))]∧∀ j x,z.ab[j]? = some x→cE q x=true→j=i):=by
 refine eP Tryz.func235 ?_;refine jK (P0 z.ab q hl hv hq hs) ?_;rintro r h1 ⟨⟨i,hi,rfl,ho⟩,rfl⟩;refine gO Tryz.func235 ?_;exact ⟨i,hi,rfl,ho⟩
theorem Dz {t:Text} (h:Nm.valid t=true):kz t=Nm.fX t:=by
 unfold kz Nm.labels;by_cases hr:t=[46]
 ·subst hr; rfl
 ·rw [if_neg hr];have hp:Nm.parts (Nm.split t)=true:=by
   simp only [Nm.valid,Bool.or_eq_true,decide_eq_true_eq,Bool.and_eq_true] at h;rcases h with h | h
   ·exact absurd h hr
   ·exact h.2
  cases t with
  |nil=>rfl
  |cons c r =>
   by_cases hc:c=46
   ·subst hc;simp [Nm.split,Nm.parts,Nm.label] at hp
   ·obtain ⟨x,u,h1,h2⟩:=Nm.nI c r hc;rw [h2] at hp ⊢;simp only [Nm.parts,Bool.and_eq_true,Bool.or_eq_true] at hp;show (c::x==[42])=(c==42);rcases hp.2.1 with hl | hl
    ·have h0:Nm.nJ (c::x) 0=true:=by
      simp only [Nm.label,decide_eq_true_eq] at hl;exact hl.2.2 0 (by simp)
     have aJ:(c==42)=false:=by
      rw [← Bool.not_eq_true];intro e;have:c=42:=by simpa using e
      subst this;simp [Nm.nJ,Nm.CG] at h0
     have P2:c≠42:=by simpa using aJ
     rw [aJ];simp [P2]
    ·have:c::x=[42]:=by simpa using hl
     injection this with e1 e2;subst e1;subst e2;rfl
theorem zS {s z:Text} (hs:Nm.valid s=true) (hz:Nm.valid z=true):Nm.nM s z=Nm.under s z:=by simp [Nm.nM,hs,hz]
theorem IE (z:aR) (hf:z.Fits):aq E 168 [z.enc] (· = .bool (mg z)):=by
 obtain ⟨aj,l⟩:=z;have mG:aj.length≤maxLen:=hf.aj;have fS:∀ s∈l,s.set.Fits:=hf.ab;unfold mg;simp only;cases hv:Nm.valid aj
 ·refine eP Tryz.func168 ?_
  with_reducible refine ao (fZ _ mG) ?_
  refine gO Tryz.func168 ?_;rw [hv];refine aV rfl ?_;refine gO Tryz.func168 ?_;refine aY ?_;refine gO Tryz.func168 ?_;refine aY ?_;refine gO Tryz.func168 ?_;simp
 ·have o0:=eB hv;rw [Dz hv];refine eP Tryz.func168 ?_
  with_reducible refine ao (fZ _ mG) ?_
  refine gO Tryz.func168 ?_;rw [hv];refine aW rfl ?_;refine gO Tryz.func168 ?_
  with_reducible refine ao (zA _ _) ?_
  refine gO Tryz.func168 ?_;rw [show preB aj _=Nm.fX aj from HM aj];cases hw:Nm.fX aj
  case true =>
   refine aY ?_;refine gO Tryz.func168 ?_;refine aY ?_;refine gO Tryz.func168 ?_;simp
  refine aQ ?_;refine gO Tryz.func168 ?_;refine ah (fun h3=>?_) (fun h3=>?_)
  ·refine gO Tryz.func168 ?_;simp only [List.length_map] at h3;rw [h3];simp
  ·simp only [List.length_map] at h3;rw [h3];simp only [Bool.not_false,Bool.true_and];have ux:l.length≤20000:=by simp at h3; omega
   refine gO Tryz.func168 ?_;refine I.loop (κ:=Nat) (rg 2 6++rg 30 44) (fun k=>[(30,.d (.int .i64 k))]) (fun _=>[]) (fun k=>k≤l.length∧chain (eC aj) fK none l=chain (eC aj) fK (bK l k) (l.drop k)∧∀ q,bK l k=some q→ev q.set=true) (fun k=>l.length - k) 0 ⟨Nat.zero_le _,rfl,fun q h=>by simp [bK] at h⟩ ?_ ?_
   ·exact sZ
   ·intro k hk IH;refine I.head af Tryz.func168 2000 ?_;(conv=>whnf);refine ah (fun h5=>?_) (fun h5=>?_)
    ·have ai:k<l.length:=by simpa using h5
     obtain ⟨x,hx⟩:=aD ai;have aE:=ur (ok:=eC aj) (rel:=fK) hx;rw [← hk.2.1] at aE;have mh:=fS x (List.mem_of_getElem? hx);have se:bK l (k+1)=some x:=by simp [bK,hx]
     cases hs:ev x.set
     ·refine gO Tryz.func168 ?_;refine aB (aN hx) rfl ?_;refine gO Tryz.func168 ?_
      with_reducible refine ao (uo x.set mh) ?_
      refine gO Tryz.func168 ?_;rw [hs];refine aV rfl ?_;refine gO Tryz.func168 ?_;rw [aE,eC,hs];simp
     ·have cy:=sd hs;have im:=eB cy;have o6:=uk x.set.name aj (by unfold maxLen; omega) mG;rw [zS cy hv] at o6;refine gO Tryz.func168 ?_;refine aB (aN hx) rfl ?_;refine gO Tryz.func168 ?_
      with_reducible refine ao (uo x.set mh) ?_
      refine gO Tryz.func168 ?_;rw [hs];refine aW rfl ?_;refine gO Tryz.func168 ?_
      with_reducible refine ao (o6) ?_
      refine gO Tryz.func168 ?_;cases hu:Nm.under x.set.name aj
      ·refine aV rfl ?_;refine gO Tryz.func168 ?_;rw [aE,eC,hu];simp
      ·have aM:eC aj x=true:=by simp [eC,hs,hu]
       refine aW rfl ?_;refine gO Tryz.func168 ?_;rcases Nat.eq_zero_or_pos k with cJ | cJ
       ·have dA:bK l k=none:=by simp [bK,cJ]
        rw [dA] at aE;dsimp only at aE;rw [Bool.and_true,aM,Bool.true_and] at aE;refine aV (by simp [cJ]) ?_;refine gO Tryz.func168 ?_;refine I.back (IH (k+1) ⟨by omega,aE,fun q hq=>by rw [se] at hq; cases hq; exact hs⟩ (by omega)) ?_;exact sZ
       ·obtain ⟨q,hq,dA⟩:=qh cJ hk.1;have zN:=sd (hk.2.2 q dA);rw [dA] at aE;dsimp only at aE;rw [aM,Bool.true_and] at aE;have hc:=IB q.set.name q.set.type x.set.name x.set.type zN cy;rw [uA] at hc;refine aW (by simp; omega) ?_;refine gO Tryz.func168 ?_;refine aB (l9 hq cJ (by omega)) rfl ?_;refine gO Tryz.func168 ?_
        with_reducible refine ao (hc) ?_
        refine gO Tryz.func168 ?_;refine ah (fun h8=>?_) (fun h8=>?_)
        ·have hb:fK q x=false:=by simp at h8; simp [fK]; omega
         refine gO Tryz.func168 ?_;rw [aE,hb,Bool.false_and]
        ·have hb:fK q x=true:=by simp at h8; simp [fK]; omega
         refine gO Tryz.func168 ?_;refine I.back (IH (k+1) ⟨by omega,by rw [aE,hb,Bool.true_and],fun q hq=>by rw [se] at hq; cases hq; exact hs⟩ (by omega)) ?_;exact sZ
    ·have aC:l.length≤k:=by simpa using h5
     refine gO Tryz.func168 ?_;rw [hk.2.1,List.drop_of_length_le aC];rfl
theorem IF {l:List Signed} {q:bw}:l.any (cE q) = !(decide (aU l q<0)):=by
 unfold aU;cases h:l.findIdx? (cE q) with
 |none =>
  have h1:=List.findIdx?_eq_none_iff.1 h;have:l.any (cE q)=false:=by
   rw [← Bool.not_eq_true,List.any_eq_true];rintro ⟨x,hx,ha⟩;rw [h1 x hx] at ha;cases ha
  rw [this];rfl
 |some i =>
  obtain ⟨hi,ha,-⟩:=List.findIdx?_eq_some_iff_getElem.1 h;have:l.any (cE q)=true:=List.any_eq_true.2 ⟨_,List.getElem_mem hi,ha⟩;rw [this];simp
theorem P3 (z:aR) (hl:z.ab.length≤1000000) (hv:∀ s∈z.ab,Nm.valid s.set.name=true) (hq:Nm.valid z.aj=true) (hs:fc z.ab):aq E 169 [z.enc] (· = .bool (oZ z)):=by
 have f1:=Dy z ⟨z.aj,4⟩ hl hv hq hs;have f2:=Dy z ⟨z.aj,2⟩ hl hv hq hs;obtain ⟨aj,l⟩:=z;simp only at *;unfold oZ;simp only [← IF];refine eP Tryz.func169 ?_;refine I.l4 ?_;refine I.run af Tryz.func169 2000 ?_;(conv=>whnf);refine aV (by decide) ?_;refine gO Tryz.func169 ?_;refine eu (.int .i64 4) (by decide) rfl rfl ?_;refine gO Tryz.func169 ?_
 with_reducible refine wk (f1) ?_
 rintro r ⟨i,-,rfl,-⟩;refine gO Tryz.func169 ?_;cases h1:l.any (cE ⟨aj,4⟩)
 ·refine aV rfl ?_;refine gO Tryz.func169 ?_;rfl
 refine aW rfl ?_;refine gO Tryz.func169 ?_;refine I.again ?_;refine I.run af Tryz.func169 2000 ?_;(conv=>whnf);refine aV (by decide) ?_;refine gO Tryz.func169 ?_;refine eu (.int .i64 2) (by decide) rfl rfl ?_;refine gO Tryz.func169 ?_
 with_reducible refine wk (f2) ?_
 rintro r ⟨j,-,rfl,-⟩;refine gO Tryz.func169 ?_;cases h2:l.any (cE ⟨aj,2⟩)
 ·refine aV rfl ?_;refine gO Tryz.func169 ?_;rfl
 refine aW rfl ?_;refine gO Tryz.func169 ?_;refine I.again ?_;refine I.run af Tryz.func169 2000 ?_;(conv=>whnf);refine aW (by decide) ?_;refine gO Tryz.func169 ?_;simp only [Bool.true_and];refine I.loop (κ:=Nat) ([2,8]++rg 32 17) (fun k=>[(32,.d (.int .i64 k))]) (fun _=>[]) (fun k=>k≤l.length∧(l.take k).all (fun s=>r9 s.set.type (s.set.name==aj))=true) (fun k=>l.length - k) 0 ⟨Nat.zero_le _,rfl⟩ ?_ ?_
 ·exact sZ
 ·intro k hk IH;refine I.head af Tryz.func169 2000 ?_;(conv=>whnf);refine ah (fun h5=>?_) (fun h5=>?_)
  ·have ai:k<l.length:=by simpa using h5
   obtain ⟨x,hx⟩:=aD ai;refine gO Tryz.func169 ?_;repeat' (first | with_reducible refine aB (aN hx) rfl ?_ | with_reducible refine ao (Ip _ _) ?_ | with_reducible refine au (Ip _ _) ?_ | with_reducible refine cY ?_ | with_reducible refine cN ?_ | with_reducible refine ah (fun _=>?_) (fun _=>?_) | refine gA Tryz.func169 ?_ | refine gB ?_ | with_reducible rfl)
   all_goals first
    |(rw [cX hx (by simp_all)]; done)
    |skip
   all_goals
    refine gO Tryz.func169 ?_;refine I.back (IH (k+1) ⟨by omega,dh hk.2 hx (by simp_all)⟩ (by omega)) ?_;exact sZ
  ·have aC:l.length≤k:=by simpa using h5
   refine gO Tryz.func169 ?_;rw [jS hk.2 aC]
end Go.Proofs.YtfmdaiojokniiaaGreatDoor.P
end
section
namespace Go.Proofs.YtfmdaiojokniiaaGreatDoor.P
open Go Go.ax
set_option maxRecDepth 100000
set_option maxHeartbeats 4000000
def qp (aj:Text) (l:List Signed):List (DV × DV):=l.foldl (fun es s=>if gu aj s then bM (.str s.set.name) (.bool true) es else es) []
theorem P4 {aj:Text} {l:List Signed} {k:Nat} {x:Signed} (h:l[k]? = some x):qp aj (l.take (k+1))=if gu aj x then bM (.str x.set.name) (.bool true) (qp aj (l.take k)) else qp aj (l.take k):=by
 rw [cQ h,qp,List.foldl_append];rfl
theorem zT (a b:Text):dY (.str a) (.str b)=(a==b):=rfl
def StrKeys (es:List (DV × DV)):Prop:=∀ p∈es,∃ s,p.1=DV.str s
theorem IG {n:Text} {v:DV}:∀ {es:List (DV × DV)},StrKeys es→StrKeys (bM (.str n) v es)
 | [],_,p,hp=>by simp [bM] at hp; subst hp; exact ⟨_,rfl⟩
 |q::es,h,p,hp=>by
  unfold bM at hp;split at hp
  ·rcases List.mem_cons.1 hp with rfl | hp
   ·exact ⟨_,rfl⟩
   ·exact h p (List.mem_cons_of_mem _ hp)
  ·rcases List.mem_cons.1 hp with rfl | hp
   ·exact h _ (List.mem_cons_self ..)
   ·exact IG (fun r hr=>h r (List.mem_cons_of_mem _ hr)) p hp
theorem II {n m:Text} {v:DV}:∀ {es:List (DV × DV)},StrKeys es→findD (.str m) (bM (.str n) v es)=if m==n then some v else findD (.str m) es
 | [],_=>by simp [bM,findD,zT]
 |q::es,h=>by
  obtain ⟨s,hs⟩:=h q (List.mem_cons_self ..);obtain ⟨q1,q2⟩:=q;simp only at hs;subst hs;unfold bM;simp only [zT];by_cases e:n=s
  ·subst e;simp only [beq_self_eq_true,if_true,findD,zT];by_cases e2:m=n
   ·simp [e2]
   ·simp [e2]
  ·have ih:=II (n:=n) (m:=m) (v:=v) (es:=es) (fun r hr=>h r (List.mem_cons_of_mem _ hr));have e':(n==s)=false:=by simpa using e
   simp only [e',Bool.false_eq_true,if_false,findD,zT,ih];by_cases e2:m=s
   ·subst e2;have:(m==n)=false:=by simpa using fun h=>e h.symm
    simp [this]
   ·simp [e2]
theorem DA (aj:Text) (l:List Signed):StrKeys (qp aj l)∧∀ n,findD (.str n) (qp aj l)=if (bR aj l).contains n then some (.bool true) else none:=by
 have main:∀ (l:List Signed) (es:List (DV × DV)) (C:List Text),StrKeys es→(∀ n,findD (.str n) es=if C.contains n then some (.bool true) else none) →
   StrKeys (l.foldl (fun es s=>if gu aj s then bM (.str s.set.name) (.bool true) es else es) es)∧∀ n,findD (.str n) (l.foldl (fun es s=>if gu aj s then bM (.str s.set.name) (.bool true) es else es) es)=if (C++bR aj l).contains n then some (.bool true) else none:=by
  intro l
  induction l with
  |nil=>intro es C h1 h2; exact ⟨h1,by simpa [bR] using h2⟩
  |cons s l ih =>
   intro es C h1 h2;cases hc:gu aj s
   ·have e:bR aj (s::l)=bR aj l:=by simp [bR,hc]
    simp only [List.foldl_cons,hc,Bool.false_eq_true,if_false,e];exact ih es C h1 h2
   ·have e:bR aj (s::l)=s.set.name::bR aj l:=by simp [bR,hc]
    simp only [List.foldl_cons,hc,if_true,e]
    have:=ih (bM (.str s.set.name) (.bool true) es) (C++[s.set.name]) (IG h1) (fun n=>by
     rw [II h1,h2 n];by_cases h:n=s.set.name
     ·simp [h]
     ·simp [h])
    simpa using this
 have:=main l [] [] (fun p hp=>by simp at hp) (fun n=>by simp [findD])
 simpa [qp] using this
def fB (C:List Text) (cut n:Text):Text:=if (if cut != [] && !Nm.under n cut then [] else cut)==[]&&C.contains n then n else (if cut != [] && !Nm.under n cut then [] else cut)
def nU (C:List Text):Text→List Text→List Text
 |_,[]=>[]
 |cut,n::ns=>fB C cut n::nU C (fB C cut n) ns
theorem IJ (C:List Text):∀ (k:Text) (ns:List Text),(nU C k ns).length=ns.length
 |_,[]=>rfl
 |k,n::ns=>by simp [nU,IJ C _ ns]
def uB (z:aR):List Text:=nU (bR z.aj z.ab) [] (z.ab.map (·.set.name))
theorem P5 (z:aR):(uB z).length=z.ab.length:=by simp [uB,IJ]
theorem xm {C:List Text} {cut n:Text} (hn:Nm.valid n=true) (hc:cut=[]∨Nm.valid cut=true):fB C cut n=[]∨Nm.valid (fB C cut n)=true:=by
 cases h:(cut != [] && !Nm.under n cut)
 ·simp only [fB,h,Bool.false_eq_true,if_false];split
  ·exact .inr hn
  ·exact hc
 ·simp only [fB,h,if_true];split
  ·exact .inr hn
  ·exact .inl rfl
theorem P6 (z:aR) (hl:z.ab.length≤1000000) (hv:∀ s∈z.ab,Nm.valid s.set.name=true):aq E 170 [z.enc] (· = xg z (uB z)):=by
 have ga:=P5 z;have Dk:uB z=nU (bR z.aj z.ab) [] (z.ab.map (·.set.name)):=rfl;generalize uB z=B at *;obtain ⟨aj,l⟩:=z;simp only at *;refine eP Tryz.func170 ?_;refine gO Tryz.func170 ?_;refine I.loop (κ:=Nat) ([5]++rg 18 22) (fun k=>[(18,.d (.int .i64 k)),(3,.map 2)]) (fun k=>[(2,.map (qp aj (l.take k)))]) (fun k=>k≤l.length) (fun k=>l.length - k) 0 (Nat.zero_le _) ?_ ?_
 ·(conv=>whnf);repeat (first | exact trivial | (refine And.intro (by first | with_reducible rfl | exact congrArg (DV.int .i64) (by omega) | exact rfl | exact congrArg (DV.int .i64) (wrap64 (by omega) (by omega)) | exact congrArg (DV.int .i64) ((wrap64 (by omega) (by omega)).trans (by omega))) ?_; conv=>whnf))
 ·intro k hk IH;refine I.head af Tryz.func170 2000 ?_;(conv=>whnf);refine ah (fun h5=>?_) (fun h5=>?_)
  ·have ai:k<l.length:=by simpa using h5
   obtain ⟨x,hx⟩:=aD ai;have aE:=P4 (aj:=aj) hx;have fe:=(DA aj (l.take k)).1;refine gO Tryz.func170 ?_;repeat' (first | with_reducible refine aB (aN hx) rfl ?_ | with_reducible refine cY ?_ | with_reducible refine cN ?_ | with_reducible refine ah (fun _=>?_) (fun _=>?_) | refine gA Tryz.func170 ?_ | refine gB ?_ | with_reducible rfl)
   all_goals first
    |(refine bc ⟨⟨_, rfl⟩, fe⟩ ?_
      have hc : gu aj x = true := by simp_all [gu])
    |(have hc:gu aj x=false:=by simp_all [gu])
   all_goals
    rw [hc] at aE;refine gO Tryz.func170 ?_;refine I.back (IH (k+1) (by omega) (by omega)) ?_;(conv=>whnf);repeat (first | exact trivial | (refine sI ?_; conv=>whnf))
    refine And.intro (by rw [aE]; simp) ?_;exact sZ
  ·have aC:l.length≤k:=by simpa using h5
   rw [List.take_of_length_le aC];refine gO Tryz.func170 ?_;refine I.bH af bI 2000 (by kernel_rfl) ?_;(conv=>whnf);refine bc (by simp; omega) ?_;refine gD ?_;refine And.intro (by kernel_rfl) ?_;(conv=>whnf);(conv=>whnf);refine gO Tryz.func170 ?_;refine I.loop (κ:=Nat × Text) [7,8,9,10,11,12,51,52,53,54,55,56,57,58,59,60,61,62,63,64,65,66,67,68,69,70,71,72,73,74,75,76,77,78,79,80,81,82] (fun k=>[(51,.d (.int .i64 k.1)),(7,.d (.str k.2))]) (fun k=>[(3,.arr 0 (9,1) ((B.take k.1++List.replicate (l.length - k.1) []).map .str))]) (fun k=>k.1≤l.length∧B.drop k.1=nU (bR aj l) k.2 ((l.drop k.1).map (·.set.name))∧(k.2=[]∨Nm.valid k.2=true)) (fun k=>l.length - k.1) (0,[]) ⟨Nat.zero_le _,by simpa using Dk,.inl rfl⟩ ?_ ?_
   ·(conv=>whnf);repeat (first | exact trivial | (refine sI ?_; conv=>whnf))
    refine And.intro (by simp) ?_;exact sZ
   ·rintro ⟨i,cut⟩ hk IH;simp only at hk;refine I.head af Tryz.func170 2000 ?_;(conv=>whnf);refine ah (fun h5=>?_) (fun h5=>?_)
    ·have ai:i<l.length:=by simpa using h5
     obtain ⟨x,hx⟩:=aD ai;have cy:=hv x (List.mem_of_getElem? hx);have im:=eB cy;have Dl:(l.drop i).map (·.set.name)=x.set.name::(l.drop (i+1)).map (·.set.name):=by
      have e1:l[i]=x:=by simpa [ai] using hx
      rw [List.drop_eq_getElem_cons ai,e1];rfl
     obtain ⟨-,sc,hcut⟩:=hk;rw [Dl,nU] at sc;have eK:B[i]? = some (fB (bR aj l) cut x.set.name):=by
      have:=congrArg (fun l=>l[0]?) sc
      simpa using this
     have gQ:B.drop (i+1)=nU (bR aj l) (fB (bR aj l) cut x.set.name) ((l.drop (i+1)).map (·.set.name)):=by
      have:=congrArg List.tail sc
      simpa using this
     have mO:=(DA aj l).2 x.set.name;have fe:=(DA aj l).1;refine gO Tryz.func170 ?_;refine aB (aN hx) rfl ?_;refine gO Tryz.func170 ?_;rcases zU:cut with _ | ⟨c0,V9⟩
     ·subst zU;refine aW (by simp) ?_;refine gO Tryz.func170 ?_;refine aV (by simp) ?_;refine gO Tryz.func170 ?_;refine ny (.bool false) (.bool false) (v := .bool ((bR aj l).contains x.set.name)) (f:=(bR aj l).contains x.set.name) ⟨_,rfl⟩ fe (fun w=>by kernel_rfl) (fun _ _ => .bool _) (by rw [mO]; split <;> simp_all) (by rw [mO]; split <;> simp_all) ?_;refine gO Tryz.func170 ?_;cases xn:(bR aj l).contains x.set.name
      ·refine aQ ?_;refine gO Tryz.func170 ?_;have hS:fB (bR aj l) ([]:Text) x.set.name=[]:=by simp [fB]; intro h; exact absurd h (by simpa using xn)
       refine bc ⟨by omega,by simp; omega⟩ ?_;refine gO Tryz.func170 ?_;refine eu (.str []) (by omega) (by simp only [Int.toNat_natCast,List.getElem?_map]; rw [ql ga ai]; rfl) rfl ?_;refine gO Tryz.func170 ?_;refine I.back (IH (i+1,[]) ⟨by simp only; omega,by rw [hS] at gQ; exact gQ,by have hq:=xm (C:=bR aj l) cy hcut; rw [hS] at hq; exact hq⟩ (by simp only; omega)) ?_;(conv=>whnf);repeat (first | exact trivial | (refine sI ?_; conv=>whnf))
       refine And.intro (by rw [← qk (e:=[]) (x:=[]) ga (by rw [hS] at eK; exact eK)]; simp [List.map_set]) ?_;exact sZ
      ·refine aY ?_;refine gO Tryz.func170 ?_;have hS:fB (bR aj l) ([]:Text) x.set.name=x.set.name:=by simp [fB]; intro h; exact absurd (by simpa using xn) h
       refine bc ⟨by omega,by simp; omega⟩ ?_;refine gO Tryz.func170 ?_;refine eu (.str []) (by omega) (by simp only [Int.toNat_natCast,List.getElem?_map]; rw [ql ga ai]; rfl) rfl ?_;refine gO Tryz.func170 ?_;refine I.back (IH (i+1,x.set.name) ⟨by simp only; omega,by rw [hS] at gQ; exact gQ,by have hq:=xm (C:=bR aj l) cy hcut; rw [hS] at hq; exact hq⟩ (by simp only; omega)) ?_;(conv=>whnf);repeat (first | exact trivial | (refine sI ?_; conv=>whnf))
       refine And.intro (by rw [← qk (e:=[]) (x:=x.set.name) ga (by rw [hS] at eK; exact eK)]; simp [List.map_set]) ?_;exact sZ
     ·have pA:Nm.valid cut=true:=by
       rcases hcut with h | h
       ·rw [zU] at h; cases h
       ·exact h
      have cH:=eB pA;have o6:=uk x.set.name cut (by unfold maxLen; omega) (by unfold maxLen; omega);rw [zS cy pA] at o6;rw [← zU];have aJ:cut≠[]:=by rw [zU]; simp
      refine aV (by simpa using aJ) ?_;refine gO Tryz.func170 ?_
      with_reducible refine ao (o6) ?_
      refine gO Tryz.func170 ?_;cases hu:Nm.under x.set.name cut
      ·refine aV rfl ?_;refine gO Tryz.func170 ?_;refine aV (by simp) ?_;refine gO Tryz.func170 ?_;refine ny (.bool false) (.bool false) (v := .bool ((bR aj l).contains x.set.name)) (f:=(bR aj l).contains x.set.name) ⟨_,rfl⟩ fe (fun w=>by kernel_rfl) (fun _ _ => .bool _) (by rw [mO]; split <;> simp_all) (by rw [mO]; split <;> simp_all) ?_;refine gO Tryz.func170 ?_;cases xn:(bR aj l).contains x.set.name
       ·refine aQ ?_;refine gO Tryz.func170 ?_;have hS:fB (bR aj l) cut x.set.name=[]:=by simp [fB,hu,aJ]; intro h; exact absurd h (by simpa using xn)
        refine bc ⟨by omega,by simp; omega⟩ ?_;refine gO Tryz.func170 ?_;refine eu (.str []) (by omega) (by simp only [Int.toNat_natCast,List.getElem?_map]; rw [ql ga ai]; rfl) rfl ?_;refine gO Tryz.func170 ?_;refine I.back (IH (i+1,[]) ⟨by simp only; omega,by rw [hS] at gQ; exact gQ,by have hq:=xm (C:=bR aj l) cy hcut; rw [hS] at hq; exact hq⟩ (by simp only; omega)) ?_;(conv=>whnf);repeat (first | exact trivial | (refine sI ?_; conv=>whnf))
        refine And.intro (by rw [← qk (e:=[]) (x:=[]) ga (by rw [hS] at eK; exact eK)]; simp [List.map_set]) ?_;exact sZ
       ·refine aY ?_;refine gO Tryz.func170 ?_;have hS:fB (bR aj l) cut x.set.name=x.set.name:=by simp [fB,hu,aJ]; intro h; exact absurd (by simpa using xn) h
        refine bc ⟨by omega,by simp; omega⟩ ?_;refine gO Tryz.func170 ?_;refine eu (.str []) (by omega) (by simp only [Int.toNat_natCast,List.getElem?_map]; rw [ql ga ai]; rfl) rfl ?_;refine gO Tryz.func170 ?_;refine I.back (IH (i+1,x.set.name) ⟨by simp only; omega,by rw [hS] at gQ; exact gQ,by have hq:=xm (C:=bR aj l) cy hcut; rw [hS] at hq; exact hq⟩ (by simp only; omega)) ?_;(conv=>whnf);repeat (first | exact trivial | (refine sI ?_; conv=>whnf))
        refine And.intro (by rw [← qk (e:=[]) (x:=x.set.name) ga (by rw [hS] at eK; exact eK)]; simp [List.map_set]) ?_;exact sZ
      ·have hS:fB (bR aj l) cut x.set.name=cut:=by simp [fB,hu,aJ]
       refine aW rfl ?_;refine gO Tryz.func170 ?_;refine aW (by simpa using aJ) ?_;refine gO Tryz.func170 ?_;refine aQ ?_;refine gO Tryz.func170 ?_;refine bc ⟨by omega,by simp; omega⟩ ?_;refine gO Tryz.func170 ?_;refine eu (.str []) (by omega) (by simp only [Int.toNat_natCast,List.getElem?_map]; rw [ql ga ai]; rfl) rfl ?_;refine gO Tryz.func170 ?_;refine I.back (IH (i+1,cut) ⟨by simp only; omega,by rw [hS] at gQ; exact gQ,by have hq:=xm (C:=bR aj l) cy hcut; rw [hS] at hq; exact hq⟩ (by simp only; omega)) ?_;(conv=>whnf);repeat (first | exact trivial | (refine sI ?_; conv=>whnf))
       refine And.intro (by rw [← qk (e:=[]) (x:=cut) ga (by rw [hS] at eK; exact eK)]; simp [List.map_set]) ?_;exact sZ
    ·have aC:l.length≤i:=by simpa using h5
     refine gO Tryz.func170 ?_;simp only [show l.length - i=0 by omega,List.replicate_zero,List.append_nil];rw [List.take_of_length_le (by omega)]
end Go.Proofs.YtfmdaiojokniiaaGreatDoor.P
end
section
namespace Go.Proofs.YtfmdaiojokniiaaGreatDoor.P
open Go Go.ax
set_option maxRecDepth 100000
set_option maxHeartbeats 4000000
theorem zV {a b c:Text} (h:bp a b≤0) (k:bp b c≤0):bp a c≤0:=by
 rcases Int.lt_or_eq_of_le h with h | h
 ·rcases Int.lt_or_eq_of_le k with k | k
  ·exact Int.le_of_lt (xi h k)
  ·rw [← nT k]; exact Int.le_of_lt h
 ·rw [nT h]; exact k
theorem IK (a:Text):Nm.under a a=true:=by simp [Nm.under]
def gR (l:List Text):Prop:=∀ (i j:Nat) (x y:Text),i<j→l[i]? = some x→l[j]? = some y→bp x y≤0
def qs (l:List Text):Prop:=∀ (i j:Nat) (x y:Text),i<j→l[i]? = some x→l[j]? = some y→Nm.under y x=false
theorem gR.snoc {l:List Text} {c:Text} (h:gR (l++[c])):gR l∧∀ x∈l,bp x c≤0:=by
 refine ⟨fun i j x y dm hx hy=>h i j x y dm (by rw [List.getElem?_append_left (aT hx)]; exact hx) (by rw [List.getElem?_append_left (aT hy)]; exact hy),fun x hx=>?_⟩;obtain ⟨i,hi⟩:=List.getElem?_of_mem hx;have:=aT hi;exact h i l.length x c this (by rw [List.getElem?_append_left this]; exact hi) (by simp)
theorem si {α:Type} {l:List α} {c x:α} {i:Nat} (h:(l++[c])[i]? = some x):l[i]? = some x∨(i=l.length∧x=c):=by
 rcases Nat.lt_or_ge i l.length with hi | hi
 ·rw [List.getElem?_append_left hi] at h; exact .inl h
 ·rw [List.getElem?_append_right hi] at h;have h0:i - l.length=0:=by
   have:=aT h;simp at this;omega
  rw [h0] at h;simp at h;exact .inr ⟨by omega,h.symm⟩
theorem IL:∀ (C:List Text),gR C→gR (ew C)∧qs (ew C)∧(∀ c∈C,∃ d∈ew C,Nm.under c d=true):=by
 have main:∀ (n:Nat) (C:List Text),C.length=n→gR C→gR (ew C)∧qs (ew C)∧(∀ c∈C,∃ d∈ew C,Nm.under c d=true):=by
  intro n
  induction n with
  |zero =>
   intro C hn _;obtain rfl:C=[]:=List.eq_nil_of_length_eq_zero hn;exact ⟨fun i j x y _ h=>by simp [ew] at h,fun i j x y _ h=>by simp [ew] at h,fun c h=>by simp at h⟩
  |succ n ih =>
   intro C hn hA;rcases List.eq_nil_or_concat C with rfl | ⟨P,c,rfl⟩
   ·simp at hn
   rw [List.concat_eq_append] at *;obtain ⟨P7,P8⟩:=hA.snoc;obtain ⟨i1,i2,i3⟩:=ih P (by simpa using hn) P7;have e:ew (P++[c])=jt (ew P) c:=by rw [ew,List.foldl_append]; rfl
   have hle:∀ d∈ew P,bp d c≤0:=fun d hd=>P8 d (uv d hd);rw [e];generalize ew P=H at *;rcases List.eq_nil_or_concat H with rfl | ⟨H0,d,rfl⟩
   ·have e2:jt [] c=[c]:=rfl;rw [e2];refine ⟨fun i j x y dm hx hy=>?_,fun i j x y dm hx hy=>?_,fun x hx=>?_⟩
    ·have:=aT hy; simp at this; omega
    ·have:=aT hy; simp at this; omega
    ·rcases List.mem_append.1 hx with hx | hx
     ·obtain ⟨d,hd,-⟩:=i3 x hx;simp at hd
     ·simp at hx; subst hx; exact ⟨x,by simp,IK x⟩
   ·rw [List.concat_eq_append] at *;have e2:jt (H0++[d]) c=if Nm.under c d then H0++[d] else H0++[d]++[c]:=by simp [jt]
    rw [e2];cases hu:Nm.under c d
    ·simp only [Bool.false_eq_true,if_false];refine ⟨fun i j x y dm hx hy=>?_,fun i j x y dm hx hy=>?_,fun x hx=>?_⟩
     ·rcases si hy with eS | ⟨rfl,rfl⟩
      ·rcases si hx with hx | ⟨rfl,rfl⟩
       ·exact i1 i j x y dm hx eS
       ·exact absurd (aT eS) (by omega)
      ·rcases si hx with hx | ⟨h,-⟩
       ·exact hle x (List.mem_of_getElem? hx)
       ·omega
     ·rcases si hy with eS | ⟨rfl,rfl⟩
      ·rcases si hx with hx | ⟨rfl,rfl⟩
       ·exact i2 i j x y dm hx eS
       ·exact absurd (aT eS) (by omega)
      ·rcases si hx with hx | ⟨h,-⟩
       ·rcases si hx with zQ | ⟨-,rfl⟩
        ·rw [← Bool.not_eq_true];intro P9;have hd:(H0++[d])[H0.length]? = some d:=by simp
         have jF:=aT zQ;have h1:=i1 i H0.length x d jF hx hd;have h2:=hle d (by simp);have h3:=uz h1 h2 P9;rw [i2 i H0.length x d jF hx hd] at h3;cases h3
        ·exact hu
       ·omega
     ·rcases List.mem_append.1 hx with hx | hx
      ·obtain ⟨q,hq,P'⟩:=i3 x hx;exact ⟨q,List.mem_append_left _ hq,P'⟩
      ·simp at hx; subst hx; exact ⟨x,by simp,IK x⟩
    ·simp only [if_true];refine ⟨i1,i2,fun x hx=>?_⟩;rcases List.mem_append.1 hx with hx | hx
     ·exact i3 x hx
     ·simp at hx; subst hx; exact ⟨d,by simp,hu⟩
 exact fun C=>main C.length C rfl
def o7 (H:List Text) (n r:Text):Prop:=(r∈H∧Nm.under n r=true)∨(r=[]∧∀ d∈H,Nm.under n d=false)
theorem IM {H:List Text} (hA:gR H) (hP:qs H) {n d e:Text} (hd:d∈H) (he:e∈H) (h1:Nm.under n d=true) (h2:Nm.under n e=true):d=e:=by
 obtain ⟨i,hi⟩:=List.getElem?_of_mem hd;obtain ⟨j,hj⟩:=List.getElem?_of_mem he;rcases Nat.lt_trichotomy i j with h | h | h
 ·have:=uz (hA i j d e h hi hj) (xj h2) h1;rw [hP i j d e h hi hj] at this;cases this
 ·subst h; rw [hi] at hj; exact Option.some.inj hj
 ·have:=uz (hA j i e d h hj hi) (xj h1) h2;rw [hP j i e d h hj hi] at this;cases this
theorem o7.unique {H:List Text} (hA:gR H) (hP:qs H) {n r s:Text} (h1:o7 H n r) (h2:o7 H n s):r=s:=by
 rcases h1 with ⟨a1,a2⟩ | ⟨a1,a2⟩
 ·rcases h2 with ⟨b1,b2⟩ | ⟨b1,b2⟩
  ·exact IM hA hP a1 b1 a2 b2
  ·rw [b2 r a1] at a2; cases a2
 ·rcases h2 with ⟨b1,b2⟩ | ⟨b1,b2⟩
  ·rw [a2 s b1] at b2; cases b2
  ·rw [a1,b1]
theorem DB {α:Type} (p:α→Bool):∀ (l:List α),∀ x∈l.takeWhile p,p x=true
 | [],x,h=>by simp at h
 |a::l,x,h=>by
  rw [List.takeWhile_cons] at h;cases ha:p a
  ·rw [ha] at h; simp at h
  ·rw [ha] at h;rcases List.mem_cons.1 h with rfl | h
   ·exact ha
   ·exact DB p l x h
theorem IN {α:Type} (p:α→Bool):∀ (l:List α) (x:α),l[(l.takeWhile p).length]? = some x→p x=false
 | [],x,h=>by simp at h
 |a::l,x,h=>by
  rw [List.takeWhile_cons] at h;cases ha:p a
  ·rw [ha] at h; simp at h; rw [← h]; exact ha
  ·rw [ha] at h;exact IN p l x (by simpa using h)
theorem IP {H:List Text} (hA:gR H) (hP:qs H) {n:Text} {k:Nat} (hk:k≤H.length) (iV:∀ m d,m<k→H[m]? = some d→bp d n≤0) :
  o7 H n (kB H n (dZ H n k))∧(∀ m d,m<dZ H n k→H[m]? = some d→bp d n≤0):=by
 have o0:=zL (n:=n) hk;have low:∀ m d,m<dZ H n k→H[m]? = some d→bp d n≤0:=fun m d hm hd=>by
  rcases Nat.lt_or_ge m k with h | h
  ·exact iV m d h hd
  ·unfold dZ at hm;have h1:(H.drop k)[m - k]? = some d:=by rw [List.getElem?_drop,show k+(m - k)=m by omega]; exact hd
   have h2:=List.takeWhile_prefix (fun c=>decide (bp c n≤0)) (l:=H.drop k);have h3:((H.drop k).takeWhile fun c=>decide (bp c n≤0))[m - k]? = some d:=by
    obtain ⟨r,hr⟩:=h2;rw [← hr,List.getElem?_append_left (by omega)] at h1;exact h1
   simpa using DB _ _ d (List.mem_of_getElem? h3)
 have high:∀ m d,dZ H n k≤m→H[m]? = some d→Nm.under n d=false:=fun m d hm hd=>by
  rw [← Bool.not_eq_true];intro hu;have h1:=xj hu;obtain ⟨e,he⟩:=aD (l:=H) (k:=dZ H n k) (by have:=aT hd; omega);have h2:bp e n≤0:=by
   rcases Nat.lt_or_ge (dZ H n k) m with h | h
   ·exact zV (hA _ m e d h he hd) h1
   ·obtain rfl:m=dZ H n k:=by omega
    rw [he] at hd; cases hd; exact h1
  have h3:(H.drop k)[((H.drop k).takeWhile fun c=>decide (bp c n≤0)).length]? = some e:=by
   rw [List.getElem?_drop]; exact he
  have h6:=IN _ _ e h3;simp at h6;omega
 refine ⟨?_,low⟩;generalize dZ H n k=j at *;unfold kB;by_cases hj:j=0
 ·rw [if_pos hj];refine .inr ⟨rfl,fun d hd=>?_⟩;obtain ⟨m,hm⟩:=List.getElem?_of_mem hd;exact high m d (by omega) hm
 ·rw [if_neg hj];obtain ⟨c,hc⟩:=aD (l:=H) (k:=j - 1) (by omega);rw [hc];dsimp only;cases hu:Nm.under n c
  ·simp only [Bool.false_eq_true,if_false];refine .inr ⟨rfl,fun d hd=>?_⟩;obtain ⟨m,hm⟩:=List.getElem?_of_mem hd;rcases Nat.lt_or_ge m j with h | h
   ·rcases Nat.lt_or_ge m (j - 1) with h' | h'
    ·rw [← Bool.not_eq_true];intro Qa;have:=uz (hA m (j - 1) d c h' hm hc) (low (j - 1) c (by omega) hc) Qa;rw [hP m (j - 1) d c h' hm hc] at this;cases this
    ·obtain rfl:m=j - 1:=by omega
     rw [hc] at hm;cases hm;exact hu
   ·exact high m d h hm
  ·simp only [if_true];exact .inl ⟨List.mem_of_getElem? hc,hu⟩
theorem Qb {C H:List Text} (hA:gR H) (hP:qs H) (o8:∀ d∈H,d∈C) (uC:∀ c∈C,∃ d∈H,Nm.under c d=true) (aJ:∀ c∈C,c≠[]) {cut n:Text} {prev:Option Text}
  (hcut:match prev with | none=>cut=[] | some p=>o7 H p cut) (zW:∀ d∈H,bp d n<0→∃ p,prev=some p∧bp d p≤0) (l5:∀ p,prev=some p→bp p n≤0):o7 H n (fB C cut n):=by
 have key:∀ d∈H,Nm.under n d=true→d≠n→cut=d:=fun d hd hu o9=>by
  have h1:=xj hu;have h2:bp d n<0:=by
   rcases Int.lt_or_eq_of_le h1 with h | h
   ·exact h
   ·exact absurd (nT h) o9
  obtain ⟨p,hp,ju⟩:=zW d hd h2;have h3:=uz ju (l5 p hp) hu;rw [hp] at hcut;exact hcut.unique hA hP (.inl ⟨hd,h3⟩)
 by_cases hc:cut≠[]∧Nm.under n cut=true
 ·have e:fB C cut n=cut:=by simp [fB,hc.1,hc.2]
  rw [e];refine .inl ⟨?_,hc.2⟩;cases prev with
  |none=>exact absurd hcut hc.1
  |some p =>
   rcases hcut with h | h
   ·exact h.1
   ·exact absurd h.1 hc.1
 ·have no:∀ d∈H,Nm.under n d=true→d=n:=fun d hd hu=>by
   apply Classical.byContradiction;intro o9;have:=key d hd hu o9;subst this;exact hc ⟨aJ _ (o8 _ hd),hu⟩
  have e0:(if cut != [] && !Nm.under n cut then [] else cut)=[]:=by
   by_cases h1:cut=[]
   ·simp [h1]
   ·have:Nm.under n cut=false:=by
     rw [← Bool.not_eq_true];exact fun h=>hc ⟨h1,h⟩
    simp [h1,this]
  have e:fB C cut n=if C.contains n then n else []:=by
   simp only [fB,e0];cases C.contains n <;> rfl
  rw [e];cases dy:C.contains n
  ·refine .inr ⟨by simp,fun d hd=>?_⟩;rw [← Bool.not_eq_true];intro hu;have:=no d hd hu;subst this;have:C.contains d=true:=by simpa using o8 d hd
   rw [dy] at this;cases this
  ·simp only [if_true];have hn:n∈C:=by simpa using dy
   obtain ⟨d,hd,hu⟩:=uC n hn;have:=no d hd hu;subst this;exact .inl ⟨hd,hu⟩
theorem IQ {C H:List Text} (hA:gR H) (hP:qs H) (o8:∀ d∈H,d∈C) (uC:∀ c∈C,∃ d∈H,Nm.under c d=true) (aJ:∀ c∈C,c≠[]) :
  ∀ (rest done:List Text) (cut:Text) (k:Nat),gR (done++rest)→(∀ c∈C,c∈done++rest)→k≤H.length→(match done.getLast? with | none=>cut=[] | some p=>o7 H p cut)→(∀ m d,m<k→H[m]? = some d→∃ p,done.getLast? = some p∧bp d p≤0)→nU C cut rest=lp H k rest
 | [],_,_,_,_,_,_,_,_=>rfl
 |n::rest,done,cut,k,pa,aH,hk,hcut,iV=>by
  have l5:∀ p,done.getLast? = some p→bp p n≤0:=fun p hp=>by
   have hl:0<done.length:=by cases done with | nil=>simp at hp | cons=>simp
   rw [List.getLast?_eq_getElem?] at hp;exact pa (done.length - 1) done.length p n (by omega) (by rw [List.getElem?_append_left (by omega)]; exact hp) (by simp)
  have zW:∀ d∈H,bp d n<0→∃ p,done.getLast? = some p∧bp d p≤0:=fun d hd o9=>by
   have:=aH d (o8 d hd);obtain ⟨i,hi⟩:=List.getElem?_of_mem this;have ov:(done++n::rest)[done.length]? = some n:=by simp
   have ai:i<done.length:=by
    rcases Nat.lt_trichotomy i done.length with h | h | h
    ·exact h
    ·subst h; rw [ov] at hi; cases hi; rw [mR] at o9; omega
    ·have h1:=pa done.length i n d h ov hi;have h2:=xh d n;omega
   rw [List.getElem?_append_left ai] at hi;obtain ⟨p,hp⟩:=aD (l:=done) (k:=done.length - 1) (by omega);refine ⟨p,by rw [List.getLast?_eq_getElem?]; exact hp,?_⟩;rcases Nat.lt_or_ge i (done.length - 1) with h | h
   ·exact pa i (done.length - 1) d p h (by rw [List.getElem?_append_left ai]; exact hi) (by rw [List.getElem?_append_left (by omega)]; exact hp)
   ·obtain rfl:i=done.length - 1:=by omega
    rw [hp] at hi; cases hi;rw [mR]; omega
  have f1:=Qb hA hP o8 uC aJ hcut zW l5
  obtain ⟨f2,f3⟩:=IP hA hP (n:=n) hk (fun m d hm hd=>by
   obtain ⟨p,hp,ju⟩:=iV m d hm hd
   exact zV ju (l5 p hp))
  have e:=f1.unique hA hP f2;simp only [nU,lp,e]
  congr 1
  have ih:=IQ hA hP o8 uC aJ rest (done++[n]) (kB H n (dZ H n k)) (dZ H n k) (by simpa using pa) (by simpa using aH) (zL hk) (by simpa using f2) (fun m d hm hd=>⟨n,by simp,f3 m d hm hd⟩);exact ih
end Go.Proofs.YtfmdaiojokniiaaGreatDoor.P
end
