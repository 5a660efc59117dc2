/- Several texts of mine, one behind the other. Conditions: as each says. -/
import Derived.Test.YtfmdaiojokniiaaGreatDoorV15
import Derived.Lib.Bytealg
set_option linter.unusedVariables false
set_option linter.unusedSimpArgs false
section
namespace Go.Proofs.YtfmdaiojokniiaaGreatDoor.P
open Go Go.aw
set_option maxRecDepth 100000
set_option maxHeartbeats 4000000
theorem I1 (t:Int) (ah:Bool):aq E 245 [.int .i64 t,.bool ah] (· = .bool (sK t ah)):=by
 refine eP Tryz.func245 ?_;repeat' (first | with_reducible refine cY ?_ | with_reducible refine cN ?_ | with_reducible refine ai (fun _=>?_) (fun _=>?_) | refine gA Tryz.func245 ?_ | refine gB ?_ | with_reducible rfl)
 all_goals (cases ah <;> simp_all [sK])
theorem I2 (l:List cX) (ah:Text):aq E 246 [uE l,.str ah] (· = .bool (mI l ah)):=by
 unfold mI;have hg:∃ g0,g0=l.headD Aa:=⟨_,rfl⟩;obtain ⟨g0,hg⟩:=hg;rw [← hg];refine eP Tryz.func246 ?_;refine ai (fun h1=>?_) (fun h1=>?_)
 ·refine gO Tryz.func246 ?_;simp only [List.length_map] at h1;rw [decide_eq_false (by simp at h1; omega),Bool.false_and]
 ·have h6:l.length≤6:=by simp at h1; omega
  rw [decide_eq_true (by omega),Bool.true_and];refine gO Tryz.func246 ?_;refine I.loop (κ:=Nat) ([4,5,6]++rg 12 76) (fun k=>[(12,.d (.int .i64 k))]) (fun _=>[]) (fun k=>k≤l.length∧chain (fo ah g0) jc none l=chain (fo ah g0) jc (bT l k) (l.drop k)) (fun k=>l.length - k) 0 ⟨Nat.zero_le _,rfl⟩ ?_ ?_
  ·exact sZ
  ·intro k hk IH;refine I.head af Tryz.func246 2000 ?_;(conv=>whnf);refine ai (fun h5=>?_) (fun h5=>?_)
   ·have aj:k<l.length:=by simpa using h5
    obtain ⟨x,hx⟩:=aL aj;have h0:=II aj;rw [← hg] at h0;have aF:=xD (ok:=fo ah g0) (rel:=jc) hx;rw [← hk.2] at aF;rcases Nat.eq_zero_or_pos k with cH | cH
    ·have dU:bT l k=none:=by simp [bT,cH]
     rw [dU] at aF;dsimp only at aF;rw [Bool.and_true] at aF;have Ak:x=g0:=by subst cH; rw [hx] at h0; exact Option.some.inj h0
     refine gO Tryz.func246 ?_;repeat' (first | with_reducible refine aE (aX hx) rfl ?_ | with_reducible refine cY ?_ | with_reducible refine cN ?_ | with_reducible refine ai (fun _=>?_) (fun _=>?_) | refine gA Tryz.func246 ?_ | refine gB ?_ | with_reducible rfl)
     all_goals first
      |(have bL : fo ah g0 x = false := by clear aF hk IH hg; simp_all [fo] <;> (intros; omega)
        rw [aF, bL, Bool.false_and]
        done)
      |skip
     refine gO Tryz.func246 ?_;refine I.bH af bI 2000 (by kernel_rfl) ?_;(conv=>whnf);repeat' (first | with_reducible refine aE (aX hx) rfl ?_ | with_reducible refine aE (xq h0) rfl ?_ | with_reducible refine cY ?_ | with_reducible refine cN ?_ | with_reducible refine ai (fun _=>?_) (fun _=>?_) | refine gA Tryz.func246 ?_ | refine gB ?_ | with_reducible rfl)
     all_goals first
      |(exfalso; clear aF hk IH hg; simp_all; done)
      |skip
     all_goals
      refine gO Tryz.func246 ?_;refine I.back (IH (k+1) ⟨by omega,by rw [aF,show fo ah g0 x=true by clear aF hk IH hg; simp_all [fo] <;> omega,Bool.true_and]⟩ (by omega)) ?_;exact sZ
    ·obtain ⟨q,hq,dU⟩:=uN cH hk.1;rw [dU] at aF;refine gO Tryz.func246 ?_;repeat' (first | with_reducible refine aE (aX hx) rfl ?_ | with_reducible refine cY ?_ | with_reducible refine cN ?_ | with_reducible refine ai (fun _=>?_) (fun _=>?_) | refine gA Tryz.func246 ?_ | refine gB ?_ | with_reducible rfl)
     all_goals first
      |(have bL : fo ah g0 x = false := by clear aF hk IH hg; simp_all [fo] <;> (intros; omega)
        rw [aF, bL, Bool.false_and, Bool.false_and]
        done)
      |skip
     refine gO Tryz.func246 ?_;refine I.bH af bI 2000 (by kernel_rfl) ?_;(conv=>whnf);repeat' (first | with_reducible refine aE (aX hx) rfl ?_ | with_reducible refine aE (xq h0) rfl ?_ | with_reducible refine aE (nr hq cH (by omega)) rfl ?_ | with_reducible refine cY ?_ | with_reducible refine cN ?_ | with_reducible refine ai (fun _=>?_) (fun _=>?_) | refine gA Tryz.func246 ?_ | refine gB ?_ | with_reducible rfl)
     all_goals first
      |(have bL : (fo ah g0 x && jc q x) = false := by clear aF hk IH hg; simp_all [fo, jc] <;> (intros; omega)
        rw [aF, bL, Bool.false_and]
        done)
      |(exfalso; clear aF hk IH hg; simp_all; omega)
      |skip
     all_goals
      refine gO Tryz.func246 ?_;refine I.back (IH (k+1) ⟨by omega,by rw [aF,show (fo ah g0 x&&jc q x)=true by clear aF hk IH hg; simp_all [fo,jc] <;> omega,Bool.true_and]⟩ (by omega)) ?_;exact sZ
   ·have aC:l.length≤k:=by simpa using h5
    refine gO Tryz.func246 ?_;rw [hk.2,List.drop_of_length_le aC];rfl
@[reducible] def xH (z : aG) (b : List Text) : DV := .agg [.str z.ah, xl z.ab, .sl (b.map .str)]
theorem QC (z:aG) (B:List Text) (hB:B.length=z.ab.length) (hl:z.ab.length≤1000000):aq E 172 [xH z B] (· = .bool ((z.ab.zip B).all fun p=>ov p.1 p.2)):=by
 obtain ⟨ah,l⟩:=z;simp only at *;refine eP Tryz.func172 ?_;refine I.loop (κ:=Nat) (rg 2 4++rg 11 39) (fun k=>[(11,.d (.int .i64 k))]) (fun _=>[]) (fun k=>k≤l.length∧((l.zip B).take k).all (fun p=>ov p.1 p.2)=true) (fun k=>l.length - k) 0 ⟨Nat.zero_le _,rfl⟩ ?_ ?_
 ·exact sZ
 ·intro k hk IH;refine I.head af Tryz.func172 2000 ?_;(conv=>whnf);refine ai (fun h5=>?_) (fun h5=>?_)
  ·have aj:k<l.length:=by simpa using h5
   obtain ⟨x,hx⟩:=aL aj;obtain ⟨b,hb⟩:=aL (l:=B) (k:=k) (by omega);have hz:=uR hx hb;refine gO Tryz.func172 ?_;repeat' (first | with_reducible refine aE (aX hx) rfl ?_ | with_reducible refine aE (aX hb) rfl ?_ | with_reducible refine cY ?_ | with_reducible refine cN ?_ | with_reducible refine ai (fun _=>?_) (fun _=>?_) | refine gA Tryz.func172 ?_ | refine gB ?_ | with_reducible rfl)
   all_goals first
    |(have bL : ov x b = false := by clear hz hb hk IH hx; obtain ⟨⟨nm, ty, lf, dt⟩, sg⟩ := x; rcases b with _ | ⟨c, b⟩ <;> simp_all [ov] <;> first | (rintro rfl; simp_all; done) | (intro h; exact absurd h.symm (by assumption)) | (subst_vars; simp_all; done) | (intros; simp_all; done)
      rw [eX hz bL]
      done)
    |(exfalso; clear hz hb hk IH; rcases b with _ | ⟨c,b⟩ <;> simp_all; done)
    |skip
   all_goals
    refine gO Tryz.func172 ?_;refine I.back (IH (k+1) ⟨by omega,fm hk.2 hz (by clear hz hb hk IH hx; obtain ⟨⟨nm,ty,lf,dt⟩,sg⟩:=x; rcases b with _ | ⟨c,b⟩ <;> simp_all [ov] <;> first | (rintro rfl; simp_all; done) | (intro h; exact absurd h.symm (by assumption)) | (subst_vars; simp_all; done) | (intros; simp_all; done))⟩ (by omega)) ?_;exact sZ
  ·have aC:l.length≤k:=by simpa using h5
   refine gO Tryz.func172 ?_;rw [mE hk.2 (by simp; omega)]
def qS (s:Signed) (b:Text):Bool := !(!pz s b&&decide ((s.sigs.length:Int)>0))
theorem QD (z:aG) (B:List Text) (hB:B.length=z.ab.length) (hl:z.ab.length≤1000000):aq E 173 [xH z B] (· = .bool ((z.ab.zip B).all fun p=>qS p.1 p.2)):=by
 obtain ⟨ah,l⟩:=z;simp only at *;refine eP Tryz.func173 ?_;refine I.loop (κ:=Nat) (rg 2 4++rg 11 31) (fun k=>[(11,.d (.int .i64 k))]) (fun _=>[]) (fun k=>k≤l.length∧((l.zip B).take k).all (fun p=>qS p.1 p.2)=true) (fun k=>l.length - k) 0 ⟨Nat.zero_le _,rfl⟩ ?_ ?_
 ·exact sZ
 ·intro k hk IH;refine I.head af Tryz.func173 2000 ?_;(conv=>whnf);refine ai (fun h5=>?_) (fun h5=>?_)
  ·have aj:k<l.length:=by simpa using h5
   obtain ⟨x,hx⟩:=aL aj;obtain ⟨b,hb⟩:=aL (l:=B) (k:=k) (by omega);have hz:=uR hx hb;refine gO Tryz.func173 ?_;repeat' (first | with_reducible refine aE (aX hx) rfl ?_ | with_reducible refine aE (aX hb) rfl ?_ | with_reducible refine cY ?_ | with_reducible refine cN ?_ | with_reducible refine ai (fun _=>?_) (fun _=>?_) | refine gA Tryz.func173 ?_ | refine gB ?_ | with_reducible rfl)
   all_goals first
    |(rw [eX hz (by clear hz hb hk IH; rcases b with _ | ⟨c,b⟩ <;> simp_all [qS,pz])]; done)
    |(exfalso; clear hz hb hk IH; rcases b with _ | ⟨c,b⟩ <;> simp_all; done)
    |skip
   all_goals
    refine gO Tryz.func173 ?_;refine I.back (IH (k+1) ⟨by omega,fm hk.2 hz (by clear hz hb hk IH; rcases b with _ | ⟨c,b⟩ <;> simp_all [qS,pz])⟩ (by omega)) ?_;exact sZ
  ·have aC:l.length≤k:=by simpa using h5
   refine gO Tryz.func173 ?_;rw [mE hk.2 (by simp; omega)]
theorem QE (z:aG) (B:List Text) (hl:z.ab.length≤1000000):aq E 174 [xH z B] (· = .bool (z.ab.all fun s=>mI s.sigs z.ah)):=by
 obtain ⟨ah,l⟩:=z;simp only at *;refine eP Tryz.func174 ?_;refine I.loop (κ:=Nat) ([2,4]++rg 10 13) (fun k=>[(10,.d (.int .i64 k))]) (fun _=>[]) (fun k=>k≤l.length∧(l.take k).all (fun s=>mI s.sigs ah)=true) (fun k=>l.length - k) 0 ⟨Nat.zero_le _,rfl⟩ ?_ ?_
 ·exact sZ
 ·intro k hk IH;refine I.head af Tryz.func174 2000 ?_;(conv=>whnf);refine ai (fun h5=>?_) (fun h5=>?_)
  ·have aj:k<l.length:=by simpa using h5
   obtain ⟨x,hx⟩:=aL aj;refine gO Tryz.func174 ?_;repeat' (first | with_reducible refine aE (aX hx) rfl ?_ | with_reducible refine ao (I2 _ _) ?_ | with_reducible refine ay (I2 _ _) ?_ | with_reducible refine cY ?_ | with_reducible refine cN ?_ | with_reducible refine ai (fun _=>?_) (fun _=>?_) | refine gA Tryz.func174 ?_ | refine gB ?_ | with_reducible rfl)
   all_goals first
    |(rw [eX hx (by simp_all)]; done)
    |skip
   all_goals
    refine gO Tryz.func174 ?_;refine I.back (IH (k+1) ⟨by omega,fm hk.2 hx (by simp_all)⟩ (by omega)) ?_;exact sZ
  ·have aC:l.length≤k:=by simpa using h5
   refine gO Tryz.func174 ?_;rw [mE hk.2 aC]
def qT (p:Option Text) (s:Signed) (t:Option Signed):Bool:=s.set.type != 3||(p != some s.set.name&&(match t with | none=>true | some t => !(t.set.name==s.set.name&&t.set.type != 8)))
def jd:Option Text→List Signed→Bool
 |_,[]=>true
 |p,s::l=>qT p s l.head? && jd (some s.set.name) l
theorem QF {l:List Signed} {k:Nat} {x:Signed} (hx:l[k]? = some x):jd (bT (l.map (·.set.name)) k) (l.drop k)=(qT (bT (l.map (·.set.name)) k) x l[k+1]? && jd (bT (l.map (·.set.name)) (k+1)) (l.drop (k+1))):=by
 have hk:=aR hx;rw [List.drop_eq_getElem_cons hk];have e1:l[k]=x:=by simpa [hk] using hx
 have e2:bT (l.map (·.set.name)) (k+1)=some x.set.name:=by simp [bT,hx]
 have e3:(l.drop (k+1)).head? = l[k+1]? := by rw [List.head?_drop]
 rw [e1,e2,jd,e3]
theorem QG (z:aG) (B:List Text) (hl:z.ab.length≤1000000):aq E 171 [xH z B] (· = .bool (jd none z.ab)):=by
 obtain ⟨ah,l⟩:=z;simp only at *;refine eP Tryz.func171 ?_;refine I.loop (κ:=Nat) ([2,3,4]++rg 10 65) (fun k=>[(10,.d (.int .i64 k))]) (fun _=>[]) (fun k=>k≤l.length∧jd none l=jd (bT (l.map (·.set.name)) k) (l.drop k)) (fun k=>l.length - k) 0 ⟨Nat.zero_le _,rfl⟩ ?_ ?_
 ·exact sZ
 ·intro k hk IH;refine I.head af Tryz.func171 2000 ?_;(conv=>whnf);refine ai (fun h5=>?_) (fun h5=>?_)
  ·have aj:k<l.length:=by simpa using h5
   obtain ⟨x,hx⟩:=aL aj;have aF:=QF hx;rw [← hk.2] at aF;have hw:IntKind.i64.wrap ((k:Int)+1)=((k+1:Nat):Int):=by rw [wrap64 (by omega) (by omega)]; omega
   refine gO Tryz.func171 ?_;refine aE (aX hx) rfl ?_;refine gO Tryz.func171 ?_;refine ai (fun h6=>?_) (fun h6=>?_)
   ·refine gO Tryz.func171 ?_;refine I.back (IH (k+1) ⟨by omega,by rw [aF]; simp only [qT,h6,Bool.true_or,Bool.true_and]⟩ (by omega)) ?_;exact sZ
   ·have e1:qT (bT (l.map (·.set.name)) k) x l[k+1]? = (bT (l.map (·.set.name)) k != some x.set.name&&(match l[k+1]? with | none=>true | some t => !(t.set.name==x.set.name&&t.set.type != 8))):=by simp only [qT,h6,Bool.false_or]
    rw [e1] at aF;clear e1;rcases Nat.eq_zero_or_pos k with cH | cH
    ·have dU:bT (l.map (·.set.name)) k=none:=by simp [bT,cH]
     rw [dU] at aF;refine gO Tryz.func171 ?_;refine I.bH af bI 2000 (by kernel_rfl) ?_;(conv=>whnf);refine aZ (by simp; omega) ?_;refine gD ?_;refine gO Tryz.func171 ?_;refine aQ ?_;refine gO Tryz.func171 ?_;refine I.bH af bI 2000 (by kernel_rfl) ?_;(conv=>whnf);by_cases cR:k+1<l.length
     ·obtain ⟨t,ht⟩:=aL cR;rw [ht] at aF;refine bh (by rw [hw]; simp; omega) ?_;refine gD ?_;repeat' (first | with_reducible refine aE (at_next ht (by omega)) rfl ?_ | with_reducible refine cY ?_ | with_reducible refine cN ?_ | with_reducible refine ai (fun _=>?_) (fun _=>?_) | refine gA Tryz.func171 ?_ | refine gB ?_ | with_reducible rfl)
      all_goals first
       |(rw [aF]; clear aF hk IH dU; simp_all; done)
       |skip
      all_goals
       refine gO Tryz.func171 ?_;refine I.back (IH (k+1) ⟨by omega,by rw [aF]; clear aF hk IH dU; simp_all⟩ (by omega)) ?_;exact sZ
     ·have ht:l[k+1]? = none:=List.getElem?_eq_none (by omega);rw [ht] at aF;refine aZ (by rw [hw]; simp; omega) ?_;refine gD ?_;repeat' (first | with_reducible refine cY ?_ | with_reducible refine cN ?_ | with_reducible refine ai (fun _=>?_) (fun _=>?_) | refine gA Tryz.func171 ?_ | refine gB ?_ | with_reducible rfl)
      refine gO Tryz.func171 ?_;refine I.back (IH (k+1) ⟨by omega,by rw [aF]; clear aF hk IH dU; simp_all⟩ (by omega)) ?_;exact sZ
    ·obtain ⟨q,hq,-⟩:=uN cH hk.1;have dU:bT (l.map (·.set.name)) k=some q.set.name:=by simp [bT,hq]; omega
     rw [dU] at aF;refine gO Tryz.func171 ?_;refine I.bH af bI 2000 (by kernel_rfl) ?_;(conv=>whnf);refine bh (by simp; omega) ?_;refine gD ?_;refine aE (nr hq cH (by omega)) rfl ?_;refine gD ?_;refine gO Tryz.func171 ?_;refine ai (fun h7=>?_) (fun h7=>?_)
     ·refine gO Tryz.func171 ?_;rw [aF];clear aF hk IH dU;simp_all
     ·refine gO Tryz.func171 ?_;refine I.bH af bI 2000 (by kernel_rfl) ?_;(conv=>whnf);by_cases cR:k+1<l.length
      ·obtain ⟨t,ht⟩:=aL cR;rw [ht] at aF;refine bh (by rw [hw]; simp; omega) ?_;refine gD ?_;repeat' (first | with_reducible refine aE (at_next ht (by omega)) rfl ?_ | with_reducible refine cY ?_ | with_reducible refine cN ?_ | with_reducible refine ai (fun _=>?_) (fun _=>?_) | refine gA Tryz.func171 ?_ | refine gB ?_ | with_reducible rfl)
       all_goals first
        |(rw [aF]; clear aF hk IH dU; simp_all; done)
        |skip
       all_goals
        refine gO Tryz.func171 ?_;refine I.back (IH (k+1) ⟨by omega,by rw [aF]; clear aF hk IH dU; simp_all⟩ (by omega)) ?_;exact sZ
      ·have ht:l[k+1]? = none:=List.getElem?_eq_none (by omega);rw [ht] at aF;refine aZ (by rw [hw]; simp; omega) ?_;refine gD ?_;repeat' (first | with_reducible refine cY ?_ | with_reducible refine cN ?_ | with_reducible refine ai (fun _=>?_) (fun _=>?_) | refine gA Tryz.func171 ?_ | refine gB ?_ | with_reducible rfl)
       refine gO Tryz.func171 ?_;refine I.back (IH (k+1) ⟨by omega,by rw [aF]; clear aF hk IH dU; simp_all⟩ (by omega)) ?_;exact sZ
  ·have aC:l.length≤k:=by simpa using h5
   refine gO Tryz.func171 ?_;rw [hk.2,List.drop_of_length_le aC];rfl
end Go.Proofs.YtfmdaiojokniiaaGreatDoor.P
end
section
namespace Go.Proofs.YtfmdaiojokniiaaGreatDoor.P
open Go Go.aw
set_option maxRecDepth 100000
set_option maxHeartbeats 4000000
theorem I3 (c d:UInt8):c<d∨c=d∨d<c:=by
 rcases Nat.lt_trichotomy c.toNat d.toNat with h | h | h
 ·exact .inl (UInt8.lt_iff_toNat_lt.2 h)
 ·exact .inr (.inl (UInt8.toNat_inj.1 h))
 ·exact .inr (.inr (UInt8.lt_iff_toNat_lt.2 h))
theorem DU {c d:UInt8} {a b:Text}:Op.bytesLess (c::a) (d::b)=true↔c<d∨(c=d∧Op.bytesLess a b=true):=by
 simp [Op.bytesLess]
theorem DW:∀ {a b c:Text},Op.bytesLess a b=true→Op.bytesLess b c=true→Op.bytesLess a c=true
 |_,[],_,h,_=>by simp [Op.bytesLess] at h
 |_,_::_,[],_,h=>by simp [Op.bytesLess] at h
 | [],_::_,_::_,_,_=>by simp [Op.bytesLess]
 |x::a,y::b,z::c,h,k=>by
  rw [DU] at h k ⊢;rcases h with h | ⟨rfl,h⟩
  ·rcases k with k | ⟨rfl,k⟩
   ·exact .inl (UInt8.lt_trans h k)
   ·exact .inl h
  ·rcases k with k | ⟨rfl,k⟩
   ·exact .inl k
   ·exact .inr ⟨rfl,DW h k⟩
theorem I4:∀ (a b:Text),Op.bytesLess a b=true∨a=b∨Op.bytesLess b a=true
 | [],[] => .inr (.inl rfl)
 | [],_::_ => .inl (by simp [Op.bytesLess])
 |_::_,[] => .inr (.inr (by simp [Op.bytesLess]))
 |c::a,d::b=>by
  rw [DU,DU];rcases I3 c d with h | rfl | h
  ·exact .inl (.inl h)
  ·rcases I4 a b with h | rfl | h
   ·exact .inl (.inr ⟨rfl,h⟩)
   ·exact .inr (.inl rfl)
   ·exact .inr (.inr (.inr ⟨rfl,h⟩))
  ·exact .inr (.inr (.inl h))
theorem DX {a b:Text} (h:Op.bytesLess a b=true):Op.bytesLess b a=false:=by
 rw [← Bool.not_eq_true];intro k;have:=DW h k;rw [ka] at this;cases this
theorem I5 {a b:Text} (h:Op.bytesLess a b=true):a≠b:=by
 rintro rfl;rw [ka] at h;cases h
theorem I6:∀ (a b:Text),Lib.compareBytes a b=if Op.bytesLess a b then -1 else if a==b then 0 else 1
 | [],[]=>by simp [Lib.compareBytes,Op.bytesLess]
 | [],_::_=>by simp [Lib.compareBytes,Op.bytesLess]
 |_::_,[]=>by simp [Lib.compareBytes,Op.bytesLess]
 |c::a,d::b=>by
  simp only [Lib.compareBytes,Op.bytesLess];rcases I3 c d with h | rfl | h
  ·simp [h]
  ·simp [I6 a b]
  ·have h1:¬ c<d:=UInt8.not_lt.2 (UInt8.le_of_lt h);have h2:¬ c=d:=by rintro rfl; exact absurd h (by simp)
   simp [h,h1,h2]
theorem pB (x y:Text) (l m:List Text):(Op.bytesLess x y=true∧cmpL (x::l) (y::m) = -1)∨(x=y∧cmpL (x::l) (y::m)=cmpL l m)∨(Op.bytesLess y x=true∧cmpL (x::l) (y::m)=1):=by
 rcases I4 x y with h | rfl | h
 ·exact .inl ⟨h,by simp [cmpL,h]⟩
 ·exact .inr (.inl ⟨rfl,by simp [cmpL,ka]⟩)
 ·exact .inr (.inr ⟨h,by simp [cmpL,DX h,(I5 h).symm]⟩)
theorem I7:∀ (l:List Text),cmpL l l=0
 | []=>rfl
 |x::l=>by simp [cmpL,ka,I7 l]
theorem I8:∀ {l m:List Text},cmpL l m=0→l=m
 | [],[],_=>rfl
 | [],_::_,h=>by simp [cmpL] at h
 |_::_,[],h=>by simp [cmpL] at h
 |x::l,y::m,h=>by
  rcases pB x y l m with ⟨-,e⟩ | ⟨rfl,e⟩ | ⟨-,e⟩
  ·rw [e] at h; cases h
  ·rw [e] at h; rw [I8 h]
  ·rw [e] at h; cases h
theorem I9:∀ (l m:List Text),cmpL m l = - cmpL l m
 | [],[]=>rfl
 | [],_::_=>rfl
 |_::_,[]=>rfl
 |x::l,y::m=>by
  rcases pB x y l m with ⟨h,e⟩ | ⟨rfl,e⟩ | ⟨h,e⟩
  ·rw [e];simp [cmpL,DX h,(I5 h).symm]
  ·rw [e,← I9 l m];simp [cmpL,ka]
  ·rw [e];simp [cmpL,h]
theorem I':∀ {a b c:List Text},cmpL a b<0→cmpL b c<0→cmpL a c<0
 | [],[],_,h,_=>by simp [cmpL] at h
 |_::_,[],_,h,_=>by simp [cmpL] at h
 |_,_::_,[],_,h=>by simp [cmpL] at h
 | [],_::_,_::_,_,_=>by simp [cmpL]
 |x::a,y::b,z::c,h,k=>by
  rcases pB x y a b with ⟨h1,e1⟩ | ⟨rfl,e1⟩ | ⟨h1,e1⟩
  ·rcases pB y z b c with ⟨h2,e2⟩ | ⟨rfl,e2⟩ | ⟨h2,e2⟩
   ·simp [cmpL,DW h1 h2]
   ·simp [cmpL,h1]
   ·rw [e2] at k; simp at k
  ·rcases pB x z b c with ⟨h2,e2⟩ | ⟨rfl,e2⟩ | ⟨h2,e2⟩
   ·simp [cmpL,h2]
   ·rw [e1] at h;rw [e2] at k;have:=I' h k;rcases pB x x a c with ⟨h3,-⟩ | ⟨-,e3⟩ | ⟨h3,-⟩
    ·rw [ka] at h3; cases h3
    ·rw [e3]; exact this
    ·rw [ka] at h3; cases h3
   ·rw [e2] at k; simp at k
  ·rw [e1] at h; simp at h
theorem Ja:∀ {c m n:List Text},cmpL c m≤0→cmpL m n≤0→c <+: n→c <+: m
 | [],_,_,_,_,_=>List.nil_prefix
 |_::_,[],_,h,_,_=>by simp [cmpL] at h
 |_::_,_::_,[],_,_,h=>by simp at h
 |x::c,y::m,z::n,h,k,hp=>by
  rw [List.cons_prefix_cons] at hp;obtain ⟨rfl,hp⟩:=hp;rcases pB x y c m with ⟨h1,e1⟩ | ⟨rfl,e1⟩ | ⟨h1,e1⟩
  ·rcases pB y x m n with ⟨h2,e2⟩ | ⟨rfl,e2⟩ | ⟨h2,e2⟩
   ·have:=DX h1; rw [h2] at this; cases this
   ·rw [ka] at h1; cases h1
   ·rw [e2] at k; simp at k
  ·rcases pB x x m n with ⟨h2,-⟩ | ⟨-,e2⟩ | ⟨h2,-⟩
   ·rw [ka] at h2; cases h2
   ·rw [List.cons_prefix_cons];rw [e1] at h;rw [e2] at k;exact ⟨rfl,Ja h k hp⟩
   ·rw [ka] at h2; cases h2
  ·rw [e1] at h; simp at h
theorem Jb:∀ {c n:List Text},c <+: n→cmpL c n≤0
 | [],[],_=>by simp [cmpL]
 | [],_::_,_=>by simp [cmpL]
 |_::_,[],h=>by simp at h
 |x::c,y::n,h=>by
  rw [List.cons_prefix_cons] at h;obtain ⟨rfl,h⟩:=h;simp only [cmpL,ka,Bool.false_eq_true,if_false,beq_self_eq_true,if_true];exact Jb h
theorem nw (a:Text):bu a a=0:=I7 _
theorem ow {a b:Text} (h:bu a b=0):a=b:=Ik (List.reverse_inj.1 (I8 h))
theorem xI (a b:Text):bu b a = - bu a b:=I9 _ _
theorem xJ {a b c:Text} (h:bu a b<0) (k:bu b c<0):bu a c<0:=I' h k
theorem xu {s z:Text}:Nm.under s z=true↔(Nm.labels z).reverse <+: (Nm.labels s).reverse:=by
 simp [Nm.under,List.reverse_prefix]
theorem uU {c m n:Text} (h:bu c m≤0) (k:bu m n≤0) (hp:Nm.under n c=true):Nm.under m c=true:=xu.2 (Ja h k (xu.1 hp))
theorem xK {c n:Text} (h:Nm.under n c=true):bu c n≤0:=Jb (xu.1 h)
set_option maxHeartbeats 1000000 in
open Go.RowKit in
theorem QH (a b:ByteArray) (w:World):Calls Tryz.prog 357 #[.string a,.string b] w fun e w'=>e = .returned (.int .i64 (Lib.compareBytes a.data.toList b.data.toList))∧w'=w:=by
  go_enter Tryz.func357,Tryz.ntmps357
  go_wp2
  rw [run_callFunc_extern Tryz.func361 (by kernel_rfl) (by kernel_rfl) (by kernel_rfl) (e:=Extern.BytealgCompare.compare) (by kernel_rfl),Lib.run_compareString];simp only [Result.andThen];rw [Oper.upon_value]
  go_wp2
  go_ret
  exact ⟨rfl,rfl⟩
theorem QI (a b:Text):aq E 357 [.str a,.str b] (· = .int .i64 (Lib.compareBytes a b)):=by
 unfold aq;refine ⟨⟨_,Tryz.func357,rfl,by decide⟩,fun ax w vs _ _ ⟨hl,hv⟩=>?_⟩;obtain ⟨u,v,rfl⟩:∃ u v,vs=[u,v]:=by
  match vs,hl with
  | [u,v],_=>exact ⟨u,v,rfl⟩
 have h1:=hv 0 (.str a) u rfl rfl;have h2:=hv 1 (.str b) v rfl rfl;cases h1;cases h2;refine (QH ⟨a.toArray⟩ ⟨b.toArray⟩ w).mono fun e w' ⟨h1,h2⟩=>⟨_,_,h1,rfl,?_,h2 ▸ Ext.refl w⟩
 simpa using VD.int _ _
theorem QJ (a b:Text):aq E 341 [.str a,.str b] (· = .int .i64 (Lib.compareBytes a b)):=by
 have c1:=QI a b;refine eP Tryz.func341 ?_;refine ao (c1) ?_;refine gO Tryz.func341 ?_
 with_reducible rfl
def PS (more:Bool) (rest:Text) (R:List Text):Prop:=if more then (Nm.split rest).reverse=R else R=[]
theorem QK (t:Text):au E 340 [] [.d (.str t)] (fun x h=>x = .fn (.func 356) [] [.ptr 1 0,.ptr 0 0]∧h=[.cells [.d (.str t)],.cells [.d (.bool (t != [46]))]]):=by
 refine au.run af (fn:=Tryz.f340) Tryz.func340 (body:=Tryz.f340.body.getD .skip) rfl (by decide) 2000 rfl ?_;(conv=>whnf);exact ⟨rfl,rfl⟩
theorem QL (rest:Text):au E 356 [.cells [.d (.bool false)],.cells [.d (.str rest)]] [.ptr 0 0,.ptr 1 0] (fun x h=>x = .aD [.d (.str []),.d (.bool false)]∧h=[.cells [.d (.bool false)],.cells [.d (.str rest)]]):=by
 refine au.run af (fn:=Tryz.f356) Tryz.func356 (body:=Tryz.f356.body.getD .skip) rfl (by decide) 2000 rfl ?_;(conv=>whnf);refine bh (by decide) ?_;refine gO Tryz.func356 ?_;exact ⟨rfl,rfl⟩
theorem QM (rest:Text) (hl:rest.length≤60) {y:Text} {R:List Text} (h:PS true rest (y::R)):au E 356 [.cells [.d (.bool true)],.cells [.d (.str rest)]] [.ptr 0 0,.ptr 1 0] (fun x h=>x = .aD [.d (.str y),.d (.bool true)]∧∃ m r,h=[.cells [.d (.bool m)],.cells [.d (.str r)]]∧PS m r R∧r.length≤60):=by
 have c1:=zY rest (by unfold maxLen; omega);obtain ⟨i,x,P,e1,e2,e3,e4,e5,e6,e7⟩:=zZ rest;have hw:IntKind.i64.wrap (i+1)=i+1:=wrap64 (by omega) (by omega);rw [e1] at c1;refine au.run af (fn:=Tryz.f356) Tryz.func356 (body:=Tryz.f356.body.getD .skip) rfl (by decide) 2000 rfl ?_;(conv=>whnf);refine aZ (by decide) ?_;refine gO Tryz.func356 ?_;refine ao (c1) ?_;refine gO Tryz.func356 ?_;refine a8 ⟨by rw [hw]; simp; omega,by rw [hw]; simp; omega,by simp⟩ ?_;refine gO Tryz.func356 ?_;rw [hw];simp only [Option.getD_none,Option.getD_some,Int.toNat_natCast,List.take_length,e4];have hR:x=y∧P.reverse=R:=by
  have:(Nm.split rest).reverse=y::R:=h;rw [e5] at this
  simpa using this
 obtain ⟨rfl,rfl⟩:=hR;refine ai (fun h5=>?_) (fun h5=>?_)
 ·refine gO Tryz.func356 ?_;rw [e6 (of_decide_eq_true h5)];exact ⟨rfl,false,rest,rfl,rfl,hl⟩
 ·have h5:0≤i:=by simpa using h5
  refine gO Tryz.func356 ?_;refine a8 ⟨by simp,by simp; omega,by simp; omega⟩ ?_;refine gO Tryz.func356 ?_;refine ⟨rfl,true,rest.take i.toNat,rfl,?_,by simp; omega⟩;rw [e7 h5];rfl
theorem DY (a b:Text) (ha:Nm.valid a=true) (hb:Nm.valid b=true):aq E 298 [.str a,.str b] (· = .aD [.int .i64 (bu a b),.int .i64 0]):=by
 have c1:=sJ a (lp (by have:=eJ ha; omega));have c2:=sJ b (lp (by have:=eJ hb; omega));rw [ha] at c1;rw [hb] at c2;have qJ:=eJ ha;have qL:=eJ hb;refine eP Tryz.func298 ?_;refine ao (c1) ?_;refine gO Tryz.func298 ?_;refine aQ ?_;refine gO Tryz.func298 ?_;refine ao (c2) ?_;refine gO Tryz.func298 ?_;refine aQ ?_;refine gO Tryz.func298 ?_;refine ai (fun h3=>?_) (fun h3=>?_)
 ·obtain rfl:a=b:=by simpa using h3
  refine gO Tryz.func298 ?_;rw [nw]
 have aJ:a≠b:=by simpa using h3
 refine gO Tryz.func298 ?_;refine wM (QK b) rfl ?_;refine gO Tryz.func298 ?_;refine I.rangeFunc (aP rfl) Tryz.func233 rfl (by decide) rfl (fun ll d tt=>?_);refine gO Tryz.func233 ?_;refine ai (fun h4=>?_) (fun h4=>?_)
 ·obtain rfl:a=[46]:=by simpa using h4
  refine gO Tryz.func233 ?_;refine I.iD af Tryz.func233 rfl rfl rfl rfl (fun e=>nomatch e) ?_;(conv=>whnf);refine gO Tryz.func298 ?_;refine I.fS af Tryz.func298 rfl rfl rfl rfl rfl ?_;have:bu [46] b = -1:=by
   have h0:=fun h=>aJ (ow (a:=[46]) (b:=b) h);unfold bu at h0 ⊢;rw [show (Nm.labels [46]).reverse=[] from rfl] at h0 ⊢;cases h5:(Nm.labels b).reverse with
   |nil=>rw [h5] at h0; exact absurd rfl h0
   |cons z R=>rfl
  rw [this];rfl
 have hr:a≠[46]:=by simpa using h4
 refine gO Tryz.func233 ?_;refine I.loop (κ:=Text × Bool × Text × List Text) [4,5,9,10,11,12,13,14,15,16,17,18,19,20,21,22,23,24] (fun x=>[(4,.d (.str x.1))]) (fun x=>[(2,.cells [.d (.str x.2.2.1)]),(3,.cells [.d (.bool x.2.1)])]) (fun x=>x.1.length≤60∧x.2.2.1.length≤60∧PS x.2.1 x.2.2.1 x.2.2.2∧bu a b=cmpL (Nm.split x.1).reverse x.2.2.2) (fun x=>x.1.length) (a,b != [46],b,(Nm.labels b).reverse) ⟨qJ,qL,by by_cases h:b=[46] <;> simp [PS,Nm.labels,h],by simp [bu,Nm.labels,hr]⟩ ?_ ?_
 ·exact sZ
 rintro ⟨rest,more,rb,R⟩ ⟨k1,k2,k3,k4⟩ IH;simp only at k1 k2 k3 k4;obtain ⟨i,x,P,e1,e2,e3,e4,e5,e6,e7⟩:=zZ rest;have c1:=zY rest (by unfold maxLen; omega);have hw:IntKind.i64.wrap (i+1)=i+1:=wrap64 (by omega) (by omega);rw [e5,List.reverse_append,List.reverse_singleton,List.singleton_append] at k4;rw [e1] at c1;refine I.head af Tryz.func233 2000 ?_;(conv=>whnf);refine ao (c1) ?_;refine gO Tryz.func233 ?_;refine a8 ⟨by rw [hw]; simp; omega,by rw [hw]; simp; omega,by simp⟩ ?_;refine gO Tryz.func233 ?_;rw [hw];simp only [Option.getD_none,Option.getD_some,Int.toNat_natCast,List.take_length,e4];refine I.yield 0 rfl rfl rfl (aP rfl) (lG (aP rfl)) rfl ?_;(conv=>whnf);refine gO Tryz.func298 ?_;refine I.begin 0 rfl rfl rfl ?_;(conv=>whnf);refine gO Tryz.func298 ?_;cases R with
 |nil =>
  obtain rfl:more=false:=by
   cases more
   ·rfl
   ·exact absurd (List.reverse_eq_nil_iff.1 k3) (Nm.mA rb)
  with_reducible refine bD (QL rb) ?_
  refine gO Tryz.func298 ?_;refine aV ?_;refine gO Tryz.func298 ?_;refine I.zW 0 rfl rfl rfl ?_;(conv=>whnf);refine gO Tryz.func233 ?_;refine bh (by decide) ?_;refine gO Tryz.func233 ?_;refine aV ?_;refine gO Tryz.func233 ?_;refine I.iD af Tryz.func233 rfl rfl rfl rfl (fun e=>nomatch e) ?_;(conv=>whnf);refine gO Tryz.func298 ?_;refine I.fS af Tryz.func298 rfl rfl rfl rfl rfl ?_;rw [k4];rfl
 |cons y R =>
  obtain rfl:more=true:=by
   cases more
   ·exact absurd k3 (by simp [PS])
   ·rfl
  with_reducible refine jx (QM rb k2 k3) ?_
  rintro r h1 ⟨rfl,m,rr,rfl,q1,q2⟩;have c3:=QJ x y;rw [I6] at c3;refine gO Tryz.func298 ?_;refine aQ ?_;refine gO Tryz.func298 ?_;refine ao (c3) ?_;refine gO Tryz.func298 ?_;by_cases lH:x=y
  ·subst lH;rw [ka];refine aZ (by simp) ?_;refine gO Tryz.func298 ?_;refine I.mC 0 rfl rfl rfl ?_;(conv=>whnf);refine gO Tryz.func233 ?_;refine aZ (by decide) ?_;refine gO Tryz.func233 ?_;have k5:bu a b=cmpL P.reverse R:=by rw [k4]; simp [cmpL,ka]
   refine ai (fun h5=>?_) (fun h5=>?_)
   ·refine gO Tryz.func233 ?_;refine I.iD af Tryz.func233 rfl rfl rfl rfl (fun e=>nomatch e) ?_;(conv=>whnf);refine gO Tryz.func298 ?_;refine I.fS af Tryz.func298 rfl rfl rfl rfl rfl ?_;rw [e6 (by simpa using h5)] at k5;have:bu a b = -1:=by
     cases R with
     |nil=>exact absurd (ow k5) aJ
     |cons z R=>exact k5
    rw [this];rfl
   ·have h5:0≤i:=by simpa using h5
    refine gO Tryz.func233 ?_;refine a8 ⟨by simp,by simp; omega,by simp; omega⟩ ?_;refine gO Tryz.func233 ?_;simp only [Option.getD_none,Option.getD_some,Int.toNat_zero,List.drop_zero];refine I.back (IH (rest.take i.toNat,m,rr,R) ⟨by simp; omega,q2,q1,by simp only; rw [k5,e7 h5]⟩ (by simp; omega)) ?_;exact sZ
  ·refine bh (by split <;> simp [lH]) ?_;refine gO Tryz.func298 ?_;refine I.zW 0 rfl rfl rfl ?_;(conv=>whnf);refine gO Tryz.func233 ?_;refine bh (by decide) ?_;refine gO Tryz.func233 ?_;refine aV ?_;refine gO Tryz.func233 ?_;refine I.iD af Tryz.func233 rfl rfl rfl rfl (fun e=>nomatch e) ?_;(conv=>whnf);refine gO Tryz.func298 ?_;refine I.fS af Tryz.func298 rfl rfl rfl rfl rfl ?_;have:bu a b=if Op.bytesLess x y=true then -1 else if (x==y)=true then 0 else 1:=by
    rw [k4,cmpL];split
    ·rfl
    ·simp [lH]
   rw [this];rfl
def mJ (a:Text) (s:Int) (b:Text) (t:Int):Int:=if a≠b then bu a b else iE s t
theorem Jc (a:Text) (s:Int) (b:Text) (t:Int) (ha:Nm.valid a=true) (hb:Nm.valid b=true):aq E 244 [.str a,.int .i64 s,.str b,.int .i64 t] (· = .int .i64 (mJ a s b t)):=by
 refine eP Tryz.func244 ?_;repeat' (first | with_reducible refine ao (DY _ _ ha hb) ?_ | with_reducible refine ay (DY _ _ ha hb) ?_ | with_reducible refine ao (z6 _ _) ?_ | with_reducible refine ay (z6 _ _) ?_ | with_reducible refine cY ?_ | with_reducible refine cN ?_ | with_reducible refine ai (fun _=>?_) (fun _=>?_) | refine gA Tryz.func244 ?_ | refine gB ?_ | with_reducible rfl)
 all_goals simp_all [mJ]
theorem uV (a b:cS):mJ a.name a.type b.name b.type=mG a b:=by
 unfold mJ mG;by_cases h:a.name=b.name
 ·simp [h,nw]
 ·have:bu a.name b.name≠0:=fun e=>h (ow e);simp [h,this]
end Go.Proofs.YtfmdaiojokniiaaGreatDoor.P
end
section
namespace Go.Proofs.YtfmdaiojokniiaaGreatDoor.P
open Go Go.aw
set_option maxRecDepth 100000
set_option maxHeartbeats 4000000
def sP (s:Signed) (q:bj):Int:=mJ s.set.name s.set.type q.name q.type
theorem QN {a b:Int}:iE a b=0↔a=b:=by
 unfold iE;split
 ·omega
 ·split <;> omega
theorem Al {s:Signed} {q:bj}:(sP s q==0)=cE q s:=by
 rw [Bool.eq_iff_iff,beq_iff_eq];unfold sP mJ cE;by_cases h:s.set.name=q.name
 ·simp [h,QN]
 ·have:bu s.set.name q.name≠0:=fun e=>h (ow e);simp [h,this]
def fp (l:List Signed):Prop:=∀ (i j:Nat) (x y:Signed),i<j→l[i]? = some x→l[j]? = some y→mG x.set y.set<0
theorem QO {a b c:Int} (h:iE a b<0) (k:iE b c<0):iE a c<0:=by
 unfold iE at *;repeat' split at h
 all_goals first | omega | skip
 repeat' split at k
 all_goals first | omega | skip
 repeat' split
 all_goals omega
theorem DZ {a b c:Text} {s t u:Int} (h:mJ a s b t<0) (k:mJ b t c u<0):mJ a s c u<0:=by
 unfold mJ at *;by_cases e1:a=b
 ·subst e1;simp only [ne_eq,not_true_eq_false,if_false] at h;by_cases e2:a=c
  ·subst e2;simp only [ne_eq,not_true_eq_false,if_false] at k ⊢;exact QO h k
  ·simp only [ne_eq,e2,not_false_eq_true,if_true] at k ⊢;exact k
 ·simp only [ne_eq,e1,not_false_eq_true,if_true] at h;by_cases e2:b=c
  ·subst e2;simp only [ne_eq,e1,not_false_eq_true,if_true];exact h
  ·simp only [ne_eq,e2,not_false_eq_true,if_true] at k;have:=xJ h k;have e3:a≠c:=by
    rintro rfl;rw [nw] at this;omega
   simp only [ne_eq,e3,not_false_eq_true,if_true];exact this
theorem Jd (s:Signed) (q:bj) (hs:Nm.valid s.set.name=true) (hq:Nm.valid q.name=true):aq E 290 [s.enc,q.enc] (· = .int .i64 (sP s q)):=by
 refine eP Tryz.func290 ?_
 with_reducible refine ao (Jc _ _ _ _ hs hq) ?_
 refine gO Tryz.func290 ?_;rfl
theorem Je {i j:Nat} (h:i+j≤4294967296):IntKind.i64.wrap (oW .shr .u64 (IntKind.u64.wrap (IntKind.i64.wrap ((i:Int)+j))) (Int.toNat 1))=(((i+j) / 2:Nat):Int):=by
 rw [wrap64 (n:=(i:Int)+j) (by omega) (by omega)];have e1:IntKind.u64.wrap ((i:Int)+j)=(i:Int)+j:=by
  simp [IntKind.wrap,IntKind.signed,IntKind.bits];omega
 rw [e1];have e2:oW .shr .u64 ((i:Int)+j) (Int.toNat 1)=(((i+j) / 2:Nat):Int):=by
  show ((i:Int)+j).fdiv (2 ^ 1)=_;rw [Int.fdiv_eq_ediv_of_nonneg _ (by decide)];omega
 rw [e2,wrap64 (by omega) (by omega)]
theorem QP (l:List Signed) (q:bj) (hl:l.length≤1000000) (hv:∀ s∈l,Nm.valid s.set.name=true) (hq:Nm.valid q.name=true) (hs:fp l) :
  au E 289 [] [.d (xl l),.d q.enc,.fn (.func 290) [] []] (fun a b=>(∃ i:Nat,i≤l.length∧a = .aD [.d (.int .i64 i),.d (.bool (l.any (cE q)))]∧∀ j x,l[j]? = some x→cE q x=true→j=i)∧b=[.cells [.d (.str q.name),.d (.int .i64 q.type)]]):=by
 refine au.run af (fn:=Tryz.f289) Tryz.func289 (body:=Tryz.f289.body.getD .skip) rfl (by decide) 2000 rfl ?_;(conv=>whnf);refine I.loop (κ:=Nat × Nat) [9,10,11,15,16,17,18,19,20,21,22,23,24,25,26,27,28,29,30,31,32,33,34] (fun k=>[(9,.d (.int .i64 k.1)),(10,.d (.int .i64 k.2))]) (fun _=>[]) (fun k=>k.1≤k.2∧k.2≤l.length∧(∀ m x,m<k.1→l[m]? = some x→sP x q<0)∧(∀ m x,k.2≤m→l[m]? = some x→¬ sP x q<0)) (fun k=>k.2 - k.1) (0,l.length) ⟨Nat.zero_le _,Nat.le_refl _,fun m x h=>by omega,fun m x h hx=>by have:=aR hx; omega⟩ ?_ ?_
 ·(conv=>whnf);repeat (first | exact trivial | (refine And.intro (by first | with_reducible rfl | exact congrArg (DV.int .i64) (by omega) | exact congrArg (DV.int .i64) (by simp) | exact congrArg (DV.int .i64) (wrap64 (by omega) (by omega)) | exact congrArg (DV.int .i64) ((wrap64 (by omega) (by omega)).trans (by omega))) ?_; conv=>whnf))
 ·rintro ⟨i,j⟩ hk IH;obtain ⟨k1,k2,k3,k4⟩:=hk;simp only at k1 k2 k3 k4;refine I.head af Tryz.func289 2000 ?_;(conv=>whnf);refine ai (fun h5=>?_) (fun h5=>?_)
  ·have aj:i<j:=by simpa using h5
   obtain ⟨x,hx⟩:=aL (l:=l) (k:=(i+j) / 2) (by omega);have cx:=hv x (List.mem_of_getElem? hx);have xL:=Je (i:=i) (j:=j) (by omega);refine gO Tryz.func289 ?_;refine a8 (by decide) ?_;refine gO Tryz.func289 ?_;refine I.bH af bI 2000 (by kernel_rfl) ?_;(conv=>whnf);rw [show IntKind.i64.wrap (oW .shr .u64 (IntKind.u64.wrap (IntKind.i64.wrap (((i,j).fst:Int)+((i,j).snd:Int)))) (Int.toNat 1))=(((i+j) / 2:Nat):Int) from xL];refine aE (aX hx) rfl ?_;refine gD ?_;refine ay (Jd x q cx hq) ?_;refine gD ?_;refine gO Tryz.func289 ?_;refine ai (fun h6=>?_) (fun h6=>?_)
   ·have hc:sP x q<0:=by simpa using h6
    refine gO Tryz.func289 ?_;refine I.back (IH ((i+j) / 2+1,j) ⟨by simp only; omega,k2,fun m y hm hy=>?_,k4⟩ (by simp only; omega)) ?_
    ·simp only at hm;rcases Nat.lt_or_ge m ((i+j) / 2) with h | h
     ·have h1:=hs m ((i+j) / 2) y x h hy hx;rw [← uV] at h1;exact DZ h1 hc
     ·obtain rfl:m=(i+j) / 2:=by omega
      rw [hx] at hy;cases hy;exact hc
    ·exact sZ
   ·have hc:¬ sP x q<0:=by simpa using h6
    refine gO Tryz.func289 ?_;refine I.back (IH (i,(i+j) / 2) ⟨by simp only; omega,by simp only; omega,k3,fun m y hm hy=>?_⟩ (by simp only; omega)) ?_
    ·simp only at hm;rcases Nat.lt_or_ge ((i+j) / 2) m with h | h
     ·intro QQ;have h1:=hs ((i+j) / 2) m x y h hx hy;rw [← uV] at h1;exact hc (DZ h1 QQ)
     ·obtain rfl:m=(i+j) / 2:=by omega
      rw [hx] at hy;cases hy;exact hc
    ·exact sZ
  ·have aC:i=j:=by simp at h5; omega
   subst aC;have only:∀ m y,l[m]? = some y→cE q y=true→m=i:=fun m y hy ha=>by
    rw [← Al,beq_iff_eq] at ha;rcases Nat.lt_trichotomy m i with h | h | h
    ·have:=k3 m y h hy; omega
    ·exact h
    ·obtain ⟨x,hx⟩:=aL (l:=l) (k:=i) (by have:=aR hy; omega);have h1:=hs i m x y h hx hy;rw [← uV] at h1;have h2:=k4 i x (Nat.le_refl _) hx;have h3:mJ x.set.name x.set.type q.name q.type<0:=by
      have e:y.set.name=q.name∧y.set.type=q.type:=by
       have:cE q y=true:=by rw [← Al,beq_iff_eq]; exact ha
       simpa [cE] using this
      rw [e.1,e.2] at h1;exact h1
     exact absurd h3 h2
   rcases Nat.lt_or_ge i l.length with hi | hi
   ·obtain ⟨x,hx⟩:=aL hi;have cx:=hv x (List.mem_of_getElem? hx);have D0:l.any (cE q)=cE q x:=by
     cases ha:cE q x
     ·rw [← Bool.not_eq_true,List.any_eq_true];rintro ⟨y,hy,xM⟩;obtain ⟨m,hm⟩:=List.getElem?_of_mem hy;obtain rfl:=only m y hm xM;rw [hx] at hm;cases hm;rw [ha] at xM;cases xM
     ·rw [List.any_eq_true];exact ⟨x,List.mem_of_getElem? hx,ha⟩
    refine gO Tryz.func289 ?_;refine I.bH af bI 2000 (by kernel_rfl) ?_;(conv=>whnf);refine bh (by simp; omega) ?_;refine gD ?_;refine aE (aX hx) rfl ?_;refine gD ?_;refine ay (Jd x q cx hq) ?_;refine gD ?_;refine gO Tryz.func289 ?_;exact ⟨⟨i,by omega,by rw [D0,← Al],only⟩,rfl⟩
   ·have D0:l.any (cE q)=false:=by
     rw [← Bool.not_eq_true,List.any_eq_true];rintro ⟨y,hy,xM⟩;obtain ⟨m,hm⟩:=List.getElem?_of_mem hy;obtain rfl:=only m y hm xM;have:=aR hm;omega
    refine gO Tryz.func289 ?_;refine I.bH af bI 2000 (by kernel_rfl) ?_;(conv=>whnf);refine aZ (by simp; omega) ?_;refine gD ?_;refine gO Tryz.func289 ?_;exact ⟨⟨i,by omega,by rw [D0],only⟩,rfl⟩
theorem D1 (z:aG) (q:bj) (hl:z.ab.length≤1000000) (hv:∀ s∈z.ab,Nm.valid s.set.name=true) (hq:Nm.valid q.name=true) (hs:fp z.ab) :
  aq E 235 [z.enc,q.enc] (fun r=>∃ i:Nat,i≤z.ab.length∧r = .aD [.int .i64 i,.bool (z.ab.any (cE q))]∧∀ j x,z.ab[j]? = some x→cE q x=true→j=i):=by
 refine eP Tryz.func235 ?_;refine jx (QP z.ab q hl hv hq hs) ?_;rintro r h1 ⟨⟨i,hi,rfl,ho⟩,rfl⟩;refine gO Tryz.func235 ?_;exact ⟨i,hi,rfl,ho⟩
theorem Jf {t:Text} (h:Nm.valid t=true):mF t=Nm.gZ t:=by
 unfold mF Nm.labels;by_cases hr:t=[46]
 ·subst hr; rfl
 ·rw [if_neg hr];have hp:Nm.parts (Nm.split t)=true:=by
   simp only [Nm.valid,Bool.or_eq_true,decide_eq_true_eq,Bool.and_eq_true] at h;rcases h with h | h
   ·exact absurd h hr
   ·exact h.2
  cases t with
  |nil=>rfl
  |cons c r =>
   by_cases hc:c=46
   ·subst hc;simp [Nm.split,Nm.parts,Nm.label] at hp
   ·obtain ⟨x,u,h1,h2⟩:=Nm.om c r hc;rw [h2] at hp ⊢;simp only [Nm.parts,Bool.and_eq_true,Bool.or_eq_true] at hp;show (c::x==[42])=(c==42);rcases hp.2.1 with hl | hl
    ·have h0:Nm.oo (c::x) 0=true:=by
      simp only [Nm.label,decide_eq_true_eq] at hl;exact hl.2.2 0 (by simp)
     have aJ:(c==42)=false:=by
      rw [← Bool.not_eq_true];intro e;have:c=42:=by simpa using e
      subst this;simp [Nm.oo,Nm.C7] at h0
     have QR:c≠42:=by simpa using aJ
     rw [aJ];simp [QR]
    ·have:c::x=[42]:=by simpa using hl
     injection this with e1 e2;subst e1;subst e2;rfl
theorem Am {s z:Text} (hs:Nm.valid s=true) (hz:Nm.valid z=true):Nm.iB s z=Nm.under s z:=by simp [Nm.iB,hs,hz]
theorem Jg (z:aG) (hf:z.Fits):aq E 168 [z.enc] (· = .bool (lO z)):=by
 obtain ⟨ah,l⟩:=z;have nd:ah.length≤maxLen:=hf.ah;have ga:∀ s∈l,s.set.Fits:=hf.ab;unfold lO;simp only;cases hv:Nm.valid ah
 ·refine eP Tryz.func168 ?_
  with_reducible refine ao (gm _ nd) ?_
  refine gO Tryz.func168 ?_;rw [hv];refine bh rfl ?_;refine gO Tryz.func168 ?_;refine aV ?_;refine gO Tryz.func168 ?_;refine aV ?_;refine gO Tryz.func168 ?_;simp
 ·have px:=eJ hv;rw [Jf hv];refine eP Tryz.func168 ?_
  with_reducible refine ao (gm _ nd) ?_
  refine gO Tryz.func168 ?_;rw [hv];refine aZ rfl ?_;refine gO Tryz.func168 ?_
  with_reducible refine ao (z7 _ _) ?_
  refine gO Tryz.func168 ?_;rw [show preB ah _=Nm.gZ ah from Ip ah];cases hw:Nm.gZ ah
  case true =>
   refine aV ?_;refine gO Tryz.func168 ?_;refine aV ?_;refine gO Tryz.func168 ?_;simp
  refine aQ ?_;refine gO Tryz.func168 ?_;refine ai (fun h3=>?_) (fun h3=>?_)
  ·refine gO Tryz.func168 ?_;simp only [List.length_map] at h3;rw [h3];simp
  ·simp only [List.length_map] at h3;rw [h3];simp only [Bool.not_false,Bool.true_and];have IX:l.length≤20000:=by simp at h3; omega
   refine gO Tryz.func168 ?_;refine I.loop (κ:=Nat) (rg 2 6++rg 30 44) (fun k=>[(30,.d (.int .i64 k))]) (fun _=>[]) (fun k=>k≤l.length∧chain (eB ah) fT none l=chain (eB ah) fT (bT l k) (l.drop k)∧∀ q,bT l k=some q→ez q.set=true) (fun k=>l.length - k) 0 ⟨Nat.zero_le _,rfl,fun q h=>by simp [bT] at h⟩ ?_ ?_
   ·exact sZ
   ·intro k hk IH;refine I.head af Tryz.func168 2000 ?_;(conv=>whnf);refine ai (fun h5=>?_) (fun h5=>?_)
    ·have aj:k<l.length:=by simpa using h5
     obtain ⟨x,hx⟩:=aL aj;have aF:=xD (ok:=eB ah) (rel:=fT) hx;rw [← hk.2.1] at aF;have jC:=ga x (List.mem_of_getElem? hx);have sN:bT l (k+1)=some x:=by simp [bT,hx]
     cases hs:ez x.set
     ·refine gO Tryz.func168 ?_;refine aE (aX hx) rfl ?_;refine gO Tryz.func168 ?_
      with_reducible refine ao (uM x.set jC) ?_
      refine gO Tryz.func168 ?_;rw [hs];refine bh rfl ?_;refine gO Tryz.func168 ?_;rw [aF,eB,hs];simp
     ·have cx:=sM hs;have iA:=eJ cx;have pC:=uK x.set.name ah (by unfold maxLen; omega) nd;rw [Am cx hv] at pC;refine gO Tryz.func168 ?_;refine aE (aX hx) rfl ?_;refine gO Tryz.func168 ?_
      with_reducible refine ao (uM x.set jC) ?_
      refine gO Tryz.func168 ?_;rw [hs];refine aZ rfl ?_;refine gO Tryz.func168 ?_
      with_reducible refine ao (pC) ?_
      refine gO Tryz.func168 ?_;cases hu:Nm.under x.set.name ah
      ·refine bh rfl ?_;refine gO Tryz.func168 ?_;rw [aF,eB,hu];simp
      ·have aO:eB ah x=true:=by simp [eB,hs,hu]
       refine aZ rfl ?_;refine gO Tryz.func168 ?_;rcases Nat.eq_zero_or_pos k with cH | cH
       ·have dU:bT l k=none:=by simp [bT,cH]
        rw [dU] at aF;dsimp only at aF;rw [Bool.and_true,aO,Bool.true_and] at aF;refine bh (by simp [cH]) ?_;refine gO Tryz.func168 ?_;refine I.back (IH (k+1) ⟨by omega,aF,fun q hq=>by rw [sN] at hq; cases hq; exact hs⟩ (by omega)) ?_;exact sZ
       ·obtain ⟨q,hq,dU⟩:=uN cH hk.1;have Ai:=sM (hk.2.2 q dU);rw [dU] at aF;dsimp only at aF;rw [aO,Bool.true_and] at aF;have hc:=Jc q.set.name q.set.type x.set.name x.set.type Ai cx;rw [uV] at hc;refine aZ (by simp; omega) ?_;refine gO Tryz.func168 ?_;refine aE (nr hq cH (by omega)) rfl ?_;refine gO Tryz.func168 ?_
        with_reducible refine ao (hc) ?_
        refine gO Tryz.func168 ?_;refine ai (fun h8=>?_) (fun h8=>?_)
        ·have hb:fT q x=false:=by simp at h8; simp [fT]; omega
         refine gO Tryz.func168 ?_;rw [aF,hb,Bool.false_and]
        ·have hb:fT q x=true:=by simp at h8; simp [fT]; omega
         refine gO Tryz.func168 ?_;refine I.back (IH (k+1) ⟨by omega,by rw [aF,hb,Bool.true_and],fun q hq=>by rw [sN] at hq; cases hq; exact hs⟩ (by omega)) ?_;exact sZ
    ·have aC:l.length≤k:=by simpa using h5
     refine gO Tryz.func168 ?_;rw [hk.2.1,List.drop_of_length_le aC];rfl
theorem Jh {l:List Signed} {q:bj}:l.any (cE q) = !(decide (aU l q<0)):=by
 unfold aU;cases h:l.findIdx? (cE q) with
 |none =>
  have h1:=List.findIdx?_eq_none_iff.1 h;have:l.any (cE q)=false:=by
   rw [← Bool.not_eq_true,List.any_eq_true];rintro ⟨x,hx,ha⟩;rw [h1 x hx] at ha;cases ha
  rw [this];rfl
 |some i =>
  obtain ⟨hi,ha,-⟩:=List.findIdx?_eq_some_iff_getElem.1 h;have:l.any (cE q)=true:=List.any_eq_true.2 ⟨_,List.getElem_mem hi,ha⟩;rw [this];simp
theorem QS (z:aG) (hl:z.ab.length≤1000000) (hv:∀ s∈z.ab,Nm.valid s.set.name=true) (hq:Nm.valid z.ah=true) (hs:fp z.ab):aq E 169 [z.enc] (· = .bool (qN z)):=by
 have f1:=D1 z ⟨z.ah,4⟩ hl hv hq hs;have f2:=D1 z ⟨z.ah,2⟩ hl hv hq hs;obtain ⟨ah,l⟩:=z;simp only at *;unfold qN;simp only [← Jh];refine eP Tryz.func169 ?_;refine I.mw ?_;refine I.run af Tryz.func169 2000 ?_;(conv=>whnf);refine bh (by decide) ?_;refine gO Tryz.func169 ?_;refine ev (.int .i64 4) (by decide) rfl rfl ?_;refine gO Tryz.func169 ?_
 with_reducible refine wL (f1) ?_
 rintro r ⟨i,-,rfl,-⟩;refine gO Tryz.func169 ?_;cases h1:l.any (cE ⟨ah,4⟩)
 ·refine bh rfl ?_;refine gO Tryz.func169 ?_;rfl
 refine aZ rfl ?_;refine gO Tryz.func169 ?_;refine I.again ?_;refine I.run af Tryz.func169 2000 ?_;(conv=>whnf);refine bh (by decide) ?_;refine gO Tryz.func169 ?_;refine ev (.int .i64 2) (by decide) rfl rfl ?_;refine gO Tryz.func169 ?_
 with_reducible refine wL (f2) ?_
 rintro r ⟨j,-,rfl,-⟩;refine gO Tryz.func169 ?_;cases h2:l.any (cE ⟨ah,2⟩)
 ·refine bh rfl ?_;refine gO Tryz.func169 ?_;rfl
 refine aZ rfl ?_;refine gO Tryz.func169 ?_;refine I.again ?_;refine I.run af Tryz.func169 2000 ?_;(conv=>whnf);refine aZ (by decide) ?_;refine gO Tryz.func169 ?_;simp only [Bool.true_and];refine I.loop (κ:=Nat) ([2,8]++rg 32 17) (fun k=>[(32,.d (.int .i64 k))]) (fun _=>[]) (fun k=>k≤l.length∧(l.take k).all (fun s=>sK s.set.type (s.set.name==ah))=true) (fun k=>l.length - k) 0 ⟨Nat.zero_le _,rfl⟩ ?_ ?_
 ·exact sZ
 ·intro k hk IH;refine I.head af Tryz.func169 2000 ?_;(conv=>whnf);refine ai (fun h5=>?_) (fun h5=>?_)
  ·have aj:k<l.length:=by simpa using h5
   obtain ⟨x,hx⟩:=aL aj;refine gO Tryz.func169 ?_;repeat' (first | with_reducible refine aE (aX hx) rfl ?_ | with_reducible refine ao (I1 _ _) ?_ | with_reducible refine ay (I1 _ _) ?_ | with_reducible refine cY ?_ | with_reducible refine cN ?_ | with_reducible refine ai (fun _=>?_) (fun _=>?_) | refine gA Tryz.func169 ?_ | refine gB ?_ | with_reducible rfl)
   all_goals first
    |(rw [eX hx (by simp_all)]; done)
    |skip
   all_goals
    refine gO Tryz.func169 ?_;refine I.back (IH (k+1) ⟨by omega,fm hk.2 hx (by simp_all)⟩ (by omega)) ?_;exact sZ
  ·have aC:l.length≤k:=by simpa using h5
   refine gO Tryz.func169 ?_;rw [mE hk.2 aC]
end Go.Proofs.YtfmdaiojokniiaaGreatDoor.P
end
section
namespace Go.Proofs.YtfmdaiojokniiaaGreatDoor.P
open Go Go.aw
set_option maxRecDepth 100000
set_option maxHeartbeats 4000000
def qU (ah:Text) (l:List Signed):List (DV × DV):=l.foldl (fun es s=>if gH ah s then bO (.str s.set.name) (.bool true) es else es) []
theorem QT {ah:Text} {l:List Signed} {k:Nat} {x:Signed} (h:l[k]? = some x):qU ah (l.take (k+1))=if gH ah x then bO (.str x.set.name) (.bool true) (qU ah (l.take k)) else qU ah (l.take k):=by
 rw [cI h,qU,List.foldl_append];rfl
theorem An (a b:Text):dY (.str a) (.str b)=(a==b):=rfl
def StrKeys (es:List (DV × DV)):Prop:=∀ p∈es,∃ s,p.1=DV.str s
theorem Ji {n:Text} {v:DV}:∀ {es:List (DV × DV)},StrKeys es→StrKeys (bO (.str n) v es)
 | [],_,p,hp=>by simp [bO] at hp; subst hp; exact ⟨_,rfl⟩
 |q::es,h,p,hp=>by
  unfold bO at hp;split at hp
  ·rcases List.mem_cons.1 hp with rfl | hp
   ·exact ⟨_,rfl⟩
   ·exact h p (List.mem_cons_of_mem _ hp)
  ·rcases List.mem_cons.1 hp with rfl | hp
   ·exact h _ (List.mem_cons_self ..)
   ·exact Ji (fun r hr=>h r (List.mem_cons_of_mem _ hr)) p hp
theorem Jj {n m:Text} {v:DV}:∀ {es:List (DV × DV)},StrKeys es→findD (.str m) (bO (.str n) v es)=if m==n then some v else findD (.str m) es
 | [],_=>by simp [bO,findD,An]
 |q::es,h=>by
  obtain ⟨s,hs⟩:=h q (List.mem_cons_self ..);obtain ⟨q1,q2⟩:=q;simp only at hs;subst hs;unfold bO;simp only [An];by_cases e:n=s
  ·subst e;simp only [beq_self_eq_true,if_true,findD,An];by_cases e2:m=n
   ·simp [e2]
   ·simp [e2]
  ·have ih:=Jj (n:=n) (m:=m) (v:=v) (es:=es) (fun r hr=>h r (List.mem_cons_of_mem _ hr));have e':(n==s)=false:=by simpa using e
   simp only [e',Bool.false_eq_true,if_false,findD,An,ih];by_cases e2:m=s
   ·subst e2;have:(m==n)=false:=by simpa using fun h=>e h.symm
    simp [this]
   ·simp [e2]
theorem D2 (ah:Text) (l:List Signed):StrKeys (qU ah l)∧∀ n,findD (.str n) (qU ah l)=if (bV ah l).contains n then some (.bool true) else none:=by
 have main:∀ (l:List Signed) (es:List (DV × DV)) (C:List Text),StrKeys es→(∀ n,findD (.str n) es=if C.contains n then some (.bool true) else none) →
   StrKeys (l.foldl (fun es s=>if gH ah s then bO (.str s.set.name) (.bool true) es else es) es)∧∀ n,findD (.str n) (l.foldl (fun es s=>if gH ah s then bO (.str s.set.name) (.bool true) es else es) es)=if (C++bV ah l).contains n then some (.bool true) else none:=by
  intro l
  induction l with
  |nil=>intro es C h1 h2; exact ⟨h1,by simpa [bV] using h2⟩
  |cons s l ih =>
   intro es C h1 h2;cases hc:gH ah s
   ·have e:bV ah (s::l)=bV ah l:=by simp [bV,hc]
    simp only [List.foldl_cons,hc,Bool.false_eq_true,if_false,e];exact ih es C h1 h2
   ·have e:bV ah (s::l)=s.set.name::bV ah l:=by simp [bV,hc]
    simp only [List.foldl_cons,hc,if_true,e]
    have:=ih (bO (.str s.set.name) (.bool true) es) (C++[s.set.name]) (Ji h1) (fun n=>by
     rw [Jj h1,h2 n];by_cases h:n=s.set.name
     ·simp [h]
     ·simp [h])
    simpa using this
 have:=main l [] [] (fun p hp=>by simp at hp) (fun n=>by simp [findD])
 simpa [qU] using this
def fG (C:List Text) (cut n:Text):Text:=if (if cut != [] && !Nm.under n cut then [] else cut)==[]&&C.contains n then n else (if cut != [] && !Nm.under n cut then [] else cut)
def ox (C:List Text):Text→List Text→List Text
 |_,[]=>[]
 |cut,n::ns=>fG C cut n::ox C (fG C cut n) ns
theorem Jk (C:List Text):∀ (k:Text) (ns:List Text),(ox C k ns).length=ns.length
 |_,[]=>rfl
 |k,n::ns=>by simp [ox,Jk C _ ns]
def uW (z:aG):List Text:=ox (bV z.ah z.ab) [] (z.ab.map (·.set.name))
theorem QU (z:aG):(uW z).length=z.ab.length:=by simp [uW,Jk]
theorem xN {C:List Text} {cut n:Text} (hn:Nm.valid n=true) (hc:cut=[]∨Nm.valid cut=true):fG C cut n=[]∨Nm.valid (fG C cut n)=true:=by
 cases h:(cut != [] && !Nm.under n cut)
 ·simp only [fG,h,Bool.false_eq_true,if_false];split
  ·exact .inr hn
  ·exact hc
 ·simp only [fG,h,if_true];split
  ·exact .inr hn
  ·exact .inl rfl
theorem QV (z:aG) (hl:z.ab.length≤1000000) (hv:∀ s∈z.ab,Nm.valid s.set.name=true):aq E 170 [z.enc] (· = xH z (uW z)):=by
 have gp:=QU z;have DO:uW z=ox (bV z.ah z.ab) [] (z.ab.map (·.set.name)):=rfl;generalize uW z=B at *;obtain ⟨ah,l⟩:=z;simp only at *;refine eP Tryz.func170 ?_;refine gO Tryz.func170 ?_;refine I.loop (κ:=Nat) ([5]++rg 18 22) (fun k=>[(18,.d (.int .i64 k)),(3,.map 2)]) (fun k=>[(2,.map (qU ah (l.take k)))]) (fun k=>k≤l.length) (fun k=>l.length - k) 0 (Nat.zero_le _) ?_ ?_
 ·(conv=>whnf);repeat (first | exact trivial | (refine And.intro (by first | with_reducible rfl | exact congrArg (DV.int .i64) (by omega) | exact rfl | exact congrArg (DV.int .i64) (wrap64 (by omega) (by omega)) | exact congrArg (DV.int .i64) ((wrap64 (by omega) (by omega)).trans (by omega))) ?_; conv=>whnf))
 ·intro k hk IH;refine I.head af Tryz.func170 2000 ?_;(conv=>whnf);refine ai (fun h5=>?_) (fun h5=>?_)
  ·have aj:k<l.length:=by simpa using h5
   obtain ⟨x,hx⟩:=aL aj;have aF:=QT (ah:=ah) hx;have fq:=(D2 ah (l.take k)).1;refine gO Tryz.func170 ?_;repeat' (first | with_reducible refine aE (aX hx) rfl ?_ | with_reducible refine cY ?_ | with_reducible refine cN ?_ | with_reducible refine ai (fun _=>?_) (fun _=>?_) | refine gA Tryz.func170 ?_ | refine gB ?_ | with_reducible rfl)
   all_goals first
    |(refine a8 ⟨⟨_, rfl⟩, fq⟩ ?_
      have hc : gH ah x = true := by simp_all [gH])
    |(have hc:gH ah x=false:=by simp_all [gH])
   all_goals
    rw [hc] at aF;refine gO Tryz.func170 ?_;refine I.back (IH (k+1) (by omega) (by omega)) ?_;(conv=>whnf);repeat (first | exact trivial | (refine sI ?_; conv=>whnf))
    refine And.intro (by rw [aF]; simp) ?_;exact sZ
  ·have aC:l.length≤k:=by simpa using h5
   rw [List.take_of_length_le aC];refine gO Tryz.func170 ?_;refine I.bH af bI 2000 (by kernel_rfl) ?_;(conv=>whnf);refine a8 (by simp; omega) ?_;refine gD ?_;refine And.intro (by kernel_rfl) ?_;(conv=>whnf);(conv=>whnf);refine gO Tryz.func170 ?_;refine I.loop (κ:=Nat × Text) [7,8,9,10,11,12,51,52,53,54,55,56,57,58,59,60,61,62,63,64,65,66,67,68,69,70,71,72,73,74,75,76,77,78,79,80,81,82] (fun k=>[(51,.d (.int .i64 k.1)),(7,.d (.str k.2))]) (fun k=>[(3,.arr 0 (9,1) ((B.take k.1++List.replicate (l.length - k.1) []).map .str))]) (fun k=>k.1≤l.length∧B.drop k.1=ox (bV ah l) k.2 ((l.drop k.1).map (·.set.name))∧(k.2=[]∨Nm.valid k.2=true)) (fun k=>l.length - k.1) (0,[]) ⟨Nat.zero_le _,by simpa using DO,.inl rfl⟩ ?_ ?_
   ·(conv=>whnf);repeat (first | exact trivial | (refine sI ?_; conv=>whnf))
    refine And.intro (by simp) ?_;exact sZ
   ·rintro ⟨i,cut⟩ hk IH;simp only at hk;refine I.head af Tryz.func170 2000 ?_;(conv=>whnf);refine ai (fun h5=>?_) (fun h5=>?_)
    ·have aj:i<l.length:=by simpa using h5
     obtain ⟨x,hx⟩:=aL aj;have cx:=hv x (List.mem_of_getElem? hx);have iA:=eJ cx;have DP:(l.drop i).map (·.set.name)=x.set.name::(l.drop (i+1)).map (·.set.name):=by
      have e1:l[i]=x:=by simpa [aj] using hx
      rw [List.drop_eq_getElem_cons aj,e1];rfl
     obtain ⟨-,sL,hcut⟩:=hk;rw [DP,ox] at sL;have eR:B[i]? = some (fG (bV ah l) cut x.set.name):=by
      have:=congrArg (fun l=>l[0]?) sL
      simpa using this
     have hX:B.drop (i+1)=ox (bV ah l) (fG (bV ah l) cut x.set.name) ((l.drop (i+1)).map (·.set.name)):=by
      have:=congrArg List.tail sL
      simpa using this
     have nu:=(D2 ah l).2 x.set.name;have fq:=(D2 ah l).1;refine gO Tryz.func170 ?_;refine aE (aX hx) rfl ?_;refine gO Tryz.func170 ?_;rcases Ao:cut with _ | ⟨c0,Xy⟩
     ·subst Ao;refine aZ (by simp) ?_;refine gO Tryz.func170 ?_;refine bh (by simp) ?_;refine gO Tryz.func170 ?_;refine n0 (.bool false) (.bool false) (v := .bool ((bV ah l).contains x.set.name)) (f:=(bV ah l).contains x.set.name) ⟨_,rfl⟩ fq (fun w=>by kernel_rfl) (fun _ _ => .bool _) (by rw [nu]; split <;> simp_all) (by rw [nu]; split <;> simp_all) ?_;refine gO Tryz.func170 ?_;cases xO:(bV ah l).contains x.set.name
      ·refine aQ ?_;refine gO Tryz.func170 ?_;have hS:fG (bV ah l) ([]:Text) x.set.name=[]:=by simp [fG]; intro h; exact absurd h (by simpa using xO)
       refine a8 ⟨by omega,by simp; omega⟩ ?_;refine gO Tryz.func170 ?_;refine ev (.str []) (by omega) (by simp only [Int.toNat_natCast,List.getElem?_map]; rw [qR gp aj]; rfl) rfl ?_;refine gO Tryz.func170 ?_;refine I.back (IH (i+1,[]) ⟨by simp only; omega,by rw [hS] at hX; exact hX,by have hq:=xN (C:=bV ah l) cx hcut; rw [hS] at hq; exact hq⟩ (by simp only; omega)) ?_;(conv=>whnf);repeat (first | exact trivial | (refine sI ?_; conv=>whnf))
       refine And.intro (by rw [← qQ (e:=[]) (x:=[]) gp (by rw [hS] at eR; exact eR)]; simp [List.map_set]) ?_;exact sZ
      ·refine aV ?_;refine gO Tryz.func170 ?_;have hS:fG (bV ah l) ([]:Text) x.set.name=x.set.name:=by simp [fG]; intro h; exact absurd (by simpa using xO) h
       refine a8 ⟨by omega,by simp; omega⟩ ?_;refine gO Tryz.func170 ?_;refine ev (.str []) (by omega) (by simp only [Int.toNat_natCast,List.getElem?_map]; rw [qR gp aj]; rfl) rfl ?_;refine gO Tryz.func170 ?_;refine I.back (IH (i+1,x.set.name) ⟨by simp only; omega,by rw [hS] at hX; exact hX,by have hq:=xN (C:=bV ah l) cx hcut; rw [hS] at hq; exact hq⟩ (by simp only; omega)) ?_;(conv=>whnf);repeat (first | exact trivial | (refine sI ?_; conv=>whnf))
       refine And.intro (by rw [← qQ (e:=[]) (x:=x.set.name) gp (by rw [hS] at eR; exact eR)]; simp [List.map_set]) ?_;exact sZ
     ·have pZ:Nm.valid cut=true:=by
       rcases hcut with h | h
       ·rw [Ao] at h; cases h
       ·exact h
      have dm:=eJ pZ;have pC:=uK x.set.name cut (by unfold maxLen; omega) (by unfold maxLen; omega);rw [Am cx pZ] at pC;rw [← Ao];have aJ:cut≠[]:=by rw [Ao]; simp
      refine bh (by simpa using aJ) ?_;refine gO Tryz.func170 ?_
      with_reducible refine ao (pC) ?_
      refine gO Tryz.func170 ?_;cases hu:Nm.under x.set.name cut
      ·refine bh rfl ?_;refine gO Tryz.func170 ?_;refine bh (by simp) ?_;refine gO Tryz.func170 ?_;refine n0 (.bool false) (.bool false) (v := .bool ((bV ah l).contains x.set.name)) (f:=(bV ah l).contains x.set.name) ⟨_,rfl⟩ fq (fun w=>by kernel_rfl) (fun _ _ => .bool _) (by rw [nu]; split <;> simp_all) (by rw [nu]; split <;> simp_all) ?_;refine gO Tryz.func170 ?_;cases xO:(bV ah l).contains x.set.name
       ·refine aQ ?_;refine gO Tryz.func170 ?_;have hS:fG (bV ah l) cut x.set.name=[]:=by simp [fG,hu,aJ]; intro h; exact absurd h (by simpa using xO)
        refine a8 ⟨by omega,by simp; omega⟩ ?_;refine gO Tryz.func170 ?_;refine ev (.str []) (by omega) (by simp only [Int.toNat_natCast,List.getElem?_map]; rw [qR gp aj]; rfl) rfl ?_;refine gO Tryz.func170 ?_;refine I.back (IH (i+1,[]) ⟨by simp only; omega,by rw [hS] at hX; exact hX,by have hq:=xN (C:=bV ah l) cx hcut; rw [hS] at hq; exact hq⟩ (by simp only; omega)) ?_;(conv=>whnf);repeat (first | exact trivial | (refine sI ?_; conv=>whnf))
        refine And.intro (by rw [← qQ (e:=[]) (x:=[]) gp (by rw [hS] at eR; exact eR)]; simp [List.map_set]) ?_;exact sZ
       ·refine aV ?_;refine gO Tryz.func170 ?_;have hS:fG (bV ah l) cut x.set.name=x.set.name:=by simp [fG,hu,aJ]; intro h; exact absurd (by simpa using xO) h
        refine a8 ⟨by omega,by simp; omega⟩ ?_;refine gO Tryz.func170 ?_;refine ev (.str []) (by omega) (by simp only [Int.toNat_natCast,List.getElem?_map]; rw [qR gp aj]; rfl) rfl ?_;refine gO Tryz.func170 ?_;refine I.back (IH (i+1,x.set.name) ⟨by simp only; omega,by rw [hS] at hX; exact hX,by have hq:=xN (C:=bV ah l) cx hcut; rw [hS] at hq; exact hq⟩ (by simp only; omega)) ?_;(conv=>whnf);repeat (first | exact trivial | (refine sI ?_; conv=>whnf))
        refine And.intro (by rw [← qQ (e:=[]) (x:=x.set.name) gp (by rw [hS] at eR; exact eR)]; simp [List.map_set]) ?_;exact sZ
      ·have hS:fG (bV ah l) cut x.set.name=cut:=by simp [fG,hu,aJ]
       refine aZ rfl ?_;refine gO Tryz.func170 ?_;refine aZ (by simpa using aJ) ?_;refine gO Tryz.func170 ?_;refine aQ ?_;refine gO Tryz.func170 ?_;refine a8 ⟨by omega,by simp; omega⟩ ?_;refine gO Tryz.func170 ?_;refine ev (.str []) (by omega) (by simp only [Int.toNat_natCast,List.getElem?_map]; rw [qR gp aj]; rfl) rfl ?_;refine gO Tryz.func170 ?_;refine I.back (IH (i+1,cut) ⟨by simp only; omega,by rw [hS] at hX; exact hX,by have hq:=xN (C:=bV ah l) cx hcut; rw [hS] at hq; exact hq⟩ (by simp only; omega)) ?_;(conv=>whnf);repeat (first | exact trivial | (refine sI ?_; conv=>whnf))
       refine And.intro (by rw [← qQ (e:=[]) (x:=cut) gp (by rw [hS] at eR; exact eR)]; simp [List.map_set]) ?_;exact sZ
    ·have aC:l.length≤i:=by simpa using h5
     refine gO Tryz.func170 ?_;simp only [show l.length - i=0 by omega,List.replicate_zero,List.append_nil];rw [List.take_of_length_le (by omega)]
end Go.Proofs.YtfmdaiojokniiaaGreatDoor.P
end
section
namespace Go.Proofs.YtfmdaiojokniiaaGreatDoor.P
open Go Go.aw
set_option maxRecDepth 100000
set_option maxHeartbeats 4000000
theorem Ap {a b c:Text} (h:bu a b≤0) (k:bu b c≤0):bu a c≤0:=by
 rcases Int.lt_or_eq_of_le h with h | h
 ·rcases Int.lt_or_eq_of_le k with k | k
  ·exact Int.le_of_lt (xJ h k)
  ·rw [← ow k]; exact Int.le_of_lt h
 ·rw [ow h]; exact k
theorem Jl (a:Text):Nm.under a a=true:=by simp [Nm.under]
def hY (l:List Text):Prop:=∀ (i j:Nat) (x y:Text),i<j→l[i]? = some x→l[j]? = some y→bu x y≤0
def qV (l:List Text):Prop:=∀ (i j:Nat) (x y:Text),i<j→l[i]? = some x→l[j]? = some y→Nm.under y x=false
theorem hY.snoc {l:List Text} {c:Text} (h:hY (l++[c])):hY l∧∀ x∈l,bu x c≤0:=by
 refine ⟨fun i j x y dj hx hy=>h i j x y dj (by rw [List.getElem?_append_left (aR hx)]; exact hx) (by rw [List.getElem?_append_left (aR hy)]; exact hy),fun x hx=>?_⟩;obtain ⟨i,hi⟩:=List.getElem?_of_mem hx;have:=aR hi;exact h i l.length x c this (by rw [List.getElem?_append_left this]; exact hi) (by simp)
theorem sQ {α:Type} {l:List α} {c x:α} {i:Nat} (h:(l++[c])[i]? = some x):l[i]? = some x∨(i=l.length∧x=c):=by
 rcases Nat.lt_or_ge i l.length with hi | hi
 ·rw [List.getElem?_append_left hi] at h; exact .inl h
 ·rw [List.getElem?_append_right hi] at h;have h0:i - l.length=0:=by
   have:=aR h;simp at this;omega
  rw [h0] at h;simp at h;exact .inr ⟨by omega,h.symm⟩
theorem Jm:∀ (C:List Text),hY C→hY (eA C)∧qV (eA C)∧(∀ c∈C,∃ d∈eA C,Nm.under c d=true):=by
 have main:∀ (n:Nat) (C:List Text),C.length=n→hY C→hY (eA C)∧qV (eA C)∧(∀ c∈C,∃ d∈eA C,Nm.under c d=true):=by
  intro n
  induction n with
  |zero =>
   intro C hn _;obtain rfl:C=[]:=List.eq_nil_of_length_eq_zero hn;exact ⟨fun i j x y _ h=>by simp [eA] at h,fun i j x y _ h=>by simp [eA] at h,fun c h=>by simp at h⟩
  |succ n ih =>
   intro C hn hA;rcases List.eq_nil_or_concat C with rfl | ⟨P,c,rfl⟩
   ·simp at hn
   rw [List.concat_eq_append] at *;obtain ⟨QW,QX⟩:=hA.snoc;obtain ⟨i1,i2,i3⟩:=ih P (by simpa using hn) QW;have e:eA (P++[c])=jB (eA P) c:=by rw [eA,List.foldl_append]; rfl
   have hle:∀ d∈eA P,bu d c≤0:=fun d hd=>QX d (uQ d hd);rw [e];generalize eA P=H at *;rcases List.eq_nil_or_concat H with rfl | ⟨H0,d,rfl⟩
   ·have e2:jB [] c=[c]:=rfl;rw [e2];refine ⟨fun i j x y dj hx hy=>?_,fun i j x y dj hx hy=>?_,fun x hx=>?_⟩
    ·have:=aR hy; simp at this; omega
    ·have:=aR hy; simp at this; omega
    ·rcases List.mem_append.1 hx with hx | hx
     ·obtain ⟨d,hd,-⟩:=i3 x hx;simp at hd
     ·simp at hx; subst hx; exact ⟨x,by simp,Jl x⟩
   ·rw [List.concat_eq_append] at *;have e2:jB (H0++[d]) c=if Nm.under c d then H0++[d] else H0++[d]++[c]:=by simp [jB]
    rw [e2];cases hu:Nm.under c d
    ·simp only [Bool.false_eq_true,if_false];refine ⟨fun i j x y dj hx hy=>?_,fun i j x y dj hx hy=>?_,fun x hx=>?_⟩
     ·rcases sQ hy with fb | ⟨rfl,rfl⟩
      ·rcases sQ hx with hx | ⟨rfl,rfl⟩
       ·exact i1 i j x y dj hx fb
       ·exact absurd (aR fb) (by omega)
      ·rcases sQ hx with hx | ⟨h,-⟩
       ·exact hle x (List.mem_of_getElem? hx)
       ·omega
     ·rcases sQ hy with fb | ⟨rfl,rfl⟩
      ·rcases sQ hx with hx | ⟨rfl,rfl⟩
       ·exact i2 i j x y dj hx fb
       ·exact absurd (aR fb) (by omega)
      ·rcases sQ hx with hx | ⟨h,-⟩
       ·rcases sQ hx with Ak | ⟨-,rfl⟩
        ·rw [← Bool.not_eq_true];intro QY;have hd:(H0++[d])[H0.length]? = some d:=by simp
         have jN:=aR Ak;have h1:=i1 i H0.length x d jN hx hd;have h2:=hle d (by simp);have h3:=uU h1 h2 QY;rw [i2 i H0.length x d jN hx hd] at h3;cases h3
        ·exact hu
       ·omega
     ·rcases List.mem_append.1 hx with hx | hx
      ·obtain ⟨q,hq,QZ⟩:=i3 x hx;exact ⟨q,List.mem_append_left _ hq,QZ⟩
      ·simp at hx; subst hx; exact ⟨x,by simp,Jl x⟩
    ·simp only [if_true];refine ⟨i1,i2,fun x hx=>?_⟩;rcases List.mem_append.1 hx with hx | hx
     ·exact i3 x hx
     ·simp at hx; subst hx; exact ⟨d,by simp,hu⟩
 exact fun C=>main C.length C rfl
def pD (H:List Text) (n r:Text):Prop:=(r∈H∧Nm.under n r=true)∨(r=[]∧∀ d∈H,Nm.under n d=false)
theorem Jn {H:List Text} (hA:hY H) (hP:qV H) {n d e:Text} (hd:d∈H) (he:e∈H) (h1:Nm.under n d=true) (h2:Nm.under n e=true):d=e:=by
 obtain ⟨i,hi⟩:=List.getElem?_of_mem hd;obtain ⟨j,hj⟩:=List.getElem?_of_mem he;rcases Nat.lt_trichotomy i j with h | h | h
 ·have:=uU (hA i j d e h hi hj) (xK h2) h1;rw [hP i j d e h hi hj] at this;cases this
 ·subst h; rw [hi] at hj; exact Option.some.inj hj
 ·have:=uU (hA j i e d h hj hi) (xK h1) h2;rw [hP j i e d h hj hi] at this;cases this
theorem pD.unique {H:List Text} (hA:hY H) (hP:qV H) {n r s:Text} (h1:pD H n r) (h2:pD H n s):r=s:=by
 rcases h1 with ⟨a1,a2⟩ | ⟨a1,a2⟩
 ·rcases h2 with ⟨b1,b2⟩ | ⟨b1,b2⟩
  ·exact Jn hA hP a1 b1 a2 b2
  ·rw [b2 r a1] at a2; cases a2
 ·rcases h2 with ⟨b1,b2⟩ | ⟨b1,b2⟩
  ·rw [a2 s b1] at b2; cases b2
  ·rw [a1,b1]
theorem D3 {α:Type} (p:α→Bool):∀ (l:List α),∀ x∈l.takeWhile p,p x=true
 | [],x,h=>by simp at h
 |a::l,x,h=>by
  rw [List.takeWhile_cons] at h;cases ha:p a
  ·rw [ha] at h; simp at h
  ·rw [ha] at h;rcases List.mem_cons.1 h with rfl | h
   ·exact ha
   ·exact D3 p l x h
theorem Jo {α:Type} (p:α→Bool):∀ (l:List α) (x:α),l[(l.takeWhile p).length]? = some x→p x=false
 | [],x,h=>by simp at h
 |a::l,x,h=>by
  rw [List.takeWhile_cons] at h;cases ha:p a
  ·rw [ha] at h; simp at h; rw [← h]; exact ha
  ·rw [ha] at h;exact Jo p l x (by simpa using h)
theorem Jp {H:List Text} (hA:hY H) (hP:qV H) {n:Text} {k:Nat} (hk:k≤H.length) (je:∀ m d,m<k→H[m]? = some d→bu d n≤0) :
  pD H n (kM H n (dZ H n k))∧(∀ m d,m<dZ H n k→H[m]? = some d→bu d n≤0):=by
 have px:=Ag (n:=n) hk;have low:∀ m d,m<dZ H n k→H[m]? = some d→bu d n≤0:=fun m d hm hd=>by
  rcases Nat.lt_or_ge m k with h | h
  ·exact je m d h hd
  ·unfold dZ at hm;have h1:(H.drop k)[m - k]? = some d:=by rw [List.getElem?_drop,show k+(m - k)=m by omega]; exact hd
   have h2:=List.takeWhile_prefix (fun c=>decide (bu c n≤0)) (l:=H.drop k);have h3:((H.drop k).takeWhile fun c=>decide (bu c n≤0))[m - k]? = some d:=by
    obtain ⟨r,hr⟩:=h2;rw [← hr,List.getElem?_append_left (by omega)] at h1;exact h1
   simpa using D3 _ _ d (List.mem_of_getElem? h3)
 have high:∀ m d,dZ H n k≤m→H[m]? = some d→Nm.under n d=false:=fun m d hm hd=>by
  rw [← Bool.not_eq_true];intro hu;have h1:=xK hu;obtain ⟨e,he⟩:=aL (l:=H) (k:=dZ H n k) (by have:=aR hd; omega);have h2:bu e n≤0:=by
   rcases Nat.lt_or_ge (dZ H n k) m with h | h
   ·exact Ap (hA _ m e d h he hd) h1
   ·obtain rfl:m=dZ H n k:=by omega
    rw [he] at hd; cases hd; exact h1
  have h3:(H.drop k)[((H.drop k).takeWhile fun c=>decide (bu c n≤0)).length]? = some e:=by
   rw [List.getElem?_drop]; exact he
  have h6:=Jo _ _ e h3;simp at h6;omega
 refine ⟨?_,low⟩;generalize dZ H n k=j at *;unfold kM;by_cases hj:j=0
 ·rw [if_pos hj];refine .inr ⟨rfl,fun d hd=>?_⟩;obtain ⟨m,hm⟩:=List.getElem?_of_mem hd;exact high m d (by omega) hm
 ·rw [if_neg hj];obtain ⟨c,hc⟩:=aL (l:=H) (k:=j - 1) (by omega);rw [hc];dsimp only;cases hu:Nm.under n c
  ·simp only [Bool.false_eq_true,if_false];refine .inr ⟨rfl,fun d hd=>?_⟩;obtain ⟨m,hm⟩:=List.getElem?_of_mem hd;rcases Nat.lt_or_ge m j with h | h
   ·rcases Nat.lt_or_ge m (j - 1) with h' | h'
    ·rw [← Bool.not_eq_true];intro Q0;have:=uU (hA m (j - 1) d c h' hm hc) (low (j - 1) c (by omega) hc) Q0;rw [hP m (j - 1) d c h' hm hc] at this;cases this
    ·obtain rfl:m=j - 1:=by omega
     rw [hc] at hm;cases hm;exact hu
   ·exact high m d h hm
  ·simp only [if_true];exact .inl ⟨List.mem_of_getElem? hc,hu⟩
theorem Q1 {C H:List Text} (hA:hY H) (hP:qV H) (pE:∀ d∈H,d∈C) (uX:∀ c∈C,∃ d∈H,Nm.under c d=true) (aJ:∀ c∈C,c≠[]) {cut n:Text} {prev:Option Text}
  (hcut:match prev with | none=>cut=[] | some p=>pD H p cut) (Aq:∀ d∈H,bu d n<0→∃ p,prev=some p∧bu d p≤0) (my:∀ p,prev=some p→bu p n≤0):pD H n (fG C cut n):=by
 have key:∀ d∈H,Nm.under n d=true→d≠n→cut=d:=fun d hd hu pF=>by
  have h1:=xK hu;have h2:bu d n<0:=by
   rcases Int.lt_or_eq_of_le h1 with h | h
   ·exact h
   ·exact absurd (ow h) pF
  obtain ⟨p,hp,jD⟩:=Aq d hd h2;have h3:=uU jD (my p hp) hu;rw [hp] at hcut;exact hcut.unique hA hP (.inl ⟨hd,h3⟩)
 by_cases hc:cut≠[]∧Nm.under n cut=true
 ·have e:fG C cut n=cut:=by simp [fG,hc.1,hc.2]
  rw [e];refine .inl ⟨?_,hc.2⟩;cases prev with
  |none=>exact absurd hcut hc.1
  |some p =>
   rcases hcut with h | h
   ·exact h.1
   ·exact absurd h.1 hc.1
 ·have no:∀ d∈H,Nm.under n d=true→d=n:=fun d hd hu=>by
   apply Classical.byContradiction;intro pF;have:=key d hd hu pF;subst this;exact hc ⟨aJ _ (pE _ hd),hu⟩
  have e0:(if cut != [] && !Nm.under n cut then [] else cut)=[]:=by
   by_cases h1:cut=[]
   ·simp [h1]
   ·have:Nm.under n cut=false:=by
     rw [← Bool.not_eq_true];exact fun h=>hc ⟨h1,h⟩
    simp [h1,this]
  have e:fG C cut n=if C.contains n then n else []:=by
   simp only [fG,e0];cases C.contains n <;> rfl
  rw [e];cases dA:C.contains n
  ·refine .inr ⟨by simp,fun d hd=>?_⟩;rw [← Bool.not_eq_true];intro hu;have:=no d hd hu;subst this;have:C.contains d=true:=by simpa using pE d hd
   rw [dA] at this;cases this
  ·simp only [if_true];have hn:n∈C:=by simpa using dA
   obtain ⟨d,hd,hu⟩:=uX n hn;have:=no d hd hu;subst this;exact .inl ⟨hd,hu⟩
theorem Jq {C H:List Text} (hA:hY H) (hP:qV H) (pE:∀ d∈H,d∈C) (uX:∀ c∈C,∃ d∈H,Nm.under c d=true) (aJ:∀ c∈C,c≠[]) :
  ∀ (rest done:List Text) (cut:Text) (k:Nat),hY (done++rest)→(∀ c∈C,c∈done++rest)→k≤H.length→(match done.getLast? with | none=>cut=[] | some p=>pD H p cut)→(∀ m d,m<k→H[m]? = some d→∃ p,done.getLast? = some p∧bu d p≤0)→ox C cut rest=lM H k rest
 | [],_,_,_,_,_,_,_,_=>rfl
 |n::rest,done,cut,k,pG,aW,hk,hcut,je=>by
  have my:∀ p,done.getLast? = some p→bu p n≤0:=fun p hp=>by
   have hl:0<done.length:=by cases done with | nil=>simp at hp | cons=>simp
   rw [List.getLast?_eq_getElem?] at hp;exact pG (done.length - 1) done.length p n (by omega) (by rw [List.getElem?_append_left (by omega)]; exact hp) (by simp)
  have Aq:∀ d∈H,bu d n<0→∃ p,done.getLast? = some p∧bu d p≤0:=fun d hd pF=>by
   have:=aW d (pE d hd);obtain ⟨i,hi⟩:=List.getElem?_of_mem this;have oT:(done++n::rest)[done.length]? = some n:=by simp
   have aj:i<done.length:=by
    rcases Nat.lt_trichotomy i done.length with h | h | h
    ·exact h
    ·subst h; rw [oT] at hi; cases hi; rw [nw] at pF; omega
    ·have h1:=pG done.length i n d h oT hi;have h2:=xI d n;omega
   rw [List.getElem?_append_left aj] at hi;obtain ⟨p,hp⟩:=aL (l:=done) (k:=done.length - 1) (by omega);refine ⟨p,by rw [List.getLast?_eq_getElem?]; exact hp,?_⟩;rcases Nat.lt_or_ge i (done.length - 1) with h | h
   ·exact pG i (done.length - 1) d p h (by rw [List.getElem?_append_left aj]; exact hi) (by rw [List.getElem?_append_left (by omega)]; exact hp)
   ·obtain rfl:i=done.length - 1:=by omega
    rw [hp] at hi; cases hi;rw [nw]; omega
  have f1:=Q1 hA hP pE uX aJ hcut Aq my
  obtain ⟨f2,f3⟩:=Jp hA hP (n:=n) hk (fun m d hm hd=>by
   obtain ⟨p,hp,jD⟩:=je m d hm hd
   exact Ap jD (my p hp))
  have e:=f1.unique hA hP f2;simp only [ox,lM,e]
  congr 1
  have ih:=Jq hA hP pE uX aJ rest (done++[n]) (kM H n (dZ H n k)) (dZ H n k) (by simpa using pG) (by simpa using aW) (Ag hk) (by simpa using f2) (fun m d hm hd=>⟨n,by simp,f3 m d hm hd⟩);exact ih
end Go.Proofs.YtfmdaiojokniiaaGreatDoor.P
end
