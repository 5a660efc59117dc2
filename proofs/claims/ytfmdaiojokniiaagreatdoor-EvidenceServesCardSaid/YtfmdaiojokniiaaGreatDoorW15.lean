/- Several texts of mine, one behind the other. Conditions: as each says. -/
import Derived.Test.YtfmdaiojokniiaaGreatDoorW14
import Derived.Lib.Bytealg
set_option linter.unusedVariables false
set_option linter.unusedSimpArgs false
section
namespace Go.Proofs.YtfmdaiojokniiaaGreatDoor.P
open Go Go.aw
set_option maxRecDepth 100000
set_option maxHeartbeats 4000000
theorem HB (t:Int) (ai:Bool):au E 245 [.int .i64 t,.bool ai] (· = .bool (y8 t ai)):=by
 refine eP Tryz.func245 ?_;repeat' (first | with_reducible refine cY ?_ | with_reducible refine cN ?_ | with_reducible refine aj (fun _=>?_) (fun _=>?_) | refine gA Tryz.func245 ?_ | refine gB ?_ | with_reducible rfl)
 all_goals (cases ai <;> simp_all [y8])
theorem HC (l:List di) (ai:Text):au E 246 [yJ l,.str ai] (· = .bool (nx l ai)):=by
 unfold nx;have hg:∃ g0,g0=l.headD CS:=⟨_,rfl⟩;obtain ⟨g0,hg⟩:=hg;rw [← hg];refine eP Tryz.func246 ?_;refine aj (fun h1=>?_) (fun h1=>?_)
 ·refine gO Tryz.func246 ?_;simp only [List.length_map] at h1;rw [decide_eq_false (by simp at h1; omega),Bool.false_and]
 ·have h6:l.length≤6:=by simp at h1; omega
  rw [decide_eq_true (by omega),Bool.true_and];refine gO Tryz.func246 ?_;refine I.loop (κ:=Nat) ([4,5,6]++rg 12 76) (fun k=>[(12,.d (.int .i64 k))]) (fun _=>[]) (fun k=>k≤l.length∧chain (kc ai g0) pT none l=chain (kc ai g0) pT (cJ l k) (l.drop k)) (fun k=>l.length - k) 0 ⟨Nat.zero_le _,rfl⟩ ?_ ?_
  ·exact sZ
  ·intro k hk IH;refine I.head ag Tryz.func246 2000 ?_;(conv=>whnf);refine aj (fun h5=>?_) (fun h5=>?_)
   ·have ah:k<l.length:=by simpa using h5
    obtain ⟨x,hx⟩:=aU ah;have h0:=O0 ah;rw [← hg] at h0;have bB:=CT (ok:=kc ai g0) (rel:=pT) hx;rw [← hk.2] at bB;rcases Nat.eq_zero_or_pos k with eL | eL
    ·have gI:cJ l k=none:=by simp [cJ,eL]
     rw [gI] at bB;dsimp only at bB;rw [Bool.and_true] at bB;have ze:x=g0:=by subst eL; rw [hx] at h0; exact Option.some.inj h0
     refine gO Tryz.func246 ?_;repeat' (first | with_reducible refine aT (bu hx) rfl ?_ | with_reducible refine cY ?_ | with_reducible refine cN ?_ | with_reducible refine aj (fun _=>?_) (fun _=>?_) | refine gA Tryz.func246 ?_ | refine gB ?_ | with_reducible rfl)
     all_goals first
      |(have cj : kc ai g0 x = false := by clear bB hk IH hg; simp_all [kc] <;> (intros; omega)
        rw [bB, cj, Bool.false_and]
        done)
      |skip
     refine gO Tryz.func246 ?_;refine I.bU ag bV 2000 (by kernel_rfl) ?_;(conv=>whnf);repeat' (first | with_reducible refine aT (bu hx) rfl ?_ | with_reducible refine aT (Co h0) rfl ?_ | with_reducible refine cY ?_ | with_reducible refine cN ?_ | with_reducible refine aj (fun _=>?_) (fun _=>?_) | refine gA Tryz.func246 ?_ | refine gB ?_ | with_reducible rfl)
     all_goals first
      |(exfalso; clear bB hk IH hg; simp_all; done)
      |skip
     all_goals
      refine gO Tryz.func246 ?_;refine I.back (IH (k+1) ⟨by omega,by rw [bB,show kc ai g0 x=true by clear bB hk IH hg; simp_all [kc] <;> omega,Bool.true_and]⟩ (by omega)) ?_;exact sZ
    ·obtain ⟨q,hq,gI⟩:=CU eL hk.1;rw [gI] at bB;refine gO Tryz.func246 ?_;repeat' (first | with_reducible refine aT (bu hx) rfl ?_ | with_reducible refine cY ?_ | with_reducible refine cN ?_ | with_reducible refine aj (fun _=>?_) (fun _=>?_) | refine gA Tryz.func246 ?_ | refine gB ?_ | with_reducible rfl)
     all_goals first
      |(have cj : kc ai g0 x = false := by clear bB hk IH hg; simp_all [kc] <;> (intros; omega)
        rw [bB, cj, Bool.false_and, Bool.false_and]
        done)
      |skip
     refine gO Tryz.func246 ?_;refine I.bU ag bV 2000 (by kernel_rfl) ?_;(conv=>whnf);repeat' (first | with_reducible refine aT (bu hx) rfl ?_ | with_reducible refine aT (Co h0) rfl ?_ | with_reducible refine aT (Cp hq eL (by omega)) rfl ?_ | with_reducible refine cY ?_ | with_reducible refine cN ?_ | with_reducible refine aj (fun _=>?_) (fun _=>?_) | refine gA Tryz.func246 ?_ | refine gB ?_ | with_reducible rfl)
     all_goals first
      |(have cj : (kc ai g0 x && pT q x) = false := by clear bB hk IH hg; simp_all [kc, pT] <;> (intros; omega)
        rw [bB, cj, Bool.false_and]
        done)
      |(exfalso; clear bB hk IH hg; simp_all; omega)
      |skip
     all_goals
      refine gO Tryz.func246 ?_;refine I.back (IH (k+1) ⟨by omega,by rw [bB,show (kc ai g0 x&&pT q x)=true by clear bB hk IH hg; simp_all [kc,pT] <;> omega,Bool.true_and]⟩ (by omega)) ?_;exact sZ
   ·have aK:l.length≤k:=by simpa using h5
    refine gO Tryz.func246 ?_;rw [hk.2,List.drop_of_length_le aK];rfl
@[reducible] def wN (z : aF) (b : List Text) : DV := .agg [.str z.ai, wj z.ae, .sl (b.map .str)]
theorem O4 (z:aF) (B:List Text) (hB:B.length=z.ae.length) (hl:z.ae.length≤1000000):au E 172 [wN z B] (· = .bool ((z.ae.zip B).all fun p=>rL p.1 p.2)):=by
 obtain ⟨ai,l⟩:=z;simp only at *;refine eP Tryz.func172 ?_;refine I.loop (κ:=Nat) (rg 2 4++rg 11 39) (fun k=>[(11,.d (.int .i64 k))]) (fun _=>[]) (fun k=>k≤l.length∧((l.zip B).take k).all (fun p=>rL p.1 p.2)=true) (fun k=>l.length - k) 0 ⟨Nat.zero_le _,rfl⟩ ?_ ?_
 ·exact sZ
 ·intro k hk IH;refine I.head ag Tryz.func172 2000 ?_;(conv=>whnf);refine aj (fun h5=>?_) (fun h5=>?_)
  ·have ah:k<l.length:=by simpa using h5
   obtain ⟨x,hx⟩:=aU ah;obtain ⟨b,hb⟩:=aU (l:=B) (k:=k) (by omega);have hz:=CW hx hb;refine gO Tryz.func172 ?_;repeat' (first | with_reducible refine aT (bu hx) rfl ?_ | with_reducible refine aT (bu hb) rfl ?_ | with_reducible refine cY ?_ | with_reducible refine cN ?_ | with_reducible refine aj (fun _=>?_) (fun _=>?_) | refine gA Tryz.func172 ?_ | refine gB ?_ | with_reducible rfl)
   all_goals first
    |(have cj : rL x b = false := by clear hz hb hk IH hx; obtain ⟨⟨nm, ty, lf, dt⟩, sg⟩ := x; rcases b with _ | ⟨c, b⟩ <;> simp_all [rL] <;> first | (rintro rfl; simp_all; done) | (intro h; exact absurd h.symm (by assumption)) | (subst_vars; simp_all; done) | (intros; simp_all; done)
      rw [gG hz cj]
      done)
    |(exfalso; clear hz hb hk IH; rcases b with _ | ⟨c,b⟩ <;> simp_all; done)
    |skip
   all_goals
    refine gO Tryz.func172 ?_;refine I.back (IH (k+1) ⟨by omega,iD hk.2 hz (by clear hz hb hk IH hx; obtain ⟨⟨nm,ty,lf,dt⟩,sg⟩:=x; rcases b with _ | ⟨c,b⟩ <;> simp_all [rL] <;> first | (rintro rfl; simp_all; done) | (intro h; exact absurd h.symm (by assumption)) | (subst_vars; simp_all; done) | (intros; simp_all; done))⟩ (by omega)) ?_;exact sZ
  ·have aK:l.length≤k:=by simpa using h5
   refine gO Tryz.func172 ?_;rw [pS hk.2 (by simp; omega)]
def pW (s:Signed) (b:Text):Bool := !(!tS s b&&decide ((s.sigs.length:Int)>0))
theorem O5 (z:aF) (B:List Text) (hB:B.length=z.ae.length) (hl:z.ae.length≤1000000):au E 173 [wN z B] (· = .bool ((z.ae.zip B).all fun p=>pW p.1 p.2)):=by
 obtain ⟨ai,l⟩:=z;simp only at *;refine eP Tryz.func173 ?_;refine I.loop (κ:=Nat) (rg 2 4++rg 11 31) (fun k=>[(11,.d (.int .i64 k))]) (fun _=>[]) (fun k=>k≤l.length∧((l.zip B).take k).all (fun p=>pW p.1 p.2)=true) (fun k=>l.length - k) 0 ⟨Nat.zero_le _,rfl⟩ ?_ ?_
 ·exact sZ
 ·intro k hk IH;refine I.head ag Tryz.func173 2000 ?_;(conv=>whnf);refine aj (fun h5=>?_) (fun h5=>?_)
  ·have ah:k<l.length:=by simpa using h5
   obtain ⟨x,hx⟩:=aU ah;obtain ⟨b,hb⟩:=aU (l:=B) (k:=k) (by omega);have hz:=CW hx hb;refine gO Tryz.func173 ?_;repeat' (first | with_reducible refine aT (bu hx) rfl ?_ | with_reducible refine aT (bu hb) rfl ?_ | with_reducible refine cY ?_ | with_reducible refine cN ?_ | with_reducible refine aj (fun _=>?_) (fun _=>?_) | refine gA Tryz.func173 ?_ | refine gB ?_ | with_reducible rfl)
   all_goals first
    |(rw [gG hz (by clear hz hb hk IH; rcases b with _ | ⟨c,b⟩ <;> simp_all [pW,tS])]; done)
    |(exfalso; clear hz hb hk IH; rcases b with _ | ⟨c,b⟩ <;> simp_all; done)
    |skip
   all_goals
    refine gO Tryz.func173 ?_;refine I.back (IH (k+1) ⟨by omega,iD hk.2 hz (by clear hz hb hk IH; rcases b with _ | ⟨c,b⟩ <;> simp_all [pW,tS])⟩ (by omega)) ?_;exact sZ
  ·have aK:l.length≤k:=by simpa using h5
   refine gO Tryz.func173 ?_;rw [pS hk.2 (by simp; omega)]
theorem O6 (z:aF) (B:List Text) (hl:z.ae.length≤1000000):au E 174 [wN z B] (· = .bool (z.ae.all fun s=>nx s.sigs z.ai)):=by
 obtain ⟨ai,l⟩:=z;simp only at *;refine eP Tryz.func174 ?_;refine I.loop (κ:=Nat) ([2,4]++rg 10 13) (fun k=>[(10,.d (.int .i64 k))]) (fun _=>[]) (fun k=>k≤l.length∧(l.take k).all (fun s=>nx s.sigs ai)=true) (fun k=>l.length - k) 0 ⟨Nat.zero_le _,rfl⟩ ?_ ?_
 ·exact sZ
 ·intro k hk IH;refine I.head ag Tryz.func174 2000 ?_;(conv=>whnf);refine aj (fun h5=>?_) (fun h5=>?_)
  ·have ah:k<l.length:=by simpa using h5
   obtain ⟨x,hx⟩:=aU ah;refine gO Tryz.func174 ?_;repeat' (first | with_reducible refine aT (bu hx) rfl ?_ | with_reducible refine ar (HC _ _) ?_ | with_reducible refine aR (HC _ _) ?_ | with_reducible refine cY ?_ | with_reducible refine cN ?_ | with_reducible refine aj (fun _=>?_) (fun _=>?_) | refine gA Tryz.func174 ?_ | refine gB ?_ | with_reducible rfl)
   all_goals first
    |(rw [gG hx (by simp_all)]; done)
    |skip
   all_goals
    refine gO Tryz.func174 ?_;refine I.back (IH (k+1) ⟨by omega,iD hk.2 hx (by simp_all)⟩ (by omega)) ?_;exact sZ
  ·have aK:l.length≤k:=by simpa using h5
   refine gO Tryz.func174 ?_;rw [pS hk.2 aK]
def pX (p:Option Text) (s:Signed) (t:Option Signed):Bool:=s.set.type != 3||(p != some s.set.name&&(match t with | none=>true | some t => !(t.set.name==s.set.name&&t.set.type != 8)))
def iF:Option Text→List Signed→Bool
 |_,[]=>true
 |p,s::l=>pX p s l.head? && iF (some s.set.name) l
theorem O7 {l:List Signed} {k:Nat} {x:Signed} (hx:l[k]? = some x):iF (cJ (l.map (·.set.name)) k) (l.drop k)=(pX (cJ (l.map (·.set.name)) k) x l[k+1]? && iF (cJ (l.map (·.set.name)) (k+1)) (l.drop (k+1))):=by
 have hk:=aP hx;rw [List.drop_eq_getElem_cons hk];have e1:l[k]=x:=by simpa [hk] using hx
 have e2:cJ (l.map (·.set.name)) (k+1)=some x.set.name:=by simp [cJ,hx]
 have e3:(l.drop (k+1)).head? = l[k+1]? := by rw [List.head?_drop]
 rw [e1,e2,iF,e3]
theorem O8 (z:aF) (B:List Text) (hl:z.ae.length≤1000000):au E 171 [wN z B] (· = .bool (iF none z.ae)):=by
 obtain ⟨ai,l⟩:=z;simp only at *;refine eP Tryz.func171 ?_;refine I.loop (κ:=Nat) ([2,3,4]++rg 10 65) (fun k=>[(10,.d (.int .i64 k))]) (fun _=>[]) (fun k=>k≤l.length∧iF none l=iF (cJ (l.map (·.set.name)) k) (l.drop k)) (fun k=>l.length - k) 0 ⟨Nat.zero_le _,rfl⟩ ?_ ?_
 ·exact sZ
 ·intro k hk IH;refine I.head ag Tryz.func171 2000 ?_;(conv=>whnf);refine aj (fun h5=>?_) (fun h5=>?_)
  ·have ah:k<l.length:=by simpa using h5
   obtain ⟨x,hx⟩:=aU ah;have bB:=O7 hx;rw [← hk.2] at bB;have hw:IntKind.i64.wrap ((k:Int)+1)=((k+1:Nat):Int):=by rw [wrap64 (by omega) (by omega)]; omega
   refine gO Tryz.func171 ?_;refine aT (bu hx) rfl ?_;refine gO Tryz.func171 ?_;refine aj (fun h6=>?_) (fun h6=>?_)
   ·refine gO Tryz.func171 ?_;refine I.back (IH (k+1) ⟨by omega,by rw [bB]; simp only [pX,h6,Bool.true_or,Bool.true_and]⟩ (by omega)) ?_;exact sZ
   ·have e1:pX (cJ (l.map (·.set.name)) k) x l[k+1]? = (cJ (l.map (·.set.name)) k != some x.set.name&&(match l[k+1]? with | none=>true | some t => !(t.set.name==x.set.name&&t.set.type != 8))):=by simp only [pX,h6,Bool.false_or]
    rw [e1] at bB;clear e1;rcases Nat.eq_zero_or_pos k with eL | eL
    ·have gI:cJ (l.map (·.set.name)) k=none:=by simp [cJ,eL]
     rw [gI] at bB;refine gO Tryz.func171 ?_;refine I.bU ag bV 2000 (by kernel_rfl) ?_;(conv=>whnf);refine aW (by simp; omega) ?_;refine gD ?_;refine gO Tryz.func171 ?_;refine aN ?_;refine gO Tryz.func171 ?_;refine I.bU ag bV 2000 (by kernel_rfl) ?_;(conv=>whnf);by_cases dx:k+1<l.length
     ·obtain ⟨t,ht⟩:=aU dx;rw [ht] at bB;refine bg (by rw [hw]; simp; omega) ?_;refine gD ?_;repeat' (first | with_reducible refine aT (at_next ht (by omega)) rfl ?_ | with_reducible refine cY ?_ | with_reducible refine cN ?_ | with_reducible refine aj (fun _=>?_) (fun _=>?_) | refine gA Tryz.func171 ?_ | refine gB ?_ | with_reducible rfl)
      all_goals first
       |(rw [bB]; clear bB hk IH gI; simp_all; done)
       |skip
      all_goals
       refine gO Tryz.func171 ?_;refine I.back (IH (k+1) ⟨by omega,by rw [bB]; clear bB hk IH gI; simp_all⟩ (by omega)) ?_;exact sZ
     ·have ht:l[k+1]? = none:=List.getElem?_eq_none (by omega);rw [ht] at bB;refine aW (by rw [hw]; simp; omega) ?_;refine gD ?_;repeat' (first | with_reducible refine cY ?_ | with_reducible refine cN ?_ | with_reducible refine aj (fun _=>?_) (fun _=>?_) | refine gA Tryz.func171 ?_ | refine gB ?_ | with_reducible rfl)
      refine gO Tryz.func171 ?_;refine I.back (IH (k+1) ⟨by omega,by rw [bB]; clear bB hk IH gI; simp_all⟩ (by omega)) ?_;exact sZ
    ·obtain ⟨q,hq,-⟩:=CU eL hk.1;have gI:cJ (l.map (·.set.name)) k=some q.set.name:=by simp [cJ,hq]; omega
     rw [gI] at bB;refine gO Tryz.func171 ?_;refine I.bU ag bV 2000 (by kernel_rfl) ?_;(conv=>whnf);refine bg (by simp; omega) ?_;refine gD ?_;refine aT (Cp hq eL (by omega)) rfl ?_;refine gD ?_;refine gO Tryz.func171 ?_;refine aj (fun h7=>?_) (fun h7=>?_)
     ·refine gO Tryz.func171 ?_;rw [bB];clear bB hk IH gI;simp_all
     ·refine gO Tryz.func171 ?_;refine I.bU ag bV 2000 (by kernel_rfl) ?_;(conv=>whnf);by_cases dx:k+1<l.length
      ·obtain ⟨t,ht⟩:=aU dx;rw [ht] at bB;refine bg (by rw [hw]; simp; omega) ?_;refine gD ?_;repeat' (first | with_reducible refine aT (at_next ht (by omega)) rfl ?_ | with_reducible refine cY ?_ | with_reducible refine cN ?_ | with_reducible refine aj (fun _=>?_) (fun _=>?_) | refine gA Tryz.func171 ?_ | refine gB ?_ | with_reducible rfl)
       all_goals first
        |(rw [bB]; clear bB hk IH gI; simp_all; done)
        |skip
       all_goals
        refine gO Tryz.func171 ?_;refine I.back (IH (k+1) ⟨by omega,by rw [bB]; clear bB hk IH gI; simp_all⟩ (by omega)) ?_;exact sZ
      ·have ht:l[k+1]? = none:=List.getElem?_eq_none (by omega);rw [ht] at bB;refine aW (by rw [hw]; simp; omega) ?_;refine gD ?_;repeat' (first | with_reducible refine cY ?_ | with_reducible refine cN ?_ | with_reducible refine aj (fun _=>?_) (fun _=>?_) | refine gA Tryz.func171 ?_ | refine gB ?_ | with_reducible rfl)
       refine gO Tryz.func171 ?_;refine I.back (IH (k+1) ⟨by omega,by rw [bB]; clear bB hk IH gI; simp_all⟩ (by omega)) ?_;exact sZ
  ·have aK:l.length≤k:=by simpa using h5
   refine gO Tryz.func171 ?_;rw [hk.2,List.drop_of_length_le aK];rfl
end Go.Proofs.YtfmdaiojokniiaaGreatDoor.P
end
section
namespace Go.Proofs.YtfmdaiojokniiaaGreatDoor.P
open Go Go.aw
set_option maxRecDepth 100000
set_option maxHeartbeats 4000000
theorem HD (c d:UInt8):c<d∨c=d∨d<c:=by
 rcases Nat.lt_trichotomy c.toNat d.toNat with h | h | h
 ·exact .inl (UInt8.lt_iff_toNat_lt.2 h)
 ·exact .inr (.inl (UInt8.toNat_inj.1 h))
 ·exact .inr (.inr (UInt8.lt_iff_toNat_lt.2 h))
theorem CY {c d:UInt8} {a b:Text}:Op.bytesLess (c::a) (d::b)=true↔c<d∨(c=d∧Op.bytesLess a b=true):=by
 simp [Op.bytesLess]
theorem CZ:∀ {a b c:Text},Op.bytesLess a b=true→Op.bytesLess b c=true→Op.bytesLess a c=true
 |_,[],_,h,_=>by simp [Op.bytesLess] at h
 |_,_::_,[],_,h=>by simp [Op.bytesLess] at h
 | [],_::_,_::_,_,_=>by simp [Op.bytesLess]
 |x::a,y::b,z::c,h,k=>by
  rw [CY] at h k ⊢;rcases h with h | ⟨rfl,h⟩
  ·rcases k with k | ⟨rfl,k⟩
   ·exact .inl (UInt8.lt_trans h k)
   ·exact .inl h
  ·rcases k with k | ⟨rfl,k⟩
   ·exact .inl k
   ·exact .inr ⟨rfl,CZ h k⟩
theorem HE:∀ (a b:Text),Op.bytesLess a b=true∨a=b∨Op.bytesLess b a=true
 | [],[] => .inr (.inl rfl)
 | [],_::_ => .inl (by simp [Op.bytesLess])
 |_::_,[] => .inr (.inr (by simp [Op.bytesLess]))
 |c::a,d::b=>by
  rw [CY,CY];rcases HD c d with h | rfl | h
  ·exact .inl (.inl h)
  ·rcases HE a b with h | rfl | h
   ·exact .inl (.inr ⟨rfl,h⟩)
   ·exact .inr (.inl rfl)
   ·exact .inr (.inr (.inr ⟨rfl,h⟩))
  ·exact .inr (.inr (.inl h))
theorem C0 {a b:Text} (h:Op.bytesLess a b=true):Op.bytesLess b a=false:=by
 rw [← Bool.not_eq_true];intro k;have:=CZ h k;rw [ka] at this;cases this
theorem HF {a b:Text} (h:Op.bytesLess a b=true):a≠b:=by
 rintro rfl;rw [ka] at h;cases h
theorem HG:∀ (a b:Text),Lib.compareBytes a b=if Op.bytesLess a b then -1 else if a==b then 0 else 1
 | [],[]=>by simp [Lib.compareBytes,Op.bytesLess]
 | [],_::_=>by simp [Lib.compareBytes,Op.bytesLess]
 |_::_,[]=>by simp [Lib.compareBytes,Op.bytesLess]
 |c::a,d::b=>by
  simp only [Lib.compareBytes,Op.bytesLess];rcases HD c d with h | rfl | h
  ·simp [h]
  ·simp [HG a b]
  ·have h1:¬ c<d:=UInt8.not_lt.2 (UInt8.le_of_lt h);have h2:¬ c=d:=by rintro rfl; exact absurd h (by simp)
   simp [h,h1,h2]
theorem oF (x y:Text) (l m:List Text):(Op.bytesLess x y=true∧cmpL (x::l) (y::m) = -1)∨(x=y∧cmpL (x::l) (y::m)=cmpL l m)∨(Op.bytesLess y x=true∧cmpL (x::l) (y::m)=1):=by
 rcases HE x y with h | rfl | h
 ·exact .inl ⟨h,by simp [cmpL,h]⟩
 ·exact .inr (.inl ⟨rfl,by simp [cmpL,ka]⟩)
 ·exact .inr (.inr ⟨h,by simp [cmpL,C0 h,(HF h).symm]⟩)
theorem HH:∀ (l:List Text),cmpL l l=0
 | []=>rfl
 |x::l=>by simp [cmpL,ka,HH l]
theorem HI:∀ {l m:List Text},cmpL l m=0→l=m
 | [],[],_=>rfl
 | [],_::_,h=>by simp [cmpL] at h
 |_::_,[],h=>by simp [cmpL] at h
 |x::l,y::m,h=>by
  rcases oF x y l m with ⟨-,e⟩ | ⟨rfl,e⟩ | ⟨-,e⟩
  ·rw [e] at h; cases h
  ·rw [e] at h; rw [HI h]
  ·rw [e] at h; cases h
theorem HJ:∀ (l m:List Text),cmpL m l = - cmpL l m
 | [],[]=>rfl
 | [],_::_=>rfl
 |_::_,[]=>rfl
 |x::l,y::m=>by
  rcases oF x y l m with ⟨h,e⟩ | ⟨rfl,e⟩ | ⟨h,e⟩
  ·rw [e];simp [cmpL,C0 h,(HF h).symm]
  ·rw [e,← HJ l m];simp [cmpL,ka]
  ·rw [e];simp [cmpL,h]
theorem HK:∀ {a b c:List Text},cmpL a b<0→cmpL b c<0→cmpL a c<0
 | [],[],_,h,_=>by simp [cmpL] at h
 |_::_,[],_,h,_=>by simp [cmpL] at h
 |_,_::_,[],_,h=>by simp [cmpL] at h
 | [],_::_,_::_,_,_=>by simp [cmpL]
 |x::a,y::b,z::c,h,k=>by
  rcases oF x y a b with ⟨h1,e1⟩ | ⟨rfl,e1⟩ | ⟨h1,e1⟩
  ·rcases oF y z b c with ⟨h2,e2⟩ | ⟨rfl,e2⟩ | ⟨h2,e2⟩
   ·simp [cmpL,CZ h1 h2]
   ·simp [cmpL,h1]
   ·rw [e2] at k; simp at k
  ·rcases oF x z b c with ⟨h2,e2⟩ | ⟨rfl,e2⟩ | ⟨h2,e2⟩
   ·simp [cmpL,h2]
   ·rw [e1] at h;rw [e2] at k;have:=HK h k;rcases oF x x a c with ⟨h3,-⟩ | ⟨-,e3⟩ | ⟨h3,-⟩
    ·rw [ka] at h3; cases h3
    ·rw [e3]; exact this
    ·rw [ka] at h3; cases h3
   ·rw [e2] at k; simp at k
  ·rw [e1] at h; simp at h
theorem HL:∀ {c m n:List Text},cmpL c m≤0→cmpL m n≤0→c <+: n→c <+: m
 | [],_,_,_,_,_=>List.nil_prefix
 |_::_,[],_,h,_,_=>by simp [cmpL] at h
 |_::_,_::_,[],_,_,h=>by simp at h
 |x::c,y::m,z::n,h,k,hp=>by
  rw [List.cons_prefix_cons] at hp;obtain ⟨rfl,hp⟩:=hp;rcases oF x y c m with ⟨h1,e1⟩ | ⟨rfl,e1⟩ | ⟨h1,e1⟩
  ·rcases oF y x m n with ⟨h2,e2⟩ | ⟨rfl,e2⟩ | ⟨h2,e2⟩
   ·have:=C0 h1; rw [h2] at this; cases this
   ·rw [ka] at h1; cases h1
   ·rw [e2] at k; simp at k
  ·rcases oF x x m n with ⟨h2,-⟩ | ⟨-,e2⟩ | ⟨h2,-⟩
   ·rw [ka] at h2; cases h2
   ·rw [List.cons_prefix_cons];rw [e1] at h;rw [e2] at k;exact ⟨rfl,HL h k hp⟩
   ·rw [ka] at h2; cases h2
  ·rw [e1] at h; simp at h
theorem HM:∀ {c n:List Text},c <+: n→cmpL c n≤0
 | [],[],_=>by simp [cmpL]
 | [],_::_,_=>by simp [cmpL]
 |_::_,[],h=>by simp at h
 |x::c,y::n,h=>by
  rw [List.cons_prefix_cons] at h;obtain ⟨rfl,h⟩:=h;simp only [cmpL,ka,Bool.false_eq_true,if_false,beq_self_eq_true,if_true];exact HM h
theorem oG (a:Text):bO a a=0:=HH _
theorem oH {a b:Text} (h:bO a b=0):a=b:=Hi (List.reverse_inj.1 (HI h))
theorem zf (a b:Text):bO b a = - bO a b:=HJ _ _
theorem zg {a b c:Text} (h:bO a b<0) (k:bO b c<0):bO a c<0:=HK h k
theorem wx {s z:Text}:Nm.under s z=true↔(Nm.labels z).reverse <+: (Nm.labels s).reverse:=by
 simp [Nm.under,List.reverse_prefix]
theorem tT {c m n:Text} (h:bO c m≤0) (k:bO m n≤0) (hp:Nm.under n c=true):Nm.under m c=true:=wx.2 (HL h k (wx.1 hp))
theorem wO {c n:Text} (h:Nm.under n c=true):bO c n≤0:=HM (wx.1 h)
set_option maxHeartbeats 1000000 in
open Go.RowKit in
theorem O9 (a b:ByteArray) (w:World):Calls Tryz.prog 357 #[.string a,.string b] w fun e w'=>e = .returned (.int .i64 (Lib.compareBytes a.data.toList b.data.toList))∧w'=w:=by
  go_enter Tryz.func357,Tryz.ntmps357
  go_wp2
  rw [run_callFunc_extern Tryz.func361 (by kernel_rfl) (by kernel_rfl) (by kernel_rfl) (e:=Extern.BytealgCompare.compare) (by kernel_rfl),Lib.run_compareString];simp only [Result.andThen];rw [Oper.upon_value]
  go_wp2
  go_ret
  exact ⟨rfl,rfl⟩
theorem O' (a b:Text):au E 357 [.str a,.str b] (· = .int .i64 (Lib.compareBytes a b)):=by
 unfold au;refine ⟨⟨_,Tryz.func357,rfl,by decide⟩,fun ax w vs _ _ ⟨hl,hv⟩=>?_⟩;obtain ⟨u,v,rfl⟩:∃ u v,vs=[u,v]:=by
  match vs,hl with
  | [u,v],_=>exact ⟨u,v,rfl⟩
 have h1:=hv 0 (.str a) u rfl rfl;have h2:=hv 1 (.str b) v rfl rfl;cases h1;cases h2;refine (O9 ⟨a.toArray⟩ ⟨b.toArray⟩ w).mono fun e w' ⟨h1,h2⟩=>⟨_,_,h1,rfl,?_,h2 ▸ Ext.refl w⟩
 simpa using VD.int _ _
theorem Pb (a b:Text):au E 341 [.str a,.str b] (· = .int .i64 (Lib.compareBytes a b)):=by
 have c1:=O' a b;refine eP Tryz.func341 ?_;refine ar (c1) ?_;refine gO Tryz.func341 ?_
 with_reducible rfl
def PS (more:Bool) (rest:Text) (R:List Text):Prop:=if more then (Nm.split rest).reverse=R else R=[]
theorem Pc (t:Text):aq E 340 [] [.d (.str t)] (fun x h=>x = .fn (.func 356) [] [.ptr 1 0,.ptr 0 0]∧h=[.cells [.d (.str t)],.cells [.d (.bool (t != [46]))]]):=by
 refine aq.run ag (fn:=Tryz.f340) Tryz.func340 (body:=Tryz.f340.body.getD .skip) rfl (by decide) 2000 rfl ?_;(conv=>whnf);exact ⟨rfl,rfl⟩
theorem Pd (rest:Text):aq E 356 [.cells [.d (.bool false)],.cells [.d (.str rest)]] [.ptr 0 0,.ptr 1 0] (fun x h=>x = .az [.d (.str []),.d (.bool false)]∧h=[.cells [.d (.bool false)],.cells [.d (.str rest)]]):=by
 refine aq.run ag (fn:=Tryz.f356) Tryz.func356 (body:=Tryz.f356.body.getD .skip) rfl (by decide) 2000 rfl ?_;(conv=>whnf);refine bg (by decide) ?_;refine gO Tryz.func356 ?_;exact ⟨rfl,rfl⟩
theorem Pe (rest:Text) (hl:rest.length≤60) {y:Text} {R:List Text} (h:PS true rest (y::R)):aq E 356 [.cells [.d (.bool true)],.cells [.d (.str rest)]] [.ptr 0 0,.ptr 1 0] (fun x h=>x = .az [.d (.str y),.d (.bool true)]∧∃ m r,h=[.cells [.d (.bool m)],.cells [.d (.str r)]]∧PS m r R∧r.length≤60):=by
 have c1:=yT rest (by unfold maxLen; omega);obtain ⟨i,x,P,e1,e2,e3,e4,e5,e6,e7⟩:=yU rest;have hw:IntKind.i64.wrap (i+1)=i+1:=wrap64 (by omega) (by omega);rw [e1] at c1;refine aq.run ag (fn:=Tryz.f356) Tryz.func356 (body:=Tryz.f356.body.getD .skip) rfl (by decide) 2000 rfl ?_;(conv=>whnf);refine aW (by decide) ?_;refine gO Tryz.func356 ?_;refine ar (c1) ?_;refine gO Tryz.func356 ?_;refine bp ⟨by rw [hw]; simp; omega,by rw [hw]; simp; omega,by simp⟩ ?_;refine gO Tryz.func356 ?_;rw [hw];simp only [Option.getD_none,Option.getD_some,Int.toNat_natCast,List.take_length,e4];have hR:x=y∧P.reverse=R:=by
  have:(Nm.split rest).reverse=y::R:=h;rw [e5] at this
  simpa using this
 obtain ⟨rfl,rfl⟩:=hR;refine aj (fun h5=>?_) (fun h5=>?_)
 ·refine gO Tryz.func356 ?_;rw [e6 (of_decide_eq_true h5)];exact ⟨rfl,false,rest,rfl,rfl,hl⟩
 ·have h5:0≤i:=by simpa using h5
  refine gO Tryz.func356 ?_;refine bp ⟨by simp,by simp; omega,by simp; omega⟩ ?_;refine gO Tryz.func356 ?_;refine ⟨rfl,true,rest.take i.toNat,rfl,?_,by simp; omega⟩;rw [e7 h5];rfl
theorem C1 (a b:Text) (ha:Nm.valid a=true) (hb:Nm.valid b=true):au E 298 [.str a,.str b] (· = .az [.int .i64 (bO a b),.int .i64 0]):=by
 have c1:=rH a (l7 (by have:=fD ha; omega));have c2:=rH b (l7 (by have:=fD hb; omega));rw [ha] at c1;rw [hb] at c2;have yS:=fD ha;have rI:=fD hb;refine eP Tryz.func298 ?_;refine ar (c1) ?_;refine gO Tryz.func298 ?_;refine aN ?_;refine gO Tryz.func298 ?_;refine ar (c2) ?_;refine gO Tryz.func298 ?_;refine aN ?_;refine gO Tryz.func298 ?_;refine aj (fun h3=>?_) (fun h3=>?_)
 ·obtain rfl:a=b:=by simpa using h3
  refine gO Tryz.func298 ?_;rw [oG]
 have aE:a≠b:=by simpa using h3
 refine gO Tryz.func298 ?_;refine vH (Pc b) rfl ?_;refine gO Tryz.func298 ?_;refine I.rangeFunc (aM rfl) Tryz.func233 rfl (by decide) rfl (fun ll d tt=>?_);refine gO Tryz.func233 ?_;refine aj (fun h4=>?_) (fun h4=>?_)
 ·obtain rfl:a=[46]:=by simpa using h4
  refine gO Tryz.func233 ?_;refine I.iC ag Tryz.func233 rfl rfl rfl rfl (fun e=>nomatch e) ?_;(conv=>whnf);refine gO Tryz.func298 ?_;refine I.fP ag Tryz.func298 rfl rfl rfl rfl rfl ?_;have:bO [46] b = -1:=by
   have h0:=fun h=>aE (oH (a:=[46]) (b:=b) h);unfold bO at h0 ⊢;rw [show (Nm.labels [46]).reverse=[] from rfl] at h0 ⊢;cases h5:(Nm.labels b).reverse with
   |nil=>rw [h5] at h0; exact absurd rfl h0
   |cons z R=>rfl
  rw [this];rfl
 have hr:a≠[46]:=by simpa using h4
 refine gO Tryz.func233 ?_;refine I.loop (κ:=Text × Bool × Text × List Text) [4,5,9,10,11,12,13,14,15,16,17,18,19,20,21,22,23,24] (fun x=>[(4,.d (.str x.1))]) (fun x=>[(2,.cells [.d (.str x.2.2.1)]),(3,.cells [.d (.bool x.2.1)])]) (fun x=>x.1.length≤60∧x.2.2.1.length≤60∧PS x.2.1 x.2.2.1 x.2.2.2∧bO a b=cmpL (Nm.split x.1).reverse x.2.2.2) (fun x=>x.1.length) (a,b != [46],b,(Nm.labels b).reverse) ⟨yS,rI,by by_cases h:b=[46] <;> simp [PS,Nm.labels,h],by simp [bO,Nm.labels,hr]⟩ ?_ ?_
 ·exact sZ
 rintro ⟨rest,more,rb,R⟩ ⟨k1,k2,k3,k4⟩ IH;simp only at k1 k2 k3 k4;obtain ⟨i,x,P,e1,e2,e3,e4,e5,e6,e7⟩:=yU rest;have c1:=yT rest (by unfold maxLen; omega);have hw:IntKind.i64.wrap (i+1)=i+1:=wrap64 (by omega) (by omega);rw [e5,List.reverse_append,List.reverse_singleton,List.singleton_append] at k4;rw [e1] at c1;refine I.head ag Tryz.func233 2000 ?_;(conv=>whnf);refine ar (c1) ?_;refine gO Tryz.func233 ?_;refine bp ⟨by rw [hw]; simp; omega,by rw [hw]; simp; omega,by simp⟩ ?_;refine gO Tryz.func233 ?_;rw [hw];simp only [Option.getD_none,Option.getD_some,Int.toNat_natCast,List.take_length,e4];refine I.yield 0 rfl rfl rfl (aM rfl) (lJ (aM rfl)) rfl ?_;(conv=>whnf);refine gO Tryz.func298 ?_;refine I.begin 0 rfl rfl rfl ?_;(conv=>whnf);refine gO Tryz.func298 ?_;cases R with
 |nil =>
  obtain rfl:more=false:=by
   cases more
   ·rfl
   ·exact absurd (List.reverse_eq_nil_iff.1 k3) (Nm.lH rb)
  with_reducible refine bC (Pd rb) ?_
  refine gO Tryz.func298 ?_;refine aY ?_;refine gO Tryz.func298 ?_;refine I.yQ 0 rfl rfl rfl ?_;(conv=>whnf);refine gO Tryz.func233 ?_;refine bg (by decide) ?_;refine gO Tryz.func233 ?_;refine aY ?_;refine gO Tryz.func233 ?_;refine I.iC ag Tryz.func233 rfl rfl rfl rfl (fun e=>nomatch e) ?_;(conv=>whnf);refine gO Tryz.func298 ?_;refine I.fP ag Tryz.func298 rfl rfl rfl rfl rfl ?_;rw [k4];rfl
 |cons y R =>
  obtain rfl:more=true:=by
   cases more
   ·exact absurd k3 (by simp [PS])
   ·rfl
  with_reducible refine iT (Pe rb k2 k3) ?_
  rintro r h1 ⟨rfl,m,rr,rfl,q1,q2⟩;have c3:=Pb x y;rw [HG] at c3;refine gO Tryz.func298 ?_;refine aN ?_;refine gO Tryz.func298 ?_;refine ar (c3) ?_;refine gO Tryz.func298 ?_;by_cases kM:x=y
  ·subst kM;rw [ka];refine aW (by simp) ?_;refine gO Tryz.func298 ?_;refine I.mj 0 rfl rfl rfl ?_;(conv=>whnf);refine gO Tryz.func233 ?_;refine aW (by decide) ?_;refine gO Tryz.func233 ?_;have k5:bO a b=cmpL P.reverse R:=by rw [k4]; simp [cmpL,ka]
   refine aj (fun h5=>?_) (fun h5=>?_)
   ·refine gO Tryz.func233 ?_;refine I.iC ag Tryz.func233 rfl rfl rfl rfl (fun e=>nomatch e) ?_;(conv=>whnf);refine gO Tryz.func298 ?_;refine I.fP ag Tryz.func298 rfl rfl rfl rfl rfl ?_;rw [e6 (by simpa using h5)] at k5;have:bO a b = -1:=by
     cases R with
     |nil=>exact absurd (oH k5) aE
     |cons z R=>exact k5
    rw [this];rfl
   ·have h5:0≤i:=by simpa using h5
    refine gO Tryz.func233 ?_;refine bp ⟨by simp,by simp; omega,by simp; omega⟩ ?_;refine gO Tryz.func233 ?_;simp only [Option.getD_none,Option.getD_some,Int.toNat_zero,List.drop_zero];refine I.back (IH (rest.take i.toNat,m,rr,R) ⟨by simp; omega,q2,q1,by simp only; rw [k5,e7 h5]⟩ (by simp; omega)) ?_;exact sZ
  ·refine bg (by split <;> simp [kM]) ?_;refine gO Tryz.func298 ?_;refine I.yQ 0 rfl rfl rfl ?_;(conv=>whnf);refine gO Tryz.func233 ?_;refine bg (by decide) ?_;refine gO Tryz.func233 ?_;refine aY ?_;refine gO Tryz.func233 ?_;refine I.iC ag Tryz.func233 rfl rfl rfl rfl (fun e=>nomatch e) ?_;(conv=>whnf);refine gO Tryz.func298 ?_;refine I.fP ag Tryz.func298 rfl rfl rfl rfl rfl ?_;have:bO a b=if Op.bytesLess x y=true then -1 else if (x==y)=true then 0 else 1:=by
    rw [k4,cmpL];split
    ·rfl
    ·simp [kM]
   rw [this];rfl
def lP (a:Text) (s:Int) (b:Text) (t:Int):Int:=if a≠b then bO a b else iZ s t
theorem HN (a:Text) (s:Int) (b:Text) (t:Int) (ha:Nm.valid a=true) (hb:Nm.valid b=true):au E 244 [.str a,.int .i64 s,.str b,.int .i64 t] (· = .int .i64 (lP a s b t)):=by
 refine eP Tryz.func244 ?_;repeat' (first | with_reducible refine ar (C1 _ _ ha hb) ?_ | with_reducible refine aR (C1 _ _ ha hb) ?_ | with_reducible refine ar (yV _ _) ?_ | with_reducible refine aR (yV _ _) ?_ | with_reducible refine cY ?_ | with_reducible refine cN ?_ | with_reducible refine aj (fun _=>?_) (fun _=>?_) | refine gA Tryz.func244 ?_ | refine gB ?_ | with_reducible rfl)
 all_goals simp_all [lP]
theorem tU (a b:dc):lP a.name a.type b.name b.type=nw a b:=by
 unfold lP nw;by_cases h:a.name=b.name
 ·simp [h,oG]
 ·have:bO a.name b.name≠0:=fun e=>h (oH e);simp [h,this]
end Go.Proofs.YtfmdaiojokniiaaGreatDoor.P
end
section
namespace Go.Proofs.YtfmdaiojokniiaaGreatDoor.P
open Go Go.aw
set_option maxRecDepth 100000
set_option maxHeartbeats 4000000
def rM (s:Signed) (q:br):Int:=lP s.set.name s.set.type q.name q.type
theorem Pf {a b:Int}:iZ a b=0↔a=b:=by
 unfold iZ;split
 ·omega
 ·split <;> omega
theorem zh {s:Signed} {q:br}:(rM s q==0)=cP q s:=by
 rw [Bool.eq_iff_iff,beq_iff_eq];unfold rM lP cP;by_cases h:s.set.name=q.name
 ·simp [h,Pf]
 ·have:bO s.set.name q.name≠0:=fun e=>h (oH e);simp [h,this]
def eW (l:List Signed):Prop:=∀ (i j:Nat) (x y:Signed),i<j→l[i]? = some x→l[j]? = some y→nw x.set y.set<0
theorem Pg {a b c:Int} (h:iZ a b<0) (k:iZ b c<0):iZ a c<0:=by
 unfold iZ at *;repeat' split at h
 all_goals first | omega | skip
 repeat' split at k
 all_goals first | omega | skip
 repeat' split
 all_goals omega
theorem C2 {a b c:Text} {s t u:Int} (h:lP a s b t<0) (k:lP b t c u<0):lP a s c u<0:=by
 unfold lP at *;by_cases e1:a=b
 ·subst e1;simp only [ne_eq,not_true_eq_false,if_false] at h;by_cases e2:a=c
  ·subst e2;simp only [ne_eq,not_true_eq_false,if_false] at k ⊢;exact Pg h k
  ·simp only [ne_eq,e2,not_false_eq_true,if_true] at k ⊢;exact k
 ·simp only [ne_eq,e1,not_false_eq_true,if_true] at h;by_cases e2:b=c
  ·subst e2;simp only [ne_eq,e1,not_false_eq_true,if_true];exact h
  ·simp only [ne_eq,e2,not_false_eq_true,if_true] at k;have:=zg h k;have e3:a≠c:=by
    rintro rfl;rw [oG] at this;omega
   simp only [ne_eq,e3,not_false_eq_true,if_true];exact this
theorem HO (s:Signed) (q:br) (hs:Nm.valid s.set.name=true) (hq:Nm.valid q.name=true):au E 290 [s.enc,q.enc] (· = .int .i64 (rM s q)):=by
 refine eP Tryz.func290 ?_
 with_reducible refine ar (HN _ _ _ _ hs hq) ?_
 refine gO Tryz.func290 ?_;rfl
theorem HP {i j:Nat} (h:i+j≤4294967296):IntKind.i64.wrap (oa .shr .u64 (IntKind.u64.wrap (IntKind.i64.wrap ((i:Int)+j))) (Int.toNat 1))=(((i+j) / 2:Nat):Int):=by
 rw [wrap64 (n:=(i:Int)+j) (by omega) (by omega)];have e1:IntKind.u64.wrap ((i:Int)+j)=(i:Int)+j:=by
  simp [IntKind.wrap,IntKind.signed,IntKind.bits];omega
 rw [e1];have e2:oa .shr .u64 ((i:Int)+j) (Int.toNat 1)=(((i+j) / 2:Nat):Int):=by
  show ((i:Int)+j).fdiv (2 ^ 1)=_;rw [Int.fdiv_eq_ediv_of_nonneg _ (by decide)];omega
 rw [e2,wrap64 (by omega) (by omega)]
theorem Ph (l:List Signed) (q:br) (hl:l.length≤1000000) (hv:∀ s∈l,Nm.valid s.set.name=true) (hq:Nm.valid q.name=true) (hs:eW l) :
  aq E 289 [] [.d (wj l),.d q.enc,.fn (.func 290) [] []] (fun a b=>(∃ i:Nat,i≤l.length∧a = .az [.d (.int .i64 i),.d (.bool (l.any (cP q)))]∧∀ j x,l[j]? = some x→cP q x=true→j=i)∧b=[.cells [.d (.str q.name),.d (.int .i64 q.type)]]):=by
 refine aq.run ag (fn:=Tryz.f289) Tryz.func289 (body:=Tryz.f289.body.getD .skip) rfl (by decide) 2000 rfl ?_;(conv=>whnf);refine I.loop (κ:=Nat × Nat) [9,10,11,15,16,17,18,19,20,21,22,23,24,25,26,27,28,29,30,31,32,33,34] (fun k=>[(9,.d (.int .i64 k.1)),(10,.d (.int .i64 k.2))]) (fun _=>[]) (fun k=>k.1≤k.2∧k.2≤l.length∧(∀ m x,m<k.1→l[m]? = some x→rM x q<0)∧(∀ m x,k.2≤m→l[m]? = some x→¬ rM x q<0)) (fun k=>k.2 - k.1) (0,l.length) ⟨Nat.zero_le _,Nat.le_refl _,fun m x h=>by omega,fun m x h hx=>by have:=aP hx; omega⟩ ?_ ?_
 ·(conv=>whnf);repeat (first | exact trivial | (refine And.intro (by first | with_reducible rfl | exact congrArg (DV.int .i64) (by omega) | exact congrArg (DV.int .i64) (by simp) | exact congrArg (DV.int .i64) (wrap64 (by omega) (by omega)) | exact congrArg (DV.int .i64) ((wrap64 (by omega) (by omega)).trans (by omega))) ?_; conv=>whnf))
 ·rintro ⟨i,j⟩ hk IH;obtain ⟨k1,k2,k3,k4⟩:=hk;simp only at k1 k2 k3 k4;refine I.head ag Tryz.func289 2000 ?_;(conv=>whnf);refine aj (fun h5=>?_) (fun h5=>?_)
  ·have ah:i<j:=by simpa using h5
   obtain ⟨x,hx⟩:=aU (l:=l) (k:=(i+j) / 2) (by omega);have cC:=hv x (List.mem_of_getElem? hx);have wP:=HP (i:=i) (j:=j) (by omega);refine gO Tryz.func289 ?_;refine bp (by decide) ?_;refine gO Tryz.func289 ?_;refine I.bU ag bV 2000 (by kernel_rfl) ?_;(conv=>whnf);rw [show IntKind.i64.wrap (oa .shr .u64 (IntKind.u64.wrap (IntKind.i64.wrap (((i,j).fst:Int)+((i,j).snd:Int)))) (Int.toNat 1))=(((i+j) / 2:Nat):Int) from wP];refine aT (bu hx) rfl ?_;refine gD ?_;refine aR (HO x q cC hq) ?_;refine gD ?_;refine gO Tryz.func289 ?_;refine aj (fun h6=>?_) (fun h6=>?_)
   ·have hc:rM x q<0:=by simpa using h6
    refine gO Tryz.func289 ?_;refine I.back (IH ((i+j) / 2+1,j) ⟨by simp only; omega,k2,fun m y hm hy=>?_,k4⟩ (by simp only; omega)) ?_
    ·simp only at hm;rcases Nat.lt_or_ge m ((i+j) / 2) with h | h
     ·have h1:=hs m ((i+j) / 2) y x h hy hx;rw [← tU] at h1;exact C2 h1 hc
     ·obtain rfl:m=(i+j) / 2:=by omega
      rw [hx] at hy;cases hy;exact hc
    ·exact sZ
   ·have hc:¬ rM x q<0:=by simpa using h6
    refine gO Tryz.func289 ?_;refine I.back (IH (i,(i+j) / 2) ⟨by simp only; omega,by simp only; omega,k3,fun m y hm hy=>?_⟩ (by simp only; omega)) ?_
    ·simp only at hm;rcases Nat.lt_or_ge ((i+j) / 2) m with h | h
     ·intro Pj;have h1:=hs ((i+j) / 2) m x y h hx hy;rw [← tU] at h1;exact hc (C2 h1 Pj)
     ·obtain rfl:m=(i+j) / 2:=by omega
      rw [hx] at hy;cases hy;exact hc
    ·exact sZ
  ·have aK:i=j:=by simp at h5; omega
   subst aK;have only:∀ m y,l[m]? = some y→cP q y=true→m=i:=fun m y hy ha=>by
    rw [← zh,beq_iff_eq] at ha;rcases Nat.lt_trichotomy m i with h | h | h
    ·have:=k3 m y h hy; omega
    ·exact h
    ·obtain ⟨x,hx⟩:=aU (l:=l) (k:=i) (by have:=aP hy; omega);have h1:=hs i m x y h hx hy;rw [← tU] at h1;have h2:=k4 i x (Nat.le_refl _) hx;have h3:lP x.set.name x.set.type q.name q.type<0:=by
      have e:y.set.name=q.name∧y.set.type=q.type:=by
       have:cP q y=true:=by rw [← zh,beq_iff_eq]; exact ha
       simpa [cP] using this
      rw [e.1,e.2] at h1;exact h1
     exact absurd h3 h2
   rcases Nat.lt_or_ge i l.length with hi | hi
   ·obtain ⟨x,hx⟩:=aU hi;have cC:=hv x (List.mem_of_getElem? hx);have C3:l.any (cP q)=cP q x:=by
     cases ha:cP q x
     ·rw [← Bool.not_eq_true,List.any_eq_true];rintro ⟨y,hy,wQ⟩;obtain ⟨m,hm⟩:=List.getElem?_of_mem hy;obtain rfl:=only m y hm wQ;rw [hx] at hm;cases hm;rw [ha] at wQ;cases wQ
     ·rw [List.any_eq_true];exact ⟨x,List.mem_of_getElem? hx,ha⟩
    refine gO Tryz.func289 ?_;refine I.bU ag bV 2000 (by kernel_rfl) ?_;(conv=>whnf);refine bg (by simp; omega) ?_;refine gD ?_;refine aT (bu hx) rfl ?_;refine gD ?_;refine aR (HO x q cC hq) ?_;refine gD ?_;refine gO Tryz.func289 ?_;exact ⟨⟨i,by omega,by rw [C3,← zh],only⟩,rfl⟩
   ·have C3:l.any (cP q)=false:=by
     rw [← Bool.not_eq_true,List.any_eq_true];rintro ⟨y,hy,wQ⟩;obtain ⟨m,hm⟩:=List.getElem?_of_mem hy;obtain rfl:=only m y hm wQ;have:=aP hm;omega
    refine gO Tryz.func289 ?_;refine I.bU ag bV 2000 (by kernel_rfl) ?_;(conv=>whnf);refine aW (by simp; omega) ?_;refine gD ?_;refine gO Tryz.func289 ?_;exact ⟨⟨i,by omega,by rw [C3],only⟩,rfl⟩
theorem C4 (z:aF) (q:br) (hl:z.ae.length≤1000000) (hv:∀ s∈z.ae,Nm.valid s.set.name=true) (hq:Nm.valid q.name=true) (hs:eW z.ae) :
  au E 235 [z.enc,q.enc] (fun r=>∃ i:Nat,i≤z.ae.length∧r = .az [.int .i64 i,.bool (z.ae.any (cP q))]∧∀ j x,z.ae[j]? = some x→cP q x=true→j=i):=by
 refine eP Tryz.func235 ?_;refine iT (Ph z.ae q hl hv hq hs) ?_;rintro r h1 ⟨⟨i,hi,rfl,ho⟩,rfl⟩;refine gO Tryz.func235 ?_;exact ⟨i,hi,rfl,ho⟩
theorem HQ {t:Text} (h:Nm.valid t=true):oA t=Nm.iW t:=by
 unfold oA Nm.labels;by_cases hr:t=[46]
 ·subst hr; rfl
 ·rw [if_neg hr];have hp:Nm.parts (Nm.split t)=true:=by
   simp only [Nm.valid,Bool.or_eq_true,decide_eq_true_eq,Bool.and_eq_true] at h;rcases h with h | h
   ·exact absurd h hr
   ·exact h.2
  cases t with
  |nil=>rfl
  |cons c r =>
   by_cases hc:c=46
   ·subst hc;simp [Nm.split,Nm.parts,Nm.label] at hp
   ·obtain ⟨x,u,h1,h2⟩:=Nm.nk c r hc;rw [h2] at hp ⊢;simp only [Nm.parts,Bool.and_eq_true,Bool.or_eq_true] at hp;show (c::x==[42])=(c==42);rcases hp.2.1 with hl | hl
    ·have h0:Nm.pN (c::x) 0=true:=by
      simp only [Nm.label,decide_eq_true_eq] at hl;exact hl.2.2 0 (by simp)
     have aE:(c==42)=false:=by
      rw [← Bool.not_eq_true];intro e;have:c=42:=by simpa using e
      subst this;simp [Nm.pN,Nm.Cd] at h0
     have Pk:c≠42:=by simpa using aE
     rw [aE];simp [Pk]
    ·have:c::x=[42]:=by simpa using hl
     injection this with e1 e2;subst e1;subst e2;rfl
theorem zi {s z:Text} (hs:Nm.valid s=true) (hz:Nm.valid z=true):Nm.fZ s z=Nm.under s z:=by simp [Nm.fZ,hs,hz]
theorem HR (z:aF) (hf:z.Fits):au E 168 [z.enc] (· = .bool (ny z)):=by
 obtain ⟨ai,l⟩:=z;have pq:ai.length≤maxLen:=hf.ai;have gw:∀ s∈l,s.set.Fits:=hf.ae;unfold ny;simp only;cases hv:Nm.valid ai
 ·refine eP Tryz.func168 ?_
  with_reducible refine ar (fQ _ pq) ?_
  refine gO Tryz.func168 ?_;rw [hv];refine bg rfl ?_;refine gO Tryz.func168 ?_;refine aY ?_;refine gO Tryz.func168 ?_;refine aY ?_;refine gO Tryz.func168 ?_;simp
 ·have rN:=fD hv;rw [HQ hv];refine eP Tryz.func168 ?_
  with_reducible refine ar (fQ _ pq) ?_
  refine gO Tryz.func168 ?_;rw [hv];refine aW rfl ?_;refine gO Tryz.func168 ?_
  with_reducible refine ar (yX _ _) ?_
  refine gO Tryz.func168 ?_;rw [show preB ai _=Nm.iW ai from Hm ai];cases hw:Nm.iW ai
  case true =>
   refine aY ?_;refine gO Tryz.func168 ?_;refine aY ?_;refine gO Tryz.func168 ?_;simp
  refine aN ?_;refine gO Tryz.func168 ?_;refine aj (fun h3=>?_) (fun h3=>?_)
  ·refine gO Tryz.func168 ?_;simp only [List.length_map] at h3;rw [h3];simp
  ·simp only [List.length_map] at h3;rw [h3];simp only [Bool.not_false,Bool.true_and];have Pl:l.length≤20000:=by simp at h3; omega
   refine gO Tryz.func168 ?_;refine I.loop (κ:=Nat) (rg 2 6++rg 30 44) (fun k=>[(30,.d (.int .i64 k))]) (fun _=>[]) (fun k=>k≤l.length∧chain (jy ai) jz none l=chain (jy ai) jz (cJ l k) (l.drop k)∧∀ q,cJ l k=some q→fF q.set=true) (fun k=>l.length - k) 0 ⟨Nat.zero_le _,rfl,fun q h=>by simp [cJ] at h⟩ ?_ ?_
   ·exact sZ
   ·intro k hk IH;refine I.head ag Tryz.func168 2000 ?_;(conv=>whnf);refine aj (fun h5=>?_) (fun h5=>?_)
    ·have ah:k<l.length:=by simpa using h5
     obtain ⟨x,hx⟩:=aU ah;have bB:=CT (ok:=jy ai) (rel:=jz) hx;rw [← hk.2.1] at bB;have jb:=gw x (List.mem_of_getElem? hx);have zj:cJ l (k+1)=some x:=by simp [cJ,hx]
     cases hs:fF x.set
     ·refine gO Tryz.func168 ?_;refine aT (bu hx) rfl ?_;refine gO Tryz.func168 ?_
      with_reducible refine ar (tP x.set jb) ?_
      refine gO Tryz.func168 ?_;rw [hs];refine bg rfl ?_;refine gO Tryz.func168 ?_;rw [bB,jy,hs];simp
     ·have cC:=zb hs;have mh:=fD cC;have oI:=tO x.set.name ai (by unfold maxLen; omega) pq;rw [zi cC hv] at oI;refine gO Tryz.func168 ?_;refine aT (bu hx) rfl ?_;refine gO Tryz.func168 ?_
      with_reducible refine ar (tP x.set jb) ?_
      refine gO Tryz.func168 ?_;rw [hs];refine aW rfl ?_;refine gO Tryz.func168 ?_
      with_reducible refine ar (oI) ?_
      refine gO Tryz.func168 ?_;cases hu:Nm.under x.set.name ai
      ·refine bg rfl ?_;refine gO Tryz.func168 ?_;rw [bB,jy,hu];simp
      ·have aJ:jy ai x=true:=by simp [jy,hs,hu]
       refine aW rfl ?_;refine gO Tryz.func168 ?_;rcases Nat.eq_zero_or_pos k with eL | eL
       ·have gI:cJ l k=none:=by simp [cJ,eL]
        rw [gI] at bB;dsimp only at bB;rw [Bool.and_true,aJ,Bool.true_and] at bB;refine bg (by simp [eL]) ?_;refine gO Tryz.func168 ?_;refine I.back (IH (k+1) ⟨by omega,bB,fun q hq=>by rw [zj] at hq; cases hq; exact hs⟩ (by omega)) ?_;exact sZ
       ·obtain ⟨q,hq,gI⟩:=CU eL hk.1;have Pm:=zb (hk.2.2 q gI);rw [gI] at bB;dsimp only at bB;rw [aJ,Bool.true_and] at bB;have hc:=HN q.set.name q.set.type x.set.name x.set.type Pm cC;rw [tU] at hc;refine aW (by simp; omega) ?_;refine gO Tryz.func168 ?_;refine aT (Cp hq eL (by omega)) rfl ?_;refine gO Tryz.func168 ?_
        with_reducible refine ar (hc) ?_
        refine gO Tryz.func168 ?_;refine aj (fun h8=>?_) (fun h8=>?_)
        ·have hb:jz q x=false:=by simp at h8; simp [jz]; omega
         refine gO Tryz.func168 ?_;rw [bB,hb,Bool.false_and]
        ·have hb:jz q x=true:=by simp at h8; simp [jz]; omega
         refine gO Tryz.func168 ?_;refine I.back (IH (k+1) ⟨by omega,by rw [bB,hb,Bool.true_and],fun q hq=>by rw [zj] at hq; cases hq; exact hs⟩ (by omega)) ?_;exact sZ
    ·have aK:l.length≤k:=by simpa using h5
     refine gO Tryz.func168 ?_;rw [hk.2.1,List.drop_of_length_le aK];rfl
theorem HS {l:List Signed} {q:br}:l.any (cP q) = !(decide (aO l q<0)):=by
 unfold aO;cases h:l.findIdx? (cP q) with
 |none =>
  have h1:=List.findIdx?_eq_none_iff.1 h;have:l.any (cP q)=false:=by
   rw [← Bool.not_eq_true,List.any_eq_true];rintro ⟨x,hx,ha⟩;rw [h1 x hx] at ha;cases ha
  rw [this];rfl
 |some i =>
  obtain ⟨hi,ha,-⟩:=List.findIdx?_eq_some_iff_getElem.1 h;have:l.any (cP q)=true:=List.any_eq_true.2 ⟨_,List.getElem_mem hi,ha⟩;rw [this];simp
theorem Pn (z:aF) (hl:z.ae.length≤1000000) (hv:∀ s∈z.ae,Nm.valid s.set.name=true) (hq:Nm.valid z.ai=true) (hs:eW z.ae):au E 169 [z.enc] (· = .bool (wF z)):=by
 have f1:=C4 z ⟨z.ai,4⟩ hl hv hq hs;have f2:=C4 z ⟨z.ai,2⟩ hl hv hq hs;obtain ⟨ai,l⟩:=z;simp only at *;unfold wF;simp only [← HS];refine eP Tryz.func169 ?_;refine I.jV ?_;refine I.run ag Tryz.func169 2000 ?_;(conv=>whnf);refine bg (by decide) ?_;refine gO Tryz.func169 ?_;refine gv (.int .i64 4) (by decide) rfl rfl ?_;refine gO Tryz.func169 ?_
 with_reducible refine vG (f1) ?_
 rintro r ⟨i,-,rfl,-⟩;refine gO Tryz.func169 ?_;cases h1:l.any (cP ⟨ai,4⟩)
 ·refine bg rfl ?_;refine gO Tryz.func169 ?_;rfl
 refine aW rfl ?_;refine gO Tryz.func169 ?_;refine I.again ?_;refine I.run ag Tryz.func169 2000 ?_;(conv=>whnf);refine bg (by decide) ?_;refine gO Tryz.func169 ?_;refine gv (.int .i64 2) (by decide) rfl rfl ?_;refine gO Tryz.func169 ?_
 with_reducible refine vG (f2) ?_
 rintro r ⟨j,-,rfl,-⟩;refine gO Tryz.func169 ?_;cases h2:l.any (cP ⟨ai,2⟩)
 ·refine bg rfl ?_;refine gO Tryz.func169 ?_;rfl
 refine aW rfl ?_;refine gO Tryz.func169 ?_;refine I.again ?_;refine I.run ag Tryz.func169 2000 ?_;(conv=>whnf);refine aW (by decide) ?_;refine gO Tryz.func169 ?_;simp only [Bool.true_and];refine I.loop (κ:=Nat) ([2,8]++rg 32 17) (fun k=>[(32,.d (.int .i64 k))]) (fun _=>[]) (fun k=>k≤l.length∧(l.take k).all (fun s=>y8 s.set.type (s.set.name==ai))=true) (fun k=>l.length - k) 0 ⟨Nat.zero_le _,rfl⟩ ?_ ?_
 ·exact sZ
 ·intro k hk IH;refine I.head ag Tryz.func169 2000 ?_;(conv=>whnf);refine aj (fun h5=>?_) (fun h5=>?_)
  ·have ah:k<l.length:=by simpa using h5
   obtain ⟨x,hx⟩:=aU ah;refine gO Tryz.func169 ?_;repeat' (first | with_reducible refine aT (bu hx) rfl ?_ | with_reducible refine ar (HB _ _) ?_ | with_reducible refine aR (HB _ _) ?_ | with_reducible refine cY ?_ | with_reducible refine cN ?_ | with_reducible refine aj (fun _=>?_) (fun _=>?_) | refine gA Tryz.func169 ?_ | refine gB ?_ | with_reducible rfl)
   all_goals first
    |(rw [gG hx (by simp_all)]; done)
    |skip
   all_goals
    refine gO Tryz.func169 ?_;refine I.back (IH (k+1) ⟨by omega,iD hk.2 hx (by simp_all)⟩ (by omega)) ?_;exact sZ
  ·have aK:l.length≤k:=by simpa using h5
   refine gO Tryz.func169 ?_;rw [pS hk.2 aK]
end Go.Proofs.YtfmdaiojokniiaaGreatDoor.P
end
section
namespace Go.Proofs.YtfmdaiojokniiaaGreatDoor.P
open Go Go.aw
set_option maxRecDepth 100000
set_option maxHeartbeats 4000000
def pY (ai:Text) (l:List Signed):List (DV × DV):=l.foldl (fun es s=>if ke ai s then bI (.str s.set.name) (.bool true) es else es) []
theorem Po {ai:Text} {l:List Signed} {k:Nat} {x:Signed} (h:l[k]? = some x):pY ai (l.take (k+1))=if ke ai x then bI (.str x.set.name) (.bool true) (pY ai (l.take k)) else pY ai (l.take k):=by
 rw [dm h,pY,List.foldl_append];rfl
theorem zk (a b:Text):dR (.str a) (.str b)=(a==b):=rfl
def StrKeys (es:List (DV × DV)):Prop:=∀ p∈es,∃ s,p.1=DV.str s
theorem HT {n:Text} {v:DV}:∀ {es:List (DV × DV)},StrKeys es→StrKeys (bI (.str n) v es)
 | [],_,p,hp=>by simp [bI] at hp; subst hp; exact ⟨_,rfl⟩
 |q::es,h,p,hp=>by
  unfold bI at hp;split at hp
  ·rcases List.mem_cons.1 hp with rfl | hp
   ·exact ⟨_,rfl⟩
   ·exact h p (List.mem_cons_of_mem _ hp)
  ·rcases List.mem_cons.1 hp with rfl | hp
   ·exact h _ (List.mem_cons_self ..)
   ·exact HT (fun r hr=>h r (List.mem_cons_of_mem _ hr)) p hp
theorem HU {n m:Text} {v:DV}:∀ {es:List (DV × DV)},StrKeys es→findD (.str m) (bI (.str n) v es)=if m==n then some v else findD (.str m) es
 | [],_=>by simp [bI,findD,zk]
 |q::es,h=>by
  obtain ⟨s,hs⟩:=h q (List.mem_cons_self ..);obtain ⟨q1,q2⟩:=q;simp only at hs;subst hs;unfold bI;simp only [zk];by_cases e:n=s
  ·subst e;simp only [beq_self_eq_true,if_true,findD,zk];by_cases e2:m=n
   ·simp [e2]
   ·simp [e2]
  ·have ih:=HU (n:=n) (m:=m) (v:=v) (es:=es) (fun r hr=>h r (List.mem_cons_of_mem _ hr));have e':(n==s)=false:=by simpa using e
   simp only [e',Bool.false_eq_true,if_false,findD,zk,ih];by_cases e2:m=s
   ·subst e2;have:(m==n)=false:=by simpa using fun h=>e h.symm
    simp [this]
   ·simp [e2]
theorem C5 (ai:Text) (l:List Signed):StrKeys (pY ai l)∧∀ n,findD (.str n) (pY ai l)=if (cx ai l).contains n then some (.bool true) else none:=by
 have main:∀ (l:List Signed) (es:List (DV × DV)) (C:List Text),StrKeys es→(∀ n,findD (.str n) es=if C.contains n then some (.bool true) else none) →
   StrKeys (l.foldl (fun es s=>if ke ai s then bI (.str s.set.name) (.bool true) es else es) es)∧∀ n,findD (.str n) (l.foldl (fun es s=>if ke ai s then bI (.str s.set.name) (.bool true) es else es) es)=if (C++cx ai l).contains n then some (.bool true) else none:=by
  intro l
  induction l with
  |nil=>intro es C h1 h2; exact ⟨h1,by simpa [cx] using h2⟩
  |cons s l ih =>
   intro es C h1 h2;cases hc:ke ai s
   ·have e:cx ai (s::l)=cx ai l:=by simp [cx,hc]
    simp only [List.foldl_cons,hc,Bool.false_eq_true,if_false,e];exact ih es C h1 h2
   ·have e:cx ai (s::l)=s.set.name::cx ai l:=by simp [cx,hc]
    simp only [List.foldl_cons,hc,if_true,e]
    have:=ih (bI (.str s.set.name) (.bool true) es) (C++[s.set.name]) (HT h1) (fun n=>by
     rw [HU h1,h2 n];by_cases h:n=s.set.name
     ·simp [h]
     ·simp [h])
    simpa using this
 have:=main l [] [] (fun p hp=>by simp at hp) (fun n=>by simp [findD])
 simpa [pY] using this
def fp (C:List Text) (cut n:Text):Text:=if (if cut != [] && !Nm.under n cut then [] else cut)==[]&&C.contains n then n else (if cut != [] && !Nm.under n cut then [] else cut)
def nz (C:List Text):Text→List Text→List Text
 |_,[]=>[]
 |cut,n::ns=>fp C cut n::nz C (fp C cut n) ns
theorem HV (C:List Text):∀ (k:Text) (ns:List Text),(nz C k ns).length=ns.length
 |_,[]=>rfl
 |k,n::ns=>by simp [nz,HV C _ ns]
def tV (z:aF):List Text:=nz (cx z.ai z.ae) [] (z.ae.map (·.set.name))
theorem Pp (z:aF):(tV z).length=z.ae.length:=by simp [tV,HV]
theorem wR {C:List Text} {cut n:Text} (hn:Nm.valid n=true) (hc:cut=[]∨Nm.valid cut=true):fp C cut n=[]∨Nm.valid (fp C cut n)=true:=by
 cases h:(cut != [] && !Nm.under n cut)
 ·simp only [fp,h,Bool.false_eq_true,if_false];split
  ·exact .inr hn
  ·exact hc
 ·simp only [fp,h,if_true];split
  ·exact .inr hn
  ·exact .inl rfl
theorem Pq (z:aF) (hl:z.ae.length≤1000000) (hv:∀ s∈z.ae,Nm.valid s.set.name=true):au E 170 [z.enc] (· = wN z (tV z)):=by
 have nA:=Pp z;have Pr:tV z=nz (cx z.ai z.ae) [] (z.ae.map (·.set.name)):=rfl;generalize tV z=B at *;obtain ⟨ai,l⟩:=z;simp only at *;refine eP Tryz.func170 ?_;refine gO Tryz.func170 ?_;refine I.loop (κ:=Nat) ([5]++rg 18 22) (fun k=>[(18,.d (.int .i64 k)),(3,.map 2)]) (fun k=>[(2,.map (pY ai (l.take k)))]) (fun k=>k≤l.length) (fun k=>l.length - k) 0 (Nat.zero_le _) ?_ ?_
 ·(conv=>whnf);repeat (first | exact trivial | (refine And.intro (by first | with_reducible rfl | exact congrArg (DV.int .i64) (by omega) | exact rfl | exact congrArg (DV.int .i64) (wrap64 (by omega) (by omega)) | exact congrArg (DV.int .i64) ((wrap64 (by omega) (by omega)).trans (by omega))) ?_; conv=>whnf))
 ·intro k hk IH;refine I.head ag Tryz.func170 2000 ?_;(conv=>whnf);refine aj (fun h5=>?_) (fun h5=>?_)
  ·have ah:k<l.length:=by simpa using h5
   obtain ⟨x,hx⟩:=aU ah;have bB:=Po (ai:=ai) hx;have eX:=(C5 ai (l.take k)).1;refine gO Tryz.func170 ?_;repeat' (first | with_reducible refine aT (bu hx) rfl ?_ | with_reducible refine cY ?_ | with_reducible refine cN ?_ | with_reducible refine aj (fun _=>?_) (fun _=>?_) | refine gA Tryz.func170 ?_ | refine gB ?_ | with_reducible rfl)
   all_goals first
    |(refine bp ⟨⟨_, rfl⟩, eX⟩ ?_
      have hc : ke ai x = true := by simp_all [ke])
    |(have hc:ke ai x=false:=by simp_all [ke])
   all_goals
    rw [hc] at bB;refine gO Tryz.func170 ?_;refine I.back (IH (k+1) (by omega) (by omega)) ?_;(conv=>whnf);repeat (first | exact trivial | (refine sI ?_; conv=>whnf))
    refine And.intro (by rw [bB]; simp) ?_;exact sZ
  ·have aK:l.length≤k:=by simpa using h5
   rw [List.take_of_length_le aK];refine gO Tryz.func170 ?_;refine I.bU ag bV 2000 (by kernel_rfl) ?_;(conv=>whnf);refine bp (by simp; omega) ?_;refine gD ?_;refine And.intro (by kernel_rfl) ?_;(conv=>whnf);(conv=>whnf);refine gO Tryz.func170 ?_;refine I.loop (κ:=Nat × Text) [7,8,9,10,11,12,51,52,53,54,55,56,57,58,59,60,61,62,63,64,65,66,67,68,69,70,71,72,73,74,75,76,77,78,79,80,81,82] (fun k=>[(51,.d (.int .i64 k.1)),(7,.d (.str k.2))]) (fun k=>[(3,.arr 0 (9,1) ((B.take k.1++List.replicate (l.length - k.1) []).map .str))]) (fun k=>k.1≤l.length∧B.drop k.1=nz (cx ai l) k.2 ((l.drop k.1).map (·.set.name))∧(k.2=[]∨Nm.valid k.2=true)) (fun k=>l.length - k.1) (0,[]) ⟨Nat.zero_le _,by simpa using Pr,.inl rfl⟩ ?_ ?_
   ·(conv=>whnf);repeat (first | exact trivial | (refine sI ?_; conv=>whnf))
    refine And.intro (by simp) ?_;exact sZ
   ·rintro ⟨i,cut⟩ hk IH;simp only at hk;refine I.head ag Tryz.func170 2000 ?_;(conv=>whnf);refine aj (fun h5=>?_) (fun h5=>?_)
    ·have ah:i<l.length:=by simpa using h5
     obtain ⟨x,hx⟩:=aU ah;have cC:=hv x (List.mem_of_getElem? hx);have mh:=fD cC;have Ps:(l.drop i).map (·.set.name)=x.set.name::(l.drop (i+1)).map (·.set.name):=by
      have e1:l[i]=x:=by simpa [ah] using hx
      rw [List.drop_eq_getElem_cons ah,e1];rfl
     obtain ⟨-,C6,hcut⟩:=hk;rw [Ps,nz] at C6;have nB:B[i]? = some (fp (cx ai l) cut x.set.name):=by
      have:=congrArg (fun l=>l[0]?) C6
      simpa using this
     have nC:B.drop (i+1)=nz (cx ai l) (fp (cx ai l) cut x.set.name) ((l.drop (i+1)).map (·.set.name)):=by
      have:=congrArg List.tail C6
      simpa using this
     have ml:=(C5 ai l).2 x.set.name;have eX:=(C5 ai l).1;refine gO Tryz.func170 ?_;refine aT (bu hx) rfl ?_;refine gO Tryz.func170 ?_;rcases zm:cut with _ | ⟨c0,VC⟩
     ·subst zm;refine aW (by simp) ?_;refine gO Tryz.func170 ?_;refine bg (by simp) ?_;refine gO Tryz.func170 ?_;refine mX (.bool false) (.bool false) (v := .bool ((cx ai l).contains x.set.name)) (f:=(cx ai l).contains x.set.name) ⟨_,rfl⟩ eX (fun w=>by kernel_rfl) (fun _ _ => .bool _) (by rw [ml]; split <;> simp_all) (by rw [ml]; split <;> simp_all) ?_;refine gO Tryz.func170 ?_;cases wS:(cx ai l).contains x.set.name
      ·refine aN ?_;refine gO Tryz.func170 ?_;have hS:fp (cx ai l) ([]:Text) x.set.name=[]:=by simp [fp]; intro h; exact absurd h (by simpa using wS)
       refine bp ⟨by omega,by simp; omega⟩ ?_;refine gO Tryz.func170 ?_;refine gv (.str []) (by omega) (by simp only [Int.toNat_natCast,List.getElem?_map]; rw [wJ nA ah]; rfl) rfl ?_;refine gO Tryz.func170 ?_;refine I.back (IH (i+1,[]) ⟨by simp only; omega,by rw [hS] at nC; exact nC,by have hq:=wR (C:=cx ai l) cC hcut; rw [hS] at hq; exact hq⟩ (by simp only; omega)) ?_;(conv=>whnf);repeat (first | exact trivial | (refine sI ?_; conv=>whnf))
       refine And.intro (by rw [← wI (e:=[]) (x:=[]) nA (by rw [hS] at nB; exact nB)]; simp [List.map_set]) ?_;exact sZ
      ·refine aY ?_;refine gO Tryz.func170 ?_;have hS:fp (cx ai l) ([]:Text) x.set.name=x.set.name:=by simp [fp]; intro h; exact absurd (by simpa using wS) h
       refine bp ⟨by omega,by simp; omega⟩ ?_;refine gO Tryz.func170 ?_;refine gv (.str []) (by omega) (by simp only [Int.toNat_natCast,List.getElem?_map]; rw [wJ nA ah]; rfl) rfl ?_;refine gO Tryz.func170 ?_;refine I.back (IH (i+1,x.set.name) ⟨by simp only; omega,by rw [hS] at nC; exact nC,by have hq:=wR (C:=cx ai l) cC hcut; rw [hS] at hq; exact hq⟩ (by simp only; omega)) ?_;(conv=>whnf);repeat (first | exact trivial | (refine sI ?_; conv=>whnf))
       refine And.intro (by rw [← wI (e:=[]) (x:=x.set.name) nA (by rw [hS] at nB; exact nB)]; simp [List.map_set]) ?_;exact sZ
     ·have o8:Nm.valid cut=true:=by
       rcases hcut with h | h
       ·rw [zm] at h; cases h
       ·exact h
      have dS:=fD o8;have oI:=tO x.set.name cut (by unfold maxLen; omega) (by unfold maxLen; omega);rw [zi cC o8] at oI;rw [← zm];have aE:cut≠[]:=by rw [zm]; simp
      refine bg (by simpa using aE) ?_;refine gO Tryz.func170 ?_
      with_reducible refine ar (oI) ?_
      refine gO Tryz.func170 ?_;cases hu:Nm.under x.set.name cut
      ·refine bg rfl ?_;refine gO Tryz.func170 ?_;refine bg (by simp) ?_;refine gO Tryz.func170 ?_;refine mX (.bool false) (.bool false) (v := .bool ((cx ai l).contains x.set.name)) (f:=(cx ai l).contains x.set.name) ⟨_,rfl⟩ eX (fun w=>by kernel_rfl) (fun _ _ => .bool _) (by rw [ml]; split <;> simp_all) (by rw [ml]; split <;> simp_all) ?_;refine gO Tryz.func170 ?_;cases wS:(cx ai l).contains x.set.name
       ·refine aN ?_;refine gO Tryz.func170 ?_;have hS:fp (cx ai l) cut x.set.name=[]:=by simp [fp,hu,aE]; intro h; exact absurd h (by simpa using wS)
        refine bp ⟨by omega,by simp; omega⟩ ?_;refine gO Tryz.func170 ?_;refine gv (.str []) (by omega) (by simp only [Int.toNat_natCast,List.getElem?_map]; rw [wJ nA ah]; rfl) rfl ?_;refine gO Tryz.func170 ?_;refine I.back (IH (i+1,[]) ⟨by simp only; omega,by rw [hS] at nC; exact nC,by have hq:=wR (C:=cx ai l) cC hcut; rw [hS] at hq; exact hq⟩ (by simp only; omega)) ?_;(conv=>whnf);repeat (first | exact trivial | (refine sI ?_; conv=>whnf))
        refine And.intro (by rw [← wI (e:=[]) (x:=[]) nA (by rw [hS] at nB; exact nB)]; simp [List.map_set]) ?_;exact sZ
       ·refine aY ?_;refine gO Tryz.func170 ?_;have hS:fp (cx ai l) cut x.set.name=x.set.name:=by simp [fp,hu,aE]; intro h; exact absurd (by simpa using wS) h
        refine bp ⟨by omega,by simp; omega⟩ ?_;refine gO Tryz.func170 ?_;refine gv (.str []) (by omega) (by simp only [Int.toNat_natCast,List.getElem?_map]; rw [wJ nA ah]; rfl) rfl ?_;refine gO Tryz.func170 ?_;refine I.back (IH (i+1,x.set.name) ⟨by simp only; omega,by rw [hS] at nC; exact nC,by have hq:=wR (C:=cx ai l) cC hcut; rw [hS] at hq; exact hq⟩ (by simp only; omega)) ?_;(conv=>whnf);repeat (first | exact trivial | (refine sI ?_; conv=>whnf))
        refine And.intro (by rw [← wI (e:=[]) (x:=x.set.name) nA (by rw [hS] at nB; exact nB)]; simp [List.map_set]) ?_;exact sZ
      ·have hS:fp (cx ai l) cut x.set.name=cut:=by simp [fp,hu,aE]
       refine aW rfl ?_;refine gO Tryz.func170 ?_;refine aW (by simpa using aE) ?_;refine gO Tryz.func170 ?_;refine aN ?_;refine gO Tryz.func170 ?_;refine bp ⟨by omega,by simp; omega⟩ ?_;refine gO Tryz.func170 ?_;refine gv (.str []) (by omega) (by simp only [Int.toNat_natCast,List.getElem?_map]; rw [wJ nA ah]; rfl) rfl ?_;refine gO Tryz.func170 ?_;refine I.back (IH (i+1,cut) ⟨by simp only; omega,by rw [hS] at nC; exact nC,by have hq:=wR (C:=cx ai l) cC hcut; rw [hS] at hq; exact hq⟩ (by simp only; omega)) ?_;(conv=>whnf);repeat (first | exact trivial | (refine sI ?_; conv=>whnf))
       refine And.intro (by rw [← wI (e:=[]) (x:=cut) nA (by rw [hS] at nB; exact nB)]; simp [List.map_set]) ?_;exact sZ
    ·have aK:l.length≤i:=by simpa using h5
     refine gO Tryz.func170 ?_;simp only [show l.length - i=0 by omega,List.replicate_zero,List.append_nil];rw [List.take_of_length_le (by omega)]
end Go.Proofs.YtfmdaiojokniiaaGreatDoor.P
end
section
namespace Go.Proofs.YtfmdaiojokniiaaGreatDoor.P
open Go Go.aw
set_option maxRecDepth 100000
set_option maxHeartbeats 4000000
theorem zn {a b c:Text} (h:bO a b≤0) (k:bO b c≤0):bO a c≤0:=by
 rcases Int.lt_or_eq_of_le h with h | h
 ·rcases Int.lt_or_eq_of_le k with k | k
  ·exact Int.le_of_lt (zg h k)
  ·rw [← oH k]; exact Int.le_of_lt h
 ·rw [oH h]; exact k
theorem HW (a:Text):Nm.under a a=true:=by simp [Nm.under]
def gJ (l:List Text):Prop:=∀ (i j:Nat) (x y:Text),i<j→l[i]? = some x→l[j]? = some y→bO x y≤0
def pZ (l:List Text):Prop:=∀ (i j:Nat) (x y:Text),i<j→l[i]? = some x→l[j]? = some y→Nm.under y x=false
theorem gJ.snoc {l:List Text} {c:Text} (h:gJ (l++[c])):gJ l∧∀ x∈l,bO x c≤0:=by
 refine ⟨fun i j x y dp hx hy=>h i j x y dp (by rw [List.getElem?_append_left (aP hx)]; exact hx) (by rw [List.getElem?_append_left (aP hy)]; exact hy),fun x hx=>?_⟩;obtain ⟨i,hi⟩:=List.getElem?_of_mem hx;have:=aP hi;exact h i l.length x c this (by rw [List.getElem?_append_left this]; exact hi) (by simp)
theorem rO {α:Type} {l:List α} {c x:α} {i:Nat} (h:(l++[c])[i]? = some x):l[i]? = some x∨(i=l.length∧x=c):=by
 rcases Nat.lt_or_ge i l.length with hi | hi
 ·rw [List.getElem?_append_left hi] at h; exact .inl h
 ·rw [List.getElem?_append_right hi] at h;have h0:i - l.length=0:=by
   have:=aP h;simp at this;omega
  rw [h0] at h;simp at h;exact .inr ⟨by omega,h.symm⟩
theorem HX:∀ (C:List Text),gJ C→gJ (ja C)∧pZ (ja C)∧(∀ c∈C,∃ d∈ja C,Nm.under c d=true):=by
 have main:∀ (n:Nat) (C:List Text),C.length=n→gJ C→gJ (ja C)∧pZ (ja C)∧(∀ c∈C,∃ d∈ja C,Nm.under c d=true):=by
  intro n
  induction n with
  |zero =>
   intro C hn _;obtain rfl:C=[]:=List.eq_nil_of_length_eq_zero hn;exact ⟨fun i j x y _ h=>by simp [ja] at h,fun i j x y _ h=>by simp [ja] at h,fun c h=>by simp at h⟩
  |succ n ih =>
   intro C hn hA;rcases List.eq_nil_or_concat C with rfl | ⟨P,c,rfl⟩
   ·simp at hn
   rw [List.concat_eq_append] at *;obtain ⟨Pt,Pu⟩:=hA.snoc;obtain ⟨i1,i2,i3⟩:=ih P (by simpa using hn) Pt;have e:ja (P++[c])=pV (ja P) c:=by rw [ja,List.foldl_append]; rfl
   have hle:∀ d∈ja P,bO d c≤0:=fun d hd=>Pu d (y9 d hd);rw [e];generalize ja P=H at *;rcases List.eq_nil_or_concat H with rfl | ⟨H0,d,rfl⟩
   ·have e2:pV [] c=[c]:=rfl;rw [e2];refine ⟨fun i j x y dp hx hy=>?_,fun i j x y dp hx hy=>?_,fun x hx=>?_⟩
    ·have:=aP hy; simp at this; omega
    ·have:=aP hy; simp at this; omega
    ·rcases List.mem_append.1 hx with hx | hx
     ·obtain ⟨d,hd,-⟩:=i3 x hx;simp at hd
     ·simp at hx; subst hx; exact ⟨x,by simp,HW x⟩
   ·rw [List.concat_eq_append] at *;have e2:pV (H0++[d]) c=if Nm.under c d then H0++[d] else H0++[d]++[c]:=by simp [pV]
    rw [e2];cases hu:Nm.under c d
    ·simp only [Bool.false_eq_true,if_false];refine ⟨fun i j x y dp hx hy=>?_,fun i j x y dp hx hy=>?_,fun x hx=>?_⟩
     ·rcases rO hy with eM | ⟨rfl,rfl⟩
      ·rcases rO hx with hx | ⟨rfl,rfl⟩
       ·exact i1 i j x y dp hx eM
       ·exact absurd (aP eM) (by omega)
      ·rcases rO hx with hx | ⟨h,-⟩
       ·exact hle x (List.mem_of_getElem? hx)
       ·omega
     ·rcases rO hy with eM | ⟨rfl,rfl⟩
      ·rcases rO hx with hx | ⟨rfl,rfl⟩
       ·exact i2 i j x y dp hx eM
       ·exact absurd (aP eM) (by omega)
      ·rcases rO hx with hx | ⟨h,-⟩
       ·rcases rO hx with ze | ⟨-,rfl⟩
        ·rw [← Bool.not_eq_true];intro Pv;have hd:(H0++[d])[H0.length]? = some d:=by simp
         have jm:=aP ze;have h1:=i1 i H0.length x d jm hx hd;have h2:=hle d (by simp);have h3:=tT h1 h2 Pv;rw [i2 i H0.length x d jm hx hd] at h3;cases h3
        ·exact hu
       ·omega
     ·rcases List.mem_append.1 hx with hx | hx
      ·obtain ⟨q,hq,Pw⟩:=i3 x hx;exact ⟨q,List.mem_append_left _ hq,Pw⟩
      ·simp at hx; subst hx; exact ⟨x,by simp,HW x⟩
    ·simp only [if_true];refine ⟨i1,i2,fun x hx=>?_⟩;rcases List.mem_append.1 hx with hx | hx
     ·exact i3 x hx
     ·simp at hx; subst hx; exact ⟨d,by simp,hu⟩
 exact fun C=>main C.length C rfl
def oJ (H:List Text) (n r:Text):Prop:=(r∈H∧Nm.under n r=true)∨(r=[]∧∀ d∈H,Nm.under n d=false)
theorem HY {H:List Text} (hA:gJ H) (hP:pZ H) {n d e:Text} (hd:d∈H) (he:e∈H) (h1:Nm.under n d=true) (h2:Nm.under n e=true):d=e:=by
 obtain ⟨i,hi⟩:=List.getElem?_of_mem hd;obtain ⟨j,hj⟩:=List.getElem?_of_mem he;rcases Nat.lt_trichotomy i j with h | h | h
 ·have:=tT (hA i j d e h hi hj) (wO h2) h1;rw [hP i j d e h hi hj] at this;cases this
 ·subst h; rw [hi] at hj; exact Option.some.inj hj
 ·have:=tT (hA j i e d h hj hi) (wO h1) h2;rw [hP j i e d h hj hi] at this;cases this
theorem oJ.unique {H:List Text} (hA:gJ H) (hP:pZ H) {n r s:Text} (h1:oJ H n r) (h2:oJ H n s):r=s:=by
 rcases h1 with ⟨a1,a2⟩ | ⟨a1,a2⟩
 ·rcases h2 with ⟨b1,b2⟩ | ⟨b1,b2⟩
  ·exact HY hA hP a1 b1 a2 b2
  ·rw [b2 r a1] at a2; cases a2
 ·rcases h2 with ⟨b1,b2⟩ | ⟨b1,b2⟩
  ·rw [a2 s b1] at b2; cases b2
  ·rw [a1,b1]
theorem HZ {α:Type} (p:α→Bool):∀ (l:List α),∀ x∈l.takeWhile p,p x=true
 | [],x,h=>by simp at h
 |a::l,x,h=>by
  rw [List.takeWhile_cons] at h;cases ha:p a
  ·rw [ha] at h; simp at h
  ·rw [ha] at h;rcases List.mem_cons.1 h with rfl | h
   ·exact ha
   ·exact HZ p l x h
theorem H3 {α:Type} (p:α→Bool):∀ (l:List α) (x:α),l[(l.takeWhile p).length]? = some x→p x=false
 | [],x,h=>by simp at h
 |a::l,x,h=>by
  rw [List.takeWhile_cons] at h;cases ha:p a
  ·rw [ha] at h; simp at h; rw [← h]; exact ha
  ·rw [ha] at h;exact H3 p l x (by simpa using h)
theorem H4 {H:List Text} (hA:gJ H) (hP:pZ H) {n:Text} {k:Nat} (hk:k≤H.length) (wT:∀ m d,m<k→H[m]? = some d→bO d n≤0) :
  oJ H n (wG H n (iE H n k))∧(∀ m d,m<iE H n k→H[m]? = some d→bO d n≤0):=by
 have rN:=CV (n:=n) hk;have low:∀ m d,m<iE H n k→H[m]? = some d→bO d n≤0:=fun m d hm hd=>by
  rcases Nat.lt_or_ge m k with h | h
  ·exact wT m d h hd
  ·unfold iE at hm;have h1:(H.drop k)[m - k]? = some d:=by rw [List.getElem?_drop,show k+(m - k)=m by omega]; exact hd
   have h2:=List.takeWhile_prefix (fun c=>decide (bO c n≤0)) (l:=H.drop k);have h3:((H.drop k).takeWhile fun c=>decide (bO c n≤0))[m - k]? = some d:=by
    obtain ⟨r,hr⟩:=h2;rw [← hr,List.getElem?_append_left (by omega)] at h1;exact h1
   simpa using HZ _ _ d (List.mem_of_getElem? h3)
 have high:∀ m d,iE H n k≤m→H[m]? = some d→Nm.under n d=false:=fun m d hm hd=>by
  rw [← Bool.not_eq_true];intro hu;have h1:=wO hu;obtain ⟨e,he⟩:=aU (l:=H) (k:=iE H n k) (by have:=aP hd; omega);have h2:bO e n≤0:=by
   rcases Nat.lt_or_ge (iE H n k) m with h | h
   ·exact zn (hA _ m e d h he hd) h1
   ·obtain rfl:m=iE H n k:=by omega
    rw [he] at hd; cases hd; exact h1
  have h3:(H.drop k)[((H.drop k).takeWhile fun c=>decide (bO c n≤0)).length]? = some e:=by
   rw [List.getElem?_drop]; exact he
  have h6:=H3 _ _ e h3;simp at h6;omega
 refine ⟨?_,low⟩;generalize iE H n k=j at *;unfold wG;by_cases hj:j=0
 ·rw [if_pos hj];refine .inr ⟨rfl,fun d hd=>?_⟩;obtain ⟨m,hm⟩:=List.getElem?_of_mem hd;exact high m d (by omega) hm
 ·rw [if_neg hj];obtain ⟨c,hc⟩:=aU (l:=H) (k:=j - 1) (by omega);rw [hc];dsimp only;cases hu:Nm.under n c
  ·simp only [Bool.false_eq_true,if_false];refine .inr ⟨rfl,fun d hd=>?_⟩;obtain ⟨m,hm⟩:=List.getElem?_of_mem hd;rcases Nat.lt_or_ge m j with h | h
   ·rcases Nat.lt_or_ge m (j - 1) with h' | h'
    ·rw [← Bool.not_eq_true];intro Px;have:=tT (hA m (j - 1) d c h' hm hc) (low (j - 1) c (by omega) hc) Px;rw [hP m (j - 1) d c h' hm hc] at this;cases this
    ·obtain rfl:m=j - 1:=by omega
     rw [hc] at hm;cases hm;exact hu
   ·exact high m d h hm
  ·simp only [if_true];exact .inl ⟨List.mem_of_getElem? hc,hu⟩
theorem Py {C H:List Text} (hA:gJ H) (hP:pZ H) (oK:∀ d∈H,d∈C) (tW:∀ c∈C,∃ d∈H,Nm.under c d=true) (aE:∀ c∈C,c≠[]) {cut n:Text} {prev:Option Text}
  (hcut:match prev with | none=>cut=[] | some p=>oJ H p cut) (zo:∀ d∈H,bO d n<0→∃ p,prev=some p∧bO d p≤0) (lF:∀ p,prev=some p→bO p n≤0):oJ H n (fp C cut n):=by
 have key:∀ d∈H,Nm.under n d=true→d≠n→cut=d:=fun d hd hu oL=>by
  have h1:=wO hu;have h2:bO d n<0:=by
   rcases Int.lt_or_eq_of_le h1 with h | h
   ·exact h
   ·exact absurd (oH h) oL
  obtain ⟨p,hp,jc⟩:=zo d hd h2;have h3:=tT jc (lF p hp) hu;rw [hp] at hcut;exact hcut.unique hA hP (.inl ⟨hd,h3⟩)
 by_cases hc:cut≠[]∧Nm.under n cut=true
 ·have e:fp C cut n=cut:=by simp [fp,hc.1,hc.2]
  rw [e];refine .inl ⟨?_,hc.2⟩;cases prev with
  |none=>exact absurd hcut hc.1
  |some p =>
   rcases hcut with h | h
   ·exact h.1
   ·exact absurd h.1 hc.1
 ·have no:∀ d∈H,Nm.under n d=true→d=n:=fun d hd hu=>by
   apply Classical.byContradiction;intro oL;have:=key d hd hu oL;subst this;exact hc ⟨aE _ (oK _ hd),hu⟩
  have e0:(if cut != [] && !Nm.under n cut then [] else cut)=[]:=by
   by_cases h1:cut=[]
   ·simp [h1]
   ·have:Nm.under n cut=false:=by
     rw [← Bool.not_eq_true];exact fun h=>hc ⟨h1,h⟩
    simp [h1,this]
  have e:fp C cut n=if C.contains n then n else []:=by
   simp only [fp,e0];cases C.contains n <;> rfl
  rw [e];cases eB:C.contains n
  ·refine .inr ⟨by simp,fun d hd=>?_⟩;rw [← Bool.not_eq_true];intro hu;have:=no d hd hu;subst this;have:C.contains d=true:=by simpa using oK d hd
   rw [eB] at this;cases this
  ·simp only [if_true];have hn:n∈C:=by simpa using eB
   obtain ⟨d,hd,hu⟩:=tW n hn;have:=no d hd hu;subst this;exact .inl ⟨hd,hu⟩
theorem H5 {C H:List Text} (hA:gJ H) (hP:pZ H) (oK:∀ d∈H,d∈C) (tW:∀ c∈C,∃ d∈H,Nm.under c d=true) (aE:∀ c∈C,c≠[]) :
  ∀ (rest done:List Text) (cut:Text) (k:Nat),gJ (done++rest)→(∀ c∈C,c∈done++rest)→k≤H.length→(match done.getLast? with | none=>cut=[] | some p=>oJ H p cut)→(∀ m d,m<k→H[m]? = some d→∃ p,done.getLast? = some p∧bO d p≤0)→nz C cut rest=oE H k rest
 | [],_,_,_,_,_,_,_,_=>rfl
 |n::rest,done,cut,k,oM,a7,hk,hcut,wT=>by
  have lF:∀ p,done.getLast? = some p→bO p n≤0:=fun p hp=>by
   have hl:0<done.length:=by cases done with | nil=>simp at hp | cons=>simp
   rw [List.getLast?_eq_getElem?] at hp;exact oM (done.length - 1) done.length p n (by omega) (by rw [List.getElem?_append_left (by omega)]; exact hp) (by simp)
  have zo:∀ d∈H,bO d n<0→∃ p,done.getLast? = some p∧bO d p≤0:=fun d hd oL=>by
   have:=a7 d (oK d hd);obtain ⟨i,hi⟩:=List.getElem?_of_mem this;have n0:(done++n::rest)[done.length]? = some n:=by simp
   have ah:i<done.length:=by
    rcases Nat.lt_trichotomy i done.length with h | h | h
    ·exact h
    ·subst h; rw [n0] at hi; cases hi; rw [oG] at oL; omega
    ·have h1:=oM done.length i n d h n0 hi;have h2:=zf d n;omega
   rw [List.getElem?_append_left ah] at hi;obtain ⟨p,hp⟩:=aU (l:=done) (k:=done.length - 1) (by omega);refine ⟨p,by rw [List.getLast?_eq_getElem?]; exact hp,?_⟩;rcases Nat.lt_or_ge i (done.length - 1) with h | h
   ·exact oM i (done.length - 1) d p h (by rw [List.getElem?_append_left ah]; exact hi) (by rw [List.getElem?_append_left (by omega)]; exact hp)
   ·obtain rfl:i=done.length - 1:=by omega
    rw [hp] at hi; cases hi;rw [oG]; omega
  have f1:=Py hA hP oK tW aE hcut zo lF
  obtain ⟨f2,f3⟩:=H4 hA hP (n:=n) hk (fun m d hm hd=>by
   obtain ⟨p,hp,jc⟩:=wT m d hm hd
   exact zn jc (lF p hp))
  have e:=f1.unique hA hP f2;simp only [nz,oE,e]
  congr 1
  have ih:=H5 hA hP oK tW aE rest (done++[n]) (wG H n (iE H n k)) (iE H n k) (by simpa using oM) (by simpa using a7) (CV hk) (by simpa using f2) (fun m d hm hd=>⟨n,by simp,f3 m d hm hd⟩);exact ih
end Go.Proofs.YtfmdaiojokniiaaGreatDoor.P
end
