/- Lemmas of mine. Conditions: as stated. -/
import Derived.Test.YtcmnpelmmekdkaaGreatDoorW4
set_option linter.unusedVariables false
set_option linter.unusedSimpArgs false
section
namespace Go.Proofs.YtcmnpelmmekdkaaGreatDoor.P
open Go Go.aA
set_option maxRecDepth 100000
set_option maxHeartbeats 4000000
theorem NC(t:Int)(ad:Bool):au E 206 [.int .i64 t,.bool ad] (· = .bool (vy t ad)):=by
 refine eP Tryz.func206 ?_;repeat' (first|with_reducible(first|refine cY ?_|refine cN ?_|refine ar (fun _=>?_) (fun _=>?_))|refine gA Tryz.func206 ?_|refine gB ?_|refine gC ?_|with_reducible rfl)
 all_goals (cases ad<;>simp_all[vy])
theorem ND(l:List iS)(ad:Text):au E 207 [GF l,.str ad] (· = .bool (nZ l ad)):=by
 unfold nZ;have hg:∃ g0,g0=l.headD CG:=⟨_,rfl⟩;obtain⟨g0,hg⟩:=hg;rw[<- hg];refine eP F207 ?_;refine ar (fun h1=>?_) (fun h1=>?_)
 ·refine gO F207 ?_;simp only[List.length_map]at h1;rw[decide_eq_false (by simp at h1;omega),Bool.false_and]
 ·have h6:l.length<=6:=by simp at h1;omega
  rw[decide_eq_true (by omega),Bool.true_and];refine gO F207 ?_;refine aa.loop (κ:=Nat) ([4,5,6]++rg 12 76) (fun k=>[(12,.d (.int .i64 k))]) (fun _=>[]) (fun k=>k<=l.length/\chain (gH ad g0) kh none l=chain (gH ad g0) kh (cW l k) (l.drop k)) (fun k=>l.length-k) 0 ⟨Nat.zero_le _,rfl⟩ ?_ ?_
  ·exact sZ
  ·intro k hk IH;refine aa.head ag F207 2000 ?_;(conv=>whnf);refine ar (fun h5=>?_) (fun h5=>?_)
   ·have ai:k<l.length:=by simpa using h5
    obtain⟨x,hx⟩:=bd ai;have h0:=M9 ai;rw[<- hg]at h0;have bc:=CM (ok:=gH ad g0) (rel:=kh) hx;rw[<- hk.2]at bc;rcases Nat.eq_zero_or_pos k with dh|dh
    ·have eE:cW l k=none:=by simp[cW,dh]
     rw[eE]at bc;dsimp only at bc;rw[Bool.and_true]at bc;have CY:x=g0:=by subst dh;rw[hx]at h0;exact Option.some.inj h0
     refine gO F207 ?_;repeat' (first|with_reducible(first|refine aC (aS hx) rfl ?_|refine cY ?_|refine cN ?_|refine ar (fun _=>?_) (fun _=>?_))|refine gA F207 ?_|refine gB ?_|refine gC ?_|with_reducible rfl)
     all_goals first
      |(have dE : gH ad g0 x=false := by clear bc hk IH hg;simp_all[gH]<;>(intros;omega)
        rw[bc, dE, Bool.false_and]
        done)
      |skip
     refine gO F207 ?_;refine aa.draw ag bN 31 2000 (by kernel_rfl) ?_;(conv=>whnf);repeat' (first|with_reducible(first|refine aC (aS hx) rfl ?_|refine aC (ta h0) rfl ?_|refine cY ?_|refine cN ?_|refine ar (fun _=>?_) (fun _=>?_))|refine gA F207 ?_|refine gB ?_|refine gC ?_|with_reducible rfl)
     all_goals first
      |(exfalso;clear bc hk IH hg;simp_all;done)
      |skip
     all_goals
      refine gO F207 ?_;refine aa.back (IH (k+1) ⟨by omega,by rw[bc,show gH ad g0 x=true by clear bc hk IH hg;simp_all[gH]<;>omega,Bool.true_and]⟩ (by omega)) ?_;exact sZ
    ·obtain⟨q,hq,eE⟩:=xu dh hk.1;rw[eE]at bc;refine gO F207 ?_;repeat' (first|with_reducible(first|refine aC (aS hx) rfl ?_|refine cY ?_|refine cN ?_|refine ar (fun _=>?_) (fun _=>?_))|refine gA F207 ?_|refine gB ?_|refine gC ?_|with_reducible rfl)
     all_goals first
      |(have dE : gH ad g0 x=false := by clear bc hk IH hg;simp_all[gH]<;>(intros;omega)
        rw[bc, dE, Bool.false_and, Bool.false_and]
        done)
      |skip
     refine gO F207 ?_;refine aa.draw ag bN 31 2000 (by kernel_rfl) ?_;(conv=>whnf);repeat' (first|with_reducible(first|refine aC (aS hx) rfl ?_|refine aC (ta h0) rfl ?_|refine aC (oY hq dh (by omega)) rfl ?_|refine cY ?_|refine cN ?_|refine ar (fun _=>?_) (fun _=>?_))|refine gA F207 ?_|refine gB ?_|refine gC ?_|with_reducible rfl)
     all_goals first
      |(have dE : (gH ad g0 x && kh q x)=false := by clear bc hk IH hg;simp_all[gH, kh]<;>(intros;omega)
        rw[bc, dE, Bool.false_and]
        done)
      |(exfalso;clear bc hk IH hg;simp_all;omega)
      |skip
     all_goals
      refine gO F207 ?_;refine aa.back (IH (k+1) ⟨by omega,by rw[bc,show(gH ad g0 x&&kh q x)=true by clear bc hk IH hg;simp_all[gH,kh]<;>omega,Bool.true_and]⟩ (by omega)) ?_;exact sZ
   ·have aG:l.length<=k:=by simpa using h5
    refine gO F207 ?_;rw[hk.2,List.drop_of_length_le aG];rfl
@[reducible] def Aj (z : aP) (b : List Text) : DV := .agg [.str z.ad, vu z.ab, .sl (b.map .str)]
theorem WW(z:aP)(B:List Text)(hB:B.length=z.ab.length)(hl:z.ab.length<=1000000):au E 138 [Aj z B] (· = .bool ((z.ab.zip B).all fun p=>qa p.1 p.2)):=by
 obtain⟨ad,l⟩:=z;simp only at *;refine eP Tryz.func138 ?_;refine aa.loop (κ:=Nat) (rg 2 4++rg 11 39) (fun k=>[(11,.d (.int .i64 k))]) (fun _=>[]) (fun k=>k<=l.length/\((l.zip B).take k).all (fun p=>qa p.1 p.2)=true) (fun k=>l.length-k) 0 ⟨Nat.zero_le _,rfl⟩ ?_ ?_
 ·exact sZ
 ·intro k hk IH;refine aa.head ag Tryz.func138 2000 ?_;(conv=>whnf);refine ar (fun h5=>?_) (fun h5=>?_)
  ·have ai:k<l.length:=by simpa using h5
   obtain⟨x,hx⟩:=bd ai;obtain⟨b,hb⟩:=bd (l:=B) (k:=k) (by omega);have hz:=xz hx hb;refine gO Tryz.func138 ?_;repeat' (first|with_reducible(first|refine aC (aS hx) rfl ?_|refine aC (aS hb) rfl ?_|refine cY ?_|refine cN ?_|refine ar (fun _=>?_) (fun _=>?_))|refine gA Tryz.func138 ?_|refine gB ?_|refine gC ?_|with_reducible rfl)
   all_goals first
    |(have dE : qa x b=false := by clear hz hb hk IH hx;obtain⟨⟨nm, ty, lf, dt⟩, sg⟩ := x;rcases b with _|⟨c, b⟩<;>simp_all[qa]<;>first|(rintro rfl;simp_all;done)|(intro h;exact absurd h.symm (by assumption))|(subst_vars;simp_all;done)|(intros;simp_all;done)
      rw[iU hz dE]
      done)
    |(exfalso;clear hz hb hk IH;rcases b with _|⟨c,b⟩<;>simp_all;done)
    |skip
   all_goals
    refine gO Tryz.func138 ?_;refine aa.back (IH (k+1) ⟨by omega,jC hk.2 hz (by clear hz hb hk IH hx;obtain⟨⟨nm,ty,lf,dt⟩,sg⟩:=x;rcases b with _|⟨c,b⟩<;>simp_all[qa]<;>first|(rintro rfl;simp_all;done)|(intro h;exact absurd h.symm (by assumption))|(subst_vars;simp_all;done)|(intros;simp_all;done))⟩ (by omega)) ?_;exact sZ
  ·have aG:l.length<=k:=by simpa using h5
   refine gO Tryz.func138 ?_;rw[nX hk.2 (by simp;omega)]
def te(s:Signed)(b:Text):Bool := !(!kj s b&&decide ((s.sigs.length:Int)>0))
theorem WX(z:aP)(B:List Text)(hB:B.length=z.ab.length)(hl:z.ab.length<=1000000):au E 139 [Aj z B] (· = .bool ((z.ab.zip B).all fun p=>te p.1 p.2)):=by
 obtain⟨ad,l⟩:=z;simp only at *;refine eP Tryz.func139 ?_;refine aa.loop (κ:=Nat) (rg 2 4++rg 11 31) (fun k=>[(11,.d (.int .i64 k))]) (fun _=>[]) (fun k=>k<=l.length/\((l.zip B).take k).all (fun p=>te p.1 p.2)=true) (fun k=>l.length-k) 0 ⟨Nat.zero_le _,rfl⟩ ?_ ?_
 ·exact sZ
 ·intro k hk IH;refine aa.head ag Tryz.func139 2000 ?_;(conv=>whnf);refine ar (fun h5=>?_) (fun h5=>?_)
  ·have ai:k<l.length:=by simpa using h5
   obtain⟨x,hx⟩:=bd ai;obtain⟨b,hb⟩:=bd (l:=B) (k:=k) (by omega);have hz:=xz hx hb;refine gO Tryz.func139 ?_;repeat' (first|with_reducible(first|refine aC (aS hx) rfl ?_|refine aC (aS hb) rfl ?_|refine cY ?_|refine cN ?_|refine ar (fun _=>?_) (fun _=>?_))|refine gA Tryz.func139 ?_|refine gB ?_|refine gC ?_|with_reducible rfl)
   all_goals first
    |(rw[iU hz (by clear hz hb hk IH;rcases b with _|⟨c,b⟩<;>simp_all[te,kj])];done)
    |(exfalso;clear hz hb hk IH;rcases b with _|⟨c,b⟩<;>simp_all;done)
    |skip
   all_goals
    refine gO Tryz.func139 ?_;refine aa.back (IH (k+1) ⟨by omega,jC hk.2 hz (by clear hz hb hk IH;rcases b with _|⟨c,b⟩<;>simp_all[te,kj])⟩ (by omega)) ?_;exact sZ
  ·have aG:l.length<=k:=by simpa using h5
   refine gO Tryz.func139 ?_;rw[nX hk.2 (by simp;omega)]
theorem WY(z:aP)(B:List Text)(hl:z.ab.length<=1000000):au E 140 [Aj z B] (· = .bool (z.ab.all fun s=>nZ s.sigs z.ad)):=by
 obtain⟨ad,l⟩:=z;simp only at *;refine eP Tryz.func140 ?_;refine aa.loop (κ:=Nat) ([2,4]++rg 10 13) (fun k=>[(10,.d (.int .i64 k))]) (fun _=>[]) (fun k=>k<=l.length/\(l.take k).all (fun s=>nZ s.sigs ad)=true) (fun k=>l.length-k) 0 ⟨Nat.zero_le _,rfl⟩ ?_ ?_
 ·exact sZ
 ·intro k hk IH;refine aa.head ag Tryz.func140 2000 ?_;(conv=>whnf);refine ar (fun h5=>?_) (fun h5=>?_)
  ·have ai:k<l.length:=by simpa using h5
   obtain⟨x,hx⟩:=bd ai;refine gO Tryz.func140 ?_;repeat' (first|with_reducible(first|refine aC (aS hx) rfl ?_|refine aj (ND _ _) ?_|refine bj (ND _ _) ?_|refine cY ?_|refine cN ?_|refine ar (fun _=>?_) (fun _=>?_))|refine gA Tryz.func140 ?_|refine gB ?_|refine gC ?_|with_reducible rfl)
   all_goals first
    |(rw[iU hx (by simp_all)];done)
    |skip
   all_goals
    refine gO Tryz.func140 ?_;refine aa.back (IH (k+1) ⟨by omega,jC hk.2 hx (by simp_all)⟩ (by omega)) ?_;exact sZ
  ·have aG:l.length<=k:=by simpa using h5
   refine gO Tryz.func140 ?_;rw[nX hk.2 aG]
def tf(p:Option Text)(s:Signed)(t:Option Signed):Bool:=s.set.type != 3||(p != some s.set.name&&(match t with|none=>true|some t => !(t.set.name==s.set.name&&t.set.type != 8)))
def kl:Option Text->List Signed->Bool
 |_,[]=>true
 |p,s::l=>tf p s l.head? && kl (some s.set.name) l
theorem WZ{l:List Signed}{k:Nat}{x:Signed}(hx:l[k]?=some x):kl (cW (l.map (·.set.name)) k) (l.drop k)=(tf (cW (l.map (·.set.name)) k) x l[k+1]? && kl (cW (l.map (·.set.name)) (k+1)) (l.drop (k+1))):=by
 have hk:=aX hx;rw[List.drop_eq_getElem_cons hk];have e1:l[k]=x:=by simpa [hk]using hx
 have e2:cW (l.map (·.set.name)) (k+1)=some x.set.name:=by simp[cW,hx]
 have e3:(l.drop (k+1)).head?=l[k+1]? := by rw[List.head?_drop]
 rw[e1,e2,kl,e3]
theorem W5(z:aP)(B:List Text)(hl:z.ab.length<=1000000):au E 137 [Aj z B] (· = .bool (kl none z.ab)):=by
 obtain⟨ad,l⟩:=z;simp only at *;refine eP F137 ?_;refine aa.loop (κ:=Nat) ([2,3,4]++rg 10 65) (fun k=>[(10,.d (.int .i64 k))]) (fun _=>[]) (fun k=>k<=l.length/\kl none l=kl (cW (l.map (·.set.name)) k) (l.drop k)) (fun k=>l.length-k) 0 ⟨Nat.zero_le _,rfl⟩ ?_ ?_
 ·exact sZ
 ·intro k hk IH;refine aa.head ag F137 2000 ?_;(conv=>whnf);refine ar (fun h5=>?_) (fun h5=>?_)
  ·have ai:k<l.length:=by simpa using h5
   obtain⟨x,hx⟩:=bd ai;have bc:=WZ hx;rw[<- hk.2]at bc;have hw:IntKind.i64.wrap ((k:Int)+1)=((k+1:Nat):Int):=by rw[wrap64 (by omega) (by omega)];omega
   refine gO F137 ?_;refine aC (aS hx) rfl ?_;refine gO F137 ?_;refine ar (fun h6=>?_) (fun h6=>?_)
   ·refine gO F137 ?_;refine aa.back (IH (k+1) ⟨by omega,by rw[bc];simp only[tf,h6,Bool.true_or,Bool.true_and]⟩ (by omega)) ?_;exact sZ
   ·have e1:tf (cW (l.map (·.set.name)) k) x l[k+1]?=(cW (l.map (·.set.name)) k != some x.set.name&&(match l[k+1]? with|none=>true|some t => !(t.set.name==x.set.name&&t.set.type != 8))):=by simp only[tf,h6,Bool.false_or]
    rw[e1]at bc;clear e1;rcases Nat.eq_zero_or_pos k with dh|dh
    ·have eE:cW (l.map (·.set.name)) k=none:=by simp[cW,dh]
     rw[eE]at bc;refine gO F137 ?_;refine aa.draw ag bN 18 2000 (by kernel_rfl) ?_;(conv=>whnf);refine aO (by simp;omega) ?_;refine gD ?_;refine gS ?_;refine gO F137 ?_;refine aY ?_;refine gO F137 ?_;refine aa.draw ag bN 37 2000 (by kernel_rfl) ?_;(conv=>whnf);by_cases dU:k+1<l.length
     ·obtain⟨t,ht⟩:=bd dU;rw[ht]at bc;refine aI (by rw[hw];simp;omega) ?_;refine gD ?_;repeat' (first|with_reducible(first|refine aC (at_next ht (by omega)) rfl ?_|refine cY ?_|refine cN ?_|refine ar (fun _=>?_) (fun _=>?_))|refine gA F137 ?_|refine gB ?_|refine gC ?_|with_reducible rfl)
      all_goals first
       |(rw[bc];clear bc hk IH eE;simp_all;done)
       |skip
      all_goals
       refine gO F137 ?_;refine aa.back (IH (k+1) ⟨by omega,by rw[bc];clear bc hk IH eE;simp_all⟩ (by omega)) ?_;exact sZ
     ·have ht:l[k+1]?=none:=List.getElem?_eq_none (by omega);rw[ht]at bc;refine aO (by rw[hw];simp;omega) ?_;refine gD ?_;repeat' (first|with_reducible(first|refine cY ?_|refine cN ?_|refine ar (fun _=>?_) (fun _=>?_))|refine gA F137 ?_|refine gB ?_|refine gC ?_|with_reducible rfl)
      refine gO F137 ?_;refine aa.back (IH (k+1) ⟨by omega,by rw[bc];clear bc hk IH eE;simp_all⟩ (by omega)) ?_;exact sZ
    ·obtain⟨q,hq,-⟩:=xu dh hk.1;have eE:cW (l.map (·.set.name)) k=some q.set.name:=by simp[cW,hq];omega
     rw[eE]at bc;refine gO F137 ?_;refine aa.draw ag bN 18 2000 (by kernel_rfl) ?_;(conv=>whnf);refine aI (by simp;omega) ?_;refine gD ?_;refine aC (oY hq dh (by omega)) rfl ?_;refine gD ?_;refine gS ?_;refine gO F137 ?_;refine ar (fun h7=>?_) (fun h7=>?_)
     ·refine gO F137 ?_;rw[bc];clear bc hk IH eE;simp_all
     ·refine gO F137 ?_;refine aa.draw ag bN 37 2000 (by kernel_rfl) ?_;(conv=>whnf);by_cases dU:k+1<l.length
      ·obtain⟨t,ht⟩:=bd dU;rw[ht]at bc;refine aI (by rw[hw];simp;omega) ?_;refine gD ?_;repeat' (first|with_reducible(first|refine aC (at_next ht (by omega)) rfl ?_|refine cY ?_|refine cN ?_|refine ar (fun _=>?_) (fun _=>?_))|refine gA F137 ?_|refine gB ?_|refine gC ?_|with_reducible rfl)
       all_goals first
        |(rw[bc];clear bc hk IH eE;simp_all;done)
        |skip
       all_goals
        refine gO F137 ?_;refine aa.back (IH (k+1) ⟨by omega,by rw[bc];clear bc hk IH eE;simp_all⟩ (by omega)) ?_;exact sZ
      ·have ht:l[k+1]?=none:=List.getElem?_eq_none (by omega);rw[ht]at bc;refine aO (by rw[hw];simp;omega) ?_;refine gD ?_;repeat' (first|with_reducible(first|refine cY ?_|refine cN ?_|refine ar (fun _=>?_) (fun _=>?_))|refine gA F137 ?_|refine gB ?_|refine gC ?_|with_reducible rfl)
       refine gO F137 ?_;refine aa.back (IH (k+1) ⟨by omega,by rw[bc];clear bc hk IH eE;simp_all⟩ (by omega)) ?_;exact sZ
  ·have aG:l.length<=k:=by simpa using h5
   refine gO F137 ?_;rw[hk.2,List.drop_of_length_le aG];rfl
theorem NF(c d:UInt8):c<d\/c=d\/d<c:=by
 rcases Nat.lt_trichotomy c.toNat d.toNat with h|h|h
 ·exact .inl (UInt8.lt_iff_toNat_lt.2 h)
 ·exact .inr (.inl (UInt8.toNat_inj.1 h))
 ·exact .inr (.inr (UInt8.lt_iff_toNat_lt.2 h))
theorem G5{c d:UInt8}{a b:Text}:Op.bytesLess (c::a) (d::b)=true↔c<d\/(c=d/\Op.bytesLess a b=true):=by
 simp[Op.bytesLess]
theorem G6:∀ {a b c:Text},Op.bytesLess a b=true->Op.bytesLess b c=true->Op.bytesLess a c=true
 |_,[],_,h,_=>by simp[Op.bytesLess]at h
 |_,_::_,[],_,h=>by simp[Op.bytesLess]at h
 |[],_::_,_::_,_,_=>by simp[Op.bytesLess]
 |x::a,y::b,z::c,h,k=>by
  rw[G5]at h k ⊢;rcases h with h|⟨rfl,h⟩
  ·rcases k with k|⟨rfl,k⟩
   ·exact .inl (UInt8.lt_trans h k)
   ·exact .inl h
  ·rcases k with k|⟨rfl,k⟩
   ·exact .inl k
   ·exact .inr ⟨rfl,G6 h k⟩
theorem NG:∀ (a b:Text),Op.bytesLess a b=true\/a=b\/Op.bytesLess b a=true
 |[],[] => .inr (.inl rfl)
 |[],_::_ => .inl (by simp[Op.bytesLess])
 |_::_,[] => .inr (.inr (by simp[Op.bytesLess]))
 |c::a,d::b=>by
  rw[G5,G5];rcases NF c d with h|rfl|h
  ·exact .inl (.inl h)
  ·rcases NG a b with h|rfl|h
   ·exact .inl (.inr ⟨rfl,h⟩)
   ·exact .inr (.inl rfl)
   ·exact .inr (.inr (.inr ⟨rfl,h⟩))
  ·exact .inr (.inr (.inl h))
theorem CZ{a b:Text}(h:Op.bytesLess a b=true):Op.bytesLess b a=false:=by
 rw[<- Bool.not_eq_true];intro k;have:=G6 h k;rw[mn]at this;cases this
theorem G7{a b:Text}(h:Op.bytesLess a b=true):a≠b:=by
 rintro rfl;rw[mn]at h;cases h
theorem NH:∀ (a b:Text),Lib.compareBytes a b=if Op.bytesLess a b then -1 else if a==b then 0 else 1
 |[],[]=>by simp[Lib.compareBytes,Op.bytesLess]
 |[],_::_=>by simp[Lib.compareBytes,Op.bytesLess]
 |_::_,[]=>by simp[Lib.compareBytes,Op.bytesLess]
 |c::a,d::b=>by
  simp only[Lib.compareBytes,Op.bytesLess];rcases NF c d with h|rfl|h
  ·simp[h]
  ·simp[NH a b]
  ·have h1:¬ c<d:=UInt8.not_lt.2 (UInt8.le_of_lt h);have h2:¬ c=d:=by rintro rfl;exact absurd h (by simp)
   simp[h,h1,h2]
theorem qb(x y:Text)(l m:List Text):(Op.bytesLess x y=true/\cmpL (x::l) (y::m) = -1)\/(x=y/\cmpL (x::l) (y::m)=cmpL l m)\/(Op.bytesLess y x=true/\cmpL (x::l) (y::m)=1):=by
 rcases NG x y with h|rfl|h
 ·exact .inl ⟨h,by simp[cmpL,h]⟩
 ·exact .inr (.inl ⟨rfl,by simp[cmpL,mn]⟩)
 ·exact .inr (.inr ⟨h,by simp[cmpL,CZ h,(G7 h).symm]⟩)
theorem NI:∀ (l:List Text),cmpL l l=0
 |[]=>rfl
 |x::l=>by simp[cmpL,mn,NI l]
theorem NJ:∀ {l m:List Text},cmpL l m=0->l=m
 |[],[],_=>rfl
 |[],_::_,h=>by simp[cmpL]at h
 |_::_,[],h=>by simp[cmpL]at h
 |x::l,y::m,h=>by
  rcases qb x y l m with⟨-,e⟩|⟨rfl,e⟩|⟨-,e⟩
  ·rw[e]at h;cases h
  ·rw[e]at h;rw[NJ h]
  ·rw[e]at h;cases h
theorem NK:∀ (l m:List Text),cmpL m l = - cmpL l m
 |[],[]=>rfl
 |[],_::_=>rfl
 |_::_,[]=>rfl
 |x::l,y::m=>by
  rcases qb x y l m with⟨h,e⟩|⟨rfl,e⟩|⟨h,e⟩
  ·rw[e];simp[cmpL,CZ h,(G7 h).symm]
  ·rw[e,<- NK l m];simp[cmpL,mn]
  ·rw[e];simp[cmpL,h]
theorem NL:∀ {a b c:List Text},cmpL a b<0->cmpL b c<0->cmpL a c<0
 |[],[],_,h,_=>by simp[cmpL]at h
 |_::_,[],_,h,_=>by simp[cmpL]at h
 |_,_::_,[],_,h=>by simp[cmpL]at h
 |[],_::_,_::_,_,_=>by simp[cmpL]
 |x::a,y::b,z::c,h,k=>by
  rcases qb x y a b with⟨h1,e1⟩|⟨rfl,e1⟩|⟨h1,e1⟩
  ·rcases qb y z b c with⟨h2,e2⟩|⟨rfl,e2⟩|⟨h2,e2⟩
   ·simp[cmpL,G6 h1 h2]
   ·simp[cmpL,h1]
   ·rw[e2]at k;simp at k
  ·rcases qb x z b c with⟨h2,e2⟩|⟨rfl,e2⟩|⟨h2,e2⟩
   ·simp[cmpL,h2]
   ·rw[e1]at h;rw[e2]at k;have:=NL h k;rcases qb x x a c with⟨h3,-⟩|⟨-,e3⟩|⟨h3,-⟩
    ·rw[mn]at h3;cases h3
    ·rw[e3];exact this
    ·rw[mn]at h3;cases h3
   ·rw[e2]at k;simp at k
  ·rw[e1]at h;simp at h
theorem NM:∀ {c m n:List Text},cmpL c m<=0->cmpL m n<=0->c <+: n->c <+: m
 |[],_,_,_,_,_=>List.nil_prefix
 |_::_,[],_,h,_,_=>by simp[cmpL]at h
 |_::_,_::_,[],_,_,h=>by simp at h
 |x::c,y::m,z::n,h,k,hp=>by
  rw[List.cons_prefix_cons]at hp;obtain⟨rfl,hp⟩:=hp;rcases qb x y c m with⟨h1,e1⟩|⟨rfl,e1⟩|⟨h1,e1⟩
  ·rcases qb y x m n with⟨h2,e2⟩|⟨rfl,e2⟩|⟨h2,e2⟩
   ·have:=CZ h1;rw[h2]at this;cases this
   ·rw[mn]at h1;cases h1
   ·rw[e2]at k;simp at k
  ·rcases qb x x m n with⟨h2,-⟩|⟨-,e2⟩|⟨h2,-⟩
   ·rw[mn]at h2;cases h2
   ·rw[List.cons_prefix_cons];rw[e1]at h;rw[e2]at k;exact⟨rfl,NM h k hp⟩
   ·rw[mn]at h2;cases h2
  ·rw[e1]at h;simp at h
theorem NN:∀ {c n:List Text},c <+: n->cmpL c n<=0
 |[],[],_=>by simp[cmpL]
 |[],_::_,_=>by simp[cmpL]
 |_::_,[],h=>by simp at h
 |x::c,y::n,h=>by
  rw[List.cons_prefix_cons]at h;obtain⟨rfl,h⟩:=h;simp only[cmpL,mn,Bool.false_eq_true,if_false,beq_self_eq_true,if_true];exact NN h
theorem jE(a:Text):bq a a=0:=NI _
theorem oa{a b:Text}(h:bq a b=0):a=b:=Ae (List.reverse_inj.1 (NJ h))
theorem tg(a b:Text):bq b a = - bq a b:=NK _ _
theorem o7{a b c:Text}(h:bq a b<0)(k:bq b c<0):bq a c<0:=NL h k
theorem s5{s z:Text}:Nm.under s z=true↔(Nm.labels z).reverse <+: (Nm.labels s).reverse:=by
 simp[Nm.under,List.reverse_prefix]
theorem xF{c m n:Text}(h:bq c m<=0)(k:bq m n<=0)(hp:Nm.under n c=true):Nm.under m c=true:=s5.2 (NM h k (s5.1 hp))
theorem Ak{c n:Text}(h:Nm.under n c=true):bq c n<=0:=NN (s5.1 h)
theorem NO:∀ (l m:List Text),kR (l.map bs) (m.map bs)=cmpL l m
 |[],[]=>rfl
 |[],_::_=>rfl
 |_::_,[]=>rfl
 |x::l,y::m=>by
  simp only[List.map_cons,kR,zS,NH];rw[NO l m];rcases qb x y l m with⟨h,e⟩|⟨rfl,e⟩|⟨h,e⟩
  ·simp[cmpL,h]
  ·simp[cmpL,mn]
  ·simp[cmpL,CZ h,(G7 h).symm]
theorem W6(a b:Text):kR (Nm.back ⟨a.toArray⟩) (Nm.back ⟨b.toArray⟩)=bq a b:=by
 simp only[Nm.back,kf];exact NO _ _
theorem C0(a b:Text)(ha:Nm.valid a=true)(hb:Nm.valid b=true):au E 76 [.str a,.str b] (· = .aJ [.int .i64 (bq a b),.int .i64 0]):=by
 refine GG (g:=fun a b => .aJ [.int .i64 (bq a b),.int .i64 0]) a b ⟨_,Tryz.func76,rfl,by decide⟩ fun w=>?_;have vd:∀ (v:Int) (bad:Nat->Prop) (w:World),VD bad w (.aJ [.int .i64 v,.int .i64 0]) (.tuple #[.int .i64 v,.int .i64 0]):=fun v bad w => .aJ _ _ rfl fun j x u hx hu=>by
  match j with
  |0=>simp at hx hu;subst hx;subst hu;exact .int _ _
  |1=>simp at hx hu;subst hx;subst hu;exact .int _ _
  |j+2=>simp at hx
 by_cases he:a=b
 ·subst he;refine(WO ⟨a.toArray⟩ w (by rw[kf];exact ha)).mono fun e w' ⟨h1,h2⟩=>⟨_,h1,fun bad w=>?_,h2⟩;rw[jE];exact vd 0 bad w
 ·refine(WG ⟨a.toArray⟩ ⟨b.toArray⟩ w (by rw[kf];exact ha) (by rw[kf];exact hb) (by rw[kf,kf];exact he)).mono fun e w' ⟨h1,h2⟩=>⟨_,h1,fun bad w=>?_,h2⟩;rw[W6];exact vd _ bad w
def ob(a:Text)(s:Int)(b:Text)(t:Int):Int:=if a≠b then bq a b else gF s t
theorem NP(a:Text)(s:Int)(b:Text)(t:Int)(ha:Nm.valid a=true)(hb:Nm.valid b=true):au E 145 [.str a,.int .i64 s,.str b,.int .i64 t] (· = .int .i64 (ob a s b t)):=by
 refine eP Tryz.func145 ?_;repeat' (first|with_reducible(first|refine aj (C0 _ _ ha hb) ?_|refine bj (C0 _ _ ha hb) ?_|refine aj (zV _ _) ?_|refine bj (zV _ _) ?_|refine cY ?_|refine cN ?_|refine ar (fun _=>?_) (fun _=>?_))|refine gA Tryz.func145 ?_|refine gB ?_|refine gC ?_|with_reducible rfl)
 all_goals simp_all[ob]
theorem xG(a b:eD):ob a.name a.type b.name b.type=nY a b:=by
 unfold ob nY;by_cases h:a.name=b.name
 ·simp[h,jE]
 ·have:bq a.name b.name≠0:=fun e=>h (oa e);simp[h,this]
def vD(s:Signed)(q:aM):Int:=ob s.set.name s.set.type q.name q.type
theorem W7{a b:Int}:gF a b=0↔a=b:=by
 unfold gF;split
 ·omega
 ·split<;>omega
theorem C1{s:Signed}{q:aM}:(vD s q==0)=cC q s:=by
 rw[Bool.eq_iff_iff,beq_iff_eq];unfold vD ob cC;by_cases h:s.set.name=q.name
 ·simp[h,W7]
 ·have:bq s.set.name q.name≠0:=fun e=>h (oa e);simp[h,this]
def fe(l:List Signed):Prop:=∀ (i j:Nat) (x y:Signed),i<j->l[i]?=some x->l[j]?=some y->nY x.set y.set<0
theorem W8{a b c:Int}(h:gF a b<0)(k:gF b c<0):gF a c<0:=by
 unfold gF at *;repeat' split at h
 all_goals first|omega|skip
 repeat' split at k
 all_goals first|omega|skip
 repeat' split
 all_goals omega
theorem G8{a b c:Text}{s t u:Int}(h:ob a s b t<0)(k:ob b t c u<0):ob a s c u<0:=by
 unfold ob at *;by_cases e1:a=b
 ·subst e1;simp only[ne_eq,not_true_eq_false,if_false]at h;by_cases e2:a=c
  ·subst e2;simp only[ne_eq,not_true_eq_false,if_false]at k ⊢;exact W8 h k
  ·simp only[ne_eq,e2,not_false_eq_true,if_true]at k ⊢;exact k
 ·simp only[ne_eq,e1,not_false_eq_true,if_true]at h;by_cases e2:b=c
  ·subst e2;simp only[ne_eq,e1,not_false_eq_true,if_true];exact h
  ·simp only[ne_eq,e2,not_false_eq_true,if_true]at k;have:=o7 h k;have e3:a≠c:=by
    rintro rfl;rw[jE]at this;omega
   simp only[ne_eq,e3,not_false_eq_true,if_true];exact this
theorem NQ(s:Signed)(q:aM)(hs:Nm.valid s.set.name=true)(hq:Nm.valid q.name=true):au E 144 [s.enc,q.enc] (· = .int .i64 (vD s q)):=by
 refine eP Tryz.func144 ?_
 with_reducible refine aj (NP _ _ _ _ hs hq) ?_
 refine gO Tryz.func144 ?_;rfl
theorem NR{i j:Nat}(h:i+j<=4294967296):IntKind.i64.wrap (qS .shr .u64 (IntKind.u64.wrap (IntKind.i64.wrap ((i:Int)+j))) (Int.toNat 1))=(((i+j) / 2:Nat):Int):=by
 rw[wrap64 (n:=(i:Int)+j) (by omega) (by omega)];have e1:IntKind.u64.wrap ((i:Int)+j)=(i:Int)+j:=by
  simp[IntKind.wrap,IntKind.signed,IntKind.bits];omega
 rw[e1];have e2:qS .shr .u64 ((i:Int)+j) (Int.toNat 1)=(((i+j) / 2:Nat):Int):=by
  show((i:Int)+j).fdiv (2 ^ 1)=_;rw[Int.fdiv_eq_ediv_of_nonneg _ (by decide)];omega
 rw[e2,wrap64 (by omega) (by omega)]
theorem W9(l:List Signed)(q:aM)(hl:l.length<=1000000)(hv:∀ s∈l,Nm.valid s.set.name=true)(hq:Nm.valid q.name=true)(hs:fe l) :
  aB E 143 [] [.d (vu l),.d q.enc,.fn (.func 144) [] []] (fun a b=>(∃ i:Nat,i<=l.length/\a=.aJ [.d (.int .i64 i),.d (.bool (l.any (cC q)))]/\∀ j x,l[j]?=some x->cC q x=true->j=i)/\b=[.cells [.d (.str q.name),.d (.int .i64 q.type)]]):=by
 refine aB.run ag (fn:=Tryz.f143) Tryz.func143 (body:=Tryz.f143.body.getD .skip) rfl (by decide) 2000 rfl ?_;(conv=>whnf);refine aa.loop (κ:=Nat × Nat) [9,10,11,15,16,17,18,19,20,21,22,23,24,25,26,27,28,29,30,31,32,33,34] (fun k=>[(9,.d (.int .i64 k.1)),(10,.d (.int .i64 k.2))]) (fun _=>[]) (fun k=>k.1<=k.2/\k.2<=l.length/\(∀ m x,m<k.1->l[m]?=some x->vD x q<0)/\(∀ m x,k.2<=m->l[m]?=some x->¬ vD x q<0)) (fun k=>k.2-k.1) (0,l.length) ⟨Nat.zero_le _,Nat.le_refl _,fun m x h=>by omega,fun m x h hx=>by have:=aX hx;omega⟩ ?_ ?_
 ·(conv=>whnf);repeat (first|exact trivial|(refine And.intro (by first|with_reducible rfl|exact congrArg (DV.int .i64) (by omega)|exact congrArg (DV.int .i64) (by simp)|exact congrArg (DV.int .i64) (wrap64 (by omega) (by omega))|exact congrArg (DV.int .i64) ((wrap64 (by omega) (by omega)).trans (by omega))) ?_;conv=>whnf))
 ·rintro⟨i,j⟩ hk IH;obtain⟨k1,k2,k3,k4⟩:=hk;simp only at k1 k2 k3 k4;refine aa.head ag F143 2000 ?_;(conv=>whnf);refine ar (fun h5=>?_) (fun h5=>?_)
  ·have ai:i<j:=by simpa using h5
   obtain⟨x,hx⟩:=bd (l:=l) (k:=(i+j) / 2) (by omega);have di:=hv x (List.mem_of_getElem? hx);have Al:=NR (i:=i) (j:=j) (by omega);refine gO F143 ?_;refine bA (by decide) ?_;refine gO F143 ?_;refine aa.draw ag bN 8 2000 (by kernel_rfl) ?_;(conv=>whnf);rw[show IntKind.i64.wrap (qS .shr .u64 (IntKind.u64.wrap (IntKind.i64.wrap (((i,j).fst:Int)+((i,j).snd:Int)))) (Int.toNat 1))=(((i+j) / 2:Nat):Int)from Al];refine aC (aS hx) rfl ?_;refine gD ?_
   with_reducible refine bj (NQ x q di hq) ?_
   refine gD ?_;refine gS ?_;refine gO F143 ?_;refine ar (fun h6=>?_) (fun h6=>?_)
   ·have hc:vD x q<0:=by simpa using h6
    refine gO F143 ?_;refine aa.back (IH ((i+j) / 2+1,j) ⟨by simp only;omega,k2,fun m y hm hy=>?_,k4⟩ (by simp only;omega)) ?_
    ·simp only at hm;rcases Nat.lt_or_ge m ((i+j) / 2)with h|h
     ·have h1:=hs m ((i+j) / 2) y x h hy hx;rw[<- xG]at h1;exact G8 h1 hc
     ·obtain rfl:m=(i+j) / 2:=by omega
      rw[hx]at hy;cases hy;exact hc
    ·exact sZ
   ·have hc:¬ vD x q<0:=by simpa using h6
    refine gO F143 ?_;refine aa.back (IH (i,(i+j) / 2) ⟨by simp only;omega,by simp only;omega,k3,fun m y hm hy=>?_⟩ (by simp only;omega)) ?_
    ·simp only at hm;rcases Nat.lt_or_ge ((i+j) / 2) m with h|h
     ·intro G9;have h1:=hs ((i+j) / 2) m x y h hx hy;rw[<- xG]at h1;exact hc (G8 h1 G9)
     ·obtain rfl:m=(i+j) / 2:=by omega
      rw[hx]at hy;cases hy;exact hc
    ·exact sZ
  ·have aG:i=j:=by simp at h5;omega
   subst aG;have only:∀ m y,l[m]?=some y->cC q y=true->m=i:=fun m y hy ha=>by
    rw[<- C1,beq_iff_eq]at ha;rcases Nat.lt_trichotomy m i with h|h|h
    ·have:=k3 m y h hy;omega
    ·exact h
    ·obtain⟨x,hx⟩:=bd (l:=l) (k:=i) (by have:=aX hy;omega);have h1:=hs i m x y h hx hy;rw[<- xG]at h1;have h2:=k4 i x (Nat.le_refl _) hx;have h3:ob x.set.name x.set.type q.name q.type<0:=by
      have e:y.set.name=q.name/\y.set.type=q.type:=by
       have:cC q y=true:=by rw[<- C1,beq_iff_eq];exact ha
       simpa [cC]using this
      rw[e.1,e.2]at h1;exact h1
     exact absurd h3 h2
   rcases Nat.lt_or_ge i l.length with hi|hi
   ·obtain⟨x,hx⟩:=bd hi;have di:=hv x (List.mem_of_getElem? hx);have G':l.any (cC q)=cC q x:=by
     cases ha:cC q x
     ·rw[<- Bool.not_eq_true,List.any_eq_true];rintro⟨y,hy,Am⟩;obtain⟨m,hm⟩:=List.getElem?_of_mem hy;obtain rfl:=only m y hm Am;rw[hx]at hm;cases hm;rw[ha]at Am;cases Am
     ·rw[List.any_eq_true];exact⟨x,List.mem_of_getElem? hx,ha⟩
    refine gO F143 ?_;refine aa.draw ag bN 16 2000 (by kernel_rfl) ?_;(conv=>whnf);refine aI (by simp;omega) ?_;refine gD ?_;refine aC (aS hx) rfl ?_;refine gD ?_
    with_reducible refine bj (NQ x q di hq) ?_
    refine gD ?_;refine gS ?_;refine gO F143 ?_;exact⟨⟨i,by omega,by rw[G',<- C1],only⟩,rfl⟩
   ·have G':l.any (cC q)=false:=by
     rw[<- Bool.not_eq_true,List.any_eq_true];rintro⟨y,hy,Am⟩;obtain⟨m,hm⟩:=List.getElem?_of_mem hy;obtain rfl:=only m y hm Am;have:=aX hm;omega
    refine gO F143 ?_;refine aa.draw ag bN 16 2000 (by kernel_rfl) ?_;(conv=>whnf);refine aO (by simp;omega) ?_;refine gD ?_;refine gS ?_;refine gO F143 ?_;exact⟨⟨i,by omega,by rw[G'],only⟩,rfl⟩
theorem C2(z:aP)(q:aM)(hl:z.ab.length<=1000000)(hv:∀ s∈z.ab,Nm.valid s.set.name=true)(hq:Nm.valid q.name=true)(hs:fe z.ab) :
  au E 93 [z.enc,q.enc] (fun r=>∃ i:Nat,i<=z.ab.length/\r=.aJ [.int .i64 i,.bool (z.ab.any (cC q))]/\∀ j x,z.ab[j]?=some x->cC q x=true->j=i):=by
 refine eP Tryz.func93 ?_;refine sJ (W9 z.ab q hl hv hq hs) ?_;rintro r h1 ⟨⟨i,hi,rfl,ho⟩,rfl⟩;refine gO Tryz.func93 ?_;exact⟨i,hi,rfl,ho⟩
theorem Xa{t:Text}(h:Nm.valid t=true):rG t=Nm.il t:=by
 unfold rG Nm.labels;by_cases hr:t=[46]
 ·subst hr;rfl
 ·rw[if_neg hr];have hp:Nm.parts (Nm.split t)=true:=by
   simp only[Nm.valid,Bool.or_eq_true,decide_eq_true_eq,Bool.and_eq_true]at h;rcases h with h|h
   ·exact absurd h hr
   ·exact h.2
  cases t with
  |nil=>rfl
  |cons c r =>
   by_cases hc:c=46
   ·subst hc;simp[Nm.split,Nm.parts,Nm.label]at hp
   ·obtain⟨x,u,h1,h2⟩:=Nm.rq c r hc;rw[h2]at hp ⊢;simp only[Nm.parts,Bool.and_eq_true,Bool.or_eq_true]at hp;show(c::x==[42])=(c==42);rcases hp.2.1 with hl|hl
    ·have h0:Nm.nU (c::x) 0=true:=by
      simp only[Nm.label,decide_eq_true_eq]at hl;exact hl.2.2 0 (by simp)
     have aH:(c==42)=false:=by
      rw[<- Bool.not_eq_true];intro e;have:c=42:=by simpa using e
      subst this;simp[Nm.nU,Nm.Gc]at h0
     have F7:c≠42:=by simpa using aH
     rw[aH];simp[F7]
    ·have:c::x=[42]:=by simpa using hl
     injection this with e1 e2;subst e1;subst e2;rfl
theorem An{s z:Text}(hs:Nm.valid s=true)(hz:Nm.valid z=true):Nm.nb s z=Nm.under s z:=by simp[Nm.nb,hs,hz]
theorem NS(z:aP)(hf:z.Fits):au E 134 [z.enc] (· = .bool (n' z)):=by
 obtain⟨ad,l⟩:=z;have ma:ad.length<=maxLen:=hf.ad;have gU:∀ s∈l,s.set.Fits:=hf.ab;unfold n';simp only;cases hv:Nm.valid ad
 ·refine eP F134 ?_
  with_reducible refine aj (nd _ ma) ?_
  refine gO F134 ?_;rw[hv];refine aI rfl ?_;refine gO F134 ?_;refine bp ?_;refine gO F134 ?_;refine bp ?_;refine gO F134 ?_;simp
 ·have p7:=dK hv;rw[Xa hv];refine eP F134 ?_
  with_reducible refine aj (nd _ ma) ?_
  refine gO F134 ?_;rw[hv];refine aO rfl ?_;refine gO F134 ?_
  with_reducible refine aj (MA _ _) ?_
  refine gO F134 ?_;rw[show preB ad _=Nm.il ad from MB ad];cases hw:Nm.il ad
  case true =>
   refine bp ?_;refine gO F134 ?_;refine bp ?_;refine gO F134 ?_;simp
  refine aY ?_;refine gO F134 ?_;refine ar (fun h3=>?_) (fun h3=>?_)
  ·refine gO F134 ?_;simp only[List.length_map]at h3;rw[h3];simp
  ·simp only[List.length_map]at h3;rw[h3];simp only[Bool.not_false,Bool.true_and];have Nn:l.length<=20000:=by simp at h3;omega
   refine gO F134 ?_;refine aa.loop (κ:=Nat) (rg 2 6++rg 30 44) (fun k=>[(30,.d (.int .i64 k))]) (fun _=>[]) (fun k=>k<=l.length/\chain (fH ad) iC none l=chain (fH ad) iC (cW l k) (l.drop k)/\∀ q,cW l k=some q->fa q.set=true) (fun k=>l.length-k) 0 ⟨Nat.zero_le _,rfl,fun q h=>by simp[cW]at h⟩ ?_ ?_
   ·exact sZ
   ·intro k hk IH;refine aa.head ag F134 2000 ?_;(conv=>whnf);refine ar (fun h5=>?_) (fun h5=>?_)
    ·have ai:k<l.length:=by simpa using h5
     obtain⟨x,hx⟩:=bd ai;have bc:=CM (ok:=fH ad) (rel:=iC) hx;rw[<- hk.2.1]at bc;have Ac:=gU x (List.mem_of_getElem? hx);have p9:cW l (k+1)=some x:=by simp[cW,hx]
     cases hs:fa x.set
     ·refine gO F134 ?_;refine aC (aS hx) rfl ?_;refine gO F134 ?_
      with_reducible refine aj (CE x.set Ac) ?_
      refine gO F134 ?_;rw[hs];refine aI rfl ?_;refine gO F134 ?_;rw[bc,fH,hs];simp
     ·have di:=vA hs;have iT:=dK di;have th:=zW x.set.name ad (by unfold maxLen;omega) ma;rw[An di hv]at th;refine gO F134 ?_;refine aC (aS hx) rfl ?_;refine gO F134 ?_
      with_reducible refine aj (CE x.set Ac) ?_
      refine gO F134 ?_;rw[hs];refine aO rfl ?_;refine gO F134 ?_
      with_reducible refine aj (th) ?_
      refine gO F134 ?_;cases hu:Nm.under x.set.name ad
      ·refine aI rfl ?_;refine gO F134 ?_;rw[bc,fH,hu];simp
      ·have aN:fH ad x=true:=by simp[fH,hs,hu]
       refine aO rfl ?_;refine gO F134 ?_;rcases Nat.eq_zero_or_pos k with dh|dh
       ·have eE:cW l k=none:=by simp[cW,dh]
        rw[eE]at bc;dsimp only at bc;rw[Bool.and_true,aN,Bool.true_and]at bc;refine aI (by simp[dh]) ?_;refine gO F134 ?_;refine aa.back (IH (k+1) ⟨by omega,bc,fun q hq=>by rw[p9]at hq;cases hq;exact hs⟩ (by omega)) ?_;exact sZ
       ·obtain⟨q,hq,eE⟩:=xu dh hk.1;have CS:=vA (hk.2.2 q eE);rw[eE]at bc;dsimp only at bc;rw[aN,Bool.true_and]at bc;have hc:=NP q.set.name q.set.type x.set.name x.set.type CS di;rw[xG]at hc;refine aO (by simp;omega) ?_;refine gO F134 ?_;refine aC (oY hq dh (by omega)) rfl ?_;refine gO F134 ?_
        with_reducible refine aj (hc) ?_
        refine gO F134 ?_;refine ar (fun h8=>?_) (fun h8=>?_)
        ·have hb:iC q x=false:=by simp at h8;simp[iC];omega
         refine gO F134 ?_;rw[bc,hb,Bool.false_and]
        ·have hb:iC q x=true:=by simp at h8;simp[iC];omega
         refine gO F134 ?_;refine aa.back (IH (k+1) ⟨by omega,by rw[bc,hb,Bool.true_and],fun q hq=>by rw[p9]at hq;cases hq;exact hs⟩ (by omega)) ?_;exact sZ
    ·have aG:l.length<=k:=by simpa using h5
     refine gO F134 ?_;rw[hk.2.1,List.drop_of_length_le aG];rfl
theorem NT{l:List Signed}{q:aM}:l.any (cC q) = !(decide (aq l q<0)):=by
 unfold aq;cases h:l.findIdx? (cC q)with
 |none =>
  have h1:=List.findIdx?_eq_none_iff.1 h;have:l.any (cC q)=false:=by
   rw[<- Bool.not_eq_true,List.any_eq_true];rintro⟨x,hx,ha⟩;rw[h1 x hx]at ha;cases ha
  rw[this];rfl
 |some i =>
  obtain⟨hi,ha,-⟩:=List.findIdx?_eq_some_iff_getElem.1 h;have:l.any (cC q)=true:=List.any_eq_true.2 ⟨_,List.getElem_mem hi,ha⟩;rw[this];simp
theorem Xb(z:aP)(hl:z.ab.length<=1000000)(hv:∀ s∈z.ab,Nm.valid s.set.name=true)(hq:Nm.valid z.ad=true)(hs:fe z.ab):au E 135 [z.enc] (· = .bool (rH z)):=by
 have f1:=C2 z ⟨z.ad,4⟩ hl hv hq hs;have f2:=C2 z ⟨z.ad,2⟩ hl hv hq hs;obtain⟨ad,l⟩:=z;simp only at *;unfold rH;simp only[<- NT];refine eP F135 ?_;refine aa.uW ?_;refine aa.run ag F135 2000 ?_;(conv=>whnf);refine aI (by decide) ?_;refine gO F135 ?_;refine fu (.int .i64 4) (by decide) rfl rfl ?_;refine gO F135 ?_
 with_reducible refine uP (f1) ?_
 rintro r ⟨i,-,rfl,-⟩;refine gO F135 ?_;cases h1:l.any (cC ⟨ad,4⟩)
 ·refine aI rfl ?_;refine gO F135 ?_;rfl
 refine aO rfl ?_;refine gO F135 ?_;refine aa.again ?_;refine aa.run ag F135 2000 ?_;(conv=>whnf);refine aI (by decide) ?_;refine gO F135 ?_;refine fu (.int .i64 2) (by decide) rfl rfl ?_;refine gO F135 ?_
 with_reducible refine uP (f2) ?_
 rintro r ⟨j,-,rfl,-⟩;refine gO F135 ?_;cases h2:l.any (cC ⟨ad,2⟩)
 ·refine aI rfl ?_;refine gO F135 ?_;rfl
 refine aO rfl ?_;refine gO F135 ?_;refine aa.again ?_;refine aa.run ag F135 2000 ?_;(conv=>whnf);refine aO (by decide) ?_;refine gO F135 ?_;simp only[Bool.true_and];refine aa.loop (κ:=Nat) ([2,8]++rg 32 17) (fun k=>[(32,.d (.int .i64 k))]) (fun _=>[]) (fun k=>k<=l.length/\(l.take k).all (fun s=>vy s.set.type (s.set.name==ad))=true) (fun k=>l.length-k) 0 ⟨Nat.zero_le _,rfl⟩ ?_ ?_
 ·exact sZ
 ·intro k hk IH;refine aa.head ag F135 2000 ?_;(conv=>whnf);refine ar (fun h5=>?_) (fun h5=>?_)
  ·have ai:k<l.length:=by simpa using h5
   obtain⟨x,hx⟩:=bd ai;refine gO F135 ?_;repeat' (first|with_reducible(first|refine aC (aS hx) rfl ?_|refine aj (NC _ _) ?_|refine bj (NC _ _) ?_|refine cY ?_|refine cN ?_|refine ar (fun _=>?_) (fun _=>?_))|refine gA F135 ?_|refine gB ?_|refine gC ?_|with_reducible rfl)
   all_goals first
    |(rw[iU hx (by simp_all)];done)
    |skip
   all_goals
    refine gO F135 ?_;refine aa.back (IH (k+1) ⟨by omega,jC hk.2 hx (by simp_all)⟩ (by omega)) ?_;exact sZ
  ·have aG:l.length<=k:=by simpa using h5
   refine gO F135 ?_;rw[nX hk.2 aG]
def tj(ad:Text)(l:List Signed):List (DV × DV):=l.foldl (fun es s=>if iJ ad s then cx (.str s.set.name) (.bool true) es else es) []
theorem Xc{ad:Text}{l:List Signed}{k:Nat}{x:Signed}(h:l[k]?=some x):tj ad (l.take (k+1))=if iJ ad x then cx (.str x.set.name) (.bool true) (tj ad (l.take k))else tj ad (l.take k):=by
 rw[dW h,tj,List.foldl_append];rfl
theorem C3(a b:Text):eW (.str a) (.str b)=(a==b):=rfl
def StrKeys(es:List (DV × DV)):Prop:=∀ p∈es,∃ s,p.1=DV.str s
theorem NU{n:Text}{v:DV}:∀ {es:List (DV × DV)},StrKeys es->StrKeys (cx (.str n) v es)
 |[],_,p,hp=>by simp[cx]at hp;subst hp;exact⟨_,rfl⟩
 |q::es,h,p,hp=>by
  unfold cx at hp;split at hp
  ·rcases List.mem_cons.1 hp with rfl|hp
   ·exact⟨_,rfl⟩
   ·exact h p (List.mem_cons_of_mem _ hp)
  ·rcases List.mem_cons.1 hp with rfl|hp
   ·exact h _ (List.mem_cons_self ..)
   ·exact NU (fun r hr=>h r (List.mem_cons_of_mem _ hr)) p hp
theorem NV{n m:Text}{v:DV}:∀ {es:List (DV × DV)},StrKeys es->findD (.str m) (cx (.str n) v es)=if m==n then some v else findD (.str m) es
 |[],_=>by simp[cx,findD,C3]
 |q::es,h=>by
  obtain⟨s,hs⟩:=h q (List.mem_cons_self ..);obtain⟨q1,q2⟩:=q;simp only at hs;subst hs;unfold cx;simp only[C3];by_cases e:n=s
  ·subst e;simp only[beq_self_eq_true,if_true,findD,C3];by_cases e2:m=n
   ·simp[e2]
   ·simp[e2]
  ·have ih:=NV (n:=n) (m:=m) (v:=v) (es:=es) (fun r hr=>h r (List.mem_cons_of_mem _ hr));have e':(n==s)=false:=by simpa using e
   simp only[e',Bool.false_eq_true,if_false,findD,C3,ih];by_cases e2:m=s
   ·subst e2;have:(m==n)=false:=by simpa using fun h=>e h.symm
    simp[this]
   ·simp[e2]
theorem Ao(ad:Text)(l:List Signed):StrKeys (tj ad l)/\∀ n,findD (.str n) (tj ad l)=if (bO ad l).contains n then some (.bool true)else none:=by
 have main:∀ (l:List Signed) (es:List (DV × DV)) (C:List Text),StrKeys es->(∀ n,findD (.str n) es=if C.contains n then some (.bool true)else none) ->
   StrKeys (l.foldl (fun es s=>if iJ ad s then cx (.str s.set.name) (.bool true) es else es) es)/\∀ n,findD (.str n) (l.foldl (fun es s=>if iJ ad s then cx (.str s.set.name) (.bool true) es else es) es)=if (C++bO ad l).contains n then some (.bool true)else none:=by
  intro l
  induction l with
  |nil=>intro es C h1 h2;exact⟨h1,by simpa [bO]using h2⟩
  |cons s l ih =>
   intro es C h1 h2;cases hc:iJ ad s
   ·have e:bO ad (s::l)=bO ad l:=by simp[bO,hc]
    simp only[List.foldl_cons,hc,Bool.false_eq_true,if_false,e];exact ih es C h1 h2
   ·have e:bO ad (s::l)=s.set.name::bO ad l:=by simp[bO,hc]
    simp only[List.foldl_cons,hc,if_true,e]
    have:=ih (cx (.str s.set.name) (.bool true) es) (C++[s.set.name]) (NU h1) (fun n=>by
     rw[NV h1,h2 n];by_cases h:n=s.set.name
     ·simp[h]
     ·simp[h])
    simpa using this
 have:=main l [] [] (fun p hp=>by simp at hp) (fun n=>by simp[findD])
 simpa [tj]using this
def eb(C:List Text)(cut n:Text):Text:=if (if cut != [] && !Nm.under n cut then[]else cut)==[]&&C.contains n then n else(if cut != [] && !Nm.under n cut then[]else cut)
def np(C:List Text):Text->List Text->List Text
 |_,[]=>[]
 |cut,n::ns=>eb C cut n::np C (eb C cut n) ns
theorem NW(C:List Text):∀ (k:Text) (ns:List Text),(np C k ns).length=ns.length
 |_,[]=>rfl
 |k,n::ns=>by simp[np,NW C _ ns]
def xH(z:aP):List Text:=np (bO z.ad z.ab) [] (z.ab.map (·.set.name))
theorem Xd(z:aP):(xH z).length=z.ab.length:=by simp[xH,NW]
theorem qc{C:List Text}{cut n:Text}(hn:Nm.valid n=true)(hc:cut=[]\/Nm.valid cut=true):eb C cut n=[]\/Nm.valid (eb C cut n)=true:=by
 cases h:(cut != [] && !Nm.under n cut)
 ·simp only[eb,h,Bool.false_eq_true,if_false];split
  ·exact .inr hn
  ·exact hc
 ·simp only[eb,h,if_true];split
  ·exact .inr hn
  ·exact .inl rfl
theorem Xe(z:aP)(hl:z.ab.length<=1000000)(hv:∀ s∈z.ab,Nm.valid s.set.name=true):au E 136 [z.enc] (· = Aj z (xH z)):=by
 have eS:=Xd z;have jz:xH z=np (bO z.ad z.ab) [] (z.ab.map (·.set.name)):=rfl;generalize xH z=B at *;obtain⟨ad,l⟩:=z;simp only at *;refine eP F136 ?_;refine gO F136 ?_;refine aa.loop (κ:=Nat) ([5]++rg 18 22) (fun k=>[(18,.d (.int .i64 k)),(3,.map 2)]) (fun k=>[(2,.map (tj ad (l.take k)))]) (fun k=>k<=l.length) (fun k=>l.length-k) 0 (Nat.zero_le _) ?_ ?_
 ·(conv=>whnf);repeat (first|exact trivial|(refine And.intro (by first|with_reducible rfl|exact congrArg (DV.int .i64) (by omega)|exact rfl|exact congrArg (DV.int .i64) (wrap64 (by omega) (by omega))|exact congrArg (DV.int .i64) ((wrap64 (by omega) (by omega)).trans (by omega))) ?_;conv=>whnf))
 ·intro k hk IH;refine aa.head ag F136 2000 ?_;(conv=>whnf);refine ar (fun h5=>?_) (fun h5=>?_)
  ·have ai:k<l.length:=by simpa using h5
   obtain⟨x,hx⟩:=bd ai;have bc:=Xc (ad:=ad) hx;have nr:=(Ao ad (l.take k)).1;refine gO F136 ?_;repeat' (first|with_reducible(first|refine aC (aS hx) rfl ?_|refine cY ?_|refine cN ?_|refine ar (fun _=>?_) (fun _=>?_))|refine gA F136 ?_|refine gB ?_|refine gC ?_|with_reducible rfl)
   all_goals first
    |(refine bA ⟨⟨_, rfl⟩, nr⟩ ?_
      have hc : iJ ad x=true := by simp_all[iJ])
    |(have hc:iJ ad x=false:=by simp_all[iJ])
   all_goals
    rw[hc]at bc;refine gO F136 ?_;refine aa.back (IH (k+1) (by omega) (by omega)) ?_;(conv=>whnf);repeat (first|exact trivial|(refine sI ?_;conv=>whnf))
    refine And.intro (by rw[bc];simp) ?_;exact sZ
  ·have aG:l.length<=k:=by simpa using h5
   rw[List.take_of_length_le aG];refine gO F136 ?_;refine aa.Us ag bN (.alt 0 (.alt 1 (.alt 2 (.alt 3 (.alt 4 (.alt 5 (.alt 6 (.alt 7 (.alt 8 .leaf .leaf) .leaf) (.alt 7 (.alt 6 (.alt 8 .leaf .leaf) .leaf) .leaf)) (.alt 7 (.alt 5 (.alt 6 (.alt 8 .leaf .leaf) .leaf) .leaf) .leaf)) (.alt 7 (.alt 4 (.alt 5 (.alt 6 (.alt 8 .leaf .leaf) .leaf) .leaf) .leaf) .leaf)) (.alt 7 (.alt 3 (.alt 4 (.alt 5 (.alt 6 (.alt 8 .leaf .leaf) .leaf) .leaf) .leaf) .leaf) .leaf)) (.alt 7 (.alt 2 (.alt 3 (.alt 4 (.alt 5 (.alt 6 (.alt 8 .leaf .leaf) .leaf) .leaf) .leaf) .leaf) .leaf) .leaf)) (.alt 7 (.alt 1 (.alt 2 (.alt 3 (.alt 4 (.alt 5 (.alt 6 (.alt 8 .leaf .leaf) .leaf) .leaf) .leaf) .leaf) .leaf) .leaf) .leaf)) (.alt 1 (.alt 0 (.alt 2 (.alt 3 (.alt 4 (.alt 5 (.alt 6 (.alt 7 (.alt 8 .leaf .leaf) .leaf) (.alt 7 (.alt 6 (.alt 8 .leaf .leaf) .leaf) .leaf)) (.alt 7 (.alt 5 (.alt 6 (.alt 8 .leaf .leaf) .leaf) .leaf) .leaf)) (.alt 7 (.alt 4 (.alt 5 (.alt 6 (.alt 8 .leaf .leaf) .leaf) .leaf) .leaf) .leaf)) (.alt 7 (.alt 3 (.alt 4 (.alt 5 (.alt 6 (.alt 8 .leaf .leaf) .leaf) .leaf) .leaf) .leaf) .leaf)) (.alt 7 (.alt 2 (.alt 3 (.alt 4 (.alt 5 (.alt 6 (.alt 8 .leaf .leaf) .leaf) .leaf) .leaf) .leaf) .leaf) .leaf)) (.alt 2 (.alt 0 (.alt 3 (.alt 4 (.alt 5 (.alt 6 (.alt 7 (.alt 8 .leaf .leaf) .leaf) (.alt 7 (.alt 6 (.alt 8 .leaf .leaf) .leaf) .leaf)) (.alt 7 (.alt 5 (.alt 6 (.alt 8 .leaf .leaf) .leaf) .leaf) .leaf)) (.alt 7 (.alt 4 (.alt 5 (.alt 6 (.alt 8 .leaf .leaf) .leaf) .leaf) .leaf) .leaf)) (.alt 7 (.alt 3 (.alt 4 (.alt 5 (.alt 6 (.alt 8 .leaf .leaf) .leaf) .leaf) .leaf) .leaf) .leaf)) (.alt 3 (.alt 0 (.alt 4 (.alt 5 (.alt 6 (.alt 7 (.alt 8 .leaf .leaf) .leaf) (.alt 7 (.alt 6 (.alt 8 .leaf .leaf) .leaf) .leaf)) (.alt 7 (.alt 5 (.alt 6 (.alt 8 .leaf .leaf) .leaf) .leaf) .leaf)) (.alt 7 (.alt 4 (.alt 5 (.alt 6 (.alt 8 .leaf .leaf) .leaf) .leaf) .leaf) .leaf)) (.alt 4 (.alt 0 (.alt 5 (.alt 6 (.alt 7 (.alt 8 .leaf .leaf) .leaf) (.alt 7 (.alt 6 (.alt 8 .leaf .leaf) .leaf) .leaf)) (.alt 7 (.alt 5 (.alt 6 (.alt 8 .leaf .leaf) .leaf) .leaf) .leaf)) (.alt 5 (.alt 0 (.alt 6 (.alt 7 (.alt 8 .leaf .leaf) .leaf) (.alt 7 (.alt 6 (.alt 8 .leaf .leaf) .leaf) .leaf)) (.alt 7 (.alt 0 (.alt 6 (.alt 8 .leaf .leaf) .leaf) .leaf) .leaf)) (.alt 7 (.alt 0 (.alt 5 (.alt 6 (.alt 8 .leaf .leaf) .leaf) .leaf) (.alt 5 (.alt 0 (.alt 6 (.alt 8 .leaf .leaf) .leaf) .leaf) .leaf)) .leaf))) (.alt 7 (.alt 0 (.alt 4 (.alt 5 (.alt 6 (.alt 8 .leaf .leaf) .leaf) .leaf) .leaf) (.alt 4 (.alt 0 (.alt 5 (.alt 6 (.alt 8 .leaf .leaf) .leaf) .leaf) (.alt 5 (.alt 0 (.alt 6 (.alt 8 .leaf .leaf) .leaf) .leaf) .leaf)) .leaf)) .leaf))) (.alt 7 (.alt 0 (.alt 3 (.alt 4 (.alt 5 (.alt 6 (.alt 8 .leaf .leaf) .leaf) .leaf) .leaf) .leaf) (.alt 3 (.alt 0 (.alt 4 (.alt 5 (.alt 6 (.alt 8 .leaf .leaf) .leaf) .leaf) .leaf) (.alt 4 (.alt 0 (.alt 5 (.alt 6 (.alt 8 .leaf .leaf) .leaf) .leaf) (.alt 5 (.alt 0 (.alt 6 (.alt 8 .leaf .leaf) .leaf) .leaf) .leaf)) .leaf)) .leaf)) .leaf))) (.alt 7 (.alt 0 (.alt 2 (.alt 3 (.alt 4 (.alt 5 (.alt 6 (.alt 8 .leaf .leaf) .leaf) .leaf) .leaf) .leaf) .leaf) (.alt 2 (.alt 0 (.alt 3 (.alt 4 (.alt 5 (.alt 6 (.alt 8 .leaf .leaf) .leaf) .leaf) .leaf) .leaf) (.alt 3 (.alt 0 (.alt 4 (.alt 5 (.alt 6 (.alt 8 .leaf .leaf) .leaf) .leaf) .leaf) (.alt 4 (.alt 0 (.alt 5 (.alt 6 (.alt 8 .leaf .leaf) .leaf) .leaf) (.alt 5 (.alt 0 (.alt 6 (.alt 8 .leaf .leaf) .leaf) .leaf) .leaf)) .leaf)) .leaf)) .leaf)) .leaf))) (.alt 7 (.alt 0 (.alt 1 (.alt 2 (.alt 3 (.alt 4 (.alt 5 (.alt 6 (.alt 8 .leaf .leaf) .leaf) .leaf) .leaf) .leaf) .leaf) .leaf) (.alt 1 (.alt 0 (.alt 2 (.alt 3 (.alt 4 (.alt 5 (.alt 6 (.alt 8 .leaf .leaf) .leaf) .leaf) .leaf) .leaf) .leaf) (.alt 2 (.alt 0 (.alt 3 (.alt 4 (.alt 5 (.alt 6 (.alt 8 .leaf .leaf) .leaf) .leaf) .leaf) .leaf) (.alt 3 (.alt 0 (.alt 4 (.alt 5 (.alt 6 (.alt 8 .leaf .leaf) .leaf) .leaf) .leaf) (.alt 4 (.alt 0 (.alt 5 (.alt 6 (.alt 8 .leaf .leaf) .leaf) .leaf) (.alt 5 (.alt 0 (.alt 6 (.alt 8 .leaf .leaf) .leaf) .leaf) .leaf)) .leaf)) .leaf)) .leaf)) .leaf)) .leaf))) ?pstate ?qstate (by kernel_rfl) ?tree ?first ?second
   case tree =>
    repeat' ((try conv=>whnf);first
     |with_reducible exact True.intro
     |with_reducible exact ik.fst
     |with_reducible exact ik.snd
     |with_reducible refine bA (by simp;omega) ?_
     |with_reducible refine And.intro ?_ ?_
     |with_reducible refine ik.step ag ?_)
   case first =>
    (conv=>whnf);refine gO F136 ?_;refine aa.loop (κ:=Nat × Text) [7,8,9,10,11,12,51,52,53,54,55,56,57,58,59,60,61,62,63,64,65,66,67,68,69,70,71,72,73,74,75,76,77,78,79,80,81,82] (fun k=>[(51,.d (.int .i64 k.1)),(7,.d (.str k.2))]) (fun k=>[(3,.arr 0 (9,1) ((B.take k.1++List.replicate (l.length-k.1) []).map .str))]) (fun k=>k.1<=l.length/\B.drop k.1=np (bO ad l) k.2 ((l.drop k.1).map (·.set.name))/\(k.2=[]\/Nm.valid k.2=true)) (fun k=>l.length-k.1) (0,[]) ⟨Nat.zero_le _,by simpa using jz,.inl rfl⟩ ?_ ?_
    ·(conv=>whnf);repeat (first|exact trivial|(refine sI ?_;conv=>whnf))
     refine And.intro (by simp) ?_;exact sZ
    ·rintro⟨i,cut⟩ hk IH;simp only at hk;refine aa.head ag F136 2000 ?_;(conv=>whnf);refine ar (fun h5=>?_) (fun h5=>?_)
     ·have ai:i<l.length:=by simpa using h5
      obtain⟨x,hx⟩:=bd ai;have di:=hv x (List.mem_of_getElem? hx);have iT:=dK di;have Ab:(l.drop i).map (·.set.name)=x.set.name::(l.drop (i+1)).map (·.set.name):=by
       have e1:l[i]=x:=by simpa [ai]using hx
       rw[List.drop_eq_getElem_cons ai,e1];rfl
      obtain⟨-,oZ,hcut⟩:=hk;rw[Ab,np]at oZ;have dR:B[i]?=some (eb (bO ad l) cut x.set.name):=by
       have:=congrArg (fun l=>l[0]?) oZ
       simpa using this
      have fc:B.drop (i+1)=np (bO ad l) (eb (bO ad l) cut x.set.name) ((l.drop (i+1)).map (·.set.name)):=by
       have:=congrArg List.tail oZ
       simpa using this
      have ff:=(Ao ad l).2 x.set.name;have nr:=(Ao ad l).1;refine gO F136 ?_;refine aC (aS hx) rfl ?_;refine gO F136 ?_;rcases rK:cut with _|⟨c0,Xf⟩
      ·subst rK;refine aO (by simp) ?_;refine gO F136 ?_;refine aI (by simp) ?_;refine gO F136 ?_;refine mb (.bool false) (.bool false) (v := .bool ((bO ad l).contains x.set.name)) (f:=(bO ad l).contains x.set.name) ⟨_,rfl⟩ nr (fun w=>by kernel_rfl) (fun _ _ => .bool _) (by rw[ff];split<;>simp_all) (by rw[ff];split<;>simp_all) ?_;refine gO F136 ?_;cases o8:(bO ad l).contains x.set.name
       ·refine aY ?_;refine gO F136 ?_;have hS:eb (bO ad l) ([]:Text) x.set.name=[]:=by simp[eb];intro h;exact absurd h (by simpa using o8)
        refine bA ⟨by omega,by simp;omega⟩ ?_;refine gO F136 ?_;refine fu (.str []) (by omega) (by simp only[Int.toNat_natCast,List.getElem?_map];rw[ni eS ai];rfl) rfl ?_;refine gO F136 ?_;refine aa.back (IH (i+1,[]) ⟨by simp only;omega,by rw[hS]at fc;exact fc,by have hq:=qc (C:=bO ad l) di hcut;rw[hS]at hq;exact hq⟩ (by simp only;omega)) ?_;(conv=>whnf);repeat (first|exact trivial|(refine sI ?_;conv=>whnf))
        refine And.intro (by rw[<- nh (e:=[]) (x:=[]) eS (by rw[hS]at dR;exact dR)];simp[List.map_set]) ?_;exact sZ
       ·refine bp ?_;refine gO F136 ?_;have hS:eb (bO ad l) ([]:Text) x.set.name=x.set.name:=by simp[eb];intro h;exact absurd (by simpa using o8) h
        refine bA ⟨by omega,by simp;omega⟩ ?_;refine gO F136 ?_;refine fu (.str []) (by omega) (by simp only[Int.toNat_natCast,List.getElem?_map];rw[ni eS ai];rfl) rfl ?_;refine gO F136 ?_;refine aa.back (IH (i+1,x.set.name) ⟨by simp only;omega,by rw[hS]at fc;exact fc,by have hq:=qc (C:=bO ad l) di hcut;rw[hS]at hq;exact hq⟩ (by simp only;omega)) ?_;(conv=>whnf);repeat (first|exact trivial|(refine sI ?_;conv=>whnf))
        refine And.intro (by rw[<- nh (e:=[]) (x:=x.set.name) eS (by rw[hS]at dR;exact dR)];simp[List.map_set]) ?_;exact sZ
      ·have mO:Nm.valid cut=true:=by
        rcases hcut with h|h
        ·rw[rK]at h;cases h
        ·exact h
       have eo:=dK mO;have th:=zW x.set.name cut (by unfold maxLen;omega) (by unfold maxLen;omega);rw[An di mO]at th;rw[<- rK];have aH:cut≠[]:=by rw[rK];simp
       refine aI (by simpa using aH) ?_;refine gO F136 ?_
       with_reducible refine aj (th) ?_
       refine gO F136 ?_;cases hu:Nm.under x.set.name cut
       ·refine aI rfl ?_;refine gO F136 ?_;refine aI (by simp) ?_;refine gO F136 ?_;refine mb (.bool false) (.bool false) (v := .bool ((bO ad l).contains x.set.name)) (f:=(bO ad l).contains x.set.name) ⟨_,rfl⟩ nr (fun w=>by kernel_rfl) (fun _ _ => .bool _) (by rw[ff];split<;>simp_all) (by rw[ff];split<;>simp_all) ?_;refine gO F136 ?_;cases o8:(bO ad l).contains x.set.name
        ·refine aY ?_;refine gO F136 ?_;have hS:eb (bO ad l) cut x.set.name=[]:=by simp[eb,hu,aH];intro h;exact absurd h (by simpa using o8)
         refine bA ⟨by omega,by simp;omega⟩ ?_;refine gO F136 ?_;refine fu (.str []) (by omega) (by simp only[Int.toNat_natCast,List.getElem?_map];rw[ni eS ai];rfl) rfl ?_;refine gO F136 ?_;refine aa.back (IH (i+1,[]) ⟨by simp only;omega,by rw[hS]at fc;exact fc,by have hq:=qc (C:=bO ad l) di hcut;rw[hS]at hq;exact hq⟩ (by simp only;omega)) ?_;(conv=>whnf);repeat (first|exact trivial|(refine sI ?_;conv=>whnf))
         refine And.intro (by rw[<- nh (e:=[]) (x:=[]) eS (by rw[hS]at dR;exact dR)];simp[List.map_set]) ?_;exact sZ
        ·refine bp ?_;refine gO F136 ?_;have hS:eb (bO ad l) cut x.set.name=x.set.name:=by simp[eb,hu,aH];intro h;exact absurd (by simpa using o8) h
         refine bA ⟨by omega,by simp;omega⟩ ?_;refine gO F136 ?_;refine fu (.str []) (by omega) (by simp only[Int.toNat_natCast,List.getElem?_map];rw[ni eS ai];rfl) rfl ?_;refine gO F136 ?_;refine aa.back (IH (i+1,x.set.name) ⟨by simp only;omega,by rw[hS]at fc;exact fc,by have hq:=qc (C:=bO ad l) di hcut;rw[hS]at hq;exact hq⟩ (by simp only;omega)) ?_;(conv=>whnf);repeat (first|exact trivial|(refine sI ?_;conv=>whnf))
         refine And.intro (by rw[<- nh (e:=[]) (x:=x.set.name) eS (by rw[hS]at dR;exact dR)];simp[List.map_set]) ?_;exact sZ
       ·have hS:eb (bO ad l) cut x.set.name=cut:=by simp[eb,hu,aH]
        refine aO rfl ?_;refine gO F136 ?_;refine aO (by simpa using aH) ?_;refine gO F136 ?_;refine aY ?_;refine gO F136 ?_;refine bA ⟨by omega,by simp;omega⟩ ?_;refine gO F136 ?_;refine fu (.str []) (by omega) (by simp only[Int.toNat_natCast,List.getElem?_map];rw[ni eS ai];rfl) rfl ?_;refine gO F136 ?_;refine aa.back (IH (i+1,cut) ⟨by simp only;omega,by rw[hS]at fc;exact fc,by have hq:=qc (C:=bO ad l) di hcut;rw[hS]at hq;exact hq⟩ (by simp only;omega)) ?_;(conv=>whnf);repeat (first|exact trivial|(refine sI ?_;conv=>whnf))
        refine And.intro (by rw[<- nh (e:=[]) (x:=cut) eS (by rw[hS]at dR;exact dR)];simp[List.map_set]) ?_;exact sZ
     ·have aG:l.length<=i:=by simpa using h5
      refine gO F136 ?_;simp only[show l.length-i=0 by omega,List.replicate_zero,List.append_nil];rw[List.take_of_length_le (by omega)]
   case second =>
    (conv=>whnf);refine gO F136 ?_;refine aa.loop (κ:=Nat × Text) [7,8,9,10,11,12,51,52,53,54,55,56,57,58,59,60,61,62,63,64,65,66,67,68,69,70,71,72,73,74,75,76,77,78,79,80,81,82] (fun k=>[(51,.d (.int .i64 k.1)),(7,.d (.str k.2))]) (fun k=>[(4,.arr 0 (9,1) ((B.take k.1++List.replicate (l.length-k.1) []).map .str))]) (fun k=>k.1<=l.length/\B.drop k.1=np (bO ad l) k.2 ((l.drop k.1).map (·.set.name))/\(k.2=[]\/Nm.valid k.2=true)) (fun k=>l.length-k.1) (0,[]) ⟨Nat.zero_le _,by simpa using jz,.inl rfl⟩ ?_ ?_
    ·(conv=>whnf);repeat (first|exact trivial|(refine sI ?_;conv=>whnf))
     refine And.intro (by simp) ?_;exact sZ
    ·rintro⟨i,cut⟩ hk IH;simp only at hk;refine aa.head ag F136 2000 ?_;(conv=>whnf);refine ar (fun h5=>?_) (fun h5=>?_)
     ·have ai:i<l.length:=by simpa using h5
      obtain⟨x,hx⟩:=bd ai;have di:=hv x (List.mem_of_getElem? hx);have iT:=dK di;have Ab:(l.drop i).map (·.set.name)=x.set.name::(l.drop (i+1)).map (·.set.name):=by
       have e1:l[i]=x:=by simpa [ai]using hx
       rw[List.drop_eq_getElem_cons ai,e1];rfl
      obtain⟨-,oZ,hcut⟩:=hk;rw[Ab,np]at oZ;have dR:B[i]?=some (eb (bO ad l) cut x.set.name):=by
       have:=congrArg (fun l=>l[0]?) oZ
       simpa using this
      have fc:B.drop (i+1)=np (bO ad l) (eb (bO ad l) cut x.set.name) ((l.drop (i+1)).map (·.set.name)):=by
       have:=congrArg List.tail oZ
       simpa using this
      have ff:=(Ao ad l).2 x.set.name;have nr:=(Ao ad l).1;refine gO F136 ?_;refine aC (aS hx) rfl ?_;refine gO F136 ?_;rcases rK:cut with _|⟨c0,Xf⟩
      ·subst rK;refine aO (by simp) ?_;refine gO F136 ?_;refine aI (by simp) ?_;refine gO F136 ?_;refine mb (.bool false) (.bool false) (v := .bool ((bO ad l).contains x.set.name)) (f:=(bO ad l).contains x.set.name) ⟨_,rfl⟩ nr (fun w=>by kernel_rfl) (fun _ _ => .bool _) (by rw[ff];split<;>simp_all) (by rw[ff];split<;>simp_all) ?_;refine gO F136 ?_;cases o8:(bO ad l).contains x.set.name
       ·refine aY ?_;refine gO F136 ?_;have hS:eb (bO ad l) ([]:Text) x.set.name=[]:=by simp[eb];intro h;exact absurd h (by simpa using o8)
        refine bA ⟨by omega,by simp;omega⟩ ?_;refine gO F136 ?_;refine fu (.str []) (by omega) (by simp only[Int.toNat_natCast,List.getElem?_map];rw[ni eS ai];rfl) rfl ?_;refine gO F136 ?_;refine aa.back (IH (i+1,[]) ⟨by simp only;omega,by rw[hS]at fc;exact fc,by have hq:=qc (C:=bO ad l) di hcut;rw[hS]at hq;exact hq⟩ (by simp only;omega)) ?_;(conv=>whnf);repeat (first|exact trivial|(refine sI ?_;conv=>whnf))
        refine And.intro (by rw[<- nh (e:=[]) (x:=[]) eS (by rw[hS]at dR;exact dR)];simp[List.map_set]) ?_;exact sZ
       ·refine bp ?_;refine gO F136 ?_;have hS:eb (bO ad l) ([]:Text) x.set.name=x.set.name:=by simp[eb];intro h;exact absurd (by simpa using o8) h
        refine bA ⟨by omega,by simp;omega⟩ ?_;refine gO F136 ?_;refine fu (.str []) (by omega) (by simp only[Int.toNat_natCast,List.getElem?_map];rw[ni eS ai];rfl) rfl ?_;refine gO F136 ?_;refine aa.back (IH (i+1,x.set.name) ⟨by simp only;omega,by rw[hS]at fc;exact fc,by have hq:=qc (C:=bO ad l) di hcut;rw[hS]at hq;exact hq⟩ (by simp only;omega)) ?_;(conv=>whnf);repeat (first|exact trivial|(refine sI ?_;conv=>whnf))
        refine And.intro (by rw[<- nh (e:=[]) (x:=x.set.name) eS (by rw[hS]at dR;exact dR)];simp[List.map_set]) ?_;exact sZ
      ·have mO:Nm.valid cut=true:=by
        rcases hcut with h|h
        ·rw[rK]at h;cases h
        ·exact h
       have eo:=dK mO;have th:=zW x.set.name cut (by unfold maxLen;omega) (by unfold maxLen;omega);rw[An di mO]at th;rw[<- rK];have aH:cut≠[]:=by rw[rK];simp
       refine aI (by simpa using aH) ?_;refine gO F136 ?_
       with_reducible refine aj (th) ?_
       refine gO F136 ?_;cases hu:Nm.under x.set.name cut
       ·refine aI rfl ?_;refine gO F136 ?_;refine aI (by simp) ?_;refine gO F136 ?_;refine mb (.bool false) (.bool false) (v := .bool ((bO ad l).contains x.set.name)) (f:=(bO ad l).contains x.set.name) ⟨_,rfl⟩ nr (fun w=>by kernel_rfl) (fun _ _ => .bool _) (by rw[ff];split<;>simp_all) (by rw[ff];split<;>simp_all) ?_;refine gO F136 ?_;cases o8:(bO ad l).contains x.set.name
        ·refine aY ?_;refine gO F136 ?_;have hS:eb (bO ad l) cut x.set.name=[]:=by simp[eb,hu,aH];intro h;exact absurd h (by simpa using o8)
         refine bA ⟨by omega,by simp;omega⟩ ?_;refine gO F136 ?_;refine fu (.str []) (by omega) (by simp only[Int.toNat_natCast,List.getElem?_map];rw[ni eS ai];rfl) rfl ?_;refine gO F136 ?_;refine aa.back (IH (i+1,[]) ⟨by simp only;omega,by rw[hS]at fc;exact fc,by have hq:=qc (C:=bO ad l) di hcut;rw[hS]at hq;exact hq⟩ (by simp only;omega)) ?_;(conv=>whnf);repeat (first|exact trivial|(refine sI ?_;conv=>whnf))
         refine And.intro (by rw[<- nh (e:=[]) (x:=[]) eS (by rw[hS]at dR;exact dR)];simp[List.map_set]) ?_;exact sZ
        ·refine bp ?_;refine gO F136 ?_;have hS:eb (bO ad l) cut x.set.name=x.set.name:=by simp[eb,hu,aH];intro h;exact absurd (by simpa using o8) h
         refine bA ⟨by omega,by simp;omega⟩ ?_;refine gO F136 ?_;refine fu (.str []) (by omega) (by simp only[Int.toNat_natCast,List.getElem?_map];rw[ni eS ai];rfl) rfl ?_;refine gO F136 ?_;refine aa.back (IH (i+1,x.set.name) ⟨by simp only;omega,by rw[hS]at fc;exact fc,by have hq:=qc (C:=bO ad l) di hcut;rw[hS]at hq;exact hq⟩ (by simp only;omega)) ?_;(conv=>whnf);repeat (first|exact trivial|(refine sI ?_;conv=>whnf))
         refine And.intro (by rw[<- nh (e:=[]) (x:=x.set.name) eS (by rw[hS]at dR;exact dR)];simp[List.map_set]) ?_;exact sZ
       ·have hS:eb (bO ad l) cut x.set.name=cut:=by simp[eb,hu,aH]
        refine aO rfl ?_;refine gO F136 ?_;refine aO (by simpa using aH) ?_;refine gO F136 ?_;refine aY ?_;refine gO F136 ?_;refine bA ⟨by omega,by simp;omega⟩ ?_;refine gO F136 ?_;refine fu (.str []) (by omega) (by simp only[Int.toNat_natCast,List.getElem?_map];rw[ni eS ai];rfl) rfl ?_;refine gO F136 ?_;refine aa.back (IH (i+1,cut) ⟨by simp only;omega,by rw[hS]at fc;exact fc,by have hq:=qc (C:=bO ad l) di hcut;rw[hS]at hq;exact hq⟩ (by simp only;omega)) ?_;(conv=>whnf);repeat (first|exact trivial|(refine sI ?_;conv=>whnf))
        refine And.intro (by rw[<- nh (e:=[]) (x:=cut) eS (by rw[hS]at dR;exact dR)];simp[List.map_set]) ?_;exact sZ
     ·have aG:l.length<=i:=by simpa using h5
      refine gO F136 ?_;simp only[show l.length-i=0 by omega,List.replicate_zero,List.append_nil];rw[List.take_of_length_le (by omega)]
theorem C4{a b c:Text}(h:bq a b<=0)(k:bq b c<=0):bq a c<=0:=by
 rcases Int.lt_or_eq_of_le h with h|h
 ·rcases Int.lt_or_eq_of_le k with k|k
  ·exact Int.le_of_lt (o7 h k)
  ·rw[<- oa k];exact Int.le_of_lt h
 ·rw[oa h];exact k
theorem NX(a:Text):Nm.under a a=true:=by simp[Nm.under]
def jf(l:List Text):Prop:=∀ (i j:Nat) (x y:Text),i<j->l[i]?=some x->l[j]?=some y->bq x y<=0
def tn(l:List Text):Prop:=∀ (i j:Nat) (x y:Text),i<j->l[i]?=some x->l[j]?=some y->Nm.under y x=false
theorem jf.snoc{l:List Text}{c:Text}(h:jf (l++[c])):jf l/\∀ x∈l,bq x c<=0:=by
 refine⟨fun i j x y dq hx hy=>h i j x y dq (by rw[List.getElem?_append_left (aX hx)];exact hx) (by rw[List.getElem?_append_left (aX hy)];exact hy),fun x hx=>?_⟩;obtain⟨i,hi⟩:=List.getElem?_of_mem hx;have:=aX hi;exact h i l.length x c this (by rw[List.getElem?_append_left this];exact hi) (by simp)
theorem vE{α:Type}{l:List α}{c x:α}{i:Nat}(h:(l++[c])[i]?=some x):l[i]?=some x\/(i=l.length/\x=c):=by
 rcases Nat.lt_or_ge i l.length with hi|hi
 ·rw[List.getElem?_append_left hi]at h;exact .inl h
 ·rw[List.getElem?_append_right hi]at h;have h0:i-l.length=0:=by
   have:=aX h;simp at this;omega
  rw[h0]at h;simp at h;exact .inr ⟨by omega,h.symm⟩
theorem NY:∀ (C:List Text),jf C->jf (fy C)/\tn (fy C)/\(∀ c∈C,∃ d∈fy C,Nm.under c d=true):=by
 have main:∀ (n:Nat) (C:List Text),C.length=n->jf C->jf (fy C)/\tn (fy C)/\(∀ c∈C,∃ d∈fy C,Nm.under c d=true):=by
  intro n
  induction n with
  |zero =>
   intro C hn _;obtain rfl:C=[]:=List.eq_nil_of_length_eq_zero hn;exact⟨fun i j x y _ h=>by simp[fy]at h,fun i j x y _ h=>by simp[fy]at h,fun c h=>by simp at h⟩
  |succ n ih =>
   intro C hn hA;rcases List.eq_nil_or_concat C with rfl|⟨P,c,rfl⟩
   ·simp at hn
   rw[List.concat_eq_append]at *;obtain⟨C5,Xg⟩:=hA.snoc;obtain⟨i1,i2,i3⟩:=ih P (by simpa using hn) C5;have e:fy (P++[c])=kQ (fy P) c:=by rw[fy,List.foldl_append];rfl
   have hle:∀ d∈fy P,bq d c<=0:=fun d hd=>Xg d (xx d hd);rw[e];generalize fy P=H at *;rcases List.eq_nil_or_concat H with rfl|⟨H0,d,rfl⟩
   ·have e2:kQ [] c=[c]:=rfl;rw[e2];refine⟨fun i j x y dq hx hy=>?_,fun i j x y dq hx hy=>?_,fun x hx=>?_⟩
    ·have:=aX hy;simp at this;omega
    ·have:=aX hy;simp at this;omega
    ·rcases List.mem_append.1 hx with hx|hx
     ·obtain⟨d,hd,-⟩:=i3 x hx;simp at hd
     ·simp at hx;subst hx;exact⟨x,by simp,NX x⟩
   ·rw[List.concat_eq_append]at *;have e2:kQ (H0++[d]) c=if Nm.under c d then H0++[d]else H0++[d]++[c]:=by simp[kQ]
    rw[e2];cases hu:Nm.under c d
    ·simp only[Bool.false_eq_true,if_false];refine⟨fun i j x y dq hx hy=>?_,fun i j x y dq hx hy=>?_,fun x hx=>?_⟩
     ·rcases vE hy with gv|⟨rfl,rfl⟩
      ·rcases vE hx with hx|⟨rfl,rfl⟩
       ·exact i1 i j x y dq hx gv
       ·exact absurd (aX gv) (by omega)
      ·rcases vE hx with hx|⟨h,-⟩
       ·exact hle x (List.mem_of_getElem? hx)
       ·omega
     ·rcases vE hy with gv|⟨rfl,rfl⟩
      ·rcases vE hx with hx|⟨rfl,rfl⟩
       ·exact i2 i j x y dq hx gv
       ·exact absurd (aX gv) (by omega)
      ·rcases vE hx with hx|⟨h,-⟩
       ·rcases vE hx with CY|⟨-,rfl⟩
        ·rw[<- Bool.not_eq_true];intro Xh;have hd:(H0++[d])[H0.length]?=some d:=by simp
         have fU:=aX CY;have h1:=i1 i H0.length x d fU hx hd;have h2:=hle d (by simp);have h3:=xF h1 h2 Xh;rw[i2 i H0.length x d fU hx hd]at h3;cases h3
        ·exact hu
       ·omega
     ·rcases List.mem_append.1 hx with hx|hx
      ·obtain⟨q,hq,Xi⟩:=i3 x hx;exact⟨q,List.mem_append_left _ hq,Xi⟩
      ·simp at hx;subst hx;exact⟨x,by simp,NX x⟩
    ·simp only[if_true];refine⟨i1,i2,fun x hx=>?_⟩;rcases List.mem_append.1 hx with hx|hx
     ·exact i3 x hx
     ·simp at hx;subst hx;exact⟨d,by simp,hu⟩
 exact fun C=>main C.length C rfl
def rL(H:List Text)(n r:Text):Prop:=(r∈H/\Nm.under n r=true)\/(r=[]/\∀ d∈H,Nm.under n d=false)
theorem NZ{H:List Text}(hA:jf H)(hP:tn H){n d e:Text}(hd:d∈H)(he:e∈H)(h1:Nm.under n d=true)(h2:Nm.under n e=true):d=e:=by
 obtain⟨i,hi⟩:=List.getElem?_of_mem hd;obtain⟨j,hj⟩:=List.getElem?_of_mem he;rcases Nat.lt_trichotomy i j with h|h|h
 ·have:=xF (hA i j d e h hi hj) (Ak h2) h1;rw[hP i j d e h hi hj]at this;cases this
 ·subst h;rw[hi]at hj;exact Option.some.inj hj
 ·have:=xF (hA j i e d h hj hi) (Ak h1) h2;rw[hP j i e d h hj hi]at this;cases this
theorem rL.unique{H:List Text}(hA:jf H)(hP:tn H){n r s:Text}(h1:rL H n r)(h2:rL H n s):r=s:=by
 rcases h1 with⟨a1,a2⟩|⟨a1,a2⟩
 ·rcases h2 with⟨b1,b2⟩|⟨b1,b2⟩
  ·exact NZ hA hP a1 b1 a2 b2
  ·rw[b2 r a1]at a2;cases a2
 ·rcases h2 with⟨b1,b2⟩|⟨b1,b2⟩
  ·rw[a2 s b1]at b2;cases b2
  ·rw[a1,b1]
theorem Ha{α:Type}(p:α->Bool):∀ (l:List α),∀ x∈l.takeWhile p,p x=true
 |[],x,h=>by simp at h
 |a::l,x,h=>by
  rw[List.takeWhile_cons]at h;cases ha:p a
  ·rw[ha]at h;simp at h
  ·rw[ha]at h;rcases List.mem_cons.1 h with rfl|h
   ·exact ha
   ·exact Ha p l x h
theorem N0{α:Type}(p:α->Bool):∀ (l:List α) (x:α),l[(l.takeWhile p).length]?=some x->p x=false
 |[],x,h=>by simp at h
 |a::l,x,h=>by
  rw[List.takeWhile_cons]at h;cases ha:p a
  ·rw[ha]at h;simp at h;rw[<- h];exact ha
  ·rw[ha]at h;exact N0 p l x (by simpa using h)
theorem N1{H:List Text}(hA:jf H)(hP:tn H){n:Text}{k:Nat}(hk:k<=H.length)(lJ:∀ m d,m<k->H[m]?=some d->bq d n<=0) :
  rL H n (mq H n (eR H n k))/\(∀ m d,m<eR H n k->H[m]?=some d->bq d n<=0):=by
 have p7:=CO (n:=n) hk;have low:∀ m d,m<eR H n k->H[m]?=some d->bq d n<=0:=fun m d hm hd=>by
  rcases Nat.lt_or_ge m k with h|h
  ·exact lJ m d h hd
  ·unfold eR at hm;have h1:(H.drop k)[m-k]?=some d:=by rw[List.getElem?_drop,show k+(m-k)=m by omega];exact hd
   have h2:=List.takeWhile_prefix (fun c=>decide (bq c n<=0)) (l:=H.drop k);have h3:((H.drop k).takeWhile fun c=>decide (bq c n<=0))[m-k]?=some d:=by
    obtain⟨r,hr⟩:=h2;rw[<- hr,List.getElem?_append_left (by omega)]at h1;exact h1
   simpa using Ha _ _ d (List.mem_of_getElem? h3)
 have high:∀ m d,eR H n k<=m->H[m]?=some d->Nm.under n d=false:=fun m d hm hd=>by
  rw[<- Bool.not_eq_true];intro hu;have h1:=Ak hu;obtain⟨e,he⟩:=bd (l:=H) (k:=eR H n k) (by have:=aX hd;omega);have h2:bq e n<=0:=by
   rcases Nat.lt_or_ge (eR H n k) m with h|h
   ·exact C4 (hA _ m e d h he hd) h1
   ·obtain rfl:m=eR H n k:=by omega
    rw[he]at hd;cases hd;exact h1
  have h3:(H.drop k)[((H.drop k).takeWhile fun c=>decide (bq c n<=0)).length]?=some e:=by
   rw[List.getElem?_drop];exact he
  have h6:=N0 _ _ e h3;simp at h6;omega
 refine⟨?_,low⟩;generalize eR H n k=j at *;unfold mq;by_cases hj:j=0
 ·rw[if_pos hj];refine .inr ⟨rfl,fun d hd=>?_⟩;obtain⟨m,hm⟩:=List.getElem?_of_mem hd;exact high m d (by omega) hm
 ·rw[if_neg hj];obtain⟨c,hc⟩:=bd (l:=H) (k:=j-1) (by omega);rw[hc];dsimp only;cases hu:Nm.under n c
  ·simp only[Bool.false_eq_true,if_false];refine .inr ⟨rfl,fun d hd=>?_⟩;obtain⟨m,hm⟩:=List.getElem?_of_mem hd;rcases Nat.lt_or_ge m j with h|h
   ·rcases Nat.lt_or_ge m (j-1)with h'|h'
    ·rw[<- Bool.not_eq_true];intro Xj;have:=xF (hA m (j-1) d c h' hm hc) (low (j-1) c (by omega) hc) Xj;rw[hP m (j-1) d c h' hm hc]at this;cases this
    ·obtain rfl:m=j-1:=by omega
     rw[hc]at hm;cases hm;exact hu
   ·exact high m d h hm
  ·simp only[if_true];exact .inl ⟨List.mem_of_getElem? hc,hu⟩
theorem Xk{C H:List Text}(hA:jf H)(hP:tn H)(rM:∀ d∈H,d∈C)(xI:∀ c∈C,∃ d∈H,Nm.under c d=true)(aH:∀ c∈C,c≠[]){cut n:Text}{prev:Option Text}
  (hcut:match prev with|none=>cut=[]|some p=>rL H p cut) (C6:∀ d∈H,bq d n<0->∃ p,prev=some p/\bq d p<=0) (xJ:∀ p,prev=some p->bq p n<=0):rL H n (eb C cut n):=by
 have key:∀ d∈H,Nm.under n d=true->d≠n->cut=d:=fun d hd hu o9=>by
  have h1:=Ak hu;have h2:bq d n<0:=by
   rcases Int.lt_or_eq_of_le h1 with h|h
   ·exact h
   ·exact absurd (oa h) o9
  obtain⟨p,hp,kK⟩:=C6 d hd h2;have h3:=xF kK (xJ p hp) hu;rw[hp]at hcut;exact hcut.unique hA hP (.inl ⟨hd,h3⟩)
 by_cases hc:cut≠[]/\Nm.under n cut=true
 ·have e:eb C cut n=cut:=by simp[eb,hc.1,hc.2]
  rw[e];refine .inl ⟨?_,hc.2⟩;cases prev with
  |none=>exact absurd hcut hc.1
  |some p =>
   rcases hcut with h|h
   ·exact h.1
   ·exact absurd h.1 hc.1
 ·have no:∀ d∈H,Nm.under n d=true->d=n:=fun d hd hu=>by
   apply Classical.byContradiction;intro o9;have:=key d hd hu o9;subst this;exact hc ⟨aH _ (rM _ hd),hu⟩
  have e0:(if cut != [] && !Nm.under n cut then[]else cut)=[]:=by
   by_cases h1:cut=[]
   ·simp[h1]
   ·have:Nm.under n cut=false:=by
     rw[<- Bool.not_eq_true];exact fun h=>hc ⟨h1,h⟩
    simp[h1,this]
  have e:eb C cut n=if C.contains n then n else[]:=by
   simp only[eb,e0];cases C.contains n<;>rfl
  rw[e];cases dS:C.contains n
  ·refine .inr ⟨by simp,fun d hd=>?_⟩;rw[<- Bool.not_eq_true];intro hu;have:=no d hd hu;subst this;have:C.contains d=true:=by simpa using rM d hd
   rw[dS]at this;cases this
  ·simp only[if_true];have hn:n∈C:=by simpa using dS
   obtain⟨d,hd,hu⟩:=xI n hn;have:=no d hd hu;subst this;exact .inl ⟨hd,hu⟩
theorem N2{C H:List Text}(hA:jf H)(hP:tn H)(rM:∀ d∈H,d∈C)(xI:∀ c∈C,∃ d∈H,Nm.under c d=true)(aH:∀ c∈C,c≠[]) :
  ∀ (rest done:List Text) (cut:Text) (k:Nat),jf (done++rest)->(∀ c∈C,c∈done++rest)->k<=H.length->(match done.getLast? with|none=>cut=[]|some p=>rL H p cut)->(∀ m d,m<k->H[m]?=some d->∃ p,done.getLast?=some p/\bq d p<=0)->np C cut rest=ng H k rest
 |[],_,_,_,_,_,_,_,_=>rfl
 |n::rest,done,cut,k,rN,aW,hk,hcut,lJ=>by
  have xJ:∀ p,done.getLast?=some p->bq p n<=0:=fun p hp=>by
   have hl:0<done.length:=by cases done with|nil=>simp at hp|cons=>simp
   rw[List.getLast?_eq_getElem?]at hp;exact rN (done.length-1) done.length p n (by omega) (by rw[List.getElem?_append_left (by omega)];exact hp) (by simp)
  have C6:∀ d∈H,bq d n<0->∃ p,done.getLast?=some p/\bq d p<=0:=fun d hd o9=>by
   have:=aW d (rM d hd);obtain⟨i,hi⟩:=List.getElem?_of_mem this;have qP:(done++n::rest)[done.length]?=some n:=by simp
   have ai:i<done.length:=by
    rcases Nat.lt_trichotomy i done.length with h|h|h
    ·exact h
    ·subst h;rw[qP]at hi;cases hi;rw[jE]at o9;omega
    ·have h1:=rN done.length i n d h qP hi;have h2:=tg d n;omega
   rw[List.getElem?_append_left ai]at hi;obtain⟨p,hp⟩:=bd (l:=done) (k:=done.length-1) (by omega);refine⟨p,by rw[List.getLast?_eq_getElem?];exact hp,?_⟩;rcases Nat.lt_or_ge i (done.length-1)with h|h
   ·exact rN i (done.length-1) d p h (by rw[List.getElem?_append_left ai];exact hi) (by rw[List.getElem?_append_left (by omega)];exact hp)
   ·obtain rfl:i=done.length-1:=by omega
    rw[hp]at hi;cases hi;rw[jE];omega
  have f1:=Xk hA hP rM xI aH hcut C6 xJ
  obtain⟨f2,f3⟩:=N1 hA hP (n:=n) hk (fun m d hm hd=>by
   obtain⟨p,hp,kK⟩:=lJ m d hm hd
   exact C4 kK (xJ p hp))
  have e:=f1.unique hA hP f2;simp only[np,ng,e]
  congr 1
  have ih:=N2 hA hP rM xI aH rest (done++[n]) (mq H n (eR H n k)) (eR H n k) (by simpa using rN) (by simpa using aW) (CO hk) (by simpa using f2) (fun m d hm hd=>⟨n,by simp,f3 m d hm hd⟩);exact ih
theorem Xl{a b c:Signed}(h:iC a b=true)(k:iC b c=true):iC a c=true:=by
 simp only[iC,decide_eq_true_eq]at *;rw[<- xG]at *;exact G8 h k
theorem N3{ok:Signed->Bool}:∀ {l:List Signed} {p:Option Signed},chain ok iC p l=true->fe l/\∀ q,p=some q->∀ x∈l,iC q x=true
 |[],p,_=>⟨fun i j x y _ h=>by simp at h,fun q _ x hx=>by simp at hx⟩
 |s::l,p,h=>by
  simp only[chain,Bool.and_eq_true]at h;obtain⟨i1,i2⟩:=N3 h.2;refine⟨fun i j x y dq hx hy=>?_,fun q hq x hx=>?_⟩
  ·cases j with
   |zero=>omega
   |succ j =>
    rw[List.getElem?_cons_succ]at hy;cases i with
    |zero =>
     simp at hx;subst hx
     simpa [iC]using i2 _ rfl y (List.mem_of_getElem? hy)
    |succ i =>
     rw[List.getElem?_cons_succ]at hx;exact i1 i j x y (by omega) hx hy
  ·subst hq;rcases List.mem_cons.1 hx with rfl|hx
   ·exact h.1.2
   ·exact Xl h.1.2 (i2 _ rfl x hx)
theorem Hb{a b:eD}(h:nY a b<0):bq a.name b.name<=0:=by
 unfold nY at h;split at h
 ·omega
 ·rename_i e;simp at e;omega
theorem C7{l:List Signed}(h:fe l):jf (l.map (·.set.name)):=fun i j x y dq hx hy=>by
 rw[List.getElem?_map]at hx hy;obtain⟨a,ha,rfl⟩:=Option.map_eq_some_iff.1 hx;obtain⟨b,hb,rfl⟩:=Option.map_eq_some_iff.1 hy;exact Hb (h i j a b dq ha hb)
theorem N4{l:List Text}:jf l↔l.Pairwise (fun x y=>bq x y<=0):=by
 rw[List.pairwise_iff_getElem];constructor
 ·exact fun h i j hi hj dq=>h i j _ _ dq (by simp[hi]) (by simp[hj])
 ·intro h i j x y dq hx hy;obtain⟨hi,rfl⟩:=List.getElem?_eq_some_iff.1 hx;obtain⟨hj,rfl⟩:=List.getElem?_eq_some_iff.1 hy;exact h i j hi hj dq
theorem N5{ad:Text}{l:List Signed}(h:jf (l.map (·.set.name))):jf (bO ad l) :=
 N4.2 ((N4.1 h).sublist (List.Sublist.map _ List.filter_sublist))
theorem Xm{z:aP}(hs:fe z.ab)(aH:∀ s∈z.ab,s.set.name≠[]):xH z=je z:=by
 have hA:=N5 (ad:=z.ad) (C7 hs);obtain⟨h1,h2,h3⟩:=NY _ hA;refine N2 h1 h2 xx h3 (fun c hc=>?_) (z.ab.map (·.set.name)) [] [] 0 (by simpa using C7 hs) (fun c hc=>?_) (Nat.zero_le _) rfl (fun m d hm=>by omega)
 ·obtain⟨s,h,rfl,-⟩:=n4 hc;exact aH s h
 ·obtain⟨s,h,rfl,-⟩:=n4 hc
  simpa using⟨s,h,rfl⟩
def oc(q:Signed)(t:Option Signed):Bool:=match t with|none=>true|some t => !(t.set.name==q.set.name&&t.set.type != 8)
theorem Xn{p:Text}{s:Signed}{t:Option Signed}:tf (some p) s t=((s.set.type != 3||p != s.set.name)&&(if s.set.type==3 then oc s t else true)):=by
 unfold tf oc;by_cases h:s.set.type=3
 ·simp[h]<;>rfl
 ·have hb:(s.set.type != 3)=true:=by simpa using h
  have hc:(s.set.type==3)=false:=by simpa using h
  simp[hb,hc]
theorem N6:∀ (l:List Signed) (q:Signed) (al:Text),fe (q::l)->(∀ s∈q::l,s.set.name≠[]/\s.set.type<=8) ->
  ((q.set.type≠3/\(al=[]\/bq al q.set.name<0))\/(al=q.set.name/\q.set.type=3)\/(al=q.set.name/\q.set.type=8)) ->
  ((if q.set.type==3 then oc q l.head? else true)&&kl (some q.set.name) l)=mo al (some q.set.name) l
 |[],q,al,_,_,_=>by simp[oc,kl,mo]
 |s::l,q,al,hs,hn,aV=>by
  have ai:nY q.set s.set<0:=hs 0 1 q s (by omega) rfl rfl;have iF:fe (s::l):=fun i j x y dq hx hy=>hs (i+1) (j+1) x y (by omega) hx hy;have jF:∀ t∈s::l,t.set.name≠[]/\t.set.type<=8:=fun t ht=>hn t (List.mem_cons_of_mem _ ht);have hs8:=(jF s (List.mem_cons_self ..)).2;have pa:=(jF s (List.mem_cons_self ..)).1;have ih:=N6 l s (if s.set.type==3 then s.set.name else al) iF jF;have e1:kl (some q.set.name) (s::l)=((s.set.type != 3||q.set.name != s.set.name)&&((if s.set.type==3 then oc s l.head? else true)&&kl (some s.set.name) l)):=by
   rw[kl,Xn,Bool.and_assoc]
  rw[e1,List.head?_cons,mo];generalize mo (if (s.set.type==3)=true then s.set.name else al) (some s.set.name) l=T at *;generalize ((if s.set.type==3 then oc s l.head? else true)&&kl (some s.set.name) l)=A at *;by_cases pb:q.set.name=s.set.name
  ·have M0:q.set.type<s.set.type:=by
    have:nY q.set s.set=gF q.set.type s.set.type:=by simp[nY,pb,jE]
    rw[this]at ai;unfold gF at ai;split at ai
    ·assumption
    ·split at ai<;>omega
   by_cases h3:s.set.type=3
   ·simp[h3,pb,pa]
   ·have hb:(s.set.type != 3)=true:=by simpa using h3
    have hc:(s.set.type==3)=false:=by simpa using h3
    have hd:(s.set.name != [])=true:=by simpa using pa
    rcases aV with⟨a1,a2⟩|⟨a1,a2⟩|⟨a1,a2⟩
    ·have p7:al≠s.set.name:=by
      rcases a2 with rfl|a2
      ·exact fun h=>pa h.symm
      ·rintro rfl;rw[pb,jE]at a2;omega
     have:=ih (.inl ⟨h3,by simpa [h3,<- pb]using a2⟩);rw[this];have Xo:(s.set.name==al)=false:=by simpa using fun h=>p7 h.symm
     have Xp:(q.set.type==3)=false:=by simpa using a1
     simp[hb,hc,hd,Xp,pb,Xo]
    ·by_cases h8:s.set.type=8
     ·have:=ih (.inr (.inr ⟨by simp[h3,a1,pb],h8⟩));rw[this];simp[h8,oc]
     ·have Xq:(s.set.type != 8)=true:=by simpa using h8
      simp[hb,hc,hd,Xq,oc,a1,a2,pb]
    ·omega
  ·have dE:bq q.set.name s.set.name<0:=by
    have:=Hb ai;rcases Int.lt_or_eq_of_le this with h|h
    ·exact h
    ·exact absurd (oa h) pb
   have:=ih (by
    by_cases h3:s.set.type=3
    ·exact .inr (.inl ⟨by simp[h3],h3⟩)
    ·refine .inl ⟨h3,?_⟩;have e:(if (s.set.type==3)=true then s.set.name else al)=al:=by simp[h3]
     rw[e];rcases aV with⟨-,a|a⟩|⟨a,-⟩|⟨a,-⟩
     ·exact .inl a
     ·exact .inr (o7 a dE)
     ·rw[a];exact .inr dE
     ·rw[a];exact .inr dE)
   rw[this];have e2:oc q (some s)=true:=by
    have:(s.set.name==q.set.name)=false:=by simpa using fun h=>pb h.symm
    simp[oc,this]
   have e3:(q.set.name==s.set.name)=false:=by simpa using pb
   have e4:(q.set.name != s.set.name)=true:=by simpa using pb
   rw[e2,e3,e4];simp
theorem Xr{l:List Signed}(hs:fe l)(hn:∀ s∈l,s.set.name≠[]/\s.set.type<=8):kl none l=mo [] none l:=by
 cases l with
 |nil=>rfl
 |cons s l =>
  have:=N6 l s (if s.set.type==3 then s.set.name else[]) hs hn (by
   by_cases h3:s.set.type=3
   ·exact .inr (.inl ⟨by simp[h3],h3⟩)
   ·exact .inl ⟨h3,.inl (by simp[h3])⟩)
  have e1:kl none (s::l)=((if s.set.type==3 then oc s l.head? else true)&&kl (some s.set.name) l):=by
   rw[kl]
   congr 1
   unfold tf oc;by_cases h3:s.set.type=3
   ·simp[h3]<;>rfl
   ·simp[h3]
  rw[e1,this,mo];simp
theorem N7{ad:Text}:∀ (l:List Signed) (B:List Text),l.length=B.length->((l.zip ((l.zip B).map fun p=>kj p.1 p.2)).all fun p=>vB ad p.1 p.2)=(((l.zip B).all fun p=>te p.1 p.2)&&l.all fun s=>nZ s.sigs ad)
 |[],B,_=>by simp
 |s::l,[],h=>by simp at h
 |s::l,b::B,h=>by
  have ih:=N7 (ad:=ad) l B (by simpa using h);simp only[List.zip_cons_cons,List.map_cons,List.all_cons];rw[ih];unfold vB te;cases nZ s.sigs ad<;>cases kj s b<;>simp[Bool.and_assoc,Bool.and_left_comm]
theorem Xs{s:eD}(h:fa s=true):s.type<=8:=by
 simp only[fa,Bool.and_eq_true,decide_eq_true_eq]at h;exact h.1.1.1.1.1.2.2
theorem Xt{t:Text}(h:Nm.valid t=true):t≠[]:=by
 rintro rfl
 revert h
 decide
theorem Hc{z:aP}(h:n' z=true):fe z.ab/\(∀ s∈z.ab,Nm.valid s.set.name=true)/\(∀ s∈z.ab,s.set.name≠[]/\s.set.type<=8):=by
 obtain⟨-,g2,-⟩:=vC h;simp only[n',Bool.and_eq_true]at h;have g3:∀ s∈z.ab,fa s.set=true:=fun s hs=>by
  have:=g2 s hs;simp only[fH,Bool.and_eq_true]at this;exact this.1
 exact⟨(N3 h.2).1,fun s hs=>vA (g3 s hs),fun s hs=>⟨Xt (vA (g3 s hs)),Xs (g3 s hs)⟩⟩
theorem Hd(z:aP)(hf:z.Fits):au E 90 [z.enc] (· = .bool (eT z)):=by
 unfold eT;cases h1:n' z
 ·have cj:=NS z hf;rw[h1]at cj;refine eP Tryz.func90 ?_;repeat' (first|with_reducible(first|refine aj (cj) ?_|refine bj (cj) ?_|refine cY ?_|refine cN ?_|refine ar (fun _=>?_) (fun _=>?_))|refine gA Tryz.func90 ?_|refine gB ?_|refine gC ?_|with_reducible rfl)
  all_goals simp_all
 ·obtain⟨g1,g2,g3⟩:=vC h1;obtain⟨f1,f2,f3⟩:=Hc h1;have gl:z.ab.length<=1000000:=by omega
  have cj:=NS z hf;rw[h1]at cj;have He:=Xe z gl f2;rw[Xm f1 (fun s hs=>(f3 s hs).1)]at He;have p7:=W5 z (je z) gl;rw[Xr f1 f3]at p7;have N8:CT z=(((z.ab.zip (je z)).all fun p=>te p.1 p.2)&&z.ab.all fun s=>nZ s.sigs z.ad):=N7 _ _ (tc z).symm;rw[N8];have Hf:=WW z (je z) (tc z) gl;have N9:=WX z (je z) (tc z) gl;have Gg:=WY z (je z) gl;change au E _ _ (· = .bool (Ad z))at Hf;generalize ((z.ab.zip (je z)).all fun p=>te p.1 p.2)=S at *;generalize (z.ab.all fun s=>nZ s.sigs z.ad)=F at *;have N':=Xb z gl f2 g3 f1;clear N8 h1 g1 g2 g3 f1 f2 f3;generalize mo [] none z.ab=T at *;generalize Ad z=Fo at *;generalize rH z=Tw at *;generalize je z=B at *;refine eP Tryz.func90 ?_;repeat' (first|with_reducible(first|refine aj (cj) ?_|refine bj (cj) ?_|refine aj (N') ?_|refine bj (N') ?_|refine aj (He) ?_|refine bj (He) ?_|refine aj (p7) ?_|refine bj (p7) ?_|refine aj (Hf) ?_|refine bj (Hf) ?_|refine aj (N9) ?_|refine bj (N9) ?_|refine aj (Gg) ?_|refine bj (Gg) ?_|refine cY ?_|refine cN ?_|refine ar (fun _=>?_) (fun _=>?_))|refine gA Tryz.func90 ?_|refine gB ?_|refine gC ?_|with_reducible rfl)
  all_goals simp_all
end Go.Proofs.YtcmnpelmmekdkaaGreatDoor.P
end
