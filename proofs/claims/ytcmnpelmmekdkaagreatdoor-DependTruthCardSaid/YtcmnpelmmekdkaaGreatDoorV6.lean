/- Lemmas of mine. Conditions: as stated. -/
import Derived.Test.YtcmnpelmmekdkaaGreatDoorV4
set_option linter.unusedVariables false
set_option linter.unusedSimpArgs false
section
namespace Go.Proofs.YtcmnpelmmekdkaaGreatDoor.P
open Go Go.aA
set_option maxRecDepth 100000
set_option maxHeartbeats 4000000
theorem NJ(t:Int)(ad:Bool):az E 206 [.int .i64 t,.bool ad] (· = .bool (vA t ad)):=by
 refine eP Tryz.func206 ?_;repeat' (first|with_reducible(first|refine cY ?_|refine cN ?_|refine ar (fun _=>?_) (fun _=>?_))|refine gA Tryz.func206 ?_|refine gB ?_|refine gC ?_|with_reducible rfl)
 all_goals (cases ad<;>simp_all[vA])
theorem NK(l:List iS)(ad:Text):az E 207 [G1 l,.str ad] (· = .bool (nY l ad)):=by
 unfold nY;have hg:∃ g0,g0=l.headD CV:=⟨_,rfl⟩;obtain⟨g0,hg⟩:=hg;rw[<- hg];refine eP F207 ?_;refine ar (fun h1=>?_) (fun h1=>?_)
 ·refine gO F207 ?_;simp only[List.length_map]at h1;rw[decide_eq_false (by simp at h1;omega),Bool.false_and]
 ·have h6:l.length<=6:=by simp at h1;omega
  rw[decide_eq_true (by omega),Bool.true_and];refine gO F207 ?_;refine aa.loop (κ:=Nat) ([4,5,6]++rg 12 76) (fun k=>[(12,.d (.int .i64 k))]) (fun _=>[]) (fun k=>k<=l.length/\chain (gE ad g0) kl none l=chain (gE ad g0) kl (cX l k) (l.drop k)) (fun k=>l.length-k) 0 ⟨Nat.zero_le _,rfl⟩ ?_ ?_
  ·exact sZ
  ·intro k hk IH;refine aa.head ag F207 2000 ?_;(conv=>whnf);refine ar (fun h5=>?_) (fun h5=>?_)
   ·have ai:k<l.length:=by simpa using h5
    obtain⟨x,hx⟩:=bd ai;have h0:=Nf ai;rw[<- hg]at h0;have bc:=C1 (ok:=gE ad g0) (rel:=kl) hx;rw[<- hk.2]at bc;rcases Nat.eq_zero_or_pos k with dh|dh
    ·have eN:cX l k=none:=by simp[cX,dh]
     rw[eN]at bc;dsimp only at bc;rw[Bool.and_true]at bc;have Db:x=g0:=by subst dh;rw[hx]at h0;exact Option.some.inj h0
     refine gO F207 ?_;repeat' (first|with_reducible(first|refine aD (aU hx) rfl ?_|refine cY ?_|refine cN ?_|refine ar (fun _=>?_) (fun _=>?_))|refine gA F207 ?_|refine gB ?_|refine gC ?_|with_reducible rfl)
     all_goals first
      |(have dR : gE ad g0 x=false := by clear bc hk IH hg;simp_all[gE]<;>(intros;omega)
        rw[bc, dR, Bool.false_and]
        done)
      |skip
     refine gO F207 ?_;refine aa.draw ag bU 31 2000 (by kernel_rfl) ?_;(conv=>whnf);repeat' (first|with_reducible(first|refine aD (aU hx) rfl ?_|refine aD (te h0) rfl ?_|refine cY ?_|refine cN ?_|refine ar (fun _=>?_) (fun _=>?_))|refine gA F207 ?_|refine gB ?_|refine gC ?_|with_reducible rfl)
     all_goals first
      |(exfalso;clear bc hk IH hg;simp_all;done)
      |skip
     all_goals
      refine gO F207 ?_;refine aa.back (IH (k+1) ⟨by omega,by rw[bc,show gE ad g0 x=true by clear bc hk IH hg;simp_all[gE]<;>omega,Bool.true_and]⟩ (by omega)) ?_;exact sZ
    ·obtain⟨q,hq,eN⟩:=xA dh hk.1;rw[eN]at bc;refine gO F207 ?_;repeat' (first|with_reducible(first|refine aD (aU hx) rfl ?_|refine cY ?_|refine cN ?_|refine ar (fun _=>?_) (fun _=>?_))|refine gA F207 ?_|refine gB ?_|refine gC ?_|with_reducible rfl)
     all_goals first
      |(have dR : gE ad g0 x=false := by clear bc hk IH hg;simp_all[gE]<;>(intros;omega)
        rw[bc, dR, Bool.false_and, Bool.false_and]
        done)
      |skip
     refine gO F207 ?_;refine aa.draw ag bU 31 2000 (by kernel_rfl) ?_;(conv=>whnf);repeat' (first|with_reducible(first|refine aD (aU hx) rfl ?_|refine aD (te h0) rfl ?_|refine aD (oV hq dh (by omega)) rfl ?_|refine cY ?_|refine cN ?_|refine ar (fun _=>?_) (fun _=>?_))|refine gA F207 ?_|refine gB ?_|refine gC ?_|with_reducible rfl)
     all_goals first
      |(have dR : (gE ad g0 x && kl q x)=false := by clear bc hk IH hg;simp_all[gE, kl]<;>(intros;omega)
        rw[bc, dR, Bool.false_and]
        done)
      |(exfalso;clear bc hk IH hg;simp_all;omega)
      |skip
     all_goals
      refine gO F207 ?_;refine aa.back (IH (k+1) ⟨by omega,by rw[bc,show(gE ad g0 x&&kl q x)=true by clear bc hk IH hg;simp_all[gE,kl]<;>omega,Bool.true_and]⟩ (by omega)) ?_;exact sZ
   ·have aL:l.length<=k:=by simpa using h5
    refine gO F207 ?_;rw[hk.2,List.drop_of_length_le aL];rfl
@[reducible] def As (z : aQ) (b : List Text) : DV := .agg [.str z.ad, vw z.ab, .sl (b.map .str)]
theorem WZ(z:aQ)(B:List Text)(hB:B.length=z.ab.length)(hl:z.ab.length<=1000000):az E 138 [As z B] (· = .bool ((z.ab.zip B).all fun p=>p9 p.1 p.2)):=by
 obtain⟨ad,l⟩:=z;simp only at *;refine eP Tryz.func138 ?_;refine aa.loop (κ:=Nat) (rg 2 4++rg 11 39) (fun k=>[(11,.d (.int .i64 k))]) (fun _=>[]) (fun k=>k<=l.length/\((l.zip B).take k).all (fun p=>p9 p.1 p.2)=true) (fun k=>l.length-k) 0 ⟨Nat.zero_le _,rfl⟩ ?_ ?_
 ·exact sZ
 ·intro k hk IH;refine aa.head ag Tryz.func138 2000 ?_;(conv=>whnf);refine ar (fun h5=>?_) (fun h5=>?_)
  ·have ai:k<l.length:=by simpa using h5
   obtain⟨x,hx⟩:=bd ai;obtain⟨b,hb⟩:=bd (l:=B) (k:=k) (by omega);have hz:=xF hx hb;refine gO Tryz.func138 ?_;repeat' (first|with_reducible(first|refine aD (aU hx) rfl ?_|refine aD (aU hb) rfl ?_|refine cY ?_|refine cN ?_|refine ar (fun _=>?_) (fun _=>?_))|refine gA Tryz.func138 ?_|refine gB ?_|refine gC ?_|with_reducible rfl)
   all_goals first
    |(have dR : p9 x b=false := by clear hz hb hk IH hx;obtain⟨⟨nm, ty, lf, dt⟩, sg⟩ := x;rcases b with _|⟨c, b⟩<;>simp_all[p9]<;>first|(rintro rfl;simp_all;done)|(intro h;exact absurd h.symm (by assumption))|(subst_vars;simp_all;done)|(intros;simp_all;done)
      rw[iV hz dR]
      done)
    |(exfalso;clear hz hb hk IH;rcases b with _|⟨c,b⟩<;>simp_all;done)
    |skip
   all_goals
    refine gO Tryz.func138 ?_;refine aa.back (IH (k+1) ⟨by omega,jI hk.2 hz (by clear hz hb hk IH hx;obtain⟨⟨nm,ty,lf,dt⟩,sg⟩:=x;rcases b with _|⟨c,b⟩<;>simp_all[p9]<;>first|(rintro rfl;simp_all;done)|(intro h;exact absurd h.symm (by assumption))|(subst_vars;simp_all;done)|(intros;simp_all;done))⟩ (by omega)) ?_;exact sZ
  ·have aL:l.length<=k:=by simpa using h5
   refine gO Tryz.func138 ?_;rw[nW hk.2 (by simp;omega)]
def tg(s:Signed)(b:Text):Bool := !(!km s b&&decide ((s.sigs.length:Int)>0))
theorem W5(z:aQ)(B:List Text)(hB:B.length=z.ab.length)(hl:z.ab.length<=1000000):az E 139 [As z B] (· = .bool ((z.ab.zip B).all fun p=>tg p.1 p.2)):=by
 obtain⟨ad,l⟩:=z;simp only at *;refine eP Tryz.func139 ?_;refine aa.loop (κ:=Nat) (rg 2 4++rg 11 31) (fun k=>[(11,.d (.int .i64 k))]) (fun _=>[]) (fun k=>k<=l.length/\((l.zip B).take k).all (fun p=>tg p.1 p.2)=true) (fun k=>l.length-k) 0 ⟨Nat.zero_le _,rfl⟩ ?_ ?_
 ·exact sZ
 ·intro k hk IH;refine aa.head ag Tryz.func139 2000 ?_;(conv=>whnf);refine ar (fun h5=>?_) (fun h5=>?_)
  ·have ai:k<l.length:=by simpa using h5
   obtain⟨x,hx⟩:=bd ai;obtain⟨b,hb⟩:=bd (l:=B) (k:=k) (by omega);have hz:=xF hx hb;refine gO Tryz.func139 ?_;repeat' (first|with_reducible(first|refine aD (aU hx) rfl ?_|refine aD (aU hb) rfl ?_|refine cY ?_|refine cN ?_|refine ar (fun _=>?_) (fun _=>?_))|refine gA Tryz.func139 ?_|refine gB ?_|refine gC ?_|with_reducible rfl)
   all_goals first
    |(rw[iV hz (by clear hz hb hk IH;rcases b with _|⟨c,b⟩<;>simp_all[tg,km])];done)
    |(exfalso;clear hz hb hk IH;rcases b with _|⟨c,b⟩<;>simp_all;done)
    |skip
   all_goals
    refine gO Tryz.func139 ?_;refine aa.back (IH (k+1) ⟨by omega,jI hk.2 hz (by clear hz hb hk IH;rcases b with _|⟨c,b⟩<;>simp_all[tg,km])⟩ (by omega)) ?_;exact sZ
  ·have aL:l.length<=k:=by simpa using h5
   refine gO Tryz.func139 ?_;rw[nW hk.2 (by simp;omega)]
theorem W6(z:aQ)(B:List Text)(hl:z.ab.length<=1000000):az E 140 [As z B] (· = .bool (z.ab.all fun s=>nY s.sigs z.ad)):=by
 obtain⟨ad,l⟩:=z;simp only at *;refine eP Tryz.func140 ?_;refine aa.loop (κ:=Nat) ([2,4]++rg 10 13) (fun k=>[(10,.d (.int .i64 k))]) (fun _=>[]) (fun k=>k<=l.length/\(l.take k).all (fun s=>nY s.sigs ad)=true) (fun k=>l.length-k) 0 ⟨Nat.zero_le _,rfl⟩ ?_ ?_
 ·exact sZ
 ·intro k hk IH;refine aa.head ag Tryz.func140 2000 ?_;(conv=>whnf);refine ar (fun h5=>?_) (fun h5=>?_)
  ·have ai:k<l.length:=by simpa using h5
   obtain⟨x,hx⟩:=bd ai;refine gO Tryz.func140 ?_;repeat' (first|with_reducible(first|refine aD (aU hx) rfl ?_|refine aj (NK _ _) ?_|refine bl (NK _ _) ?_|refine cY ?_|refine cN ?_|refine ar (fun _=>?_) (fun _=>?_))|refine gA Tryz.func140 ?_|refine gB ?_|refine gC ?_|with_reducible rfl)
   all_goals first
    |(rw[iV hx (by simp_all)];done)
    |skip
   all_goals
    refine gO Tryz.func140 ?_;refine aa.back (IH (k+1) ⟨by omega,jI hk.2 hx (by simp_all)⟩ (by omega)) ?_;exact sZ
  ·have aL:l.length<=k:=by simpa using h5
   refine gO Tryz.func140 ?_;rw[nW hk.2 aL]
def th(p:Option Text)(s:Signed)(t:Option Signed):Bool:=s.set.type != 3||(p != some s.set.name&&(match t with|none=>true|some t => !(t.set.name==s.set.name&&t.set.type != 8)))
def kn:Option Text->List Signed->Bool
 |_,[]=>true
 |p,s::l=>th p s l.head? && kn (some s.set.name) l
theorem W7{l:List Signed}{k:Nat}{x:Signed}(hx:l[k]?=some x):kn (cX (l.map (·.set.name)) k) (l.drop k)=(th (cX (l.map (·.set.name)) k) x l[k+1]? && kn (cX (l.map (·.set.name)) (k+1)) (l.drop (k+1))):=by
 have hk:=a7 hx;rw[List.drop_eq_getElem_cons hk];have e1:l[k]=x:=by simpa [hk]using hx
 have e2:cX (l.map (·.set.name)) (k+1)=some x.set.name:=by simp[cX,hx]
 have e3:(l.drop (k+1)).head?=l[k+1]? := by rw[List.head?_drop]
 rw[e1,e2,kn,e3]
theorem W8(z:aQ)(B:List Text)(hl:z.ab.length<=1000000):az E 137 [As z B] (· = .bool (kn none z.ab)):=by
 obtain⟨ad,l⟩:=z;simp only at *;refine eP F137 ?_;refine aa.loop (κ:=Nat) ([2,3,4]++rg 10 65) (fun k=>[(10,.d (.int .i64 k))]) (fun _=>[]) (fun k=>k<=l.length/\kn none l=kn (cX (l.map (·.set.name)) k) (l.drop k)) (fun k=>l.length-k) 0 ⟨Nat.zero_le _,rfl⟩ ?_ ?_
 ·exact sZ
 ·intro k hk IH;refine aa.head ag F137 2000 ?_;(conv=>whnf);refine ar (fun h5=>?_) (fun h5=>?_)
  ·have ai:k<l.length:=by simpa using h5
   obtain⟨x,hx⟩:=bd ai;have bc:=W7 hx;rw[<- hk.2]at bc;have hw:IntKind.i64.wrap ((k:Int)+1)=((k+1:Nat):Int):=by rw[wrap64 (by omega) (by omega)];omega
   refine gO F137 ?_;refine aD (aU hx) rfl ?_;refine gO F137 ?_;refine ar (fun h6=>?_) (fun h6=>?_)
   ·refine gO F137 ?_;refine aa.back (IH (k+1) ⟨by omega,by rw[bc];simp only[th,h6,Bool.true_or,Bool.true_and]⟩ (by omega)) ?_;exact sZ
   ·have e1:th (cX (l.map (·.set.name)) k) x l[k+1]?=(cX (l.map (·.set.name)) k != some x.set.name&&(match l[k+1]? with|none=>true|some t => !(t.set.name==x.set.name&&t.set.type != 8))):=by simp only[th,h6,Bool.false_or]
    rw[e1]at bc;clear e1;rcases Nat.eq_zero_or_pos k with dh|dh
    ·have eN:cX (l.map (·.set.name)) k=none:=by simp[cX,dh]
     rw[eN]at bc;refine gO F137 ?_;refine aa.draw ag bU 18 2000 (by kernel_rfl) ?_;(conv=>whnf);refine aP (by simp;omega) ?_;refine gD ?_;refine gS ?_;refine gO F137 ?_;refine aV ?_;refine gO F137 ?_;refine aa.draw ag bU 37 2000 (by kernel_rfl) ?_;(conv=>whnf);by_cases ea:k+1<l.length
     ·obtain⟨t,ht⟩:=bd ea;rw[ht]at bc;refine aJ (by rw[hw];simp;omega) ?_;refine gD ?_;repeat' (first|with_reducible(first|refine aD (at_next ht (by omega)) rfl ?_|refine cY ?_|refine cN ?_|refine ar (fun _=>?_) (fun _=>?_))|refine gA F137 ?_|refine gB ?_|refine gC ?_|with_reducible rfl)
      all_goals first
       |(rw[bc];clear bc hk IH eN;simp_all;done)
       |skip
      all_goals
       refine gO F137 ?_;refine aa.back (IH (k+1) ⟨by omega,by rw[bc];clear bc hk IH eN;simp_all⟩ (by omega)) ?_;exact sZ
     ·have ht:l[k+1]?=none:=List.getElem?_eq_none (by omega);rw[ht]at bc;refine aP (by rw[hw];simp;omega) ?_;refine gD ?_;repeat' (first|with_reducible(first|refine cY ?_|refine cN ?_|refine ar (fun _=>?_) (fun _=>?_))|refine gA F137 ?_|refine gB ?_|refine gC ?_|with_reducible rfl)
      refine gO F137 ?_;refine aa.back (IH (k+1) ⟨by omega,by rw[bc];clear bc hk IH eN;simp_all⟩ (by omega)) ?_;exact sZ
    ·obtain⟨q,hq,-⟩:=xA dh hk.1;have eN:cX (l.map (·.set.name)) k=some q.set.name:=by simp[cX,hq];omega
     rw[eN]at bc;refine gO F137 ?_;refine aa.draw ag bU 18 2000 (by kernel_rfl) ?_;(conv=>whnf);refine aJ (by simp;omega) ?_;refine gD ?_;refine aD (oV hq dh (by omega)) rfl ?_;refine gD ?_;refine gS ?_;refine gO F137 ?_;refine ar (fun h7=>?_) (fun h7=>?_)
     ·refine gO F137 ?_;rw[bc];clear bc hk IH eN;simp_all
     ·refine gO F137 ?_;refine aa.draw ag bU 37 2000 (by kernel_rfl) ?_;(conv=>whnf);by_cases ea:k+1<l.length
      ·obtain⟨t,ht⟩:=bd ea;rw[ht]at bc;refine aJ (by rw[hw];simp;omega) ?_;refine gD ?_;repeat' (first|with_reducible(first|refine aD (at_next ht (by omega)) rfl ?_|refine cY ?_|refine cN ?_|refine ar (fun _=>?_) (fun _=>?_))|refine gA F137 ?_|refine gB ?_|refine gC ?_|with_reducible rfl)
       all_goals first
        |(rw[bc];clear bc hk IH eN;simp_all;done)
        |skip
       all_goals
        refine gO F137 ?_;refine aa.back (IH (k+1) ⟨by omega,by rw[bc];clear bc hk IH eN;simp_all⟩ (by omega)) ?_;exact sZ
      ·have ht:l[k+1]?=none:=List.getElem?_eq_none (by omega);rw[ht]at bc;refine aP (by rw[hw];simp;omega) ?_;refine gD ?_;repeat' (first|with_reducible(first|refine cY ?_|refine cN ?_|refine ar (fun _=>?_) (fun _=>?_))|refine gA F137 ?_|refine gB ?_|refine gC ?_|with_reducible rfl)
       refine gO F137 ?_;refine aa.back (IH (k+1) ⟨by omega,by rw[bc];clear bc hk IH eN;simp_all⟩ (by omega)) ?_;exact sZ
  ·have aL:l.length<=k:=by simpa using h5
   refine gO F137 ?_;rw[hk.2,List.drop_of_length_le aL];rfl
theorem NL(c d:UInt8):c<d\/c=d\/d<c:=by
 rcases Nat.lt_trichotomy c.toNat d.toNat with h|h|h
 ·exact .inl (UInt8.lt_iff_toNat_lt.2 h)
 ·exact .inr (.inl (UInt8.toNat_inj.1 h))
 ·exact .inr (.inr (UInt8.lt_iff_toNat_lt.2 h))
theorem Hm{c d:UInt8}{a b:Text}:Op.bytesLess (c::a) (d::b)=true↔c<d\/(c=d/\Op.bytesLess a b=true):=by
 simp[Op.bytesLess]
theorem Hn:∀ {a b c:Text},Op.bytesLess a b=true->Op.bytesLess b c=true->Op.bytesLess a c=true
 |_,[],_,h,_=>by simp[Op.bytesLess]at h
 |_,_::_,[],_,h=>by simp[Op.bytesLess]at h
 |[],_::_,_::_,_,_=>by simp[Op.bytesLess]
 |x::a,y::b,z::c,h,k=>by
  rw[Hm]at h k ⊢;rcases h with h|⟨rfl,h⟩
  ·rcases k with k|⟨rfl,k⟩
   ·exact .inl (UInt8.lt_trans h k)
   ·exact .inl h
  ·rcases k with k|⟨rfl,k⟩
   ·exact .inl k
   ·exact .inr ⟨rfl,Hn h k⟩
theorem NM:∀ (a b:Text),Op.bytesLess a b=true\/a=b\/Op.bytesLess b a=true
 |[],[] => .inr (.inl rfl)
 |[],_::_ => .inl (by simp[Op.bytesLess])
 |_::_,[] => .inr (.inr (by simp[Op.bytesLess]))
 |c::a,d::b=>by
  rw[Hm,Hm];rcases NL c d with h|rfl|h
  ·exact .inl (.inl h)
  ·rcases NM a b with h|rfl|h
   ·exact .inl (.inr ⟨rfl,h⟩)
   ·exact .inr (.inl rfl)
   ·exact .inr (.inr (.inr ⟨rfl,h⟩))
  ·exact .inr (.inr (.inl h))
theorem Dc{a b:Text}(h:Op.bytesLess a b=true):Op.bytesLess b a=false:=by
 rw[<- Bool.not_eq_true];intro k;have:=Hn h k;rw[mn]at this;cases this
theorem Ho{a b:Text}(h:Op.bytesLess a b=true):a≠b:=by
 rintro rfl;rw[mn]at h;cases h
theorem NN:∀ (a b:Text),Lib.compareBytes a b=if Op.bytesLess a b then -1 else if a==b then 0 else 1
 |[],[]=>by simp[Lib.compareBytes,Op.bytesLess]
 |[],_::_=>by simp[Lib.compareBytes,Op.bytesLess]
 |_::_,[]=>by simp[Lib.compareBytes,Op.bytesLess]
 |c::a,d::b=>by
  simp only[Lib.compareBytes,Op.bytesLess];rcases NL c d with h|rfl|h
  ·simp[h]
  ·simp[NN a b]
  ·have h1:¬ c<d:=UInt8.not_lt.2 (UInt8.le_of_lt h);have h2:¬ c=d:=by rintro rfl;exact absurd h (by simp)
   simp[h,h1,h2]
theorem qa(x y:Text)(l m:List Text):(Op.bytesLess x y=true/\cmpL (x::l) (y::m) = -1)\/(x=y/\cmpL (x::l) (y::m)=cmpL l m)\/(Op.bytesLess y x=true/\cmpL (x::l) (y::m)=1):=by
 rcases NM x y with h|rfl|h
 ·exact .inl ⟨h,by simp[cmpL,h]⟩
 ·exact .inr (.inl ⟨rfl,by simp[cmpL,mn]⟩)
 ·exact .inr (.inr ⟨h,by simp[cmpL,Dc h,(Ho h).symm]⟩)
theorem NO:∀ (l:List Text),cmpL l l=0
 |[]=>rfl
 |x::l=>by simp[cmpL,mn,NO l]
theorem NP:∀ {l m:List Text},cmpL l m=0->l=m
 |[],[],_=>rfl
 |[],_::_,h=>by simp[cmpL]at h
 |_::_,[],h=>by simp[cmpL]at h
 |x::l,y::m,h=>by
  rcases qa x y l m with⟨-,e⟩|⟨rfl,e⟩|⟨-,e⟩
  ·rw[e]at h;cases h
  ·rw[e]at h;rw[NP h]
  ·rw[e]at h;cases h
theorem NQ:∀ (l m:List Text),cmpL m l = - cmpL l m
 |[],[]=>rfl
 |[],_::_=>rfl
 |_::_,[]=>rfl
 |x::l,y::m=>by
  rcases qa x y l m with⟨h,e⟩|⟨rfl,e⟩|⟨h,e⟩
  ·rw[e];simp[cmpL,Dc h,(Ho h).symm]
  ·rw[e,<- NQ l m];simp[cmpL,mn]
  ·rw[e];simp[cmpL,h]
theorem NR:∀ {a b c:List Text},cmpL a b<0->cmpL b c<0->cmpL a c<0
 |[],[],_,h,_=>by simp[cmpL]at h
 |_::_,[],_,h,_=>by simp[cmpL]at h
 |_,_::_,[],_,h=>by simp[cmpL]at h
 |[],_::_,_::_,_,_=>by simp[cmpL]
 |x::a,y::b,z::c,h,k=>by
  rcases qa x y a b with⟨h1,e1⟩|⟨rfl,e1⟩|⟨h1,e1⟩
  ·rcases qa y z b c with⟨h2,e2⟩|⟨rfl,e2⟩|⟨h2,e2⟩
   ·simp[cmpL,Hn h1 h2]
   ·simp[cmpL,h1]
   ·rw[e2]at k;simp at k
  ·rcases qa x z b c with⟨h2,e2⟩|⟨rfl,e2⟩|⟨h2,e2⟩
   ·simp[cmpL,h2]
   ·rw[e1]at h;rw[e2]at k;have:=NR h k;rcases qa x x a c with⟨h3,-⟩|⟨-,e3⟩|⟨h3,-⟩
    ·rw[mn]at h3;cases h3
    ·rw[e3];exact this
    ·rw[mn]at h3;cases h3
   ·rw[e2]at k;simp at k
  ·rw[e1]at h;simp at h
theorem NS:∀ {c m n:List Text},cmpL c m<=0->cmpL m n<=0->c <+: n->c <+: m
 |[],_,_,_,_,_=>List.nil_prefix
 |_::_,[],_,h,_,_=>by simp[cmpL]at h
 |_::_,_::_,[],_,_,h=>by simp at h
 |x::c,y::m,z::n,h,k,hp=>by
  rw[List.cons_prefix_cons]at hp;obtain⟨rfl,hp⟩:=hp;rcases qa x y c m with⟨h1,e1⟩|⟨rfl,e1⟩|⟨h1,e1⟩
  ·rcases qa y x m n with⟨h2,e2⟩|⟨rfl,e2⟩|⟨h2,e2⟩
   ·have:=Dc h1;rw[h2]at this;cases this
   ·rw[mn]at h1;cases h1
   ·rw[e2]at k;simp at k
  ·rcases qa x x m n with⟨h2,-⟩|⟨-,e2⟩|⟨h2,-⟩
   ·rw[mn]at h2;cases h2
   ·rw[List.cons_prefix_cons];rw[e1]at h;rw[e2]at k;exact⟨rfl,NS h k hp⟩
   ·rw[mn]at h2;cases h2
  ·rw[e1]at h;simp at h
theorem NT:∀ {c n:List Text},c <+: n->cmpL c n<=0
 |[],[],_=>by simp[cmpL]
 |[],_::_,_=>by simp[cmpL]
 |_::_,[],h=>by simp at h
 |x::c,y::n,h=>by
  rw[List.cons_prefix_cons]at h;obtain⟨rfl,h⟩:=h;simp only[cmpL,mn,Bool.false_eq_true,if_false,beq_self_eq_true,if_true];exact NT h
theorem kp(a:Text):bC a a=0:=NO _
theorem oZ{a b:Text}(h:bC a b=0):a=b:=An (List.reverse_inj.1 (NP h))
theorem xK(a b:Text):bC b a = - bC a b:=NQ _ _
theorem qb{a b c:Text}(h:bC a b<0)(k:bC b c<0):bC a c<0:=NR h k
theorem s7{s z:Text}:Nm.under s z=true↔(Nm.labels z).reverse <+: (Nm.labels s).reverse:=by
 simp[Nm.under,List.reverse_prefix]
theorem xL{c m n:Text}(h:bC c m<=0)(k:bC m n<=0)(hp:Nm.under n c=true):Nm.under m c=true:=s7.2 (NS h k (s7.1 hp))
theorem Au{c n:Text}(h:Nm.under n c=true):bC c n<=0:=NT (s7.1 h)
theorem NU:∀ (l m:List Text),kU (l.map bs) (m.map bs)=cmpL l m
 |[],[]=>rfl
 |[],_::_=>rfl
 |_::_,[]=>rfl
 |x::l,y::m=>by
  simp only[List.map_cons,kU,z6,NN];rw[NU l m];rcases qa x y l m with⟨h,e⟩|⟨rfl,e⟩|⟨h,e⟩
  ·simp[cmpL,h]
  ·simp[cmpL,mn]
  ·simp[cmpL,Dc h,(Ho h).symm]
theorem W9(a b:Text):kU (Nm.back ⟨a.toArray⟩) (Nm.back ⟨b.toArray⟩)=bC a b:=by
 simp only[Nm.back,ki];exact NU _ _
theorem Dd(a b:Text)(ha:Nm.valid a=true)(hb:Nm.valid b=true):az E 76 [.str a,.str b] (· = .aK [.int .i64 (bC a b),.int .i64 0]):=by
 refine G2 (g:=fun a b => .aK [.int .i64 (bC a b),.int .i64 0]) a b ⟨_,Tryz.func76,rfl,by decide⟩ fun w=>?_;have vd:∀ (v:Int) (bad:Nat->Prop) (w:World),VD bad w (.aK [.int .i64 v,.int .i64 0]) (.tuple #[.int .i64 v,.int .i64 0]):=fun v bad w => .aK _ _ rfl fun j x u hx hu=>by
  match j with
  |0=>simp at hx hu;subst hx;subst hu;exact .int _ _
  |1=>simp at hx hu;subst hx;subst hu;exact .int _ _
  |j+2=>simp at hx
 by_cases he:a=b
 ·subst he;refine(WS ⟨a.toArray⟩ w (by rw[ki];exact ha)).mono fun e w' ⟨h1,h2⟩=>⟨_,h1,fun bad w=>?_,h2⟩;rw[kp];exact vd 0 bad w
 ·refine(WJ ⟨a.toArray⟩ ⟨b.toArray⟩ w (by rw[ki];exact ha) (by rw[ki];exact hb) (by rw[ki,ki];exact he)).mono fun e w' ⟨h1,h2⟩=>⟨_,h1,fun bad w=>?_,h2⟩;rw[W9];exact vd _ bad w
def n'(a:Text)(s:Int)(b:Text)(t:Int):Int:=if a≠b then bC a b else gy s t
theorem NV(a:Text)(s:Int)(b:Text)(t:Int)(ha:Nm.valid a=true)(hb:Nm.valid b=true):az E 145 [.str a,.int .i64 s,.str b,.int .i64 t] (· = .int .i64 (n' a s b t)):=by
 refine eP Tryz.func145 ?_;repeat' (first|with_reducible(first|refine aj (Dd _ _ ha hb) ?_|refine bl (Dd _ _ ha hb) ?_|refine aj (Aa _ _) ?_|refine bl (Aa _ _) ?_|refine cY ?_|refine cN ?_|refine ar (fun _=>?_) (fun _=>?_))|refine gA Tryz.func145 ?_|refine gB ?_|refine gC ?_|with_reducible rfl)
 all_goals simp_all[n']
theorem xM(a b:eM):n' a.name a.type b.name b.type=nX a b:=by
 unfold n' nX;by_cases h:a.name=b.name
 ·simp[h,kp]
 ·have:bC a.name b.name≠0:=fun e=>h (oZ e);simp[h,this]
def vF(s:Signed)(q:aG):Int:=n' s.set.name s.set.type q.name q.type
theorem Xa{a b:Int}:gy a b=0↔a=b:=by
 unfold gy;split
 ·omega
 ·split<;>omega
theorem De{s:Signed}{q:aG}:(vF s q==0)=cE q s:=by
 rw[Bool.eq_iff_iff,beq_iff_eq];unfold vF n' cE;by_cases h:s.set.name=q.name
 ·simp[h,Xa]
 ·have:bC s.set.name q.name≠0:=fun e=>h (oZ e);simp[h,this]
def fj(l:List Signed):Prop:=∀ (i j:Nat) (x y:Signed),i<j->l[i]?=some x->l[j]?=some y->nX x.set y.set<0
theorem Xb{a b c:Int}(h:gy a b<0)(k:gy b c<0):gy a c<0:=by
 unfold gy at *;repeat' split at h
 all_goals first|omega|skip
 repeat' split at k
 all_goals first|omega|skip
 repeat' split
 all_goals omega
theorem Hp{a b c:Text}{s t u:Int}(h:n' a s b t<0)(k:n' b t c u<0):n' a s c u<0:=by
 unfold n' at *;by_cases e1:a=b
 ·subst e1;simp only[ne_eq,not_true_eq_false,if_false]at h;by_cases e2:a=c
  ·subst e2;simp only[ne_eq,not_true_eq_false,if_false]at k ⊢;exact Xb h k
  ·simp only[ne_eq,e2,not_false_eq_true,if_true]at k ⊢;exact k
 ·simp only[ne_eq,e1,not_false_eq_true,if_true]at h;by_cases e2:b=c
  ·subst e2;simp only[ne_eq,e1,not_false_eq_true,if_true];exact h
  ·simp only[ne_eq,e2,not_false_eq_true,if_true]at k;have:=qb h k;have e3:a≠c:=by
    rintro rfl;rw[kp]at this;omega
   simp only[ne_eq,e3,not_false_eq_true,if_true];exact this
theorem NW(s:Signed)(q:aG)(hs:Nm.valid s.set.name=true)(hq:Nm.valid q.name=true):az E 144 [s.enc,q.enc] (· = .int .i64 (vF s q)):=by
 refine eP Tryz.func144 ?_
 with_reducible refine aj (NV _ _ _ _ hs hq) ?_
 refine gO Tryz.func144 ?_;rfl
theorem NX{i j:Nat}(h:i+j<=4294967296):IntKind.i64.wrap (qT .shr .u64 (IntKind.u64.wrap (IntKind.i64.wrap ((i:Int)+j))) (Int.toNat 1))=(((i+j) / 2:Nat):Int):=by
 rw[wrap64 (n:=(i:Int)+j) (by omega) (by omega)];have e1:IntKind.u64.wrap ((i:Int)+j)=(i:Int)+j:=by
  simp[IntKind.wrap,IntKind.signed,IntKind.bits];omega
 rw[e1];have e2:qT .shr .u64 ((i:Int)+j) (Int.toNat 1)=(((i+j) / 2:Nat):Int):=by
  show((i:Int)+j).fdiv (2 ^ 1)=_;rw[Int.fdiv_eq_ediv_of_nonneg _ (by decide)];omega
 rw[e2,wrap64 (by omega) (by omega)]
theorem Xc(l:List Signed)(q:aG)(hl:l.length<=1000000)(hv:∀ s∈l,Nm.valid s.set.name=true)(hq:Nm.valid q.name=true)(hs:fj l) :
  aB E 143 [] [.d (vw l),.d q.enc,.fn (.func 144) [] []] (fun a b=>(∃ i:Nat,i<=l.length/\a=.aK [.d (.int .i64 i),.d (.bool (l.any (cE q)))]/\∀ j x,l[j]?=some x->cE q x=true->j=i)/\b=[.cells [.d (.str q.name),.d (.int .i64 q.type)]]):=by
 refine aB.run ag (fn:=Tryz.f143) Tryz.func143 (body:=Tryz.f143.body.getD .skip) rfl (by decide) 2000 rfl ?_;(conv=>whnf);refine aa.loop (κ:=Nat × Nat) [9,10,11,15,16,17,18,19,20,21,22,23,24,25,26,27,28,29,30,31,32,33,34] (fun k=>[(9,.d (.int .i64 k.1)),(10,.d (.int .i64 k.2))]) (fun _=>[]) (fun k=>k.1<=k.2/\k.2<=l.length/\(∀ m x,m<k.1->l[m]?=some x->vF x q<0)/\(∀ m x,k.2<=m->l[m]?=some x->¬ vF x q<0)) (fun k=>k.2-k.1) (0,l.length) ⟨Nat.zero_le _,Nat.le_refl _,fun m x h=>by omega,fun m x h hx=>by have:=a7 hx;omega⟩ ?_ ?_
 ·(conv=>whnf);repeat (first|exact trivial|(refine And.intro (by first|with_reducible rfl|exact congrArg (DV.int .i64) (by omega)|exact congrArg (DV.int .i64) (by simp)|exact congrArg (DV.int .i64) (wrap64 (by omega) (by omega))|exact congrArg (DV.int .i64) ((wrap64 (by omega) (by omega)).trans (by omega))) ?_;conv=>whnf))
 ·rintro⟨i,j⟩ hk IH;obtain⟨k1,k2,k3,k4⟩:=hk;simp only at k1 k2 k3 k4;refine aa.head ag F143 2000 ?_;(conv=>whnf);refine ar (fun h5=>?_) (fun h5=>?_)
  ·have ai:i<j:=by simpa using h5
   obtain⟨x,hx⟩:=bd (l:=l) (k:=(i+j) / 2) (by omega);have di:=hv x (List.mem_of_getElem? hx);have Av:=NX (i:=i) (j:=j) (by omega);refine gO F143 ?_;refine bB (by decide) ?_;refine gO F143 ?_;refine aa.draw ag bU 8 2000 (by kernel_rfl) ?_;(conv=>whnf);rw[show IntKind.i64.wrap (qT .shr .u64 (IntKind.u64.wrap (IntKind.i64.wrap (((i,j).fst:Int)+((i,j).snd:Int)))) (Int.toNat 1))=(((i+j) / 2:Nat):Int)from Av];refine aD (aU hx) rfl ?_;refine gD ?_
   with_reducible refine bl (NW x q di hq) ?_
   refine gD ?_;refine gS ?_;refine gO F143 ?_;refine ar (fun h6=>?_) (fun h6=>?_)
   ·have hc:vF x q<0:=by simpa using h6
    refine gO F143 ?_;refine aa.back (IH ((i+j) / 2+1,j) ⟨by simp only;omega,k2,fun m y hm hy=>?_,k4⟩ (by simp only;omega)) ?_
    ·simp only at hm;rcases Nat.lt_or_ge m ((i+j) / 2)with h|h
     ·have h1:=hs m ((i+j) / 2) y x h hy hx;rw[<- xM]at h1;exact Hp h1 hc
     ·obtain rfl:m=(i+j) / 2:=by omega
      rw[hx]at hy;cases hy;exact hc
    ·exact sZ
   ·have hc:¬ vF x q<0:=by simpa using h6
    refine gO F143 ?_;refine aa.back (IH (i,(i+j) / 2) ⟨by simp only;omega,by simp only;omega,k3,fun m y hm hy=>?_⟩ (by simp only;omega)) ?_
    ·simp only at hm;rcases Nat.lt_or_ge ((i+j) / 2) m with h|h
     ·intro Hq;have h1:=hs ((i+j) / 2) m x y h hx hy;rw[<- xM]at h1;exact hc (Hp h1 Hq)
     ·obtain rfl:m=(i+j) / 2:=by omega
      rw[hx]at hy;cases hy;exact hc
    ·exact sZ
  ·have aL:i=j:=by simp at h5;omega
   subst aL;have only:∀ m y,l[m]?=some y->cE q y=true->m=i:=fun m y hy ha=>by
    rw[<- De,beq_iff_eq]at ha;rcases Nat.lt_trichotomy m i with h|h|h
    ·have:=k3 m y h hy;omega
    ·exact h
    ·obtain⟨x,hx⟩:=bd (l:=l) (k:=i) (by have:=a7 hy;omega);have h1:=hs i m x y h hx hy;rw[<- xM]at h1;have h2:=k4 i x (Nat.le_refl _) hx;have h3:n' x.set.name x.set.type q.name q.type<0:=by
      have e:y.set.name=q.name/\y.set.type=q.type:=by
       have:cE q y=true:=by rw[<- De,beq_iff_eq];exact ha
       simpa [cE]using this
      rw[e.1,e.2]at h1;exact h1
     exact absurd h3 h2
   rcases Nat.lt_or_ge i l.length with hi|hi
   ·obtain⟨x,hx⟩:=bd hi;have di:=hv x (List.mem_of_getElem? hx);have Hr:l.any (cE q)=cE q x:=by
     cases ha:cE q x
     ·rw[<- Bool.not_eq_true,List.any_eq_true];rintro⟨y,hy,Aw⟩;obtain⟨m,hm⟩:=List.getElem?_of_mem hy;obtain rfl:=only m y hm Aw;rw[hx]at hm;cases hm;rw[ha]at Aw;cases Aw
     ·rw[List.any_eq_true];exact⟨x,List.mem_of_getElem? hx,ha⟩
    refine gO F143 ?_;refine aa.draw ag bU 16 2000 (by kernel_rfl) ?_;(conv=>whnf);refine aJ (by simp;omega) ?_;refine gD ?_;refine aD (aU hx) rfl ?_;refine gD ?_
    with_reducible refine bl (NW x q di hq) ?_
    refine gD ?_;refine gS ?_;refine gO F143 ?_;exact⟨⟨i,by omega,by rw[Hr,<- De],only⟩,rfl⟩
   ·have Hr:l.any (cE q)=false:=by
     rw[<- Bool.not_eq_true,List.any_eq_true];rintro⟨y,hy,Aw⟩;obtain⟨m,hm⟩:=List.getElem?_of_mem hy;obtain rfl:=only m y hm Aw;have:=a7 hm;omega
    refine gO F143 ?_;refine aa.draw ag bU 16 2000 (by kernel_rfl) ?_;(conv=>whnf);refine aP (by simp;omega) ?_;refine gD ?_;refine gS ?_;refine gO F143 ?_;exact⟨⟨i,by omega,by rw[Hr],only⟩,rfl⟩
theorem Df(z:aQ)(q:aG)(hl:z.ab.length<=1000000)(hv:∀ s∈z.ab,Nm.valid s.set.name=true)(hq:Nm.valid q.name=true)(hs:fj z.ab) :
  az E 93 [z.enc,q.enc] (fun r=>∃ i:Nat,i<=z.ab.length/\r=.aK [.int .i64 i,.bool (z.ab.any (cE q))]/\∀ j x,z.ab[j]?=some x->cE q x=true->j=i):=by
 refine eP Tryz.func93 ?_;refine sN (Xc z.ab q hl hv hq hs) ?_;rintro r h1 ⟨⟨i,hi,rfl,ho⟩,rfl⟩;refine gO Tryz.func93 ?_;exact⟨i,hi,rfl,ho⟩
theorem Xd{t:Text}(h:Nm.valid t=true):rI t=Nm.ic t:=by
 unfold rI Nm.labels;by_cases hr:t=[46]
 ·subst hr;rfl
 ·rw[if_neg hr];have hp:Nm.parts (Nm.split t)=true:=by
   simp only[Nm.valid,Bool.or_eq_true,decide_eq_true_eq,Bool.and_eq_true]at h;rcases h with h|h
   ·exact absurd h hr
   ·exact h.2
  cases t with
  |nil=>rfl
  |cons c r =>
   by_cases hc:c=46
   ·subst hc;simp[Nm.split,Nm.parts,Nm.label]at hp
   ·obtain⟨x,u,h1,h2⟩:=Nm.rv c r hc;rw[h2]at hp ⊢;simp only[Nm.parts,Bool.and_eq_true,Bool.or_eq_true]at hp;show(c::x==[42])=(c==42);rcases hp.2.1 with hl|hl
    ·have h0:Nm.nS (c::x) 0=true:=by
      simp only[Nm.label,decide_eq_true_eq]at hl;exact hl.2.2 0 (by simp)
     have aM:(c==42)=false:=by
      rw[<- Bool.not_eq_true];intro e;have:c=42:=by simpa using e
      subst this;simp[Nm.nS,Nm.Gv]at h0
     have Gq:c≠42:=by simpa using aM
     rw[aM];simp[Gq]
    ·have:c::x=[42]:=by simpa using hl
     injection this with e1 e2;subst e1;subst e2;rfl
theorem Ax{s z:Text}(hs:Nm.valid s=true)(hz:Nm.valid z=true):Nm.mY s z=Nm.under s z:=by simp[Nm.mY,hs,hz]
theorem NY(z:aQ)(hf:z.Fits):az E 134 [z.enc] (· = .bool (n4 z)):=by
 obtain⟨ad,l⟩:=z;have mb:ad.length<=maxLen:=hf.ad;have gR:∀ s∈l,s.set.Fits:=hf.ab;unfold n4;simp only;cases hv:Nm.valid ad
 ·refine eP F134 ?_
  with_reducible refine aj (lL _ mb) ?_
  refine gO F134 ?_;rw[hv];refine aJ rfl ?_;refine gO F134 ?_;refine bq ?_;refine gO F134 ?_;refine bq ?_;refine gO F134 ?_;simp
 ·have pZ:=dF hv;rw[Xd hv];refine eP F134 ?_
  with_reducible refine aj (lL _ mb) ?_
  refine gO F134 ?_;rw[hv];refine aP rfl ?_;refine gO F134 ?_
  with_reducible refine aj (MG _ _) ?_
  refine gO F134 ?_;rw[show preB ad _=Nm.ic ad from MH ad];cases hw:Nm.ic ad
  case true =>
   refine bq ?_;refine gO F134 ?_;refine bq ?_;refine gO F134 ?_;simp
  refine aV ?_;refine gO F134 ?_;refine ar (fun h3=>?_) (fun h3=>?_)
  ·refine gO F134 ?_;simp only[List.length_map]at h3;rw[h3];simp
  ·simp only[List.length_map]at h3;rw[h3];simp only[Bool.not_false,Bool.true_and];have Nt:l.length<=20000:=by simp at h3;omega
   refine gO F134 ?_;refine aa.loop (κ:=Nat) (rg 2 6++rg 30 44) (fun k=>[(30,.d (.int .i64 k))]) (fun _=>[]) (fun k=>k<=l.length/\chain (fF ad) iA none l=chain (fF ad) iA (cX l k) (l.drop k)/\∀ q,cX l k=some q->fg q.set=true) (fun k=>l.length-k) 0 ⟨Nat.zero_le _,rfl,fun q h=>by simp[cX]at h⟩ ?_ ?_
   ·exact sZ
   ·intro k hk IH;refine aa.head ag F134 2000 ?_;(conv=>whnf);refine ar (fun h5=>?_) (fun h5=>?_)
    ·have ai:k<l.length:=by simpa using h5
     obtain⟨x,hx⟩:=bd ai;have bc:=C1 (ok:=fF ad) (rel:=iA) hx;rw[<- hk.2.1]at bc;have Al:=gR x (List.mem_of_getElem? hx);have p7:cX l (k+1)=some x:=by simp[cX,hx]
     cases hs:fg x.set
     ·refine gO F134 ?_;refine aD (aU hx) rfl ?_;refine gO F134 ?_
      with_reducible refine aj (CT x.set Al) ?_
      refine gO F134 ?_;rw[hs];refine aJ rfl ?_;refine gO F134 ?_;rw[bc,fF,hs];simp
     ·have di:=vC hs;have iT:=dF di;have tj:=Ab x.set.name ad (by unfold maxLen;omega) mb;rw[Ax di hv]at tj;refine gO F134 ?_;refine aD (aU hx) rfl ?_;refine gO F134 ?_
      with_reducible refine aj (CT x.set Al) ?_
      refine gO F134 ?_;rw[hs];refine aP rfl ?_;refine gO F134 ?_
      with_reducible refine aj (tj) ?_
      refine gO F134 ?_;cases hu:Nm.under x.set.name ad
      ·refine aJ rfl ?_;refine gO F134 ?_;rw[bc,fF,hu];simp
      ·have aO:fF ad x=true:=by simp[fF,hs,hu]
       refine aP rfl ?_;refine gO F134 ?_;rcases Nat.eq_zero_or_pos k with dh|dh
       ·have eN:cX l k=none:=by simp[cX,dh]
        rw[eN]at bc;dsimp only at bc;rw[Bool.and_true,aO,Bool.true_and]at bc;refine aJ (by simp[dh]) ?_;refine gO F134 ?_;refine aa.back (IH (k+1) ⟨by omega,bc,fun q hq=>by rw[p7]at hq;cases hq;exact hs⟩ (by omega)) ?_;exact sZ
       ·obtain⟨q,hq,eN⟩:=xA dh hk.1;have rM:=vC (hk.2.2 q eN);rw[eN]at bc;dsimp only at bc;rw[aO,Bool.true_and]at bc;have hc:=NV q.set.name q.set.type x.set.name x.set.type rM di;rw[xM]at hc;refine aP (by simp;omega) ?_;refine gO F134 ?_;refine aD (oV hq dh (by omega)) rfl ?_;refine gO F134 ?_
        with_reducible refine aj (hc) ?_
        refine gO F134 ?_;refine ar (fun h8=>?_) (fun h8=>?_)
        ·have hb:iA q x=false:=by simp at h8;simp[iA];omega
         refine gO F134 ?_;rw[bc,hb,Bool.false_and]
        ·have hb:iA q x=true:=by simp at h8;simp[iA];omega
         refine gO F134 ?_;refine aa.back (IH (k+1) ⟨by omega,by rw[bc,hb,Bool.true_and],fun q hq=>by rw[p7]at hq;cases hq;exact hs⟩ (by omega)) ?_;exact sZ
    ·have aL:l.length<=k:=by simpa using h5
     refine gO F134 ?_;rw[hk.2.1,List.drop_of_length_le aL];rfl
theorem NZ{l:List Signed}{q:aG}:l.any (cE q) = !(decide (aq l q<0)):=by
 unfold aq;cases h:l.findIdx? (cE q)with
 |none =>
  have h1:=List.findIdx?_eq_none_iff.1 h;have:l.any (cE q)=false:=by
   rw[<- Bool.not_eq_true,List.any_eq_true];rintro⟨x,hx,ha⟩;rw[h1 x hx]at ha;cases ha
  rw[this];rfl
 |some i =>
  obtain⟨hi,ha,-⟩:=List.findIdx?_eq_some_iff_getElem.1 h;have:l.any (cE q)=true:=List.any_eq_true.2 ⟨_,List.getElem_mem hi,ha⟩;rw[this];simp
theorem Xe(z:aQ)(hl:z.ab.length<=1000000)(hv:∀ s∈z.ab,Nm.valid s.set.name=true)(hq:Nm.valid z.ad=true)(hs:fj z.ab):az E 135 [z.enc] (· = .bool (rJ z)):=by
 have f1:=Df z ⟨z.ad,4⟩ hl hv hq hs;have f2:=Df z ⟨z.ad,2⟩ hl hv hq hs;obtain⟨ad,l⟩:=z;simp only at *;unfold rJ;simp only[<- NZ];refine eP F135 ?_;refine aa.uZ ?_;refine aa.run ag F135 2000 ?_;(conv=>whnf);refine aJ (by decide) ?_;refine gO F135 ?_;refine fu (.int .i64 4) (by decide) rfl rfl ?_;refine gO F135 ?_
 with_reducible refine uS (f1) ?_
 rintro r ⟨i,-,rfl,-⟩;refine gO F135 ?_;cases h1:l.any (cE ⟨ad,4⟩)
 ·refine aJ rfl ?_;refine gO F135 ?_;rfl
 refine aP rfl ?_;refine gO F135 ?_;refine aa.again ?_;refine aa.run ag F135 2000 ?_;(conv=>whnf);refine aJ (by decide) ?_;refine gO F135 ?_;refine fu (.int .i64 2) (by decide) rfl rfl ?_;refine gO F135 ?_
 with_reducible refine uS (f2) ?_
 rintro r ⟨j,-,rfl,-⟩;refine gO F135 ?_;cases h2:l.any (cE ⟨ad,2⟩)
 ·refine aJ rfl ?_;refine gO F135 ?_;rfl
 refine aP rfl ?_;refine gO F135 ?_;refine aa.again ?_;refine aa.run ag F135 2000 ?_;(conv=>whnf);refine aP (by decide) ?_;refine gO F135 ?_;simp only[Bool.true_and];refine aa.loop (κ:=Nat) ([2,8]++rg 32 17) (fun k=>[(32,.d (.int .i64 k))]) (fun _=>[]) (fun k=>k<=l.length/\(l.take k).all (fun s=>vA s.set.type (s.set.name==ad))=true) (fun k=>l.length-k) 0 ⟨Nat.zero_le _,rfl⟩ ?_ ?_
 ·exact sZ
 ·intro k hk IH;refine aa.head ag F135 2000 ?_;(conv=>whnf);refine ar (fun h5=>?_) (fun h5=>?_)
  ·have ai:k<l.length:=by simpa using h5
   obtain⟨x,hx⟩:=bd ai;refine gO F135 ?_;repeat' (first|with_reducible(first|refine aD (aU hx) rfl ?_|refine aj (NJ _ _) ?_|refine bl (NJ _ _) ?_|refine cY ?_|refine cN ?_|refine ar (fun _=>?_) (fun _=>?_))|refine gA F135 ?_|refine gB ?_|refine gC ?_|with_reducible rfl)
   all_goals first
    |(rw[iV hx (by simp_all)];done)
    |skip
   all_goals
    refine gO F135 ?_;refine aa.back (IH (k+1) ⟨by omega,jI hk.2 hx (by simp_all)⟩ (by omega)) ?_;exact sZ
  ·have aL:l.length<=k:=by simpa using h5
   refine gO F135 ?_;rw[nW hk.2 aL]
def tn(ad:Text)(l:List Signed):List (DV × DV):=l.foldl (fun es s=>if iH ad s then cx (.str s.set.name) (.bool true) es else es) []
theorem Xf{ad:Text}{l:List Signed}{k:Nat}{x:Signed}(h:l[k]?=some x):tn ad (l.take (k+1))=if iH ad x then cx (.str x.set.name) (.bool true) (tn ad (l.take k))else tn ad (l.take k):=by
 rw[ey h,tn,List.foldl_append];rfl
theorem Dg(a b:Text):fc (.str a) (.str b)=(a==b):=rfl
def StrKeys(es:List (DV × DV)):Prop:=∀ p∈es,∃ s,p.1=DV.str s
theorem N0{n:Text}{v:DV}:∀ {es:List (DV × DV)},StrKeys es->StrKeys (cx (.str n) v es)
 |[],_,p,hp=>by simp[cx]at hp;subst hp;exact⟨_,rfl⟩
 |q::es,h,p,hp=>by
  unfold cx at hp;split at hp
  ·rcases List.mem_cons.1 hp with rfl|hp
   ·exact⟨_,rfl⟩
   ·exact h p (List.mem_cons_of_mem _ hp)
  ·rcases List.mem_cons.1 hp with rfl|hp
   ·exact h _ (List.mem_cons_self ..)
   ·exact N0 (fun r hr=>h r (List.mem_cons_of_mem _ hr)) p hp
theorem N1{n m:Text}{v:DV}:∀ {es:List (DV × DV)},StrKeys es->findD (.str m) (cx (.str n) v es)=if m==n then some v else findD (.str m) es
 |[],_=>by simp[cx,findD,Dg]
 |q::es,h=>by
  obtain⟨s,hs⟩:=h q (List.mem_cons_self ..);obtain⟨q1,q2⟩:=q;simp only at hs;subst hs;unfold cx;simp only[Dg];by_cases e:n=s
  ·subst e;simp only[beq_self_eq_true,if_true,findD,Dg];by_cases e2:m=n
   ·simp[e2]
   ·simp[e2]
  ·have ih:=N1 (n:=n) (m:=m) (v:=v) (es:=es) (fun r hr=>h r (List.mem_cons_of_mem _ hr));have e':(n==s)=false:=by simpa using e
   simp only[e',Bool.false_eq_true,if_false,findD,Dg,ih];by_cases e2:m=s
   ·subst e2;have:(m==n)=false:=by simpa using fun h=>e h.symm
    simp[this]
   ·simp[e2]
theorem Ay(ad:Text)(l:List Signed):StrKeys (tn ad l)/\∀ n,findD (.str n) (tn ad l)=if (bO ad l).contains n then some (.bool true)else none:=by
 have main:∀ (l:List Signed) (es:List (DV × DV)) (C:List Text),StrKeys es->(∀ n,findD (.str n) es=if C.contains n then some (.bool true)else none) ->
   StrKeys (l.foldl (fun es s=>if iH ad s then cx (.str s.set.name) (.bool true) es else es) es)/\∀ n,findD (.str n) (l.foldl (fun es s=>if iH ad s then cx (.str s.set.name) (.bool true) es else es) es)=if (C++bO ad l).contains n then some (.bool true)else none:=by
  intro l
  induction l with
  |nil=>intro es C h1 h2;exact⟨h1,by simpa [bO]using h2⟩
  |cons s l ih =>
   intro es C h1 h2;cases hc:iH ad s
   ·have e:bO ad (s::l)=bO ad l:=by simp[bO,hc]
    simp only[List.foldl_cons,hc,Bool.false_eq_true,if_false,e];exact ih es C h1 h2
   ·have e:bO ad (s::l)=s.set.name::bO ad l:=by simp[bO,hc]
    simp only[List.foldl_cons,hc,if_true,e]
    have:=ih (cx (.str s.set.name) (.bool true) es) (C++[s.set.name]) (N0 h1) (fun n=>by
     rw[N1 h1,h2 n];by_cases h:n=s.set.name
     ·simp[h]
     ·simp[h])
    simpa using this
 have:=main l [] [] (fun p hp=>by simp at hp) (fun n=>by simp[findD])
 simpa [tn]using this
def eo(C:List Text)(cut n:Text):Text:=if (if cut != [] && !Nm.under n cut then[]else cut)==[]&&C.contains n then n else(if cut != [] && !Nm.under n cut then[]else cut)
def nj(C:List Text):Text->List Text->List Text
 |_,[]=>[]
 |cut,n::ns=>eo C cut n::nj C (eo C cut n) ns
theorem N2(C:List Text):∀ (k:Text) (ns:List Text),(nj C k ns).length=ns.length
 |_,[]=>rfl
 |k,n::ns=>by simp[nj,N2 C _ ns]
def xN(z:aQ):List Text:=nj (bO z.ad z.ab) [] (z.ab.map (·.set.name))
theorem Xg(z:aQ):(xN z).length=z.ab.length:=by simp[xN,N2]
theorem qc{C:List Text}{cut n:Text}(hn:Nm.valid n=true)(hc:cut=[]\/Nm.valid cut=true):eo C cut n=[]\/Nm.valid (eo C cut n)=true:=by
 cases h:(cut != [] && !Nm.under n cut)
 ·simp only[eo,h,Bool.false_eq_true,if_false];split
  ·exact .inr hn
  ·exact hc
 ·simp only[eo,h,if_true];split
  ·exact .inr hn
  ·exact .inl rfl
theorem Xh(z:aQ)(hl:z.ab.length<=1000000)(hv:∀ s∈z.ab,Nm.valid s.set.name=true):az E 136 [z.enc] (· = As z (xN z)):=by
 have eX:=Xg z;have jF:xN z=nj (bO z.ad z.ab) [] (z.ab.map (·.set.name)):=rfl;generalize xN z=B at *;obtain⟨ad,l⟩:=z;simp only at *;refine eP F136 ?_;refine gO F136 ?_;refine aa.loop (κ:=Nat) ([5]++rg 18 22) (fun k=>[(18,.d (.int .i64 k)),(3,.map 2)]) (fun k=>[(2,.map (tn ad (l.take k)))]) (fun k=>k<=l.length) (fun k=>l.length-k) 0 (Nat.zero_le _) ?_ ?_
 ·(conv=>whnf);repeat (first|exact trivial|(refine And.intro (by first|with_reducible rfl|exact congrArg (DV.int .i64) (by omega)|exact rfl|exact congrArg (DV.int .i64) (wrap64 (by omega) (by omega))|exact congrArg (DV.int .i64) ((wrap64 (by omega) (by omega)).trans (by omega))) ?_;conv=>whnf))
 ·intro k hk IH;refine aa.head ag F136 2000 ?_;(conv=>whnf);refine ar (fun h5=>?_) (fun h5=>?_)
  ·have ai:k<l.length:=by simpa using h5
   obtain⟨x,hx⟩:=bd ai;have bc:=Xf (ad:=ad) hx;have nk:=(Ay ad (l.take k)).1;refine gO F136 ?_;repeat' (first|with_reducible(first|refine aD (aU hx) rfl ?_|refine cY ?_|refine cN ?_|refine ar (fun _=>?_) (fun _=>?_))|refine gA F136 ?_|refine gB ?_|refine gC ?_|with_reducible rfl)
   all_goals first
    |(refine bB ⟨⟨_, rfl⟩, nk⟩ ?_
      have hc : iH ad x=true := by simp_all[iH])
    |(have hc:iH ad x=false:=by simp_all[iH])
   all_goals
    rw[hc]at bc;refine gO F136 ?_;refine aa.back (IH (k+1) (by omega) (by omega)) ?_;(conv=>whnf);repeat (first|exact trivial|(refine sI ?_;conv=>whnf))
    refine And.intro (by rw[bc];simp) ?_;exact sZ
  ·have aL:l.length<=k:=by simpa using h5
   rw[List.take_of_length_le aL];refine gO F136 ?_;refine aa.Uu ag bU (.alt 0 (.alt 1 (.alt 2 (.alt 3 (.alt 4 (.alt 5 (.alt 6 (.alt 7 (.alt 8 .leaf .leaf) .leaf) (.alt 7 (.alt 6 (.alt 8 .leaf .leaf) .leaf) .leaf)) (.alt 7 (.alt 5 (.alt 6 (.alt 8 .leaf .leaf) .leaf) .leaf) .leaf)) (.alt 7 (.alt 4 (.alt 5 (.alt 6 (.alt 8 .leaf .leaf) .leaf) .leaf) .leaf) .leaf)) (.alt 7 (.alt 3 (.alt 4 (.alt 5 (.alt 6 (.alt 8 .leaf .leaf) .leaf) .leaf) .leaf) .leaf) .leaf)) (.alt 7 (.alt 2 (.alt 3 (.alt 4 (.alt 5 (.alt 6 (.alt 8 .leaf .leaf) .leaf) .leaf) .leaf) .leaf) .leaf) .leaf)) (.alt 7 (.alt 1 (.alt 2 (.alt 3 (.alt 4 (.alt 5 (.alt 6 (.alt 8 .leaf .leaf) .leaf) .leaf) .leaf) .leaf) .leaf) .leaf) .leaf)) (.alt 1 (.alt 0 (.alt 2 (.alt 3 (.alt 4 (.alt 5 (.alt 6 (.alt 7 (.alt 8 .leaf .leaf) .leaf) (.alt 7 (.alt 6 (.alt 8 .leaf .leaf) .leaf) .leaf)) (.alt 7 (.alt 5 (.alt 6 (.alt 8 .leaf .leaf) .leaf) .leaf) .leaf)) (.alt 7 (.alt 4 (.alt 5 (.alt 6 (.alt 8 .leaf .leaf) .leaf) .leaf) .leaf) .leaf)) (.alt 7 (.alt 3 (.alt 4 (.alt 5 (.alt 6 (.alt 8 .leaf .leaf) .leaf) .leaf) .leaf) .leaf) .leaf)) (.alt 7 (.alt 2 (.alt 3 (.alt 4 (.alt 5 (.alt 6 (.alt 8 .leaf .leaf) .leaf) .leaf) .leaf) .leaf) .leaf) .leaf)) (.alt 2 (.alt 0 (.alt 3 (.alt 4 (.alt 5 (.alt 6 (.alt 7 (.alt 8 .leaf .leaf) .leaf) (.alt 7 (.alt 6 (.alt 8 .leaf .leaf) .leaf) .leaf)) (.alt 7 (.alt 5 (.alt 6 (.alt 8 .leaf .leaf) .leaf) .leaf) .leaf)) (.alt 7 (.alt 4 (.alt 5 (.alt 6 (.alt 8 .leaf .leaf) .leaf) .leaf) .leaf) .leaf)) (.alt 7 (.alt 3 (.alt 4 (.alt 5 (.alt 6 (.alt 8 .leaf .leaf) .leaf) .leaf) .leaf) .leaf) .leaf)) (.alt 3 (.alt 0 (.alt 4 (.alt 5 (.alt 6 (.alt 7 (.alt 8 .leaf .leaf) .leaf) (.alt 7 (.alt 6 (.alt 8 .leaf .leaf) .leaf) .leaf)) (.alt 7 (.alt 5 (.alt 6 (.alt 8 .leaf .leaf) .leaf) .leaf) .leaf)) (.alt 7 (.alt 4 (.alt 5 (.alt 6 (.alt 8 .leaf .leaf) .leaf) .leaf) .leaf) .leaf)) (.alt 4 (.alt 0 (.alt 5 (.alt 6 (.alt 7 (.alt 8 .leaf .leaf) .leaf) (.alt 7 (.alt 6 (.alt 8 .leaf .leaf) .leaf) .leaf)) (.alt 7 (.alt 5 (.alt 6 (.alt 8 .leaf .leaf) .leaf) .leaf) .leaf)) (.alt 5 (.alt 0 (.alt 6 (.alt 7 (.alt 8 .leaf .leaf) .leaf) (.alt 7 (.alt 6 (.alt 8 .leaf .leaf) .leaf) .leaf)) (.alt 7 (.alt 0 (.alt 6 (.alt 8 .leaf .leaf) .leaf) .leaf) .leaf)) (.alt 7 (.alt 0 (.alt 5 (.alt 6 (.alt 8 .leaf .leaf) .leaf) .leaf) (.alt 5 (.alt 0 (.alt 6 (.alt 8 .leaf .leaf) .leaf) .leaf) .leaf)) .leaf))) (.alt 7 (.alt 0 (.alt 4 (.alt 5 (.alt 6 (.alt 8 .leaf .leaf) .leaf) .leaf) .leaf) (.alt 4 (.alt 0 (.alt 5 (.alt 6 (.alt 8 .leaf .leaf) .leaf) .leaf) (.alt 5 (.alt 0 (.alt 6 (.alt 8 .leaf .leaf) .leaf) .leaf) .leaf)) .leaf)) .leaf))) (.alt 7 (.alt 0 (.alt 3 (.alt 4 (.alt 5 (.alt 6 (.alt 8 .leaf .leaf) .leaf) .leaf) .leaf) .leaf) (.alt 3 (.alt 0 (.alt 4 (.alt 5 (.alt 6 (.alt 8 .leaf .leaf) .leaf) .leaf) .leaf) (.alt 4 (.alt 0 (.alt 5 (.alt 6 (.alt 8 .leaf .leaf) .leaf) .leaf) (.alt 5 (.alt 0 (.alt 6 (.alt 8 .leaf .leaf) .leaf) .leaf) .leaf)) .leaf)) .leaf)) .leaf))) (.alt 7 (.alt 0 (.alt 2 (.alt 3 (.alt 4 (.alt 5 (.alt 6 (.alt 8 .leaf .leaf) .leaf) .leaf) .leaf) .leaf) .leaf) (.alt 2 (.alt 0 (.alt 3 (.alt 4 (.alt 5 (.alt 6 (.alt 8 .leaf .leaf) .leaf) .leaf) .leaf) .leaf) (.alt 3 (.alt 0 (.alt 4 (.alt 5 (.alt 6 (.alt 8 .leaf .leaf) .leaf) .leaf) .leaf) (.alt 4 (.alt 0 (.alt 5 (.alt 6 (.alt 8 .leaf .leaf) .leaf) .leaf) (.alt 5 (.alt 0 (.alt 6 (.alt 8 .leaf .leaf) .leaf) .leaf) .leaf)) .leaf)) .leaf)) .leaf)) .leaf))) (.alt 7 (.alt 0 (.alt 1 (.alt 2 (.alt 3 (.alt 4 (.alt 5 (.alt 6 (.alt 8 .leaf .leaf) .leaf) .leaf) .leaf) .leaf) .leaf) .leaf) (.alt 1 (.alt 0 (.alt 2 (.alt 3 (.alt 4 (.alt 5 (.alt 6 (.alt 8 .leaf .leaf) .leaf) .leaf) .leaf) .leaf) .leaf) (.alt 2 (.alt 0 (.alt 3 (.alt 4 (.alt 5 (.alt 6 (.alt 8 .leaf .leaf) .leaf) .leaf) .leaf) .leaf) (.alt 3 (.alt 0 (.alt 4 (.alt 5 (.alt 6 (.alt 8 .leaf .leaf) .leaf) .leaf) .leaf) (.alt 4 (.alt 0 (.alt 5 (.alt 6 (.alt 8 .leaf .leaf) .leaf) .leaf) (.alt 5 (.alt 0 (.alt 6 (.alt 8 .leaf .leaf) .leaf) .leaf) .leaf)) .leaf)) .leaf)) .leaf)) .leaf)) .leaf))) ?pstate ?qstate (by kernel_rfl) ?tree ?first ?second
   case tree =>
    repeat' ((try conv=>whnf);first
     |with_reducible exact True.intro
     |with_reducible exact ib.fst
     |with_reducible exact ib.snd
     |with_reducible refine bB (by simp;omega) ?_
     |with_reducible refine And.intro ?_ ?_
     |with_reducible refine ib.step ag ?_)
   case first =>
    (conv=>whnf);refine gO F136 ?_;refine aa.loop (κ:=Nat × Text) [7,8,9,10,11,12,51,52,53,54,55,56,57,58,59,60,61,62,63,64,65,66,67,68,69,70,71,72,73,74,75,76,77,78,79,80,81,82] (fun k=>[(51,.d (.int .i64 k.1)),(7,.d (.str k.2))]) (fun k=>[(3,.arr 0 (9,1) ((B.take k.1++List.replicate (l.length-k.1) []).map .str))]) (fun k=>k.1<=l.length/\B.drop k.1=nj (bO ad l) k.2 ((l.drop k.1).map (·.set.name))/\(k.2=[]\/Nm.valid k.2=true)) (fun k=>l.length-k.1) (0,[]) ⟨Nat.zero_le _,by simpa using jF,.inl rfl⟩ ?_ ?_
    ·(conv=>whnf);repeat (first|exact trivial|(refine sI ?_;conv=>whnf))
     refine And.intro (by simp) ?_;exact sZ
    ·rintro⟨i,cut⟩ hk IH;simp only at hk;refine aa.head ag F136 2000 ?_;(conv=>whnf);refine ar (fun h5=>?_) (fun h5=>?_)
     ·have ai:i<l.length:=by simpa using h5
      obtain⟨x,hx⟩:=bd ai;have di:=hv x (List.mem_of_getElem? hx);have iT:=dF di;have Ak:(l.drop i).map (·.set.name)=x.set.name::(l.drop (i+1)).map (·.set.name):=by
       have e1:l[i]=x:=by simpa [ai]using hx
       rw[List.drop_eq_getElem_cons ai,e1];rfl
      obtain⟨-,oW,hcut⟩:=hk;rw[Ak,nj]at oW;have dU:B[i]?=some (eo (bO ad l) cut x.set.name):=by
       have:=congrArg (fun l=>l[0]?) oW
       simpa using this
      have fh:B.drop (i+1)=nj (bO ad l) (eo (bO ad l) cut x.set.name) ((l.drop (i+1)).map (·.set.name)):=by
       have:=congrArg List.tail oW
       simpa using this
      have dq:=(Ay ad l).2 x.set.name;have nk:=(Ay ad l).1;refine gO F136 ?_;refine aD (aU hx) rfl ?_;refine gO F136 ?_;rcases rN:cut with _|⟨c0,Xi⟩
      ·subst rN;refine aP (by simp) ?_;refine gO F136 ?_;refine aJ (by simp) ?_;refine gO F136 ?_;refine jx (.bool false) (.bool false) (v := .bool ((bO ad l).contains x.set.name)) (f:=(bO ad l).contains x.set.name) ⟨_,rfl⟩ nk (fun w=>by kernel_rfl) (fun _ _ => .bool _) (by rw[dq];split<;>simp_all) (by rw[dq];split<;>simp_all) ?_;refine gO F136 ?_;cases o5:(bO ad l).contains x.set.name
       ·refine aV ?_;refine gO F136 ?_;have hS:eo (bO ad l) ([]:Text) x.set.name=[]:=by simp[eo];intro h;exact absurd h (by simpa using o5)
        refine bB ⟨by omega,by simp;omega⟩ ?_;refine gO F136 ?_;refine fu (.str []) (by omega) (by simp only[Int.toNat_natCast,List.getElem?_map];rw[ng eX ai];rfl) rfl ?_;refine gO F136 ?_;refine aa.back (IH (i+1,[]) ⟨by simp only;omega,by rw[hS]at fh;exact fh,by have hq:=qc (C:=bO ad l) di hcut;rw[hS]at hq;exact hq⟩ (by simp only;omega)) ?_;(conv=>whnf);repeat (first|exact trivial|(refine sI ?_;conv=>whnf))
        refine And.intro (by rw[<- nf (e:=[]) (x:=[]) eX (by rw[hS]at dU;exact dU)];simp[List.map_set]) ?_;exact sZ
       ·refine bq ?_;refine gO F136 ?_;have hS:eo (bO ad l) ([]:Text) x.set.name=x.set.name:=by simp[eo];intro h;exact absurd (by simpa using o5) h
        refine bB ⟨by omega,by simp;omega⟩ ?_;refine gO F136 ?_;refine fu (.str []) (by omega) (by simp only[Int.toNat_natCast,List.getElem?_map];rw[ng eX ai];rfl) rfl ?_;refine gO F136 ?_;refine aa.back (IH (i+1,x.set.name) ⟨by simp only;omega,by rw[hS]at fh;exact fh,by have hq:=qc (C:=bO ad l) di hcut;rw[hS]at hq;exact hq⟩ (by simp only;omega)) ?_;(conv=>whnf);repeat (first|exact trivial|(refine sI ?_;conv=>whnf))
        refine And.intro (by rw[<- nf (e:=[]) (x:=x.set.name) eX (by rw[hS]at dU;exact dU)];simp[List.map_set]) ?_;exact sZ
      ·have mL:Nm.valid cut=true:=by
        rcases hcut with h|h
        ·rw[rN]at h;cases h
        ·exact h
       have ez:=dF mL;have tj:=Ab x.set.name cut (by unfold maxLen;omega) (by unfold maxLen;omega);rw[Ax di mL]at tj;rw[<- rN];have aM:cut≠[]:=by rw[rN];simp
       refine aJ (by simpa using aM) ?_;refine gO F136 ?_
       with_reducible refine aj (tj) ?_
       refine gO F136 ?_;cases hu:Nm.under x.set.name cut
       ·refine aJ rfl ?_;refine gO F136 ?_;refine aJ (by simp) ?_;refine gO F136 ?_;refine jx (.bool false) (.bool false) (v := .bool ((bO ad l).contains x.set.name)) (f:=(bO ad l).contains x.set.name) ⟨_,rfl⟩ nk (fun w=>by kernel_rfl) (fun _ _ => .bool _) (by rw[dq];split<;>simp_all) (by rw[dq];split<;>simp_all) ?_;refine gO F136 ?_;cases o5:(bO ad l).contains x.set.name
        ·refine aV ?_;refine gO F136 ?_;have hS:eo (bO ad l) cut x.set.name=[]:=by simp[eo,hu,aM];intro h;exact absurd h (by simpa using o5)
         refine bB ⟨by omega,by simp;omega⟩ ?_;refine gO F136 ?_;refine fu (.str []) (by omega) (by simp only[Int.toNat_natCast,List.getElem?_map];rw[ng eX ai];rfl) rfl ?_;refine gO F136 ?_;refine aa.back (IH (i+1,[]) ⟨by simp only;omega,by rw[hS]at fh;exact fh,by have hq:=qc (C:=bO ad l) di hcut;rw[hS]at hq;exact hq⟩ (by simp only;omega)) ?_;(conv=>whnf);repeat (first|exact trivial|(refine sI ?_;conv=>whnf))
         refine And.intro (by rw[<- nf (e:=[]) (x:=[]) eX (by rw[hS]at dU;exact dU)];simp[List.map_set]) ?_;exact sZ
        ·refine bq ?_;refine gO F136 ?_;have hS:eo (bO ad l) cut x.set.name=x.set.name:=by simp[eo,hu,aM];intro h;exact absurd (by simpa using o5) h
         refine bB ⟨by omega,by simp;omega⟩ ?_;refine gO F136 ?_;refine fu (.str []) (by omega) (by simp only[Int.toNat_natCast,List.getElem?_map];rw[ng eX ai];rfl) rfl ?_;refine gO F136 ?_;refine aa.back (IH (i+1,x.set.name) ⟨by simp only;omega,by rw[hS]at fh;exact fh,by have hq:=qc (C:=bO ad l) di hcut;rw[hS]at hq;exact hq⟩ (by simp only;omega)) ?_;(conv=>whnf);repeat (first|exact trivial|(refine sI ?_;conv=>whnf))
         refine And.intro (by rw[<- nf (e:=[]) (x:=x.set.name) eX (by rw[hS]at dU;exact dU)];simp[List.map_set]) ?_;exact sZ
       ·have hS:eo (bO ad l) cut x.set.name=cut:=by simp[eo,hu,aM]
        refine aP rfl ?_;refine gO F136 ?_;refine aP (by simpa using aM) ?_;refine gO F136 ?_;refine aV ?_;refine gO F136 ?_;refine bB ⟨by omega,by simp;omega⟩ ?_;refine gO F136 ?_;refine fu (.str []) (by omega) (by simp only[Int.toNat_natCast,List.getElem?_map];rw[ng eX ai];rfl) rfl ?_;refine gO F136 ?_;refine aa.back (IH (i+1,cut) ⟨by simp only;omega,by rw[hS]at fh;exact fh,by have hq:=qc (C:=bO ad l) di hcut;rw[hS]at hq;exact hq⟩ (by simp only;omega)) ?_;(conv=>whnf);repeat (first|exact trivial|(refine sI ?_;conv=>whnf))
        refine And.intro (by rw[<- nf (e:=[]) (x:=cut) eX (by rw[hS]at dU;exact dU)];simp[List.map_set]) ?_;exact sZ
     ·have aL:l.length<=i:=by simpa using h5
      refine gO F136 ?_;simp only[show l.length-i=0 by omega,List.replicate_zero,List.append_nil];rw[List.take_of_length_le (by omega)]
   case second =>
    (conv=>whnf);refine gO F136 ?_;refine aa.loop (κ:=Nat × Text) [7,8,9,10,11,12,51,52,53,54,55,56,57,58,59,60,61,62,63,64,65,66,67,68,69,70,71,72,73,74,75,76,77,78,79,80,81,82] (fun k=>[(51,.d (.int .i64 k.1)),(7,.d (.str k.2))]) (fun k=>[(4,.arr 0 (9,1) ((B.take k.1++List.replicate (l.length-k.1) []).map .str))]) (fun k=>k.1<=l.length/\B.drop k.1=nj (bO ad l) k.2 ((l.drop k.1).map (·.set.name))/\(k.2=[]\/Nm.valid k.2=true)) (fun k=>l.length-k.1) (0,[]) ⟨Nat.zero_le _,by simpa using jF,.inl rfl⟩ ?_ ?_
    ·(conv=>whnf);repeat (first|exact trivial|(refine sI ?_;conv=>whnf))
     refine And.intro (by simp) ?_;exact sZ
    ·rintro⟨i,cut⟩ hk IH;simp only at hk;refine aa.head ag F136 2000 ?_;(conv=>whnf);refine ar (fun h5=>?_) (fun h5=>?_)
     ·have ai:i<l.length:=by simpa using h5
      obtain⟨x,hx⟩:=bd ai;have di:=hv x (List.mem_of_getElem? hx);have iT:=dF di;have Ak:(l.drop i).map (·.set.name)=x.set.name::(l.drop (i+1)).map (·.set.name):=by
       have e1:l[i]=x:=by simpa [ai]using hx
       rw[List.drop_eq_getElem_cons ai,e1];rfl
      obtain⟨-,oW,hcut⟩:=hk;rw[Ak,nj]at oW;have dU:B[i]?=some (eo (bO ad l) cut x.set.name):=by
       have:=congrArg (fun l=>l[0]?) oW
       simpa using this
      have fh:B.drop (i+1)=nj (bO ad l) (eo (bO ad l) cut x.set.name) ((l.drop (i+1)).map (·.set.name)):=by
       have:=congrArg List.tail oW
       simpa using this
      have dq:=(Ay ad l).2 x.set.name;have nk:=(Ay ad l).1;refine gO F136 ?_;refine aD (aU hx) rfl ?_;refine gO F136 ?_;rcases rN:cut with _|⟨c0,Xi⟩
      ·subst rN;refine aP (by simp) ?_;refine gO F136 ?_;refine aJ (by simp) ?_;refine gO F136 ?_;refine jx (.bool false) (.bool false) (v := .bool ((bO ad l).contains x.set.name)) (f:=(bO ad l).contains x.set.name) ⟨_,rfl⟩ nk (fun w=>by kernel_rfl) (fun _ _ => .bool _) (by rw[dq];split<;>simp_all) (by rw[dq];split<;>simp_all) ?_;refine gO F136 ?_;cases o5:(bO ad l).contains x.set.name
       ·refine aV ?_;refine gO F136 ?_;have hS:eo (bO ad l) ([]:Text) x.set.name=[]:=by simp[eo];intro h;exact absurd h (by simpa using o5)
        refine bB ⟨by omega,by simp;omega⟩ ?_;refine gO F136 ?_;refine fu (.str []) (by omega) (by simp only[Int.toNat_natCast,List.getElem?_map];rw[ng eX ai];rfl) rfl ?_;refine gO F136 ?_;refine aa.back (IH (i+1,[]) ⟨by simp only;omega,by rw[hS]at fh;exact fh,by have hq:=qc (C:=bO ad l) di hcut;rw[hS]at hq;exact hq⟩ (by simp only;omega)) ?_;(conv=>whnf);repeat (first|exact trivial|(refine sI ?_;conv=>whnf))
        refine And.intro (by rw[<- nf (e:=[]) (x:=[]) eX (by rw[hS]at dU;exact dU)];simp[List.map_set]) ?_;exact sZ
       ·refine bq ?_;refine gO F136 ?_;have hS:eo (bO ad l) ([]:Text) x.set.name=x.set.name:=by simp[eo];intro h;exact absurd (by simpa using o5) h
        refine bB ⟨by omega,by simp;omega⟩ ?_;refine gO F136 ?_;refine fu (.str []) (by omega) (by simp only[Int.toNat_natCast,List.getElem?_map];rw[ng eX ai];rfl) rfl ?_;refine gO F136 ?_;refine aa.back (IH (i+1,x.set.name) ⟨by simp only;omega,by rw[hS]at fh;exact fh,by have hq:=qc (C:=bO ad l) di hcut;rw[hS]at hq;exact hq⟩ (by simp only;omega)) ?_;(conv=>whnf);repeat (first|exact trivial|(refine sI ?_;conv=>whnf))
        refine And.intro (by rw[<- nf (e:=[]) (x:=x.set.name) eX (by rw[hS]at dU;exact dU)];simp[List.map_set]) ?_;exact sZ
      ·have mL:Nm.valid cut=true:=by
        rcases hcut with h|h
        ·rw[rN]at h;cases h
        ·exact h
       have ez:=dF mL;have tj:=Ab x.set.name cut (by unfold maxLen;omega) (by unfold maxLen;omega);rw[Ax di mL]at tj;rw[<- rN];have aM:cut≠[]:=by rw[rN];simp
       refine aJ (by simpa using aM) ?_;refine gO F136 ?_
       with_reducible refine aj (tj) ?_
       refine gO F136 ?_;cases hu:Nm.under x.set.name cut
       ·refine aJ rfl ?_;refine gO F136 ?_;refine aJ (by simp) ?_;refine gO F136 ?_;refine jx (.bool false) (.bool false) (v := .bool ((bO ad l).contains x.set.name)) (f:=(bO ad l).contains x.set.name) ⟨_,rfl⟩ nk (fun w=>by kernel_rfl) (fun _ _ => .bool _) (by rw[dq];split<;>simp_all) (by rw[dq];split<;>simp_all) ?_;refine gO F136 ?_;cases o5:(bO ad l).contains x.set.name
        ·refine aV ?_;refine gO F136 ?_;have hS:eo (bO ad l) cut x.set.name=[]:=by simp[eo,hu,aM];intro h;exact absurd h (by simpa using o5)
         refine bB ⟨by omega,by simp;omega⟩ ?_;refine gO F136 ?_;refine fu (.str []) (by omega) (by simp only[Int.toNat_natCast,List.getElem?_map];rw[ng eX ai];rfl) rfl ?_;refine gO F136 ?_;refine aa.back (IH (i+1,[]) ⟨by simp only;omega,by rw[hS]at fh;exact fh,by have hq:=qc (C:=bO ad l) di hcut;rw[hS]at hq;exact hq⟩ (by simp only;omega)) ?_;(conv=>whnf);repeat (first|exact trivial|(refine sI ?_;conv=>whnf))
         refine And.intro (by rw[<- nf (e:=[]) (x:=[]) eX (by rw[hS]at dU;exact dU)];simp[List.map_set]) ?_;exact sZ
        ·refine bq ?_;refine gO F136 ?_;have hS:eo (bO ad l) cut x.set.name=x.set.name:=by simp[eo,hu,aM];intro h;exact absurd (by simpa using o5) h
         refine bB ⟨by omega,by simp;omega⟩ ?_;refine gO F136 ?_;refine fu (.str []) (by omega) (by simp only[Int.toNat_natCast,List.getElem?_map];rw[ng eX ai];rfl) rfl ?_;refine gO F136 ?_;refine aa.back (IH (i+1,x.set.name) ⟨by simp only;omega,by rw[hS]at fh;exact fh,by have hq:=qc (C:=bO ad l) di hcut;rw[hS]at hq;exact hq⟩ (by simp only;omega)) ?_;(conv=>whnf);repeat (first|exact trivial|(refine sI ?_;conv=>whnf))
         refine And.intro (by rw[<- nf (e:=[]) (x:=x.set.name) eX (by rw[hS]at dU;exact dU)];simp[List.map_set]) ?_;exact sZ
       ·have hS:eo (bO ad l) cut x.set.name=cut:=by simp[eo,hu,aM]
        refine aP rfl ?_;refine gO F136 ?_;refine aP (by simpa using aM) ?_;refine gO F136 ?_;refine aV ?_;refine gO F136 ?_;refine bB ⟨by omega,by simp;omega⟩ ?_;refine gO F136 ?_;refine fu (.str []) (by omega) (by simp only[Int.toNat_natCast,List.getElem?_map];rw[ng eX ai];rfl) rfl ?_;refine gO F136 ?_;refine aa.back (IH (i+1,cut) ⟨by simp only;omega,by rw[hS]at fh;exact fh,by have hq:=qc (C:=bO ad l) di hcut;rw[hS]at hq;exact hq⟩ (by simp only;omega)) ?_;(conv=>whnf);repeat (first|exact trivial|(refine sI ?_;conv=>whnf))
        refine And.intro (by rw[<- nf (e:=[]) (x:=cut) eX (by rw[hS]at dU;exact dU)];simp[List.map_set]) ?_;exact sZ
     ·have aL:l.length<=i:=by simpa using h5
      refine gO F136 ?_;simp only[show l.length-i=0 by omega,List.replicate_zero,List.append_nil];rw[List.take_of_length_le (by omega)]
theorem Dh{a b c:Text}(h:bC a b<=0)(k:bC b c<=0):bC a c<=0:=by
 rcases Int.lt_or_eq_of_le h with h|h
 ·rcases Int.lt_or_eq_of_le k with k|k
  ·exact Int.le_of_lt (qb h k)
  ·rw[<- oZ k];exact Int.le_of_lt h
 ·rw[oZ h];exact k
theorem N3(a:Text):Nm.under a a=true:=by simp[Nm.under]
def ji(l:List Text):Prop:=∀ (i j:Nat) (x y:Text),i<j->l[i]?=some x->l[j]?=some y->bC x y<=0
def tp(l:List Text):Prop:=∀ (i j:Nat) (x y:Text),i<j->l[i]?=some x->l[j]?=some y->Nm.under y x=false
theorem ji.snoc{l:List Text}{c:Text}(h:ji (l++[c])):ji l/\∀ x∈l,bC x c<=0:=by
 refine⟨fun i j x y dA hx hy=>h i j x y dA (by rw[List.getElem?_append_left (a7 hx)];exact hx) (by rw[List.getElem?_append_left (a7 hy)];exact hy),fun x hx=>?_⟩;obtain⟨i,hi⟩:=List.getElem?_of_mem hx;have:=a7 hi;exact h i l.length x c this (by rw[List.getElem?_append_left this];exact hi) (by simp)
theorem vG{α:Type}{l:List α}{c x:α}{i:Nat}(h:(l++[c])[i]?=some x):l[i]?=some x\/(i=l.length/\x=c):=by
 rcases Nat.lt_or_ge i l.length with hi|hi
 ·rw[List.getElem?_append_left hi]at h;exact .inl h
 ·rw[List.getElem?_append_right hi]at h;have h0:i-l.length=0:=by
   have:=a7 h;simp at this;omega
  rw[h0]at h;simp at h;exact .inr ⟨by omega,h.symm⟩
theorem N4:∀ (C:List Text),ji C->ji (fy C)/\tp (fy C)/\(∀ c∈C,∃ d∈fy C,Nm.under c d=true):=by
 have main:∀ (n:Nat) (C:List Text),C.length=n->ji C->ji (fy C)/\tp (fy C)/\(∀ c∈C,∃ d∈fy C,Nm.under c d=true):=by
  intro n
  induction n with
  |zero =>
   intro C hn _;obtain rfl:C=[]:=List.eq_nil_of_length_eq_zero hn;exact⟨fun i j x y _ h=>by simp[fy]at h,fun i j x y _ h=>by simp[fy]at h,fun c h=>by simp at h⟩
  |succ n ih =>
   intro C hn hA;rcases List.eq_nil_or_concat C with rfl|⟨P,c,rfl⟩
   ·simp at hn
   rw[List.concat_eq_append]at *;obtain⟨Xj,Xk⟩:=hA.snoc;obtain⟨i1,i2,i3⟩:=ih P (by simpa using hn) Xj;have e:fy (P++[c])=kT (fy P) c:=by rw[fy,List.foldl_append];rfl
   have hle:∀ d∈fy P,bC d c<=0:=fun d hd=>Xk d (xD d hd);rw[e];generalize fy P=H at *;rcases List.eq_nil_or_concat H with rfl|⟨H0,d,rfl⟩
   ·have e2:kT [] c=[c]:=rfl;rw[e2];refine⟨fun i j x y dA hx hy=>?_,fun i j x y dA hx hy=>?_,fun x hx=>?_⟩
    ·have:=a7 hy;simp at this;omega
    ·have:=a7 hy;simp at this;omega
    ·rcases List.mem_append.1 hx with hx|hx
     ·obtain⟨d,hd,-⟩:=i3 x hx;simp at hd
     ·simp at hx;subst hx;exact⟨x,by simp,N3 x⟩
   ·rw[List.concat_eq_append]at *;have e2:kT (H0++[d]) c=if Nm.under c d then H0++[d]else H0++[d]++[c]:=by simp[kT]
    rw[e2];cases hu:Nm.under c d
    ·simp only[Bool.false_eq_true,if_false];refine⟨fun i j x y dA hx hy=>?_,fun i j x y dA hx hy=>?_,fun x hx=>?_⟩
     ·rcases vG hy with gq|⟨rfl,rfl⟩
      ·rcases vG hx with hx|⟨rfl,rfl⟩
       ·exact i1 i j x y dA hx gq
       ·exact absurd (a7 gq) (by omega)
      ·rcases vG hx with hx|⟨h,-⟩
       ·exact hle x (List.mem_of_getElem? hx)
       ·omega
     ·rcases vG hy with gq|⟨rfl,rfl⟩
      ·rcases vG hx with hx|⟨rfl,rfl⟩
       ·exact i2 i j x y dA hx gq
       ·exact absurd (a7 gq) (by omega)
      ·rcases vG hx with hx|⟨h,-⟩
       ·rcases vG hx with Db|⟨-,rfl⟩
        ·rw[<- Bool.not_eq_true];intro Xl;have hd:(H0++[d])[H0.length]?=some d:=by simp
         have fQ:=a7 Db;have h1:=i1 i H0.length x d fQ hx hd;have h2:=hle d (by simp);have h3:=xL h1 h2 Xl;rw[i2 i H0.length x d fQ hx hd]at h3;cases h3
        ·exact hu
       ·omega
     ·rcases List.mem_append.1 hx with hx|hx
      ·obtain⟨q,hq,Xm⟩:=i3 x hx;exact⟨q,List.mem_append_left _ hq,Xm⟩
      ·simp at hx;subst hx;exact⟨x,by simp,N3 x⟩
    ·simp only[if_true];refine⟨i1,i2,fun x hx=>?_⟩;rcases List.mem_append.1 hx with hx|hx
     ·exact i3 x hx
     ·simp at hx;subst hx;exact⟨d,by simp,hu⟩
 exact fun C=>main C.length C rfl
def rO(H:List Text)(n r:Text):Prop:=(r∈H/\Nm.under n r=true)\/(r=[]/\∀ d∈H,Nm.under n d=false)
theorem N5{H:List Text}(hA:ji H)(hP:tp H){n d e:Text}(hd:d∈H)(he:e∈H)(h1:Nm.under n d=true)(h2:Nm.under n e=true):d=e:=by
 obtain⟨i,hi⟩:=List.getElem?_of_mem hd;obtain⟨j,hj⟩:=List.getElem?_of_mem he;rcases Nat.lt_trichotomy i j with h|h|h
 ·have:=xL (hA i j d e h hi hj) (Au h2) h1;rw[hP i j d e h hi hj]at this;cases this
 ·subst h;rw[hi]at hj;exact Option.some.inj hj
 ·have:=xL (hA j i e d h hj hi) (Au h1) h2;rw[hP j i e d h hj hi]at this;cases this
theorem rO.unique{H:List Text}(hA:ji H)(hP:tp H){n r s:Text}(h1:rO H n r)(h2:rO H n s):r=s:=by
 rcases h1 with⟨a1,a2⟩|⟨a1,a2⟩
 ·rcases h2 with⟨b1,b2⟩|⟨b1,b2⟩
  ·exact N5 hA hP a1 b1 a2 b2
  ·rw[b2 r a1]at a2;cases a2
 ·rcases h2 with⟨b1,b2⟩|⟨b1,b2⟩
  ·rw[a2 s b1]at b2;cases b2
  ·rw[a1,b1]
theorem Hs{α:Type}(p:α->Bool):∀ (l:List α),∀ x∈l.takeWhile p,p x=true
 |[],x,h=>by simp at h
 |a::l,x,h=>by
  rw[List.takeWhile_cons]at h;cases ha:p a
  ·rw[ha]at h;simp at h
  ·rw[ha]at h;rcases List.mem_cons.1 h with rfl|h
   ·exact ha
   ·exact Hs p l x h
theorem N6{α:Type}(p:α->Bool):∀ (l:List α) (x:α),l[(l.takeWhile p).length]?=some x->p x=false
 |[],x,h=>by simp at h
 |a::l,x,h=>by
  rw[List.takeWhile_cons]at h;cases ha:p a
  ·rw[ha]at h;simp at h;rw[<- h];exact ha
  ·rw[ha]at h;exact N6 p l x (by simpa using h)
theorem N7{H:List Text}(hA:ji H)(hP:tp H){n:Text}{k:Nat}(hk:k<=H.length)(vH:∀ m d,m<k->H[m]?=some d->bC d n<=0) :
  rO H n (mq H n (eW H n k))/\(∀ m d,m<eW H n k->H[m]?=some d->bC d n<=0):=by
 have pZ:=C3 (n:=n) hk;have low:∀ m d,m<eW H n k->H[m]?=some d->bC d n<=0:=fun m d hm hd=>by
  rcases Nat.lt_or_ge m k with h|h
  ·exact vH m d h hd
  ·unfold eW at hm;have h1:(H.drop k)[m-k]?=some d:=by rw[List.getElem?_drop,show k+(m-k)=m by omega];exact hd
   have h2:=List.takeWhile_prefix (fun c=>decide (bC c n<=0)) (l:=H.drop k);have h3:((H.drop k).takeWhile fun c=>decide (bC c n<=0))[m-k]?=some d:=by
    obtain⟨r,hr⟩:=h2;rw[<- hr,List.getElem?_append_left (by omega)]at h1;exact h1
   simpa using Hs _ _ d (List.mem_of_getElem? h3)
 have high:∀ m d,eW H n k<=m->H[m]?=some d->Nm.under n d=false:=fun m d hm hd=>by
  rw[<- Bool.not_eq_true];intro hu;have h1:=Au hu;obtain⟨e,he⟩:=bd (l:=H) (k:=eW H n k) (by have:=a7 hd;omega);have h2:bC e n<=0:=by
   rcases Nat.lt_or_ge (eW H n k) m with h|h
   ·exact Dh (hA _ m e d h he hd) h1
   ·obtain rfl:m=eW H n k:=by omega
    rw[he]at hd;cases hd;exact h1
  have h3:(H.drop k)[((H.drop k).takeWhile fun c=>decide (bC c n<=0)).length]?=some e:=by
   rw[List.getElem?_drop];exact he
  have h6:=N6 _ _ e h3;simp at h6;omega
 refine⟨?_,low⟩;generalize eW H n k=j at *;unfold mq;by_cases hj:j=0
 ·rw[if_pos hj];refine .inr ⟨rfl,fun d hd=>?_⟩;obtain⟨m,hm⟩:=List.getElem?_of_mem hd;exact high m d (by omega) hm
 ·rw[if_neg hj];obtain⟨c,hc⟩:=bd (l:=H) (k:=j-1) (by omega);rw[hc];dsimp only;cases hu:Nm.under n c
  ·simp only[Bool.false_eq_true,if_false];refine .inr ⟨rfl,fun d hd=>?_⟩;obtain⟨m,hm⟩:=List.getElem?_of_mem hd;rcases Nat.lt_or_ge m j with h|h
   ·rcases Nat.lt_or_ge m (j-1)with h'|h'
    ·rw[<- Bool.not_eq_true];intro Xn;have:=xL (hA m (j-1) d c h' hm hc) (low (j-1) c (by omega) hc) Xn;rw[hP m (j-1) d c h' hm hc]at this;cases this
    ·obtain rfl:m=j-1:=by omega
     rw[hc]at hm;cases hm;exact hu
   ·exact high m d h hm
  ·simp only[if_true];exact .inl ⟨List.mem_of_getElem? hc,hu⟩
theorem Xo{C H:List Text}(hA:ji H)(hP:tp H)(rP:∀ d∈H,d∈C)(xO:∀ c∈C,∃ d∈H,Nm.under c d=true)(aM:∀ c∈C,c≠[]){cut n:Text}{prev:Option Text}
  (hcut:match prev with|none=>cut=[]|some p=>rO H p cut) (Di:∀ d∈H,bC d n<0->∃ p,prev=some p/\bC d p<=0) (xP:∀ p,prev=some p->bC p n<=0):rO H n (eo C cut n):=by
 have key:∀ d∈H,Nm.under n d=true->d≠n->cut=d:=fun d hd hu o6=>by
  have h1:=Au hu;have h2:bC d n<0:=by
   rcases Int.lt_or_eq_of_le h1 with h|h
   ·exact h
   ·exact absurd (oZ h) o6
  obtain⟨p,hp,kO⟩:=Di d hd h2;have h3:=xL kO (xP p hp) hu;rw[hp]at hcut;exact hcut.unique hA hP (.inl ⟨hd,h3⟩)
 by_cases hc:cut≠[]/\Nm.under n cut=true
 ·have e:eo C cut n=cut:=by simp[eo,hc.1,hc.2]
  rw[e];refine .inl ⟨?_,hc.2⟩;cases prev with
  |none=>exact absurd hcut hc.1
  |some p =>
   rcases hcut with h|h
   ·exact h.1
   ·exact absurd h.1 hc.1
 ·have no:∀ d∈H,Nm.under n d=true->d=n:=fun d hd hu=>by
   apply Classical.byContradiction;intro o6;have:=key d hd hu o6;subst this;exact hc ⟨aM _ (rP _ hd),hu⟩
  have e0:(if cut != [] && !Nm.under n cut then[]else cut)=[]:=by
   by_cases h1:cut=[]
   ·simp[h1]
   ·have:Nm.under n cut=false:=by
     rw[<- Bool.not_eq_true];exact fun h=>hc ⟨h1,h⟩
    simp[h1,this]
  have e:eo C cut n=if C.contains n then n else[]:=by
   simp only[eo,e0];cases C.contains n<;>rfl
  rw[e];cases dW:C.contains n
  ·refine .inr ⟨by simp,fun d hd=>?_⟩;rw[<- Bool.not_eq_true];intro hu;have:=no d hd hu;subst this;have:C.contains d=true:=by simpa using rP d hd
   rw[dW]at this;cases this
  ·simp only[if_true];have hn:n∈C:=by simpa using dW
   obtain⟨d,hd,hu⟩:=xO n hn;have:=no d hd hu;subst this;exact .inl ⟨hd,hu⟩
theorem N8{C H:List Text}(hA:ji H)(hP:tp H)(rP:∀ d∈H,d∈C)(xO:∀ c∈C,∃ d∈H,Nm.under c d=true)(aM:∀ c∈C,c≠[]) :
  ∀ (rest done:List Text) (cut:Text) (k:Nat),ji (done++rest)->(∀ c∈C,c∈done++rest)->k<=H.length->(match done.getLast? with|none=>cut=[]|some p=>rO H p cut)->(∀ m d,m<k->H[m]?=some d->∃ p,done.getLast?=some p/\bC d p<=0)->nj C cut rest=nd H k rest
 |[],_,_,_,_,_,_,_,_=>rfl
 |n::rest,done,cut,k,rQ,aX,hk,hcut,vH=>by
  have xP:∀ p,done.getLast?=some p->bC p n<=0:=fun p hp=>by
   have hl:0<done.length:=by cases done with|nil=>simp at hp|cons=>simp
   rw[List.getLast?_eq_getElem?]at hp;exact rQ (done.length-1) done.length p n (by omega) (by rw[List.getElem?_append_left (by omega)];exact hp) (by simp)
  have Di:∀ d∈H,bC d n<0->∃ p,done.getLast?=some p/\bC d p<=0:=fun d hd o6=>by
   have:=aX d (rP d hd);obtain⟨i,hi⟩:=List.getElem?_of_mem this;have qQ:(done++n::rest)[done.length]?=some n:=by simp
   have ai:i<done.length:=by
    rcases Nat.lt_trichotomy i done.length with h|h|h
    ·exact h
    ·subst h;rw[qQ]at hi;cases hi;rw[kp]at o6;omega
    ·have h1:=rQ done.length i n d h qQ hi;have h2:=xK d n;omega
   rw[List.getElem?_append_left ai]at hi;obtain⟨p,hp⟩:=bd (l:=done) (k:=done.length-1) (by omega);refine⟨p,by rw[List.getLast?_eq_getElem?];exact hp,?_⟩;rcases Nat.lt_or_ge i (done.length-1)with h|h
   ·exact rQ i (done.length-1) d p h (by rw[List.getElem?_append_left ai];exact hi) (by rw[List.getElem?_append_left (by omega)];exact hp)
   ·obtain rfl:i=done.length-1:=by omega
    rw[hp]at hi;cases hi;rw[kp];omega
  have f1:=Xo hA hP rP xO aM hcut Di xP
  obtain⟨f2,f3⟩:=N7 hA hP (n:=n) hk (fun m d hm hd=>by
   obtain⟨p,hp,kO⟩:=vH m d hm hd
   exact Dh kO (xP p hp))
  have e:=f1.unique hA hP f2;simp only[nj,nd,e]
  congr 1
  have ih:=N8 hA hP rP xO aM rest (done++[n]) (mq H n (eW H n k)) (eW H n k) (by simpa using rQ) (by simpa using aX) (C3 hk) (by simpa using f2) (fun m d hm hd=>⟨n,by simp,f3 m d hm hd⟩);exact ih
theorem Xp{a b c:Signed}(h:iA a b=true)(k:iA b c=true):iA a c=true:=by
 simp only[iA,decide_eq_true_eq]at *;rw[<- xM]at *;exact Hp h k
theorem N9{ok:Signed->Bool}:∀ {l:List Signed} {p:Option Signed},chain ok iA p l=true->fj l/\∀ q,p=some q->∀ x∈l,iA q x=true
 |[],p,_=>⟨fun i j x y _ h=>by simp at h,fun q _ x hx=>by simp at hx⟩
 |s::l,p,h=>by
  simp only[chain,Bool.and_eq_true]at h;obtain⟨i1,i2⟩:=N9 h.2;refine⟨fun i j x y dA hx hy=>?_,fun q hq x hx=>?_⟩
  ·cases j with
   |zero=>omega
   |succ j =>
    rw[List.getElem?_cons_succ]at hy;cases i with
    |zero =>
     simp at hx;subst hx
     simpa [iA]using i2 _ rfl y (List.mem_of_getElem? hy)
    |succ i =>
     rw[List.getElem?_cons_succ]at hx;exact i1 i j x y (by omega) hx hy
  ·subst hq;rcases List.mem_cons.1 hx with rfl|hx
   ·exact h.1.2
   ·exact Xp h.1.2 (i2 _ rfl x hx)
theorem Ht{a b:eM}(h:nX a b<0):bC a.name b.name<=0:=by
 unfold nX at h;split at h
 ·omega
 ·rename_i e;simp at e;omega
theorem Dj{l:List Signed}(h:fj l):ji (l.map (·.set.name)):=fun i j x y dA hx hy=>by
 rw[List.getElem?_map]at hx hy;obtain⟨a,ha,rfl⟩:=Option.map_eq_some_iff.1 hx;obtain⟨b,hb,rfl⟩:=Option.map_eq_some_iff.1 hy;exact Ht (h i j a b dA ha hb)
theorem N'{l:List Text}:ji l↔l.Pairwise (fun x y=>bC x y<=0):=by
 rw[List.pairwise_iff_getElem];constructor
 ·exact fun h i j hi hj dA=>h i j _ _ dA (by simp[hi]) (by simp[hj])
 ·intro h i j x y dA hx hy;obtain⟨hi,rfl⟩:=List.getElem?_eq_some_iff.1 hx;obtain⟨hj,rfl⟩:=List.getElem?_eq_some_iff.1 hy;exact h i j hi hj dA
theorem Oa{ad:Text}{l:List Signed}(h:ji (l.map (·.set.name))):ji (bO ad l) :=
 N'.2 ((N'.1 h).sublist (List.Sublist.map _ List.filter_sublist))
theorem Xq{z:aQ}(hs:fj z.ab)(aM:∀ s∈z.ab,s.set.name≠[]):xN z=jh z:=by
 have hA:=Oa (ad:=z.ad) (Dj hs);obtain⟨h1,h2,h3⟩:=N4 _ hA;refine N8 h1 h2 xD h3 (fun c hc=>?_) (z.ab.map (·.set.name)) [] [] 0 (by simpa using Dj hs) (fun c hc=>?_) (Nat.zero_le _) rfl (fun m d hm=>by omega)
 ·obtain⟨s,h,rfl,-⟩:=nZ hc;exact aM s h
 ·obtain⟨s,h,rfl,-⟩:=nZ hc
  simpa using⟨s,h,rfl⟩
def oa(q:Signed)(t:Option Signed):Bool:=match t with|none=>true|some t => !(t.set.name==q.set.name&&t.set.type != 8)
theorem Xr{p:Text}{s:Signed}{t:Option Signed}:th (some p) s t=((s.set.type != 3||p != s.set.name)&&(if s.set.type==3 then oa s t else true)):=by
 unfold th oa;by_cases h:s.set.type=3
 ·simp[h]<;>rfl
 ·have hb:(s.set.type != 3)=true:=by simpa using h
  have hc:(s.set.type==3)=false:=by simpa using h
  simp[hb,hc]
theorem Ob:∀ (l:List Signed) (q:Signed) (al:Text),fj (q::l)->(∀ s∈q::l,s.set.name≠[]/\s.set.type<=8) ->
  ((q.set.type≠3/\(al=[]\/bC al q.set.name<0))\/(al=q.set.name/\q.set.type=3)\/(al=q.set.name/\q.set.type=8)) ->
  ((if q.set.type==3 then oa q l.head? else true)&&kn (some q.set.name) l)=mo al (some q.set.name) l
 |[],q,al,_,_,_=>by simp[oa,kn,mo]
 |s::l,q,al,hs,hn,aT=>by
  have ai:nX q.set s.set<0:=hs 0 1 q s (by omega) rfl rfl;have iD:fj (s::l):=fun i j x y dA hx hy=>hs (i+1) (j+1) x y (by omega) hx hy;have jL:∀ t∈s::l,t.set.name≠[]/\t.set.type<=8:=fun t ht=>hn t (List.mem_cons_of_mem _ ht);have hs8:=(jL s (List.mem_cons_self ..)).2;have o7:=(jL s (List.mem_cons_self ..)).1;have ih:=Ob l s (if s.set.type==3 then s.set.name else al) iD jL;have e1:kn (some q.set.name) (s::l)=((s.set.type != 3||q.set.name != s.set.name)&&((if s.set.type==3 then oa s l.head? else true)&&kn (some s.set.name) l)):=by
   rw[kn,Xr,Bool.and_assoc]
  rw[e1,List.head?_cons,mo];generalize mo (if (s.set.type==3)=true then s.set.name else al) (some s.set.name) l=T at *;generalize ((if s.set.type==3 then oa s l.head? else true)&&kn (some s.set.name) l)=A at *;by_cases o8:q.set.name=s.set.name
  ·have M8:q.set.type<s.set.type:=by
    have:nX q.set s.set=gy q.set.type s.set.type:=by simp[nX,o8,kp]
    rw[this]at ai;unfold gy at ai;split at ai
    ·assumption
    ·split at ai<;>omega
   by_cases h3:s.set.type=3
   ·simp[h3,o8,o7]
   ·have hb:(s.set.type != 3)=true:=by simpa using h3
    have hc:(s.set.type==3)=false:=by simpa using h3
    have hd:(s.set.name != [])=true:=by simpa using o7
    rcases aT with⟨a1,a2⟩|⟨a1,a2⟩|⟨a1,a2⟩
    ·have pZ:al≠s.set.name:=by
      rcases a2 with rfl|a2
      ·exact fun h=>o7 h.symm
      ·rintro rfl;rw[o8,kp]at a2;omega
     have:=ih (.inl ⟨h3,by simpa [h3,<- o8]using a2⟩);rw[this];have Xs:(s.set.name==al)=false:=by simpa using fun h=>pZ h.symm
     have Xt:(q.set.type==3)=false:=by simpa using a1
     simp[hb,hc,hd,Xt,o8,Xs]
    ·by_cases h8:s.set.type=8
     ·have:=ih (.inr (.inr ⟨by simp[h3,a1,o8],h8⟩));rw[this];simp[h8,oa]
     ·have Xu:(s.set.type != 8)=true:=by simpa using h8
      simp[hb,hc,hd,Xu,oa,a1,a2,o8]
    ·omega
  ·have dR:bC q.set.name s.set.name<0:=by
    have:=Ht ai;rcases Int.lt_or_eq_of_le this with h|h
    ·exact h
    ·exact absurd (oZ h) o8
   have:=ih (by
    by_cases h3:s.set.type=3
    ·exact .inr (.inl ⟨by simp[h3],h3⟩)
    ·refine .inl ⟨h3,?_⟩;have e:(if (s.set.type==3)=true then s.set.name else al)=al:=by simp[h3]
     rw[e];rcases aT with⟨-,a|a⟩|⟨a,-⟩|⟨a,-⟩
     ·exact .inl a
     ·exact .inr (qb a dR)
     ·rw[a];exact .inr dR
     ·rw[a];exact .inr dR)
   rw[this];have e2:oa q (some s)=true:=by
    have:(s.set.name==q.set.name)=false:=by simpa using fun h=>o8 h.symm
    simp[oa,this]
   have e3:(q.set.name==s.set.name)=false:=by simpa using o8
   have e4:(q.set.name != s.set.name)=true:=by simpa using o8
   rw[e2,e3,e4];simp
theorem Xv{l:List Signed}(hs:fj l)(hn:∀ s∈l,s.set.name≠[]/\s.set.type<=8):kn none l=mo [] none l:=by
 cases l with
 |nil=>rfl
 |cons s l =>
  have:=Ob l s (if s.set.type==3 then s.set.name else[]) hs hn (by
   by_cases h3:s.set.type=3
   ·exact .inr (.inl ⟨by simp[h3],h3⟩)
   ·exact .inl ⟨h3,.inl (by simp[h3])⟩)
  have e1:kn none (s::l)=((if s.set.type==3 then oa s l.head? else true)&&kn (some s.set.name) l):=by
   rw[kn]
   congr 1
   unfold th oa;by_cases h3:s.set.type=3
   ·simp[h3]<;>rfl
   ·simp[h3]
  rw[e1,this,mo];simp
theorem Oc{ad:Text}:∀ (l:List Signed) (B:List Text),l.length=B.length->((l.zip ((l.zip B).map fun p=>km p.1 p.2)).all fun p=>vD ad p.1 p.2)=(((l.zip B).all fun p=>tg p.1 p.2)&&l.all fun s=>nY s.sigs ad)
 |[],B,_=>by simp
 |s::l,[],h=>by simp at h
 |s::l,b::B,h=>by
  have ih:=Oc (ad:=ad) l B (by simpa using h);simp only[List.zip_cons_cons,List.map_cons,List.all_cons];rw[ih];unfold vD tg;cases nY s.sigs ad<;>cases km s b<;>simp[Bool.and_assoc,Bool.and_left_comm]
theorem Xw{s:eM}(h:fg s=true):s.type<=8:=by
 simp only[fg,Bool.and_eq_true,decide_eq_true_eq]at h;exact h.1.1.1.1.1.2.2
theorem Xx{t:Text}(h:Nm.valid t=true):t≠[]:=by
 rintro rfl
 revert h
 decide
theorem Hu{z:aQ}(h:n4 z=true):fj z.ab/\(∀ s∈z.ab,Nm.valid s.set.name=true)/\(∀ s∈z.ab,s.set.name≠[]/\s.set.type<=8):=by
 obtain⟨-,g2,-⟩:=vE h;simp only[n4,Bool.and_eq_true]at h;have g3:∀ s∈z.ab,fg s.set=true:=fun s hs=>by
  have:=g2 s hs;simp only[fF,Bool.and_eq_true]at this;exact this.1
 exact⟨(N9 h.2).1,fun s hs=>vC (g3 s hs),fun s hs=>⟨Xx (vC (g3 s hs)),Xw (g3 s hs)⟩⟩
theorem Hv(z:aQ)(hf:z.Fits):az E 90 [z.enc] (· = .bool (eF z)):=by
 unfold eF;cases h1:n4 z
 ·have cj:=NY z hf;rw[h1]at cj;refine eP Tryz.func90 ?_;repeat' (first|with_reducible(first|refine aj (cj) ?_|refine bl (cj) ?_|refine cY ?_|refine cN ?_|refine ar (fun _=>?_) (fun _=>?_))|refine gA Tryz.func90 ?_|refine gB ?_|refine gC ?_|with_reducible rfl)
  all_goals simp_all
 ·obtain⟨g1,g2,g3⟩:=vE h1;obtain⟨f1,f2,f3⟩:=Hu h1;have gl:z.ab.length<=1000000:=by omega
  have cj:=NY z hf;rw[h1]at cj;have Hw:=Xh z gl f2;rw[Xq f1 (fun s hs=>(f3 s hs).1)]at Hw;have pZ:=W8 z (jh z) gl;rw[Xv f1 f3]at pZ;have Od:C6 z=(((z.ab.zip (jh z)).all fun p=>tg p.1 p.2)&&z.ab.all fun s=>nY s.sigs z.ad):=Oc _ _ (tf z).symm;rw[Od];have Hy:=WZ z (jh z) (tf z) gl;have Oe:=W5 z (jh z) (tf z) gl;have Gz:=W6 z (jh z) gl;change az E _ _ (· = .bool (Am z))at Hy;generalize ((z.ab.zip (jh z)).all fun p=>tg p.1 p.2)=S at *;generalize (z.ab.all fun s=>nY s.sigs z.ad)=F at *;have Of:=Xe z gl f2 g3 f1;clear Od h1 g1 g2 g3 f1 f2 f3;generalize mo [] none z.ab=T at *;generalize Am z=Fo at *;generalize rJ z=Tw at *;generalize jh z=B at *;refine eP Tryz.func90 ?_;repeat' (first|with_reducible(first|refine aj (cj) ?_|refine bl (cj) ?_|refine aj (Of) ?_|refine bl (Of) ?_|refine aj (Hw) ?_|refine bl (Hw) ?_|refine aj (pZ) ?_|refine bl (pZ) ?_|refine aj (Hy) ?_|refine bl (Hy) ?_|refine aj (Oe) ?_|refine bl (Oe) ?_|refine aj (Gz) ?_|refine bl (Gz) ?_|refine cY ?_|refine cN ?_|refine ar (fun _=>?_) (fun _=>?_))|refine gA Tryz.func90 ?_|refine gB ?_|refine gC ?_|with_reducible rfl)
  all_goals simp_all
end Go.Proofs.YtcmnpelmmekdkaaGreatDoor.P
end
