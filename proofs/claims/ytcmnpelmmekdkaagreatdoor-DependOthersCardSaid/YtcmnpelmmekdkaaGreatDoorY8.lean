/- Several texts of mine, one behind the other. Conditions: as each says. -/
import Derived.Test.YtcmnpelmmekdkaaGreatDoorY7
set_option linter.unusedVariables false
set_option linter.unusedSimpArgs false
section
namespace Go.Proofs.YtcmnpelmmekdkaaGreatDoor.P
open Go Go.ax
set_option maxRecDepth 100000
set_option maxHeartbeats 4000000
theorem MH (t:Text):(Nm.split t).length≤t.length+1:=by
 induction t with
 |nil=>simp [Nm.split]
 |cons c r ih =>
  by_cases hc:c=46
  ·subst hc; simp [Nm.split]; omega
  ·obtain ⟨x,u,h1,h2⟩:=Nm.qU c r hc;rw [h2];rw [h1] at ih;simp at ih ⊢;omega
theorem Vv (t:Text):∀ x∈Nm.split t,x.length≤t.length:=by
 induction t with
 |nil=>simp [Nm.split]
 |cons c r ih =>
  intro x hx;by_cases hc:c=46
  ·subst hc;simp only [Nm.split,if_true] at hx;rcases List.mem_cons.1 hx with rfl | hx
   ·simp
   ·have:=ih x hx; simp; omega
  ·obtain ⟨y,u,h1,h2⟩:=Nm.qU c r hc;rw [h2] at hx;rw [h1] at ih;rcases List.mem_cons.1 hx with rfl | hx
   ·have:=ih y (List.mem_cons_self ..); simp; omega
   ·have:=ih x (List.mem_cons_of_mem _ hx); simp; omega
theorem MI (t:Text) (ht:t.length≤1000):aA E 49 [.str t] (· = .sl ((Nm.split t).map .str)):=by
 refine aA.run aj (fn:=Tryz.f49) Tryz.func49 (body:=Tryz.f49.body.getD .skip) rfl (by decide) 6 ?_;(conv=>whnf);refine aa.qS aj rfl ?_;refine gO Tryz.func49 ?_;refine aa.loop (κ:=Nat) ([3,4]++rg 6 30) (fun k=>[(4,.d (.int .i64 k)),(3,.own 0 1)]) (fun k=>[(0,.arr 1 (9,1) ((Nm.split (t.take k)).map .str))]) (fun k=>k≤t.length) (fun k=>t.length - k) 0 (Nat.zero_le _) ?_ ?_
 ·(conv=>whnf);repeat (first | exact trivial | (refine sI ?_; conv=>whnf))
  refine And.intro (by simp [Nm.split]) ?_;exact sZ
 ·intro k hk IH;have hlen:=MH (t.take k);rw [List.length_take] at hlen;refine aa.head aj Tryz.func49 2000 ?_;(conv=>whnf);refine aw (fun h1=>?_) (fun h1=>?_)
  ·have ai:k<t.length:=by simpa using h1
   obtain ⟨c,hc⟩:=aY ai;refine gO Tryz.func49 ?_;refine tQ c (by omega) (by rw [Int.toNat_natCast]; exact hc) ?_;refine gO Tryz.func49 ?_;refine aw (fun h2=>?_) (fun h2=>?_)
   ·have GI:c=46:=by
     have:(c.toNat:Int)=46:=by simpa using h2
     exact UInt8.toNat_inj.1 (by simp; omega)
    refine gO Tryz.func49 ?_;refine bQ ⟨by simp; omega,by simp [DV.cells]⟩ ?_;refine gO Tryz.func49 ?_;refine aa.back (IH (k+1) (by omega) (by omega)) ?_;(conv=>whnf);repeat (first | exact trivial | (refine sI ?_; conv=>whnf))
    refine And.intro (by rw [Nm.Lw t k c hc GI]; simp) ?_;exact sZ
   ·have GI:c≠46:=by rintro rfl; simp at h2
    obtain ⟨i,x,e1⟩:∃ i x,Nm.split (t.take k)=i++[x]:=⟨_,_,(List.dropLast_concat_getLast (Nm.nC _)).symm⟩;have aR:=Nm.Lx t k c hc GI i x e1;rw [e1] at hlen ⊢;have hw:IntKind.i64.wrap ((((i++[x]).map DV.str).length:Int) - 1)=(i.length:Int):=by
     rw [wrap64 (by simp) (by simp; simp at hlen; omega)]; simp
    refine gO Tryz.func49 ?_;refine aa.draw aj bW 17 2000 (by kernel_rfl) ?_;(conv=>whnf);rw [hw];have dO:((i++[x]).map DV.str)[((i.length:Nat):Int).toNat]? = some (.str x):=by simp
    have MJ:(List.drop (Int.toNat (k:Int)) (List.take (IntKind.i64.wrap ((k:Int)+1)).toNat t))=[c]:=by
     rw [wrap64 (by omega) (by omega),show ((k:Int)+1).toNat=k+1 by omega,Int.toNat_natCast,eI hc];simp [Nat.min_eq_left (Nat.le_of_lt ai)]
    refine bQ ⟨by omega,by simp; omega⟩ ?_;refine gD ?_;refine ee (.str x) (by omega) dO rfl ?_;refine gD ?_;have gu:IntKind.i64.wrap ((k:Int)+1)=(k:Int)+1:=wrap64 (by omega) (by omega);refine bQ ⟨by simp,by simp [gu]; omega,by simp [gu]; omega⟩ ?_;refine gD ?_;have gK:x.length≤1000:=by
     have:=Vv (t.take k) x (by rw [e1]; simp);simp at this;omega
    simp only [Option.getD_some];rw [MJ];refine bQ (by simp; omega) ?_;refine gD ?_;refine bQ ⟨by omega,by simp; omega⟩ ?_;refine gD ?_;refine gS ?_;refine ee (.str x) (by omega) dO rfl ?_;refine gS ?_;refine gO Tryz.func49 ?_;refine aa.back (IH (k+1) (by omega) (by omega)) ?_;(conv=>whnf);repeat (first | exact trivial | (refine sI ?_; conv=>whnf))
    refine And.intro (by rw [aR]; simp [List.set_append_right]) ?_;exact sZ
  ·have aP:k=t.length:=by simp at h1; omega
   subst aP;refine gO Tryz.func49 ?_;simp
theorem GJ (t:Text) (ht:t.length≤1000):aA E 47 [.str t] (· = .sl ((Nm.labels t).map .str)):=by
 refine aA.norm ?_;refine eP Tryz.func47 ?_;repeat' (first | with_reducible refine ar (MI _ ht) ?_ | with_reducible refine bg (MI _ ht) ?_ | with_reducible refine cY ?_ | with_reducible refine cN ?_ | with_reducible refine aw (fun _=>?_) (fun _=>?_) | refine gA Tryz.func47 ?_ | refine gB ?_ | refine gC ?_ | with_reducible rfl)
 all_goals simp_all [Nm.labels,norm]
theorem CI (t z:Text) (ht:t.length≤1000) (hz:z.length≤1000):aA E 157 [.str t,.str z] (· = .bool (Nm.under t z)) :=
 Gy (g:=fun t z => .bool (Nm.under t z)) t z ⟨_,Tryz.func157,rfl,by decide⟩ fun w=>(TY ⟨t.toArray⟩ ⟨z.toArray⟩ w (by simpa [ByteArray.size] using ht) (by simpa [ByteArray.size] using hz)).mono fun e w' ⟨h1,h2⟩=>⟨_,h1,fun _ _=>by
  simp only [jS]
  exact .bool _,h2⟩
def rf (t:Text):Bool:=match Nm.labels t with
 | []=>false
 |x::_=>x==[42]
theorem GK (t:Text) (ht:t.length≤1000):aA E 118 [.str t] (· = .bool (rf t)):=by
 unfold rf;refine eP Tryz.func118 ?_
 with_reducible refine ar (GJ _ ht) ?_
 refine gO Tryz.func118 ?_;cases hl:Nm.labels t with
 |nil =>
  refine aI (by simp) ?_;refine gO Tryz.func118 ?_
  with_reducible rfl
 |cons x l =>
  refine aM (by simp) ?_;refine gO Tryz.func118 ?_;refine ee (.str x) (by decide) rfl rfl ?_;refine gO Tryz.func118 ?_
  with_reducible rfl
def cmpL:List Text→List Text→Int
 | [],[]=>0
 | [],_::_ => -1
 |_::_,[]=>1
 |x::l,y::m=>if Op.bytesLess x y then -1 else if x==y then cmpL l m else 1
def bA (a b:Text):Int:=cmpL (Nm.labels a).reverse (Nm.labels b).reverse
theorem rev_at {α:Type} {l:List α} {k:Nat} (hk:k<l.length):∃ x,l[l.length - (k+1)]? = some x∧l.reverse.drop k=x::l.reverse.drop (k+1):=by
 have h1:l.length - (k+1)<l.length:=by omega
 refine ⟨l[l.length - (k+1)],by simp [h1],?_⟩;rw [List.drop_eq_getElem_cons (by simpa using hk)]
 congr 1
 simp only [List.getElem_reverse]
 congr 1
 omega
theorem MK (t:Text):(Nm.labels t).length≤t.length+1:=by
 unfold Nm.labels;split
 ·simp
 ·exact MH t
theorem GL (a b:Text) (ha:a.length≤1000) (hb:b.length≤1000):aA E 20 [.str a,.str b] (· = .int .i64 (bA a b)):=by
 have hla:=MK a;have py:=MK b;unfold bA;refine eP Tryz.func20 ?_
 with_reducible refine ar (GJ _ ha) ?_
 refine gO Tryz.func20 ?_
 with_reducible refine ar (GJ _ hb) ?_
 refine gO Tryz.func20 ?_;generalize Nm.labels a=l at *;generalize Nm.labels b=m at *;refine aa.loop (κ:=Nat) ([4,7,8,9]++rg 14 32) (fun k=>[(7,.d (.int .i64 (k+1)))]) (fun _=>[]) (fun k=>k≤l.length∧k≤m.length∧cmpL l.reverse m.reverse=cmpL (l.reverse.drop k) (m.reverse.drop k)) (fun k=>l.length - k) 0 ⟨Nat.zero_le _,Nat.zero_le _,rfl⟩ ?_ ?_
 ·exact sZ
 ·intro k hk IH;refine aa.head aj Tryz.func20 2000 ?_;(conv=>whnf);refine aw (fun h1=>?_) (fun h1=>?_)
  ·refine gO Tryz.func20 ?_;refine aw (fun h2=>?_) (fun h2=>?_)
   ·have fT:k<l.length:=by simp at h1; omega
    have pF:k<m.length:=by simp at h2; omega
    obtain ⟨x,hx,w7⟩:=rev_at fT;obtain ⟨y,hy,zQ⟩:=rev_at pF;have CJ:IntKind.i64.wrap ((l.length:Int) - (k+1))=((l.length - (k+1):Nat):Int):=by rw [wrap64 (by omega) (by omega)]; omega
    have Gn:IntKind.i64.wrap ((m.length:Int) - (k+1))=((m.length - (k+1):Nat):Int):=by rw [wrap64 (by omega) (by omega)]; omega
    have hc:=hk.2.2;rw [w7,zQ] at hc;refine gO Tryz.func20 ?_;simp only [List.length_map];rw [CJ];refine ee (.str x) (by omega) (ln hx) rfl ?_;refine gO Tryz.func20 ?_;simp only [List.length_map];rw [Gn];refine ee (.str y) (by omega) (ln hy) rfl ?_;refine gO Tryz.func20 ?_;refine aw (fun h3=>?_) (fun h3=>?_)
    ·refine gO Tryz.func20 ?_;rw [hc,cmpL,if_pos h3]
    ·refine gO Tryz.func20 ?_;refine aw (fun h4=>?_) (fun h4=>?_)
     ·refine gO Tryz.func20 ?_;rw [hc,cmpL,if_neg (by rw [h3]; decide),if_neg (by simp [h3] at h4; simpa using h4)]
     ·refine gO Tryz.func20 ?_;refine aa.back (IH (k+1) ⟨by omega,by omega,by rw [hc,cmpL,if_neg (by rw [h3]; decide),if_pos (by simpa [h3] using h4)]⟩ (by omega)) ?_;exact sZ
   ·have fT:k<l.length:=by simp at h1; omega
    have pF:k=m.length:=by simp at h2; omega
    obtain ⟨x,hx,w7⟩:=rev_at fT;have hc:=hk.2.2;rw [w7,List.drop_of_length_le (l:=m.reverse) (by simp; omega),cmpL] at hc;refine gO Tryz.func20 ?_;refine aI (by simp; omega) ?_;refine gO Tryz.func20 ?_;refine aM (by simp; omega) ?_;refine gO Tryz.func20 ?_;rw [hc]
  ·have fT:k=l.length:=by simp at h1; omega
   have hc:=hk.2.2;rw [List.drop_of_length_le (l:=l.reverse) (by simp; omega)] at hc;refine gO Tryz.func20 ?_;refine ba ?_;refine gO Tryz.func20 ?_;refine aw (fun h2=>?_) (fun h2=>?_)
   ·have pF:k<m.length:=by simp at h2; omega
    obtain ⟨y,hy,zQ⟩:=rev_at pF;rw [zQ,cmpL] at hc;refine gO Tryz.func20 ?_;rw [hc]
   ·have pF:k=m.length:=by simp at h2; omega
    rw [List.drop_of_length_le (l:=m.reverse) (by simp; omega),cmpL] at hc;refine gO Tryz.func20 ?_;refine aI (by simp; omega) ?_;refine gO Tryz.func20 ?_;rw [hc]
theorem ML (a b:Text) (ha:Nm.valid a=true) (hb:Nm.valid b=true):aA E 227 [.str a,.str b] (· = .aL [.int .i64 (bA a b),.int .i64 0]):=by
 have h1:=fF ha;have h2:=fF hb;refine eP Tryz.func227 ?_
 with_reducible refine ar (fY _ (by unfold maxLen; omega)) ?_
 refine gO Tryz.func227 ?_
 with_reducible refine ar (fY _ (by unfold maxLen; omega)) ?_
 refine gO Tryz.func227 ?_;rw [ha,hb];refine aI (by decide) ?_;refine gO Tryz.func227 ?_;refine aI (by decide) ?_;refine gO Tryz.func227 ?_
 with_reducible refine ar (GL _ _ (by omega) (by omega)) ?_
 refine gO Tryz.func227 ?_
 with_reducible rfl
def nJ (a b:eu):Int:=if bA a.name b.name≠0 then bA a.name b.name else fZ a.type b.type
theorem MM (a b:eu) (ha:Nm.valid a.name=true) (hb:Nm.valid b.name=true):aA E 189 [a.enc,b.enc] (· = .int .i64 (nJ a b)):=by
 refine eP Tryz.func189 ?_;repeat' (first | with_reducible refine ar (ML _ _ ha hb) ?_ | with_reducible refine bg (ML _ _ ha hb) ?_ | with_reducible refine cY ?_ | with_reducible refine cN ?_ | with_reducible refine aw (fun _=>?_) (fun _=>?_) | refine gA Tryz.func189 ?_ | refine gB ?_ | refine gC ?_ | with_reducible rfl)
 all_goals simp_all [nJ,fZ]
 all_goals omega
end Go.Proofs.YtcmnpelmmekdkaaGreatDoor.P
end
section
namespace Go.Proofs.YtcmnpelmmekdkaaGreatDoor.P
open Go Go.ax
set_option maxRecDepth 100000
set_option maxHeartbeats 4000000
theorem GM {α:Type} {a b:List α} {k:Nat} {x y:α} (h:a.take k=b.take k) (ha:a[k]? = some x) (hb:b[k]? = some y) (e:x=y):a.take (k+1)=b.take (k+1):=by
 subst e;rw [eI ha,eI hb,h]
theorem GN {α:Type} {a b:List α} {k:Nat} (h:a.take k=b.take k) (ha:a.length≤k) (hb:b.length≤k):a=b:=by
 rwa [List.take_of_length_le ha,List.take_of_length_le hb] at h
theorem GQ {α:Type} {a b:List α} {k:Nat} {x y:α} (ha:a[k]? = some x) (hb:b[k]? = some y) (e:x≠y):a≠b:=by
 rintro rfl;rw [ha] at hb;cases hb;exact e rfl
def CK (a b:Datum):Bool:=(a.text==b.text&&(a.n==b.n&&(a.m==b.m&&true)))
theorem MN {a b:Datum}:CK a b=true↔a=b:=by
 obtain ⟨a1,a2,a3⟩:=a;obtain ⟨b1,b2,b3⟩:=b;simp [CK]
theorem Vw (a b:eu) (ha:a.data.length≤2147483648):aA E 155 [a.enc,b.enc] (· = .bool (decide (a=b))):=by
 obtain ⟨an,at',al,ad⟩:=a;obtain ⟨bn,bt,bl,bd⟩:=b;simp only at ha;refine eP Tryz.func155 ?_;repeat' (first | with_reducible refine cY ?_ | with_reducible refine cN ?_ | with_reducible refine aw (fun _=>?_) (fun _=>?_) | refine gA Tryz.func155 ?_ | refine gB ?_ | refine gC ?_ | with_reducible rfl)
 all_goals try (simp_all; done)
 case' refine_2.refine_2.refine_2.refine_1 =>
  rename_i h4;rw [decide_eq_false];intro h;have:=congrArg (fun s:eu=>s.data.length) h;simp only at this;simp [this] at h4
 all_goals
  rename_i h1 h2 h3 h4;simp only [bne_eq_false_iff_eq,Bool.not_eq_false',beq_iff_eq,List.length_map] at h1 h2 h3 h4;subst h1;subst h2;subst h3;have hl:ad.length=bd.length:=by omega
  rw [show decide (eu.mk an at' al ad=eu.mk an at' al bd)=decide (ad=bd) by simp];refine gO Tryz.func155 ?_;refine aa.loop (κ:=Nat) ([4,5]++rg 34 18) (fun k=>[(5,.d (.int .i64 k))]) (fun _=>[]) (fun k=>k≤ad.length∧ad.take k=bd.take k) (fun k=>ad.length - k) 0 ⟨Nat.zero_le _,rfl⟩ ?_ ?_
  ·exact sZ
  ·intro k hk IH;refine aa.head aj Tryz.func155 2000 ?_;(conv=>whnf);refine aw (fun h5=>?_) (fun h5=>?_)
   ·have ai:k<ad.length:=by simpa using h5
    obtain ⟨x,hx⟩:=aY ai;obtain ⟨y,hy⟩:=aY (l:=bd) (k:=k) (by omega);refine gO Tryz.func155 ?_;refine aa.draw aj bW 11 2000 (by kernel_rfl) ?_;(conv=>whnf);refine ee x.enc (by omega) (ln hx) rfl ?_;refine gD ?_;refine ee y.enc (by omega) (ln hy) rfl ?_;refine gD ?_;refine gS ?_;refine gO Tryz.func155 ?_;refine aw (fun h6=>?_) (fun h6=>?_)
    ·have aJ:x≠y:=fun e=>by
      have:=MN.2 e;simp [CK] at this;simp [this] at h6
     refine gO Tryz.func155 ?_;rw [decide_eq_false (GQ hx hy aJ)]
    ·have he:x=y:=MN.1 (by simpa [CK] using h6);refine gO Tryz.func155 ?_;refine aa.back (IH (k+1) ⟨by omega,GM hk.2 hx hy he⟩ (by omega)) ?_;exact sZ
   ·have aP:k=ad.length:=by simp at h5; omega
    refine gO Tryz.func155 ?_;rw [decide_eq_true (GN hk.2 (by omega) (by omega))]
theorem Vx (a b:Signed) (ha:a.set.data.length≤2147483648) (hs:a.sigs.length≤2147483648):aA E 102 [a.enc,b.enc] (· = .bool (decide (a=b))):=by
 obtain ⟨CL,ad⟩:=a;obtain ⟨CM,bd⟩:=b;simp only at ha hs;rw [show decide (Signed.mk CL ad=Signed.mk CM bd)=(decide (CL=CM)&&decide (ad=bd)) by simp];have MO:=Vw CL CM ha;generalize decide (CL=CM)=q at MO ⊢;refine eP Tryz.func102 ?_
 with_reducible refine ar (MO) ?_
 refine gO Tryz.func102 ?_;cases q
 ·refine aM rfl ?_;refine gO Tryz.func102 ?_;refine bq ?_;refine gO Tryz.func102 ?_;rfl
 ·refine aI rfl ?_;refine gO Tryz.func102 ?_;refine aw (fun h4=>?_) (fun h4=>?_)
  ·refine gO Tryz.func102 ?_;rw [decide_eq_false]
   ·rfl
   ·rintro rfl;simp at h4
  ·simp only [bne_eq_false_iff_eq,List.length_map] at h4;have hl:ad.length=bd.length:=by omega
   rw [Bool.true_and];refine gO Tryz.func102 ?_;refine aa.loop (κ:=Nat) ([4,5]++rg 21 18) (fun k=>[(5,.d (.int .i64 k))]) (fun _=>[]) (fun k=>k≤ad.length∧ad.take k=bd.take k) (fun k=>ad.length - k) 0 ⟨Nat.zero_le _,rfl⟩ ?_ ?_
   ·exact sZ
   ·intro k hk IH;refine aa.head aj Tryz.func102 2000 ?_;(conv=>whnf);refine aw (fun h5=>?_) (fun h5=>?_)
    ·have ai:k<ad.length:=by simpa using h5
     obtain ⟨x,hx⟩:=aY ai;obtain ⟨y,hy⟩:=aY (l:=bd) (k:=k) (by omega);refine gO Tryz.func102 ?_;refine aa.draw aj bW 11 2000 (by kernel_rfl) ?_;(conv=>whnf);refine ee x.enc (by omega) (ln hx) rfl ?_;refine gD ?_;refine ee y.enc (by omega) (ln hy) rfl ?_;refine gD ?_;refine gS ?_;refine gO Tryz.func102 ?_;refine aw (fun h6=>?_) (fun h6=>?_)
     ·have aJ:x≠y:=fun e=>by
       have:=Mq.2 e;simp [Cz] at this;simp [this] at h6
      refine gO Tryz.func102 ?_;rw [decide_eq_false (GQ hx hy aJ)]
     ·have he:x=y:=Mq.1 (by simpa [Cz] using h6);refine gO Tryz.func102 ?_;refine aa.back (IH (k+1) ⟨by omega,GM hk.2 hx hy he⟩ (by omega)) ?_;exact sZ
    ·have aP:k=ad.length:=by simp at h5; omega
     refine gO Tryz.func102 ?_;rw [decide_eq_true (GN hk.2 (by omega) (by omega))]
structure Signed.uL (s:Signed):Prop where
 data:s.set.data.length≤2147483648
 sigs:s.sigs.length≤2147483648
theorem Vy (a b:List Signed) (hl:a.length≤2147483648) (ha:∀ s∈a,s.uL):aA E 64 [zH a,zH b] (· = .bool (decide (a=b))):=by
 refine eP Tryz.func64 ?_;refine aw (fun h4=>?_) (fun h4=>?_)
 ·refine gO Tryz.func64 ?_;rw [decide_eq_false];rintro rfl;simp at h4
 ·simp only [bne_eq_false_iff_eq,List.length_map] at h4;have mN:a.length=b.length:=by omega
  refine gO Tryz.func64 ?_;refine aa.loop (κ:=Nat) ([4,5]++rg 11 16) (fun k=>[(5,.d (.int .i64 k))]) (fun _=>[]) (fun k=>k≤a.length∧a.take k=b.take k) (fun k=>a.length - k) 0 ⟨Nat.zero_le _,rfl⟩ ?_ ?_
  ·exact sZ
  ·intro k hk IH;refine aa.head aj Tryz.func64 2000 ?_;(conv=>whnf);refine aw (fun h5=>?_) (fun h5=>?_)
   ·have ai:k<a.length:=by simpa using h5
    obtain ⟨x,hx⟩:=aY ai;obtain ⟨y,hy⟩:=aY (l:=b) (k:=k) (by omega);have gK:=ha x (List.mem_of_getElem? hx);refine gO Tryz.func64 ?_;refine aa.draw aj bW 10 2000 (by kernel_rfl) ?_;(conv=>whnf);refine ee x.enc (by omega) (ln hx) rfl ?_;refine gD ?_;refine ee y.enc (by omega) (ln hy) rfl ?_;refine gD ?_
    with_reducible refine bg (Vx x y gK.data gK.sigs) ?_
    refine gD ?_;refine gS ?_;refine gO Tryz.func64 ?_;refine aw (fun h6=>?_) (fun h6=>?_)
    ·have aJ:x≠y:=by simpa using h6
     refine gO Tryz.func64 ?_;rw [decide_eq_false (GQ hx hy aJ)]
    ·have he:x=y:=by simpa using h6
     refine gO Tryz.func64 ?_;refine aa.back (IH (k+1) ⟨by omega,GM hk.2 hx hy he⟩ (by omega)) ?_;exact sZ
   ·have aP:k=a.length:=by simp at h5; omega
    refine gO Tryz.func64 ?_;rw [decide_eq_true (GN hk.2 (by omega) (by omega))]
structure aU.uL (z:aU):Prop where
 af:z.af.length≤2147483648
 each:∀ s∈z.af,s.uL
end Go.Proofs.YtcmnpelmmekdkaaGreatDoor.P
end
section
namespace Go.Proofs.YtcmnpelmmekdkaaGreatDoor.P
open Go Go.ax
set_option maxRecDepth 100000
set_option maxHeartbeats 4000000
def nK (l:List DV) (n:Int) (e:DV):Prop:=0≤n∧l[n.toNat]? = some e
theorem aF {l:List DV} {sz:Nat} {n:Int} {K:DV→Prop} {e:DV} (h:nK l n e) (hs:e.cells.length=sz) (k:K e):rZ l sz n K:=ee e h.1 h.2 hs k
theorem a7 {α:Type} {f:α→DV} {l:List α} {k:Nat} {x:α} (h:l[k]? = some x):nK (l.map f) (k:Int) (f x):=⟨by omega,ln h⟩
theorem uM {α:Type} {f:α→DV} {l:List α} {x:α} (h:l[0]? = some x):nK (l.map f) 0 (f x):=⟨by omega,by simp [h]⟩
theorem oG {α:Type} {f:α→DV} {l:List α} {k:Nat} {x:α} (h:l[k - 1]? = some x) (h0:0<k) (hb:k≤4294967296):nK (l.map f) (IntKind.i64.wrap ((k:Int) - 1)) (f x):=by
 have:IntKind.i64.wrap ((k:Int) - 1)=((k - 1:Nat):Int):=by rw [wrap64 (by omega) (by omega)]; omega
 rw [this];exact a7 h
theorem at_next {α:Type} {f:α→DV} {l:List α} {k:Nat} {x:α} (h:l[k+1]? = some x) (hb:k≤4294967296):nK (l.map f) (IntKind.i64.wrap ((k:Int)+1)) (f x):=by
 have:IntKind.i64.wrap ((k:Int)+1)=((k+1:Nat):Int):=by rw [wrap64 (by omega) (by omega)]; omega
 rw [this];exact a7 h
def chain {α:Type} (ok:α→Bool) (rel:α→α→Bool):Option α→List α→Bool
 |_,[]=>true
 |p,x::l=>ok x&&(match p with | none=>true | some q=>rel q x)&&chain ok rel (some x) l
def cT {α:Type} (l:List α) (k:Nat):Option α:=if k=0 then none else l[k - 1]?
theorem CN {α:Type} {ok:α→Bool} {rel:α→α→Bool} {l:List α} {k:Nat} {x:α} (hx:l[k]? = some x):chain ok rel (cT l k) (l.drop k)=(ok x&&(match cT l k with | none=>true | some q=>rel q x)&&chain ok rel (cT l (k+1)) (l.drop (k+1))):=by
 have hk:=aZ hx;rw [List.drop_eq_getElem_cons hk];have e1:l[k]=x:=by simpa [hk] using hx
 have e2:cT l (k+1)=some x:=by simp [cT,hx]
 rw [e1,e2];rfl
theorem w8 {α:Type} {l:List α} {k:Nat} (h0:0<k) (hk:k≤l.length):∃ q,l[k - 1]? = some q∧cT l k=some q:=by
 obtain ⟨q,hq⟩:=aY (l:=l) (k:=k - 1) (by omega);exact ⟨q,hq,by simp [cT,hq]; omega⟩
def ga (ab:Text) (g0 g:gW):Bool:=(g.ay==ab)&&decide (1≤g.key)&&decide (g.key≤1000000)&&decide (1≤g.nE)&&decide (g.nE≤3)&&(g.oD==g0.oD)&&(g.upto==g0.upto)&&decide (0≤g.oD)&&decide (g.oD≤g.upto)&&decide (g.upto≤20000000)
def jT (q g:gW):Bool:=decide (q.key<g.key)
def nL (l:List gW) (ab:Text):Bool:=decide ((l.length:Int)≤6)&&chain (ga ab (l.headD Cy)) jT none l
theorem MP {l:List gW} {k:Nat} (h:k<l.length):l[0]? = some (l.headD Cy):=by
 cases l with
 |nil=>simp at h
 |cons x l=>rfl
theorem MQ (l:List gW) (ab:Text):aA E 193 [Gx l,.str ab] (· = .bool (nL l ab)):=by
 unfold nL;have hg:∃ g0,g0=l.headD Cy:=⟨_,rfl⟩;obtain ⟨g0,hg⟩:=hg;rw [← hg];refine eP Tryz.func193 ?_;refine aw (fun h1=>?_) (fun h1=>?_)
 ·refine gO Tryz.func193 ?_;simp only [List.length_map] at h1;rw [decide_eq_false (by simp at h1; omega),Bool.false_and]
 ·have h6:l.length≤6:=by simp at h1; omega
  rw [decide_eq_true (by omega),Bool.true_and];refine gO Tryz.func193 ?_;refine aa.loop (κ:=Nat) ([4,5,6]++rg 10 82) (fun k=>[(5,.d (.int .i64 k))]) (fun _=>[]) (fun k=>k≤l.length∧chain (ga ab g0) jT none l=chain (ga ab g0) jT (cT l k) (l.drop k)) (fun k=>l.length - k) 0 ⟨Nat.zero_le _,rfl⟩ ?_ ?_
  ·exact sZ
  ·intro k hk IH;refine aa.head aj Tryz.func193 2000 ?_;(conv=>whnf);refine aw (fun h5=>?_) (fun h5=>?_)
   ·have ai:k<l.length:=by simpa using h5
    obtain ⟨x,hx⟩:=aY ai;have h0:=MP ai;rw [← hg] at h0;have aX:=CN (ok:=ga ab g0) (rel:=jT) hx;rw [← hk.2] at aX;refine gO Tryz.func193 ?_;refine aF (a7 hx) rfl ?_;refine gO Tryz.func193 ?_;refine aa.draw aj bW 57 2000 (by kernel_rfl) ?_;(conv=>whnf);rcases Nat.eq_zero_or_pos k with df | df
    ·have eE:cT l k=none:=by simp [cT,df]
     rw [eE] at aX;dsimp only at aX;rw [Bool.and_true] at aX;repeat' (first | with_reducible refine aF (a7 hx) rfl ?_ | with_reducible refine aF (uM h0) rfl ?_ | with_reducible refine cY ?_ | with_reducible refine cN ?_ | with_reducible refine aw (fun _=>?_) (fun _=>?_) | refine gA Tryz.func193 ?_ | refine gB ?_ | refine gC ?_ | with_reducible rfl)
     all_goals first
      |(have dQ : ga ab g0 x = false := by clear aX hk IH hg; simp_all [ga, jT, cT] <;> (intros; omega)
        rw [aX, dQ, Bool.false_and]
        done)
      |(exfalso; clear aX hk IH hg; simp_all; done)
      |skip
     all_goals
      refine gO Tryz.func193 ?_;refine aa.back (IH (k+1) ⟨by omega,by rw [aX,show ga ab g0 x=true by clear aX hk IH hg; simp_all [ga,jT,cT] <;> omega,Bool.true_and]⟩ (by omega)) ?_;exact sZ
    ·obtain ⟨q,hq,eE⟩:=w8 df hk.1;rw [eE] at aX;repeat' (first | with_reducible refine aF (a7 hx) rfl ?_ | with_reducible refine aF (uM h0) rfl ?_ | with_reducible refine aF (oG hq df (by omega)) rfl ?_ | with_reducible refine cY ?_ | with_reducible refine cN ?_ | with_reducible refine aw (fun _=>?_) (fun _=>?_) | refine gA Tryz.func193 ?_ | refine gB ?_ | refine gC ?_ | with_reducible rfl)
     all_goals first
      |(have dQ : (ga ab g0 x && jT q x) = false := by clear aX hk IH hg; simp_all [ga, jT, cT] <;> (intros; omega)
        rw [aX, dQ, Bool.false_and]
        done)
      |(exfalso; clear aX hk IH hg; simp_all; done)
      |skip
     all_goals
      refine gO Tryz.func193 ?_;refine aa.back (IH (k+1) ⟨by omega,by rw [aX,show (ga ab g0 x&&jT q x)=true by clear aX hk IH hg; simp_all [ga,jT,cT] <;> omega,Bool.true_and]⟩ (by omega)) ?_;exact sZ
   ·have aP:l.length≤k:=by simpa using h5
    refine gO Tryz.func193 ?_;rw [hk.2,List.drop_of_length_le aP];rfl
def uN (t:Int) (ab:Bool):Bool:=if ab then t != 3&&t != 6 else t != 4&&t != 7
theorem MR (t:Int) (ab:Bool):aA E 190 [.int .i64 t,.bool ab] (· = .bool (uN t ab)):=by
 refine eP Tryz.func190 ?_;repeat' (first | with_reducible refine cY ?_ | with_reducible refine cN ?_ | with_reducible refine aw (fun _=>?_) (fun _=>?_) | refine gA Tryz.func190 ?_ | refine gB ?_ | refine gC ?_ | with_reducible rfl)
 all_goals simp_all [uN]
structure aS where
 name:Text
 type:Int
 deriving DecidableEq
@[reducible] def aS.enc (q : aS) : DV := .agg [.str q.name, .int .i64 q.type]
def dp (q:aS) (s:Signed):Bool:=s.set.name==q.name&&s.set.type==q.type
def aO (l:List Signed) (q:aS):Int:=match l.findIdx? (dp q) with
 |some i=>i
 |none => -1
theorem MS {l:List Signed} {q:aS} {k:Nat} {x:Signed} (h:∀ j y,j<k→l[j]? = some y→dp q y=false) (hx:l[k]? = some x) (hq:dp q x=true):aO l q=k:=by
 have:l.findIdx? (dp q)=some k:=by
  rw [List.findIdx?_eq_some_iff_getElem];have hk:=aZ hx;refine ⟨hk,?_,fun j hj=>?_⟩
  ·have:l[k]=x:=by simpa [hk] using hx
   rw [this]; exact hq
  ·have:=h j l[j] hj (by simp);rw [this]; decide
 rw [aO,this]
theorem Vz {l:List Signed} {q:aS} (h:∀ j y,j<l.length→l[j]? = some y→dp q y=false):aO l q = -1:=by
 have:l.findIdx? (dp q)=none:=by
  rw [List.findIdx?_eq_none_iff];intro x hx;obtain ⟨j,hj⟩:=List.getElem?_of_mem hx;exact h j x (aZ hj) hj
 rw [aO,this]
theorem CO (z:aU) (q:aS) (hl:z.af.length≤2147483648):aA E 22 [z.enc,q.enc] (· = .int .i64 (aO z.af q)):=by
 obtain ⟨ab,l⟩:=z;simp only at hl ⊢;refine eP Tryz.func22 ?_;refine aa.loop (κ:=Nat) (rg 4 32) (fun k=>[(5,.d (.int .i64 k))]) (fun _=>[]) (fun k=>k≤l.length∧∀ j y,j<k→l[j]? = some y→dp q y=false) (fun k=>l.length - k) 0 ⟨Nat.zero_le _,fun j y h=>by omega⟩ ?_ ?_
 ·exact sZ
 ·intro k hk IH;refine aa.head aj Tryz.func22 2000 ?_;(conv=>whnf);refine aw (fun h5=>?_) (fun h5=>?_)
  ·have ai:k<l.length:=by simpa using h5
   obtain ⟨x,hx⟩:=aY ai;refine gO Tryz.func22 ?_;refine aa.draw aj bW 22 2000 (by kernel_rfl) ?_;(conv=>whnf);repeat' (first | with_reducible refine aF (a7 hx) rfl ?_ | with_reducible refine cY ?_ | with_reducible refine cN ?_ | with_reducible refine aw (fun _=>?_) (fun _=>?_) | refine gA Tryz.func22 ?_ | refine gB ?_ | refine gC ?_ | with_reducible rfl)
   all_goals first
    |(rw [MS hk.2 hx (by simp_all [dp])]; done)
    |skip
   all_goals
    refine gO Tryz.func22 ?_;refine aa.back (IH (k+1) ⟨by omega,fun j y hj hy=>?_⟩ (by omega)) ?_
    ·rcases Nat.lt_or_ge j k with h | h
     ·exact hk.2 j y h hy
     ·obtain rfl:j=k:=by omega
      rw [hx] at hy;cases hy;simp_all [dp]
    ·exact sZ
  ·have aP:k=l.length:=by simp at h5; omega
   subst aP;refine gO Tryz.func22 ?_;rw [Vz hk.2]
end Go.Proofs.YtcmnpelmmekdkaaGreatDoor.P
end
section
namespace Go.Proofs.YtcmnpelmmekdkaaGreatDoor.P
open Go Go.ax
set_option maxRecDepth 100000
set_option maxHeartbeats 4000000
def w9 (s:Signed):Bool := !(decide ((s.set.data.length:Int)>20)) && !(decide ((s.sigs.length:Int)>20))
def xa (z:aU):Bool:=(z.af.take 101).all w9&&decide ((z.af.length:Int)≤100)
theorem VA (z:aU):aA E 30 [z.enc] (· = .bool (xa z)):=by
 obtain ⟨ab,l⟩:=z;unfold xa;simp only;refine eP Tryz.func30 ?_;refine aa.loop (κ:=Nat) (rg 2 32) (fun k=>[(3,.d (.int .i64 k))]) (fun _=>[]) (fun k=>k≤l.length∧k≤101∧(l.take k).all w9=true) (fun k=>l.length - k) 0 ⟨Nat.zero_le _,by omega,rfl⟩ ?_ ?_
 ·exact sZ
 ·intro k hk IH;refine aa.head aj Tryz.func30 2000 ?_;(conv=>whnf);refine aw (fun h5=>?_) (fun h5=>?_)
  ·have ai:k<l.length:=by simpa using h5
   obtain ⟨x,hx⟩:=aY ai;refine gO Tryz.func30 ?_;refine aw (fun h6=>?_) (fun h6=>?_)
   ·have MT:k≤100:=by simp at h6; omega
    have gF:(l.take 101)[k]? = some x:=by rw [List.getElem?_take,if_pos (by omega)]; exact hx
    refine gO Tryz.func30 ?_;repeat' (first | with_reducible refine aF (a7 hx) rfl ?_ | with_reducible refine cY ?_ | with_reducible refine cN ?_ | with_reducible refine aw (fun _=>?_) (fun _=>?_) | refine gA Tryz.func30 ?_ | refine gB ?_ | refine gC ?_ | with_reducible rfl)
    all_goals first
     |(rw [iI gF (by simp_all [w9]),Bool.false_and]; done)
     |skip
    all_goals
     refine gO Tryz.func30 ?_;refine aa.back (IH (k+1) ⟨by omega,by omega,jx hk.2.2 hx (by simp_all [w9])⟩ (by omega)) ?_;exact sZ
   ·have MT:k=101:=by simp at h6; omega
    subst MT;refine gO Tryz.func30 ?_;rw [hk.2.2,Bool.true_and];simp
  ·have aP:k=l.length:=by simp at h5; omega
   refine gO Tryz.func30 ?_;refine ba ?_;refine gO Tryz.func30 ?_;rw [show (l.take 101).all w9=true by rw [List.take_of_length_le (by omega)]; exact nI hk.2.2 (by omega),Bool.true_and];simp
def rh (z:aU):Bool := !(decide (aO z.af ⟨z.ab,4⟩<0)) && !(decide (aO z.af ⟨z.ab,2⟩<0))&&z.af.all fun s=>uN s.set.type (s.set.name==z.ab)
theorem MU (z:aU) (hl:z.af.length≤2147483648):aA E 121 [z.enc] (· = .bool (rh z)):=by
 obtain ⟨ab,l⟩:=z;simp only at hl;have h1:=CO ⟨ab,l⟩ ⟨ab,4⟩ hl;have h2:=CO ⟨ab,l⟩ ⟨ab,2⟩ hl;refine eP Tryz.func121 ?_;repeat' (first | with_reducible refine ar (h1) ?_ | with_reducible refine bg (h1) ?_ | with_reducible refine ar (h2) ?_ | with_reducible refine bg (h2) ?_ | with_reducible refine cY ?_ | with_reducible refine cN ?_ | with_reducible refine aw (fun _=>?_) (fun _=>?_) | refine gA Tryz.func121 ?_ | refine gB ?_ | refine gC ?_ | with_reducible rfl)
 all_goals try (simp_all [rh]; done)
 all_goals
  rename_i h3 h4;simp only [rh,h3,h4,Bool.not_false,Bool.true_and];refine gO Tryz.func121 ?_;refine aa.loop (κ:=Nat) ([2,3]++rg 18 26) (fun k=>[(3,.d (.int .i64 k))]) (fun _=>[]) (fun k=>k≤l.length∧(l.take k).all (fun s=>uN s.set.type (s.set.name==ab))=true) (fun k=>l.length - k) 0 ⟨Nat.zero_le _,rfl⟩ ?_ ?_
  ·exact sZ
  ·intro k hk IH;refine aa.head aj Tryz.func121 2000 ?_;(conv=>whnf);refine aw (fun h5=>?_) (fun h5=>?_)
   ·have ai:k<l.length:=by simpa using h5
    obtain ⟨x,hx⟩:=aY ai;refine gO Tryz.func121 ?_;refine aa.draw aj bW 19 2000 (by kernel_rfl) ?_;(conv=>whnf);repeat' (first | with_reducible refine aF (a7 hx) rfl ?_ | with_reducible refine ar (MR _ _) ?_ | with_reducible refine bg (MR _ _) ?_ | with_reducible refine cY ?_ | with_reducible refine cN ?_ | with_reducible refine aw (fun _=>?_) (fun _=>?_) | refine gA Tryz.func121 ?_ | refine gB ?_ | refine gC ?_ | with_reducible rfl)
    all_goals first
     |(rw [iI hx (by simp_all)]; done)
     |skip
    all_goals
     refine gO Tryz.func121 ?_;refine aa.back (IH (k+1) ⟨by omega,jx hk.2 hx (by simp_all)⟩ (by omega)) ?_;exact sZ
   ·have aP:l.length≤k:=by simpa using h5
    refine gO Tryz.func121 ?_;rw [nI hk.2 aP]
def l8:Text→Option Text→List Signed→Bool
 |_,_,[]=>true
 |al,p,s::l=>(match p with
   |none=>true
   |some n=>if n==s.set.name then !((s.set.name != []&&s.set.type==3)||(s.set.name != []&&(s.set.name==if s.set.type==3 then s.set.name else al)&&s.set.type != 3&&s.set.type != 8)) else true)
  && l8 (if s.set.type==3 then s.set.name else al) (some s.set.name) l
theorem VB {al : Text} {l : List Signed} {k : Nat} {x : Signed} (hx : l[k]? = some x) : l8 al (cT (l.map (·.set.name)) k) (l.drop k) = ((match cT (l.map (·.set.name)) k with
      | none => true
      | some n => if n == x.set.name then !((x.set.name != [] && x.set.type == 3) || (x.set.name != [] && (x.set.name == if x.set.type == 3 then x.set.name else al) && x.set.type != 3 && x.set.type != 8)) else true)
  && l8 (if x.set.type==3 then x.set.name else al) (cT (l.map (·.set.name)) (k+1)) (l.drop (k+1))):=by
 have hk:=aZ hx;rw [List.drop_eq_getElem_cons hk];have e1:l[k]=x:=by simpa [hk] using hx
 have e2:cT (l.map (·.set.name)) (k+1)=some x.set.name:=by simp [cT,hx]
 rw [e1,e2];rfl
theorem MV (z:aU) (hl:z.af.length≤2147483648):aA E 122 [z.enc] (· = .bool (l8 [] none z.af)):=by
 obtain ⟨ab,l⟩:=z;simp only at hl ⊢;refine eP Tryz.func122 ?_;refine aa.loop (κ:=Nat × Text) [2,3,4,5,6,7,8,9,10,11,12,13,14,15,16,17,18,19,20,21,22,23,24,25,26,27,28,29,30,31,32,33,34,35,36,37,38,39,40,41,42,43,44,45,46,47,48,49,50,51,52,53,54,55,56,57,58,59,60,61,62,63,64,65,66,67,68,69,70,71,72,73,74,75,76,77,78,79,80,81,82,83,84,85] (fun k=>[(4,.d (.int .i64 k.1)),(3,.d (.str k.2))]) (fun _=>[]) (fun k=>k.1≤l.length∧l8 [] none l=l8 k.2 (cT (l.map (·.set.name)) k.1) (l.drop k.1)) (fun k=>l.length - k.1) (0,[]) ⟨Nat.zero_le _,rfl⟩ ?_ ?_
 ·exact sZ
 ·rintro ⟨k,al⟩ hk IH;simp only at hk;refine aa.head aj Tryz.func122 2000 ?_;(conv=>whnf);refine aw (fun h5=>?_) (fun h5=>?_)
  ·have ai:k<l.length:=by simpa using h5
   obtain ⟨x,hx⟩:=aY ai;have aX:=VB (al:=al) hx;rw [← hk.2] at aX;refine gO Tryz.func122 ?_;refine aF (a7 hx) rfl ?_;refine gO Tryz.func122 ?_;refine aw (fun h6=>?_) (fun h6=>?_);all_goals
    rcases Nat.eq_zero_or_pos k with df | df
    ·have eE:cT (l.map (·.set.name)) k=none:=by simp [cT,df]
     rw [eE] at aX;refine gO Tryz.func122 ?_;repeat' (first | with_reducible refine aF (a7 hx) rfl ?_ | with_reducible refine cY ?_ | with_reducible refine cN ?_ | with_reducible refine aw (fun _=>?_) (fun _=>?_) | refine gA Tryz.func122 ?_ | refine gB ?_ | refine gC ?_ | with_reducible rfl)
     refine gO Tryz.func122 ?_;refine aa.draw aj bW 20 2000 (by kernel_rfl) ?_;(conv=>whnf);repeat' (first | with_reducible refine aF (a7 hx) rfl ?_ | with_reducible refine cY ?_ | with_reducible refine cN ?_ | with_reducible refine aw (fun _=>?_) (fun _=>?_) | refine gA Tryz.func122 ?_ | refine gB ?_ | refine gC ?_ | with_reducible rfl)
     all_goals first
      |(exfalso; clear aX hk IH; simp_all; done)
      |skip
     all_goals
      refine gO Tryz.func122 ?_;refine aa.back (IH (k+1,if x.set.type==3 then x.set.name else al) ⟨by simp only; omega,by simp only; rw [aX]; simp⟩ (by simp only; omega)) ?_;(conv=>whnf);repeat (first | exact trivial | (refine And.intro (by first | with_reducible rfl | exact congrArg (DV.int .i64) (by omega) | exact congrArg DV.str (by simp [h6]) | exact congrArg (DV.int .i64) (wrap64 (by omega) (by omega)) | exact congrArg (DV.int .i64) ((wrap64 (by omega) (by omega)).trans (by omega))) ?_; conv=>whnf))
    ·obtain ⟨q,hq,-⟩:=w8 df hk.1;have eE:cT (l.map (·.set.name)) k=some q.set.name:=by simp [cT,hq]; omega
     rw [eE] at aX;refine gO Tryz.func122 ?_;repeat' (first | with_reducible refine aF (a7 hx) rfl ?_ | with_reducible refine aF (oG hq df (by omega)) rfl ?_ | with_reducible refine cY ?_ | with_reducible refine cN ?_ | with_reducible refine aw (fun _=>?_) (fun _=>?_) | refine gA Tryz.func122 ?_ | refine gB ?_ | refine gC ?_ | with_reducible rfl)
     refine gO Tryz.func122 ?_;refine aa.draw aj bW 20 2000 (by kernel_rfl) ?_;(conv=>whnf);repeat' (first | with_reducible refine aF (a7 hx) rfl ?_ | with_reducible refine aF (oG hq df (by omega)) rfl ?_ | with_reducible refine cY ?_ | with_reducible refine cN ?_ | with_reducible refine aw (fun _=>?_) (fun _=>?_) | refine gA Tryz.func122 ?_ | refine gB ?_ | refine gC ?_ | with_reducible rfl)
     all_goals first
      |(rw [aX]; clear aX hk IH; simp_all; done)
      |(exfalso; clear aX hk IH; simp_all; done)
      |skip
     all_goals
      refine gO Tryz.func122 ?_;refine aa.back (IH (k+1,if x.set.type==3 then x.set.name else al) ⟨by simp only; omega,by simp only; rw [aX]; clear aX hk IH; simp_all⟩ (by simp only; omega)) ?_;(conv=>whnf);repeat (first | exact trivial | (refine And.intro (by first | with_reducible rfl | exact congrArg (DV.int .i64) (by omega) | exact congrArg DV.str (by simp [h6]) | exact congrArg (DV.int .i64) (wrap64 (by omega) (by omega)) | exact congrArg (DV.int .i64) ((wrap64 (by omega) (by omega)).trans (by omega))) ?_; conv=>whnf))
  ·have aP:l.length≤k:=by simpa using h5
   refine gO Tryz.func122 ?_;rw [hk.2,List.drop_of_length_le aP];rfl
end Go.Proofs.YtcmnpelmmekdkaaGreatDoor.P
end
section
namespace Go.Proofs.YtcmnpelmmekdkaaGreatDoor.P
open Go Go.ax
set_option maxRecDepth 100000
set_option maxHeartbeats 4000000
def ir (ab:Text) (s:Signed):Bool:=s.set.type==2&&s.set.name != ab
def bN (ab:Text) (l:List Signed):List Text:=(l.filter (ir ab)).map (·.set.name)
theorem VC {ab:Text} {l:List Signed} {k:Nat} {x:Signed} (h:l[k]? = some x):bN ab (l.take (k+1))=bN ab (l.take k)++(if ir ab x then [x.set.name] else []):=by
 rw [eI h];simp only [bN,List.filter_append,List.map_append]
 congr 1
 cases hc:ir ab x <;> simp [hc]
theorem GR (ab:Text) (l:List Signed):(bN ab l).length≤l.length:=by
 simp only [bN,List.length_map];exact List.length_filter_le _ _
theorem oH {ab:Text} {l:List Signed} {c:Text} (h:c∈bN ab l):∃ s∈l,s.set.name=c∧ir ab s=true:=by
 simp only [bN,List.mem_map,List.mem_filter] at h;obtain ⟨s,⟨h1,h2⟩,h3⟩:=h;exact ⟨s,h1,h3,h2⟩
theorem VE (z:aU) (hl:z.af.length≤1000000000):aA E 214 [z.enc] (· = .sl ((bN z.ab z.af).map .str)):=by
 obtain ⟨ab,l⟩:=z;simp only at hl ⊢;refine eP Tryz.func214 ?_;refine aa.rY 3 (9,1) (by decide) rfl ?_;(conv=>whnf);refine aa.loop (κ:=Nat) (rg 3 31) (fun k=>[(4,.d (.int .i64 k)),(3,.own 1 1)]) (fun k=>[(1,.arr 1 (9,1) ((bN ab (l.take k)).map .str))]) (fun k=>k≤l.length) (fun k=>l.length - k) 0 (Nat.zero_le _) ?_ ?_
 ·(conv=>whnf);repeat (first | exact trivial | (refine And.intro (by first | with_reducible rfl | exact congrArg (DV.int .i64) (by omega) | exact rfl | exact congrArg (DV.int .i64) (wrap64 (by omega) (by omega)) | exact congrArg (DV.int .i64) ((wrap64 (by omega) (by omega)).trans (by omega))) ?_; conv=>whnf))
 ·intro k hk IH;have eh:=GR ab (l.take k);rw [List.length_take] at eh;refine aa.head aj Tryz.func214 2000 ?_;(conv=>whnf);refine aw (fun h5=>?_) (fun h5=>?_)
  ·have ai:k<l.length:=by simpa using h5
   obtain ⟨x,hx⟩:=aY ai;have aX:=VC (ab:=ab) hx;refine gO Tryz.func214 ?_;repeat' (first | with_reducible refine aF (a7 hx) rfl ?_ | with_reducible refine cY ?_ | with_reducible refine cN ?_ | with_reducible refine aw (fun _=>?_) (fun _=>?_) | refine gA Tryz.func214 ?_ | refine gB ?_ | refine gC ?_ | with_reducible rfl)
   all_goals first
    |(refine bQ ⟨by simp; omega, by simp [DV.cells]⟩ ?_
      have hc : ir ab x = true := by simp_all [ir])
    |(have hc:ir ab x=false:=by simp_all [ir])
   all_goals
    rw [hc] at aX;refine gO Tryz.func214 ?_;refine aa.back (IH (k+1) (by omega) (by omega)) ?_;(conv=>whnf);repeat (first | exact trivial | (refine sI ?_; conv=>whnf))
    refine And.intro (by rw [aX]; simp) ?_;exact sZ
  ·have aP:l.length≤k:=by simpa using h5
   refine gO Tryz.func214 ?_;rw [List.take_of_length_le aP]
def kC (out:List Text) (c:Text):List Text:=match out.getLast? with
 |none=>out++[c]
 |some d=>if Nm.under c d then out else out++[c]
def fe (l:List Text):List Text:=l.foldl kC []
theorem VF {l:List Text} {k:Nat} {x:Text} (h:l[k]? = some x):fe (l.take (k+1))=kC (fe (l.take k)) x:=by
 rw [eI h,fe,List.foldl_append];rfl
theorem VG (o:List Text) (c:Text):(kC o c).length≤o.length+1:=by
 unfold kC;split
 ·simp
 ·split <;> simp
theorem MW (l:List Text):(fe l).length≤l.length:=by
 have:∀ (l o:List Text),(l.foldl kC o).length≤o.length+l.length:=by
  intro l
  induction l with
  |nil=>simp
  |cons x l ih=>intro o; have:=ih (kC o x); have:=VG o x; simp; omega
 have:=this l []
 simpa [fe] using this
theorem xb {l:List Text}:∀ c∈fe l,c∈l:=by
 have:∀ (l o:List Text),∀ c∈l.foldl kC o,c∈o∨c∈l:=by
  intro l
  induction l with
  |nil=>intro o c h; exact .inl h
  |cons x l ih =>
   intro o c h;rcases ih (kC o x) c h with h | h
   ·have:c∈o∨c=x:=by
     unfold kC at h;split at h
     ·simpa using h
     ·split at h
      ·exact .inl h
      ·simpa using h
    rcases this with h | h
    ·exact .inl h
    ·exact .inr (by simp [h])
   ·exact .inr (List.mem_cons_of_mem _ h)
 intro c h;rcases this l [] c h with h | h
 ·simp at h
 ·exact h
theorem VH (z:aU) (hl:z.af.length≤1000000000) (hn:∀ s∈z.af,s.set.name.length≤1000):aA E 228 [z.enc] (· = .sl ((fe (bN z.ab z.af)).map .str)):=by
 have eB:∀ c∈bN z.ab z.af,c.length≤1000:=fun c hc=>by
  obtain ⟨s,h1,rfl,-⟩:=oH hc;exact hn s h1
 have eh:=GR z.ab z.af;refine eP Tryz.func228 ?_
 with_reducible refine ar (VE z hl) ?_
 refine gO Tryz.func228 ?_;generalize bN z.ab z.af=l at *;refine aa.rY 4 (9,1) (by decide) rfl ?_;(conv=>whnf);refine aa.loop (κ:=Nat) ([4,5]++rg 8 30) (fun k=>[(5,.d (.int .i64 k)),(4,.own 1 1)]) (fun k=>[(1,.arr 1 (9,1) ((fe (l.take k)).map .str))]) (fun k=>k≤l.length) (fun k=>l.length - k) 0 (Nat.zero_le _) ?_ ?_
 ·(conv=>whnf);repeat (first | exact trivial | (refine And.intro (by first | with_reducible rfl | exact congrArg (DV.int .i64) (by omega) | exact rfl | exact congrArg (DV.int .i64) (wrap64 (by omega) (by omega)) | exact congrArg (DV.int .i64) ((wrap64 (by omega) (by omega)).trans (by omega))) ?_; conv=>whnf))
 ·intro k hk IH;have GS:=MW (l.take k);rw [List.length_take] at GS;have VI:∀ c∈fe (l.take k),c.length≤1000:=fun c hc=>eB c (List.mem_of_mem_take (xb c hc));refine aa.head aj Tryz.func228 2000 ?_;(conv=>whnf);refine aw (fun h5=>?_) (fun h5=>?_)
  ·have ai:k<l.length:=by simpa using h5
   obtain ⟨x,hx⟩:=aY ai;have gK:=eB x (List.mem_of_getElem? hx);have aX:=VF hx;generalize fe (l.take k)=o at *;rcases List.eq_nil_or_concat o with rfl | ⟨i,d,rfl⟩
   ·refine gO Tryz.func228 ?_;refine aa.draw aj bW 17 2000 (by kernel_rfl) ?_;(conv=>whnf);refine aM (by simp) ?_;refine gD ?_;refine gS ?_;refine gO Tryz.func228 ?_;refine bq ?_;refine gO Tryz.func228 ?_;refine aF (a7 hx) rfl ?_;refine gO Tryz.func228 ?_;refine bQ ⟨by simp,by simp [DV.cells]⟩ ?_;refine gO Tryz.func228 ?_;refine aa.back (IH (k+1) (by omega) (by omega)) ?_;(conv=>whnf);repeat (first | exact trivial | (refine sI ?_; conv=>whnf))
    refine And.intro (by rw [aX]; simp [kC]) ?_;exact sZ
   ·simp only [List.concat_eq_append] at *;have hw:IntKind.i64.wrap ((((i++[d]).map DV.str).length:Int) - 1)=(i.length:Int):=by
     rw [wrap64 (by simp) (by simp; simp at GS; omega)]; simp
    have dO:((i++[d]).map DV.str)[((i.length:Nat):Int).toNat]? = some (.str d):=by simp
    have sJ:=VI d (by simp);have aR:kC (i++[d]) x=if Nm.under x d then i++[d] else i++[d]++[x]:=by simp [kC]
    rw [aR] at aX;refine gO Tryz.func228 ?_;refine aa.draw aj bW 17 2000 (by kernel_rfl) ?_;(conv=>whnf);refine aI (by simp; omega) ?_;refine gD ?_;refine aF (a7 hx) rfl ?_;refine gD ?_;rw [hw];refine bQ ⟨by omega,by simp; omega⟩ ?_;refine gD ?_;refine ee (.str d) (by omega) (by simp) rfl ?_;refine gD ?_
    with_reducible refine bg (CI _ _ gK sJ) ?_
    refine gD ?_;cases hu:Nm.under x d
    ·rw [hu] at aX;refine gS ?_;refine gO Tryz.func228 ?_;refine aM (by decide) ?_;refine gO Tryz.func228 ?_;refine aF (a7 hx) rfl ?_;refine gO Tryz.func228 ?_;refine bQ ⟨by simp; simp at GS; omega,by simp [DV.cells]⟩ ?_;refine gO Tryz.func228 ?_;refine aa.back (IH (k+1) (by omega) (by omega)) ?_;(conv=>whnf);repeat (first | exact trivial | (refine sI ?_; conv=>whnf))
     refine And.intro (by rw [aX]; simp) ?_;exact sZ
    ·rw [hu] at aX;refine gS ?_;refine gO Tryz.func228 ?_;refine aI (by decide) ?_;refine gO Tryz.func228 ?_;refine aa.back (IH (k+1) (by omega) (by omega)) ?_;(conv=>whnf);repeat (first | exact trivial | (refine sI ?_; conv=>whnf))
     refine And.intro (by rw [aX]; simp) ?_;exact sZ
  ·have aP:l.length≤k:=by simpa using h5
   refine gO Tryz.func228 ?_;rw [List.take_of_length_le aP]
end Go.Proofs.YtcmnpelmmekdkaaGreatDoor.P
end
section
namespace Go.Proofs.YtcmnpelmmekdkaaGreatDoor.P
open Go Go.ax
set_option maxRecDepth 100000
set_option maxHeartbeats 4000000
def eJ (c9:List Text) (n:Text) (k:Nat):Nat:=k+((c9.drop k).takeWhile fun c=>decide (bA c n≤0)).length
theorem VJ {c9:List Text} {n c:Text} {k:Nat} (h:c9[k]? = some c) (ho:bA c n≤0):eJ c9 n k=eJ c9 n (k+1):=by
 have hk:=aZ h;have e1:c9[k]=c:=by simpa [hk] using h
 unfold eJ;rw [List.drop_eq_getElem_cons hk,e1,List.takeWhile_cons_of_pos (by simpa using ho)];simp;omega
theorem VK {c9:List Text} {n c:Text} {k:Nat} (h:c9[k]? = some c) (ho:¬ bA c n≤0):eJ c9 n k=k:=by
 have hk:=aZ h;have e1:c9[k]=c:=by simpa [hk] using h
 unfold eJ;rw [List.drop_eq_getElem_cons hk,e1,List.takeWhile_cons_of_neg (by simpa using ho)];simp
theorem VM {c9:List Text} {n:Text} {k:Nat} (h:c9.length≤k):eJ c9 n k=k:=by
 unfold eJ;rw [List.drop_of_length_le h];simp
theorem CP {c9:List Text} {n:Text} {k:Nat} (h:k≤c9.length):eJ c9 n k≤c9.length:=by
 unfold eJ;have h1:((c9.drop k).takeWhile fun c=>decide (bA c n≤0)).length≤(c9.drop k).length:=(List.takeWhile_prefix _).length_le;simp at h1 ⊢;omega
def l9 (c9:List Text) (n:Text) (k:Nat):Text:=if k=0 then [] else match c9[k - 1]? with
 |some c=>if Nm.under n c then c else []
 |none=>[]
def mO (c9:List Text):Nat→List Text→List Text
 |_,[]=>[]
 |k,n::ns=>l9 c9 n (eJ c9 n k)::mO c9 (eJ c9 n k) ns
theorem MX (c9:List Text):∀ (k:Nat) (ns:List Text),(mO c9 k ns).length=ns.length
 |_,[]=>rfl
 |k,n::ns=>by simp [mO,MX c9 _ ns]
def iV (z:aU):List Text:=mO (fe (bN z.ab z.af)) 0 (z.af.map (·.set.name))
theorem sM (z:aU):(iV z).length=z.af.length:=by simp [iV,MX]
theorem mP {α:Type} {B:List α} {e x:α} {i n:Nat} (hB:B.length=n) (h:B[i]? = some x):(B.take i++List.replicate (n - i) e).set i x=B.take (i+1)++List.replicate (n - (i+1)) e:=by
 have hi:=aZ h;rw [eI h,List.set_append_right _ _ (by simp; omega)];simp only [List.length_take,List.append_assoc]
 congr 1
 rw [show n - i=(n - (i+1))+1 by omega,List.replicate_succ];simp [Nat.min_eq_left (Nat.le_of_lt hi)]
theorem CQ {α:Type} {B:List α} {e:α} {i n:Nat} (hB:B.length=n) (h:B[i]? = some e):B.take i++List.replicate (n - i) e=B.take (i+1)++List.replicate (n - (i+1)) e:=by
 have hi:=aZ h;rw [eI h,List.append_assoc]
 congr 1
 rw [show n - i=(n - (i+1))+1 by omega,List.replicate_succ];rfl
theorem mQ {α:Type} {B:List α} {e:α} {i n:Nat} (hB:B.length=n) (hi:i<n):(B.take i++List.replicate (n - i) e)[i]? = some e:=by
 rw [List.getElem?_append_right (by simp; omega)];simp only [List.length_take];rw [show i - min i B.length=0 by omega];rw [List.getElem?_replicate,if_pos (by omega)]
theorem MY (z:aU) (hl:z.af.length≤1000000) (hn:∀ s∈z.af,s.set.name.length≤1000):aA E 191 [z.enc] (· = .sl ((iV z).map .str)):=by
 have eB:∀ c∈fe (bN z.ab z.af),c.length≤1000:=fun c hc=>by
  obtain ⟨s,h1,rfl,-⟩:=oH (xb c hc);exact hn s h1
 have eh:(fe (bN z.ab z.af)).length≤z.af.length:=Nat.le_trans (MW _) (GR _ _);have eK:=sM z;have jt:iV z=mO (fe (bN z.ab z.af)) 0 (z.af.map (·.set.name)):=rfl;generalize iV z=B at *;refine eP Tryz.func191 ?_
 with_reducible refine ar (VH z (by omega) hn) ?_
 refine gO Tryz.func191 ?_;generalize fe (bN z.ab z.af)=c9 at *;obtain ⟨ab,l⟩:=z;simp only at *;refine bQ ?_ ?_
 ·simp; omega
 ·refine gO Tryz.func191 ?_;refine aa.loop (κ:=Nat × Nat) [5,6,7,14,15,16,17,18,19,20,21,22,23,24,25,26,27,28,29,30,31,32,33,34,35,36,37,38,39,40,41,42,43,44,45,46,47,48,49,50,51,52,53,54,55,56,57,58,59,60,61] (fun k=>[(6,.d (.int .i64 k.1)),(5,.d (.int .i64 k.2)),(4,.own 1 0)]) (fun k=>[(1,.arr 0 (9,1) ((B.take k.1++List.replicate (l.length - k.1) []).map .str))]) (fun k=>k.1≤l.length∧k.2≤c9.length∧B.drop k.1=mO c9 k.2 ((l.drop k.1).map (·.set.name))) (fun k=>l.length - k.1) (0,0) ⟨Nat.zero_le _,Nat.zero_le _,by simpa using jt⟩ ?_ ?_
  ·(conv=>whnf);repeat (first | exact trivial | (refine sI ?_; conv=>whnf))
   refine And.intro (by simp) ?_;exact sZ
  ·rintro ⟨i,k⟩ hk IH;simp only at hk;refine aa.head aj Tryz.func191 2000 ?_;(conv=>whnf);refine aw (fun h5=>?_) (fun h5=>?_)
   ·have ai:i<l.length:=by simpa using h5
    obtain ⟨x,hx⟩:=aY ai;have gK:=hn x (List.mem_of_getElem? hx);have zR:(l.drop i).map (·.set.name)=x.set.name::(l.drop (i+1)).map (·.set.name):=by
     have e1:l[i]=x:=by simpa [ai] using hx
     rw [List.drop_eq_getElem_cons ai,e1];rfl
    obtain ⟨-,lj,oI⟩:=hk;rw [zR,mO] at oI;have dU:B[i]? = some (l9 c9 x.set.name (eJ c9 x.set.name k)):=by
     have:=congrArg (fun l=>l[0]?) oI
     simpa using this
    have eU:B.drop (i+1)=mO c9 (eJ c9 x.set.name k) ((l.drop (i+1)).map (·.set.name)):=by
     have:=congrArg List.tail oI
     simpa using this
    have ri:=CP (n:=x.set.name) lj;refine gO Tryz.func191 ?_;refine aF (a7 hx) rfl ?_;refine gO Tryz.func191 ?_;refine aa.loop (κ:=Nat) ([5]++rg 28 15) (fun j=>[(5,.d (.int .i64 j))]) (fun _=>[]) (fun j=>j≤c9.length∧eJ c9 x.set.name k=eJ c9 x.set.name j) (fun j=>c9.length - j) k ⟨lj,rfl⟩ ?_ ?_
    ·exact sZ
    ·intro j hj xc;have leave:∀ (CS:eJ c9 x.set.name k=j),True:=fun _=>trivial;refine aa.head aj Tryz.func191 2000 ?_;(conv=>whnf);refine aw (fun h6=>?_) (fun h6=>?_)
     ·have gX:j<c9.length:=by simpa using h6
      obtain ⟨c,hc⟩:=aY gX;have CT:=eB c (List.mem_of_getElem? hc);refine gO Tryz.func191 ?_;refine aF (a7 hc) rfl ?_;refine gO Tryz.func191 ?_
      with_reducible refine ar (GL _ _ CT gK) ?_
      refine gO Tryz.func191 ?_;refine aw (fun h7=>?_) (fun h7=>?_)
      ·refine gO Tryz.func191 ?_;refine aa.back (xc (j+1) ⟨by omega,by rw [hj.2]; exact VJ hc (by simpa using h7)⟩ (by omega)) ?_;exact sZ
      ·have GU:eJ c9 x.set.name k=j:=by rw [hj.2]; exact VK hc (by simpa using h7)
       rw [GU] at dU eU;refine gO Tryz.func191 ?_;rcases Nat.eq_zero_or_pos j with rj | rj
       ·have iG:l9 c9 x.set.name j=[]:=by simp [l9,rj]
        rw [iG] at dU;refine aI (by simp; omega) ?_;refine gO Tryz.func191 ?_;refine ba ?_;refine gO Tryz.func191 ?_;refine aa.back (IH (i+1,j) ⟨by simp only; omega,by simp only; omega,eU⟩ (by simp only; omega)) ?_;(conv=>whnf);repeat (first | exact trivial | (refine sI ?_; conv=>whnf))
        refine And.intro (by rw [CQ eK dU]) ?_;exact sZ
       ·obtain ⟨c,hc⟩:=aY (l:=c9) (k:=j - 1) (by omega);have GV:=eB c (List.mem_of_getElem? hc);have iG:l9 c9 x.set.name j=if Nm.under x.set.name c then c else []:=by simp [l9,hc]; omega
        rw [iG] at dU;refine aM (by simp; omega) ?_;refine gO Tryz.func191 ?_;refine aF (oG hc rj (by omega)) rfl ?_;refine gO Tryz.func191 ?_
        with_reducible refine ar (CI _ _ gK GV) ?_
        refine gO Tryz.func191 ?_;cases hu:Nm.under x.set.name c
        ·rw [hu] at dU;refine ba ?_;refine gO Tryz.func191 ?_;refine aa.back (IH (i+1,j) ⟨by simp only; omega,by simp only; omega,eU⟩ (by simp only; omega)) ?_;(conv=>whnf);repeat (first | exact trivial | (refine sI ?_; conv=>whnf))
         refine And.intro (by rw [CQ eK (by simpa using dU)]) ?_;exact sZ
        ·rw [hu] at dU;refine bq ?_;refine gO Tryz.func191 ?_;refine aF (oG hc rj (by omega)) rfl ?_;refine gO Tryz.func191 ?_;refine bQ ⟨by omega,by simp; omega⟩ ?_;refine gO Tryz.func191 ?_;refine ee (.str []) (by omega) (by simp only [Int.toNat_natCast,List.getElem?_map]; rw [mQ eK ai]; rfl) rfl ?_;refine gO Tryz.func191 ?_;refine aa.back (IH (i+1,j) ⟨by simp only; omega,by simp only; omega,eU⟩ (by simp only; omega)) ?_;(conv=>whnf);repeat (first | exact trivial | (refine sI ?_; conv=>whnf))
         refine And.intro (by rw [← mP (e:=[]) eK (by simpa using dU)]; simp [List.map_set]) ?_;exact sZ
     ·have GU:eJ c9 x.set.name k=j:=by rw [hj.2]; exact VM (by simpa using h6)
      rw [GU] at dU eU;refine gO Tryz.func191 ?_;refine ba ?_;refine gO Tryz.func191 ?_;rcases Nat.eq_zero_or_pos j with rj | rj
      ·have iG:l9 c9 x.set.name j=[]:=by simp [l9,rj]
       rw [iG] at dU;refine aI (by simp; omega) ?_;refine gO Tryz.func191 ?_;refine ba ?_;refine gO Tryz.func191 ?_;refine aa.back (IH (i+1,j) ⟨by simp only; omega,by simp only; omega,eU⟩ (by simp only; omega)) ?_;(conv=>whnf);repeat (first | exact trivial | (refine sI ?_; conv=>whnf))
       refine And.intro (by rw [CQ eK dU]) ?_;exact sZ
      ·obtain ⟨c,hc⟩:=aY (l:=c9) (k:=j - 1) (by omega);have GV:=eB c (List.mem_of_getElem? hc);have iG:l9 c9 x.set.name j=if Nm.under x.set.name c then c else []:=by simp [l9,hc]; omega
       rw [iG] at dU;refine aM (by simp; omega) ?_;refine gO Tryz.func191 ?_;refine aF (oG hc rj (by omega)) rfl ?_;refine gO Tryz.func191 ?_
       with_reducible refine ar (CI _ _ gK GV) ?_
       refine gO Tryz.func191 ?_;cases hu:Nm.under x.set.name c
       ·rw [hu] at dU;refine ba ?_;refine gO Tryz.func191 ?_;refine aa.back (IH (i+1,j) ⟨by simp only; omega,by simp only; omega,eU⟩ (by simp only; omega)) ?_;(conv=>whnf);repeat (first | exact trivial | (refine sI ?_; conv=>whnf))
        refine And.intro (by rw [CQ eK (by simpa using dU)]) ?_;exact sZ
       ·rw [hu] at dU;refine bq ?_;refine gO Tryz.func191 ?_;refine aF (oG hc rj (by omega)) rfl ?_;refine gO Tryz.func191 ?_;refine bQ ⟨by omega,by simp; omega⟩ ?_;refine gO Tryz.func191 ?_;refine ee (.str []) (by omega) (by simp only [Int.toNat_natCast,List.getElem?_map]; rw [mQ eK ai]; rfl) rfl ?_;refine gO Tryz.func191 ?_;refine aa.back (IH (i+1,j) ⟨by simp only; omega,by simp only; omega,eU⟩ (by simp only; omega)) ?_;(conv=>whnf);repeat (first | exact trivial | (refine sI ?_; conv=>whnf))
        refine And.intro (by rw [← mP (e:=[]) eK (by simpa using dU)]; simp [List.map_set]) ?_;exact sZ
   ·have aP:l.length≤i:=by simpa using h5
    refine gO Tryz.func191 ?_;simp only [show l.length - i=0 by omega,List.replicate_zero,List.append_nil];rw [List.take_of_length_le (by omega)]
end Go.Proofs.YtcmnpelmmekdkaaGreatDoor.P
end
section
namespace Go.Proofs.YtcmnpelmmekdkaaGreatDoor.P
open Go Go.ax
set_option maxRecDepth 100000
set_option maxHeartbeats 4000000
theorem xd {α β:Type} {a:List α} {b:List β} {k:Nat} {x:α} {y:β} (ha:a[k]? = some x) (hb:b[k]? = some y):(a.zip b)[k]? = some (x,y):=by
 rw [List.getElem?_zip_eq_some];exact ⟨ha,hb⟩
def jU (s:Signed) (b:Text):Bool:=b==[]||(s.set.type != 2&&s.set.type != 1)
def rk (z:aU):List Bool:=(z.af.zip (iV z)).map fun p=>jU p.1 p.2
theorem GW (z:aU):(rk z).length=z.af.length:=by simp [rk,sM]
theorem VN (z:aU) (hl:z.af.length≤1000000) (hn:∀ s∈z.af,s.set.name.length≤1000):aA E 192 [z.enc] (· = .sl ((rk z).map .bool)):=by
 have eK:=sM z;have GX:=GW z;have hO:rk z=(z.af.zip (iV z)).map fun p=>jU p.1 p.2:=rfl;generalize rk z=O at *;refine eP Tryz.func192 ?_
 with_reducible refine ar (MY z hl hn) ?_
 refine gO Tryz.func192 ?_;generalize iV z=B at *;obtain ⟨ab,l⟩:=z;simp only at *;refine bQ (by simp; omega) ?_;refine gO Tryz.func192 ?_;refine aa.loop (κ:=Nat) ([5,6]++rg 13 30) (fun k=>[(5,.d (.int .i64 k)),(4,.own 1 0)]) (fun k=>[(1,.arr 0 (4,1) ((O.take k++List.replicate (l.length - k) false).map .bool))]) (fun k=>k≤l.length) (fun k=>l.length - k) 0 (Nat.zero_le _) ?_ ?_
 ·(conv=>whnf);repeat (first | exact trivial | (refine sI ?_; conv=>whnf))
  refine And.intro (by simp) ?_;exact sZ
 ·intro k hk IH;refine aa.head aj Tryz.func192 2000 ?_;(conv=>whnf);refine aw (fun h5=>?_) (fun h5=>?_)
  ·have ai:k<l.length:=by simpa using h5
   obtain ⟨x,hx⟩:=aY ai;obtain ⟨b,hb⟩:=aY (l:=B) (k:=k) (by omega);have xe:O[k]? = some (jU x b):=by rw [hO,List.getElem?_map,xd hx hb]; rfl
   have MZ:=mQ (e:=false) GX ai;have cL:=mP (e:=false) GX xe;refine gO Tryz.func192 ?_;repeat' (first | with_reducible refine aF (a7 hx) rfl ?_ | with_reducible refine aF (a7 hb) rfl ?_ | with_reducible refine cY ?_ | with_reducible refine cN ?_ | with_reducible refine aw (fun _=>?_) (fun _=>?_) | refine gA Tryz.func192 ?_ | refine gB ?_ | refine gC ?_ | with_reducible rfl)
   all_goals
    refine bQ ⟨by omega,by simp; omega⟩ ?_;refine gO Tryz.func192 ?_;refine ee (.bool false) (by omega) (by simp only [Int.toNat_natCast,List.getElem?_map]; rw [MZ]; rfl) rfl ?_;refine gO Tryz.func192 ?_;refine aa.back (IH (k+1) (by omega) (by omega)) ?_;(conv=>whnf);repeat (first | exact trivial | (refine sI ?_; conv=>whnf))
    refine And.intro (by rw [← cL]; simp only [Int.toNat_natCast,List.map_set]; congr 2; clear cL MZ xe hO IH hb; rcases b with _ | ⟨c,b⟩ <;> simp_all [jU]) ?_;exact sZ
  ·have aP:l.length≤k:=by simpa using h5
   refine gO Tryz.func192 ?_;simp only [show l.length - k=0 by omega,List.replicate_zero,List.append_nil];rw [List.take_of_length_le (by omega)]
def fo (ab:Text) (s:Signed):Bool:=fc s.set&&Nm.under s.set.name ab
def gY (q s:Signed):Bool:=decide (nJ q.set s.set<0)
def nM (z:aU):Bool:=Nm.valid z.ab && !rf z.ab && !(decide ((z.af.length:Int)>20000))&&chain (fo z.ab) gY none z.af
theorem uO {s:eu} (h:fc s=true):Nm.valid s.name=true:=by
 simp only [fc,Bool.and_eq_true] at h;exact h.1.1.1.1.1.1
structure aU.Fits (z:aU):Prop where
 ab:z.ab.length≤maxLen
 af:∀ s∈z.af,s.set.Fits
theorem M0 (z:aU) (hf:z.Fits):aA E 120 [z.enc] (· = .bool (nM z)):=by
 obtain ⟨ab,l⟩:=z;have lR:ab.length≤maxLen:=hf.ab;have il:∀ s∈l,s.set.Fits:=hf.af;unfold nM;simp only;cases hv:Nm.valid ab
 ·refine eP Tryz.func120 ?_
  with_reducible refine ar (fY _ lR) ?_
  refine gO Tryz.func120 ?_;rw [hv];refine aM rfl ?_;refine gO Tryz.func120 ?_;refine bq ?_;refine gO Tryz.func120 ?_;refine bq ?_;refine gO Tryz.func120 ?_;simp
 ·have ri:=fF hv;refine eP Tryz.func120 ?_
  with_reducible refine ar (fY _ lR) ?_
  refine gO Tryz.func120 ?_;rw [hv];refine aI rfl ?_;refine gO Tryz.func120 ?_
  with_reducible refine ar (GK ab (by omega)) ?_
  refine gO Tryz.func120 ?_;cases hw:rf ab
  case true =>
   refine bq ?_;refine gO Tryz.func120 ?_;refine bq ?_;refine gO Tryz.func120 ?_;simp
  refine ba ?_;refine gO Tryz.func120 ?_;refine aw (fun h3=>?_) (fun h3=>?_)
  ·refine gO Tryz.func120 ?_;simp only [List.length_map] at h3;rw [h3];simp
  ·simp only [List.length_map] at h3;rw [h3];simp only [Bool.not_false,Bool.true_and];have M3:l.length≤20000:=by simp at h3; omega
   refine gO Tryz.func120 ?_;refine aa.loop (κ:=Nat) ([2,3,4]++rg 20 40) (fun k=>[(3,.d (.int .i64 k))]) (fun _=>[]) (fun k=>k≤l.length∧chain (fo ab) gY none l=chain (fo ab) gY (cT l k) (l.drop k)∧∀ q,cT l k=some q→fc q.set=true) (fun k=>l.length - k) 0 ⟨Nat.zero_le _,rfl,fun q h=>by simp [cT] at h⟩ ?_ ?_
   ·exact sZ
   ·intro k hk IH;refine aa.head aj Tryz.func120 2000 ?_;(conv=>whnf);refine aw (fun h5=>?_) (fun h5=>?_)
    ·have ai:k<l.length:=by simpa using h5
     obtain ⟨x,hx⟩:=aY ai;have aX:=CN (ok:=fo ab) (rel:=gY) hx;rw [← hk.2.1] at aX;have zS:=il x (List.mem_of_getElem? hx);have zT:cT l (k+1)=some x:=by simp [cT,hx]
     cases hs:fc x.set
     ·refine gO Tryz.func120 ?_;refine aF (a7 hx) rfl ?_;refine gO Tryz.func120 ?_;refine aa.draw aj bW 27 2000 (by kernel_rfl) ?_;conv=>whnf
      with_reducible refine bg (CH x.set zS) ?_
      refine gD ?_;rw [hs];refine aM rfl ?_;refine gD ?_;repeat' (first | with_reducible refine cY ?_ | with_reducible refine cN ?_ | with_reducible refine aw (fun _=>?_) (fun _=>?_) | refine gA Tryz.func120 ?_ | refine gB ?_ | refine gC ?_ | with_reducible rfl)
      rw [aX,fo,hs];simp
     ·have dg:=uO hs;have gK:=fF dg;refine gO Tryz.func120 ?_;refine aF (a7 hx) rfl ?_;refine gO Tryz.func120 ?_;refine aa.draw aj bW 27 2000 (by kernel_rfl) ?_;conv=>whnf
      with_reducible refine bg (CH x.set zS) ?_
      refine gD ?_;rw [hs];refine aI rfl ?_;refine gD ?_
      with_reducible refine bg (CI x.set.name ab (by omega) (by omega)) ?_
      refine gD ?_;rcases Nat.eq_zero_or_pos k with df | df
      ·have eE:cT l k=none:=by simp [cT,df]
       rw [eE] at aX;dsimp only at aX;rw [Bool.and_true] at aX;repeat' (first | with_reducible refine cY ?_ | with_reducible refine cN ?_ | with_reducible refine aw (fun _=>?_) (fun _=>?_) | refine gA Tryz.func120 ?_ | refine gB ?_ | refine gC ?_ | with_reducible rfl)
       all_goals first
        |(have dQ : fo ab x = false := by clear aX hk IH; simp_all [fo]
          rw [aX, dQ, Bool.false_and]
          done)
        |(exfalso; clear aX hk IH; simp_all; done)
        |skip
       all_goals
        refine gO Tryz.func120 ?_;refine aa.back (IH (k+1) ⟨by omega,by rw [aX,show fo ab x=true by clear aX hk IH; simp_all [fo],Bool.true_and],fun q hq=>by rw [zT] at hq; cases hq; exact hs⟩ (by omega)) ?_;exact sZ
      ·obtain ⟨q,hq,eE⟩:=w8 df hk.1;have rl:=uO (hk.2.2 q eE);rw [eE] at aX;repeat' (first | with_reducible refine aF (oG hq df (by omega)) rfl ?_ | with_reducible refine ar (MM q.set x.set rl dg) ?_ | with_reducible refine bg (MM q.set x.set rl dg) ?_ | with_reducible refine cY ?_ | with_reducible refine cN ?_ | with_reducible refine aw (fun _=>?_) (fun _=>?_) | refine gA Tryz.func120 ?_ | refine gB ?_ | refine gC ?_ | with_reducible rfl)
       all_goals first
        |(have dQ : (fo ab x && gY q x) = false := by clear aX hk IH; simp_all [fo, gY]
          rw [aX, dQ, Bool.false_and]
          done)
        |(exfalso; clear aX hk IH; simp_all; omega)
        |skip
       all_goals
        refine gO Tryz.func120 ?_;refine aa.back (IH (k+1) ⟨by omega,by rw [aX,show (fo ab x&&gY q x)=true by clear aX hk IH; simp_all [fo,gY],Bool.true_and],fun q hq=>by rw [zT] at hq; cases hq; exact hs⟩ (by omega)) ?_;exact sZ
    ·have aP:l.length≤k:=by simpa using h5
     refine gO Tryz.func120 ?_;rw [hk.2.1,List.drop_of_length_le aP];rfl
def pG (s:Signed) (b:Text):Bool := !(b != []&&s.set.type != 1 && !(b != []&&s.set.name==b)) && !((b != []&&s.set.name==b)&&s.set.type != 1&&s.set.type != 2&&s.set.type != 6&&s.set.type != 8) && !(s.set.type==6 && !(b != []&&s.set.name==b))
def zU (z:aU):Bool:=(z.af.zip (iV z)).all fun p=>pG p.1 p.2
theorem M4 (z:aU) (hl:z.af.length≤1000000) (hn:∀ s∈z.af,s.set.name.length≤1000):aA E 123 [z.enc] (· = .bool (zU z)):=by
 have eK:=sM z;unfold zU;refine eP Tryz.func123 ?_
 with_reducible refine ar (MY z hl hn) ?_
 refine gO Tryz.func123 ?_;generalize iV z=B at *;obtain ⟨ab,l⟩:=z;simp only at *;refine aa.loop (κ:=Nat) ([2,4,5,6]++rg 9 69) (fun k=>[(4,.d (.int .i64 k))]) (fun _=>[]) (fun k=>k≤l.length∧((l.zip B).take k).all (fun p=>pG p.1 p.2)=true) (fun k=>l.length - k) 0 ⟨Nat.zero_le _,rfl⟩ ?_ ?_
 ·exact sZ
 ·intro k hk IH;refine aa.head aj Tryz.func123 2000 ?_;(conv=>whnf);refine aw (fun h5=>?_) (fun h5=>?_)
  ·have ai:k<l.length:=by simpa using h5
   obtain ⟨x,hx⟩:=aY ai;obtain ⟨b,hb⟩:=aY (l:=B) (k:=k) (by omega);have hz:=xd hx hb;refine gO Tryz.func123 ?_;refine aF (a7 hx) rfl ?_;refine gO Tryz.func123 ?_;refine aa.draw aj bW 15 2000 (by kernel_rfl) ?_;(conv=>whnf);repeat' (first | with_reducible refine aF (a7 hb) rfl ?_ | with_reducible refine cY ?_ | with_reducible refine cN ?_ | with_reducible refine aw (fun _=>?_) (fun _=>?_) | refine gA Tryz.func123 ?_ | refine gB ?_ | refine gC ?_ | with_reducible rfl)
   all_goals first
    |(rw [iI hz (by clear hz hb hk IH; rcases b with _ | ⟨c,b⟩ <;> simp_all [pG])]; done)
    |(exfalso; clear hz hb hk IH; rcases b with _ | ⟨c,b⟩ <;> simp_all; done)
    |skip
   all_goals
    refine gO Tryz.func123 ?_;refine aa.back (IH (k+1) ⟨by omega,jx hk.2 hz (by clear hz hb hk IH; rcases b with _ | ⟨c,b⟩ <;> simp_all [pG])⟩ (by omega)) ?_;exact sZ
  ·have aP:l.length≤k:=by simpa using h5
   refine gO Tryz.func123 ?_;rw [nI hk.2 (by simp; omega)]
def uP (ab:Text) (s:Signed) (o:Bool):Bool:=nL s.sigs ab && !(!o&&decide ((s.sigs.length:Int)>0))
def CU (z:aU):Bool:=(z.af.zip (rk z)).all fun p=>uP z.ab p.1 p.2
theorem M5 (z:aU) (hl:z.af.length≤1000000) (hn:∀ s∈z.af,s.set.name.length≤1000):aA E 124 [z.enc] (· = .bool (CU z)):=by
 have GX:=GW z;unfold CU;refine eP Tryz.func124 ?_
 with_reducible refine ar (VN z hl hn) ?_
 refine gO Tryz.func124 ?_;generalize rk z=O at *;obtain ⟨ab,l⟩:=z;simp only at *;refine aa.loop (κ:=Nat) ([2,4]++rg 7 34) (fun k=>[(4,.d (.int .i64 k))]) (fun _=>[]) (fun k=>k≤l.length∧((l.zip O).take k).all (fun p=>uP ab p.1 p.2)=true) (fun k=>l.length - k) 0 ⟨Nat.zero_le _,rfl⟩ ?_ ?_
 ·exact sZ
 ·intro k hk IH;refine aa.head aj Tryz.func124 2000 ?_;(conv=>whnf);refine aw (fun h5=>?_) (fun h5=>?_)
  ·have ai:k<l.length:=by simpa using h5
   obtain ⟨x,hx⟩:=aY ai;obtain ⟨b,hb⟩:=aY (l:=O) (k:=k) (by omega);have hz:=xd hx hb;refine gO Tryz.func124 ?_;refine aa.draw aj bW 27 2000 (by kernel_rfl) ?_;(conv=>whnf);repeat' (first | with_reducible refine aF (a7 hx) rfl ?_ | with_reducible refine aF (a7 hb) rfl ?_ | with_reducible refine ar (MQ _ _) ?_ | with_reducible refine bg (MQ _ _) ?_ | with_reducible refine cY ?_ | with_reducible refine cN ?_ | with_reducible refine aw (fun _=>?_) (fun _=>?_) | refine gA Tryz.func124 ?_ | refine gB ?_ | refine gC ?_ | with_reducible rfl)
   all_goals first
    |(rw [iI hz (by clear hz hb hk IH; simp_all [uP])]; done)
    |(exfalso; clear hz hb hk IH; simp_all; done)
    |skip
   all_goals
    refine gO Tryz.func124 ?_;refine aa.back (IH (k+1) ⟨by omega,jx hk.2 hz (by clear hz hb hk IH; simp_all [uP])⟩ (by omega)) ?_;exact sZ
  ·have aP:l.length≤k:=by simpa using h5
   refine gO Tryz.func124 ?_;rw [nI hk.2 (by simp; omega)]
def eV (z:aU):Bool:=nM z&&(rh z&&(l8 [] none z.af&&(zU z&&CU z)))
theorem M6 {α:Type} {ok:α→Bool} {rel:α→α→Bool}:∀ {p:Option α} {l:List α},chain ok rel p l=true→∀ x∈l,ok x=true
 |_,[],_,x,hx=>by simp at hx
 |p,y::l,h,x,hx=>by
  simp only [chain,Bool.and_eq_true] at h;rcases List.mem_cons.1 hx with rfl | hx
  ·exact h.1.1
  ·exact M6 h.2 x hx
theorem uQ {z:aU} (h:nM z=true):z.af.length≤20000∧(∀ s∈z.af,fo z.ab s=true)∧Nm.valid z.ab=true:=by
 simp only [nM,Bool.and_eq_true] at h;refine ⟨by have:=h.1.2; simp at this; omega,M6 h.2,h.1.1.1⟩
theorem VO {ab:Text} {s:Signed} (h:fo ab s=true):s.set.name.length≤60:=by
 simp only [fo,Bool.and_eq_true] at h;exact fF (uO h.1)
theorem VP (z:aU) (hf:z.Fits):aA E 79 [z.enc] (· = .bool (eV z)):=by
 unfold eV;cases h1:nM z
 ·have cg:=M0 z hf;rw [h1] at cg;refine eP Tryz.func79 ?_;repeat' (first | with_reducible refine ar (cg) ?_ | with_reducible refine bg (cg) ?_ | with_reducible refine cY ?_ | with_reducible refine cN ?_ | with_reducible refine aw (fun _=>?_) (fun _=>?_) | refine gA Tryz.func79 ?_ | refine gB ?_ | refine gC ?_ | with_reducible rfl)
  all_goals simp_all
 ·obtain ⟨g1,g2,-⟩:=uQ h1;have gl:z.af.length≤1000000:=by omega
  have gn:∀ s∈z.af,s.set.name.length≤1000:=fun s hs=>by have:=VO (g2 s hs); omega
  have cg:=M0 z hf;rw [h1] at cg;refine eP Tryz.func79 ?_;repeat' (first | with_reducible refine ar (cg) ?_ | with_reducible refine bg (cg) ?_ | with_reducible refine ar (MU z (by omega)) ?_ | with_reducible refine bg (MU z (by omega)) ?_ | with_reducible refine ar (MV z (by omega)) ?_ | with_reducible refine bg (MV z (by omega)) ?_ | with_reducible refine ar (M4 z gl gn) ?_ | with_reducible refine bg (M4 z gl gn) ?_ | with_reducible refine ar (M5 z gl gn) ?_ | with_reducible refine bg (M5 z gl gn) ?_ | with_reducible refine cY ?_ | with_reducible refine cN ?_ | with_reducible refine aw (fun _=>?_) (fun _=>?_) | refine gA Tryz.func79 ?_ | refine gB ?_ | refine gC ?_ | with_reducible rfl)
  all_goals simp_all
end Go.Proofs.YtcmnpelmmekdkaaGreatDoor.P
end
