/- Several texts of mine, one behind the other. Conditions: as each says. -/
import Derived.Test.YtfmdaiojokniiaaGreatDoorW10
set_option linter.unusedVariables false
set_option linter.unusedSimpArgs false
namespace Go.Proofs.YtfmdaiojokniiaaGreatDoor.P
open Go Go.aw Go.RowKit
set_option maxRecDepth 100000
set_option maxHeartbeats 4000000
theorem Nm.Hh (l:List UInt8) (h:Nm.valid l=true):1≤l.length:=by
 cases l with
 |nil=>exfalso; revert h; decide
 |cons c r=>simp
theorem Nm.Ow (a z:List UInt8):Nm.split z <:+ Nm.split (a++46::z):=⟨Nm.split a,(Nm.yK a z).symm⟩
theorem Nm.Ox (p q:List (List UInt8)) (hp:p≠[]) (hq:q≠[]):Nm.glue (p++q)=Nm.glue p++46::Nm.glue q:=by
 induction p with
 |nil=>exact absurd rfl hp
 |cons x t ih =>
  cases t with
  |nil =>
   cases q with
   |nil=>exact absurd rfl hq
   |cons y u=>rfl
  |cons y u =>
   have:=ih (by simp);simp only [List.cons_append,Nm.glue] at this ⊢;rw [this]; simp
theorem Nm.wx (s z:List UInt8) (hs:s≠[46]) (hz:z≠[46]):Nm.under s z=true↔s=z∨∃ a,s=a++46::z:=by
 simp only [Nm.under,decide_eq_true_eq,Nm.labels,hs,hz,if_false];constructor
 ·rintro ⟨p,hp⟩;cases p with
  |nil=>left; exact (Nm.GO _ _ hp).symm
  |cons x t =>
   right;refine ⟨Nm.glue (x::t),?_⟩;rw [← Nm.rz s,← hp,Nm.Ox _ _ (by simp) (Nm.lH z),Nm.rz]
 ·rintro (rfl | ⟨a,rfl⟩)
  ·exact List.suffix_refl _
  ·exact Nm.Ow a z
theorem Nm.Oy (s z:List UInt8) (hs:Nm.valid s=true) (hz:Nm.valid z=true) (h1:s≠z) (h2:z≠[46]) :
  Nm.under s z=true↔z.length<s.length∧z <:+ s∧s[s.length - z.length - 1]? = some 46:=by
 by_cases hr:s=[46]
 ·subst hr;have jl:=Nm.Hh z hz;constructor
  ·intro h;simp only [Nm.under,decide_eq_true_eq,Nm.labels,h2,if_false,if_true] at h;exact absurd (List.eq_nil_of_suffix_nil h) (Nm.lH z)
  ·rintro ⟨h,_⟩; exfalso; simp only [List.length_singleton] at h; omega
 ·rw [Nm.wx s z hr h2];constructor
  ·rintro (h | ⟨a,rfl⟩)
   ·exact absurd h h1
   ·refine ⟨by simp; omega,⟨a++[46],by simp⟩,?_⟩;rw [show (a++46::z).length - z.length - 1=a.length by simp; omega];simp
  ·rintro ⟨h,⟨p,rfl⟩,h3⟩;right;have hp:p≠[]:=by rintro rfl; simp at h
   rw [show (p++z).length - z.length - 1=p.length - 1 by simp,List.getElem?_append_left (by have:=List.length_pos_iff.2 hp; omega)] at h3;refine ⟨p.dropLast,?_⟩;have e:p.getLast hp=46:=by
    rw [List.getLast_eq_getElem];exact (List.getElem?_eq_some_iff.1 h3).2
   conv=>lhs; rw [← List.dropLast_concat_getLast hp,e]
   simp
theorem Nm.Oz (s z:List UInt8) (h:s=z∨z=[46]):Nm.under s z=true:=by
 simp only [Nm.under,decide_eq_true_eq];rcases h with rfl | rfl
 ·exact List.suffix_refl _
 ·simp [Nm.labels]
theorem fQ (t:Text) (ht:t.length≤maxLen):au E 104 [.str t] (· = .bool (Nm.valid t)):=by
 have c1:=rH t ht;refine eP Tryz.func104 ?_;refine ar (c1) ?_;refine gO Tryz.func104 ?_
 with_reducible rfl
def wy (a b:Text):Bool:=decide (b <:+ a)
theorem OA (a b:Text) (ha:a.length≤maxLen) (hb:b.length≤maxLen):au E 259 [.str a,.str b] (· = .bool (wy a b)):=by
 unfold maxLen at ha hb;have hw:IntKind.i64.wrap ((a.length:Int) - b.length)=(a.length:Int) - b.length:=wrap64 (by omega) (by omega);unfold wy;refine eP Tryz.func259 ?_;refine aj (fun h=>?_) (fun h=>?_)
 ·have h:=of_decide_eq_true h;refine gO Tryz.func259 ?_;rw [hw];refine bp ⟨by simp; omega,by simp; omega,by simp⟩ ?_;refine gO Tryz.func259 ?_;refine congrArg DV.bool ?_;rw [Bool.eq_iff_iff,beq_iff_eq,decide_eq_true_eq,List.suffix_iff_eq_drop];simp only [Option.getD_some,Option.getD_none,Int.toNat_natCast,List.take_length,show ((a.length:Int) - b.length).toNat=a.length - b.length by omega];exact eq_comm
 ·have h:=of_decide_eq_false h;refine gO Tryz.func259 ?_;rw [decide_eq_false];exact fun e=>by have:=e.length_le; omega
theorem OB (a b:Text) (ha:a.length≤maxLen) (hb:b.length≤maxLen):au E 180 [.str a,.str b] (· = .bool (wy a b)):=by
 have c1:=OA a b ha hb;refine eP Tryz.func180 ?_;refine ar (c1) ?_;refine gO Tryz.func180 ?_
 with_reducible rfl
theorem tO (t z:Text) (ht:t.length≤maxLen) (hz:z.length≤maxLen):au E 107 [.str t,.str z] (· = .az [.bool (Nm.fZ t z),.int .i64 (if Nm.valid t&&Nm.valid z then 0 else 11)]):=by
 unfold Nm.fZ;have c1:=rH t ht;have c2:=rH z hz;have c3:=OB t z ht hz;cases h1:Nm.valid t
 ·rw [h1] at c1;refine eP Tryz.func107 ?_;repeat' (first | with_reducible refine ar (c1) ?_ | with_reducible refine aR (c1) ?_ | with_reducible refine ar (c2) ?_ | with_reducible refine aR (c2) ?_ | with_reducible refine cY ?_ | with_reducible refine cN ?_ | with_reducible refine aj (fun _=>?_) (fun _=>?_) | refine gA Tryz.func107 ?_ | refine gB ?_ | with_reducible rfl)
  rfl
 cases h2:Nm.valid z
 ·rw [h1] at c1;rw [h2] at c2;refine eP Tryz.func107 ?_;repeat' (first | with_reducible refine ar (c1) ?_ | with_reducible refine aR (c1) ?_ | with_reducible refine ar (c2) ?_ | with_reducible refine aR (c2) ?_ | with_reducible refine cY ?_ | with_reducible refine cN ?_ | with_reducible refine aj (fun _=>?_) (fun _=>?_) | refine gA Tryz.func107 ?_ | refine gB ?_ | with_reducible rfl)
  rfl
 have hu:=Nm.Oy t z h1 h2;have OC:=Nm.Oz t z;have l1:=fD h1;have l2:=fD h2;rw [h1] at c1;rw [h2] at c2;refine eP Tryz.func107 ?_;repeat' (first | with_reducible refine ar (c1) ?_ | with_reducible refine aR (c1) ?_ | with_reducible refine ar (c2) ?_ | with_reducible refine aR (c2) ?_ | with_reducible refine ar (c3) ?_ | with_reducible refine aR (c3) ?_ | with_reducible refine cY ?_ | with_reducible refine cN ?_ | with_reducible refine aj (fun _=>?_) (fun _=>?_) | refine gA Tryz.func107 ?_ | refine gB ?_ | with_reducible rfl)
 all_goals try
  rename_i e1 e2 e3 e4;have h5:t≠z:=by simpa using e1
  have h6:z≠[46]:=by simpa using e2
  have h7:z.length<t.length:=by simp at e3; omega
  have h8:z <:+ t:=by simpa [wy] using e4
  obtain ⟨c,hc⟩:=aU (l:=t) (k:=t.length - z.length - 1) (by omega);refine l8 c (by rw [wrap64 (n:=(t.length:Int) - z.length) (by omega) (by omega),wrap64 (by omega) (by omega)]; omega) (by rw [wrap64 (n:=(t.length:Int) - z.length) (by omega) (by omega),wrap64 (by omega) (by omega),show ((t.length:Int) - z.length - 1).toNat=t.length - z.length - 1 by omega]; exact hc) ?_;refine gO Tryz.func107 ?_;have e:((c.toNat:Int)==46)=Nm.under t z:=by
   rw [Bool.eq_iff_iff,hu h5 h6,hc,beq_iff_eq];exact ⟨fun h=>⟨h7,h8,congrArg some (UInt8.toNat_inj.1 (Int.ofNat.inj h))⟩,fun h=>by cases h.2.2; rfl⟩
  rw [e];rfl
 all_goals
  refine congrArg (fun b=>DV.az [.bool b,.int .i64 0]) ?_;symm;first
   |(exact OC (by simp_all))
   |(refine Bool.eq_false_iff.2 fun e=>?_; have:=(hu (by simp_all) (by simp_all)).1 e; simp_all [wy]; try omega)
theorem CM {t:Text} (h:Nm.valid t=true):(Nm.labels t).length≤8:=by
 unfold Nm.labels;split
 ·simp
 ·rename_i hr;simp only [Nm.valid,hr,decide_false,Bool.false_or,Bool.and_eq_true,Nm.parts,decide_eq_true_eq] at h;exact h.2.1
theorem OD {α:Type} {m:Nat} {a b:α} {L:List α}:(List.replicate (m+1) a++L).set m b=List.replicate m a++b::L:=by
 rw [List.replicate_succ',List.append_assoc,List.set_append_right _ _ (by simp)];simp
theorem Hi {a b:Text} (h:Nm.labels a=Nm.labels b):a=b:=by
 unfold Nm.labels at h;split at h <;> split at h
 ·simp_all
 ·exact absurd h.symm (Nm.lH _)
 ·exact absurd h (Nm.lH _)
 ·exact Nm.GO _ _ h
def wz (t:Text):DV:=if Nm.valid t then .az [.sl ((Nm.labels t).map .str),.int .i64 0] else .az [.aD,.int .i64 11]
theorem CN (t:Text) (ht:t.length≤maxLen):au E 154 [.str t] (· = wz t):=by
 have c1:=rH t ht;unfold wz;cases h1:Nm.valid t
 ·rw [h1] at c1;refine eP Tryz.func154 ?_;repeat' (first | with_reducible refine ar (c1) ?_ | with_reducible refine aR (c1) ?_ | with_reducible refine cY ?_ | with_reducible refine cN ?_ | with_reducible refine aj (fun _=>?_) (fun _=>?_) | refine gA Tryz.func154 ?_ | refine gB ?_ | with_reducible rfl)
  rfl
 rw [h1] at c1;have l1:=fD h1;have l2:=CM h1;rw [if_pos rfl];refine eP Tryz.func154 ?_;refine ar (c1) ?_;refine gO Tryz.func154 ?_;refine aN ?_;refine gO Tryz.func154 ?_;refine bp (by decide) ?_;refine gO Tryz.func154 ?_;refine I.rangeFunc (aM rfl) Tryz.func233 rfl (by decide) rfl (fun ll d tt=>?_);refine gO Tryz.func233 ?_;refine aj (fun h3=>?_) (fun h3=>?_)
 ·obtain rfl:t=[46]:=by simpa using h3
  refine gO Tryz.func233 ?_;refine I.iC ag Tryz.func233 rfl rfl rfl rfl (fun e=>nomatch e) ?_;(conv=>whnf);refine I.freeze 0 ?_;refine gO Tryz.func154 ?_;refine I.slice3 (n:=8) ag rfl rfl rfl rfl rfl (aM rfl) (aM rfl) (aM rfl) (aM rfl) (by decide) (by decide) ?_;refine gO Tryz.func154 ?_;refine I.fP ag Tryz.func154 rfl rfl rfl rfl rfl ?_;rfl
 have hr:t≠[46]:=by simpa using h3
 have rI:Nm.labels t=Nm.split t:=by simp [Nm.labels,hr]
 rw [rI] at l2 ⊢;refine gO Tryz.func233 ?_;refine I.loop (κ:=Text × List Text) [4,5,9,10,11,12,13,14,15,16,17,18,19,20,21,22,23,24] (fun x=>[(4,.d (.str x.1))]) (fun x=>[(0,.arr 0 (9,1) (List.replicate (8 - x.2.length) (DV.str [])++x.2.map .str)),(2,.cells [.d (.int .i64 ((8:Int) - x.2.length))])]) (fun x=>x.1.length≤60∧Nm.split t=Nm.split x.1++x.2) (fun x=>x.1.length) (t,[]) ⟨l1,by simp⟩ ?_ ?_
 ·(conv=>whnf);repeat (first | exact trivial | (refine sI ?_; conv=>whnf))
  refine And.intro rfl ?_;(conv=>whnf);repeat (first | exact trivial | (refine sI ?_; conv=>whnf))
  refine And.intro rfl ?_;exact sZ
 rintro ⟨rest,S⟩ ⟨k1,k2⟩ IH;simp only at k1 k2;obtain ⟨i,x,P,e1,e2,e3,e4,e5,e6,e7⟩:=yU rest;have c1:=yT rest (by unfold maxLen; omega);have hw:IntKind.i64.wrap (i+1)=i+1:=wrap64 (by omega) (by omega);have e8:Nm.split t=P++x::S:=by rw [k2,e5]; simp
 have hn:S.length+1≤8:=by rw [e8] at l2; simp at l2; omega
 rw [e1] at c1;refine I.head ag Tryz.func233 2000 ?_;(conv=>whnf);refine ar (c1) ?_;refine gO Tryz.func233 ?_;refine bp ⟨by rw [hw]; simp; omega,by rw [hw]; simp; omega,by simp⟩ ?_;refine gO Tryz.func233 ?_;rw [hw];simp only [Option.getD_none,Option.getD_some,Int.toNat_natCast,List.take_length,e4];refine I.yield 0 rfl rfl rfl (aM rfl) (lJ (aM rfl)) rfl ?_;(conv=>whnf);refine gO Tryz.func154 ?_;refine I.begin 0 rfl rfl rfl ?_;(conv=>whnf);refine gO Tryz.func154 ?_;obtain ⟨m,hm⟩:∃ m,8 - S.length=m+1:=⟨7 - S.length,by omega⟩;have wA:IntKind.i64.wrap ((8:Int) - S.length - 1)=(m:Int):=by rw [wrap64 (by omega) (by omega)]; omega
 have qA:=OD (m:=m) (a:=DV.str []) (b:=DV.str x) (L:=S.map .str);rw [hm];refine bp ⟨by rw [wA]; omega,by rw [wA]; simp; omega⟩ ?_;refine gO Tryz.func154 ?_;rw [wA];refine aT (e := .str []) ⟨by omega,by simp [List.getElem?_append_left]⟩ rfl ?_;refine gO Tryz.func154 ?_;rw [Int.toNat_natCast,qA];refine I.mj 0 rfl rfl rfl ?_;(conv=>whnf);refine gO Tryz.func233 ?_;refine aW (by decide) ?_;refine gO Tryz.func233 ?_;refine aj (fun h5=>?_) (fun h5=>?_)
 ·refine gO Tryz.func233 ?_;refine I.iC ag Tryz.func233 rfl rfl rfl rfl (fun e=>nomatch e) ?_;(conv=>whnf);refine I.freeze 0 ?_;refine gO Tryz.func154 ?_
  refine I.slice3 (n:=m) ag rfl rfl rfl rfl rfl (aM rfl) (aM rfl) (aM rfl) (aM rfl) (by simp) (fun e he=>by
   rcases List.mem_append.1 he with h | h
   ·rw [(List.mem_replicate.1 h).2]; rfl
   ·rcases List.mem_cons.1 h with rfl | h
    ·rfl
    ·obtain ⟨y,-,rfl⟩:=List.mem_map.1 h; rfl) ?_
  refine gO Tryz.func154 ?_;refine I.fP ag Tryz.func154 rfl rfl rfl rfl rfl ?_;rw [e8,e6 (by simpa using h5),List.drop_left' (by simp)];rfl
 ·have h5:0≤i:=by simpa using h5
  refine gO Tryz.func233 ?_;refine bp ⟨by simp,by simp; omega,by simp; omega⟩ ?_;refine gO Tryz.func233 ?_;simp only [Option.getD_none,Option.getD_some,Int.toNat_zero,List.drop_zero];refine I.back (IH (rest.take i.toNat,x::S) ⟨by simp; omega,by simp only; rw [e8,e7 h5]⟩ (by simp; omega)) ?_;(conv=>whnf);repeat (first | exact trivial | (refine sI ?_; conv=>whnf))
  refine And.intro (by rw [show 8 - (rest.take i.toNat,x::S).2.length=m by simp; omega]; rfl) ?_;(conv=>whnf);repeat (first | exact trivial | (refine sI ?_; conv=>whnf))
  refine And.intro (congrArg (DV.int .i64) (by simp; omega)) ?_;exact sZ
end Go.Proofs.YtfmdaiojokniiaaGreatDoor.P
