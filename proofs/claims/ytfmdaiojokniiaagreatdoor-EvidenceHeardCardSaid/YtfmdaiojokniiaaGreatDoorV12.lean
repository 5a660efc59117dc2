/- Several texts of mine, one behind the other. Conditions: as each says. -/
import Derived.Test.YtfmdaiojokniiaaGreatDoorV11
set_option linter.unusedVariables false
set_option linter.unusedSimpArgs false
section
namespace Go.Proofs.YtfmdaiojokniiaaGreatDoor.P
open Go Go.aw Go.RowKit
set_option maxRecDepth 100000
set_option maxHeartbeats 4000000
theorem Nm.Ij (l:List UInt8) (h:Nm.valid l=true):1≤l.length:=by
 cases l with
 |nil=>exfalso; revert h; decide
 |cons c r=>simp
theorem Nm.PO (a z:List UInt8):Nm.split z <:+ Nm.split (a++46::z):=⟨Nm.split a,(Nm.zM a z).symm⟩
theorem Nm.PQ (p q:List (List UInt8)) (hp:p≠[]) (hq:q≠[]):Nm.glue (p++q)=Nm.glue p++46::Nm.glue q:=by
 induction p with
 |nil=>exact absurd rfl hp
 |cons x t ih =>
  cases t with
  |nil =>
   cases q with
   |nil=>exact absurd rfl hq
   |cons y u=>rfl
  |cons y u =>
   have:=ih (by simp);simp only [List.cons_append,Nm.glue] at this ⊢;rw [this]; simp
theorem Nm.xu (s z:List UInt8) (hs:s≠[46]) (hz:z≠[46]):Nm.under s z=true↔s=z∨∃ a,s=a++46::z:=by
 simp only [Nm.under,decide_eq_true_eq,Nm.labels,hs,hz,if_false];constructor
 ·rintro ⟨p,hp⟩;cases p with
  |nil=>left; exact (Nm.HP _ _ hp).symm
  |cons x t =>
   right;refine ⟨Nm.glue (x::t),?_⟩;rw [← Nm.sy s,← hp,Nm.PQ _ _ (by simp) (Nm.mA z),Nm.sy]
 ·rintro (rfl | ⟨a,rfl⟩)
  ·exact List.suffix_refl _
  ·exact Nm.PO a z
theorem Nm.PR (s z:List UInt8) (hs:Nm.valid s=true) (hz:Nm.valid z=true) (h1:s≠z) (h2:z≠[46]) :
  Nm.under s z=true↔z.length<s.length∧z <:+ s∧s[s.length - z.length - 1]? = some 46:=by
 by_cases hr:s=[46]
 ·subst hr;have jL:=Nm.Ij z hz;constructor
  ·intro h;simp only [Nm.under,decide_eq_true_eq,Nm.labels,h2,if_false,if_true] at h;exact absurd (List.eq_nil_of_suffix_nil h) (Nm.mA z)
  ·rintro ⟨h,_⟩; exfalso; simp only [List.length_singleton] at h; omega
 ·rw [Nm.xu s z hr h2];constructor
  ·rintro (h | ⟨a,rfl⟩)
   ·exact absurd h h1
   ·refine ⟨by simp; omega,⟨a++[46],by simp⟩,?_⟩;rw [show (a++46::z).length - z.length - 1=a.length by simp; omega];simp
  ·rintro ⟨h,⟨p,rfl⟩,h3⟩;right;have hp:p≠[]:=by rintro rfl; simp at h
   rw [show (p++z).length - z.length - 1=p.length - 1 by simp,List.getElem?_append_left (by have:=List.length_pos_iff.2 hp; omega)] at h3;refine ⟨p.dropLast,?_⟩;have e:p.getLast hp=46:=by
    rw [List.getLast_eq_getElem];exact (List.getElem?_eq_some_iff.1 h3).2
   conv=>lhs; rw [← List.dropLast_concat_getLast hp,e]
   simp
theorem Nm.PT (s z:List UInt8) (h:s=z∨z=[46]):Nm.under s z=true:=by
 simp only [Nm.under,decide_eq_true_eq];rcases h with rfl | rfl
 ·exact List.suffix_refl _
 ·simp [Nm.labels]
theorem gm (t:Text) (ht:t.length≤maxLen):aq E 104 [.str t] (· = .bool (Nm.valid t)):=by
 have c1:=sJ t ht;refine eP Tryz.func104 ?_;refine ao (c1) ?_;refine gO Tryz.func104 ?_
 with_reducible rfl
def xv (a b:Text):Bool:=decide (b <:+ a)
theorem PU (a b:Text) (ha:a.length≤maxLen) (hb:b.length≤maxLen):aq E 259 [.str a,.str b] (· = .bool (xv a b)):=by
 unfold maxLen at ha hb;have hw:IntKind.i64.wrap ((a.length:Int) - b.length)=(a.length:Int) - b.length:=wrap64 (by omega) (by omega);unfold xv;refine eP Tryz.func259 ?_;refine ai (fun h=>?_) (fun h=>?_)
 ·have h:=of_decide_eq_true h;refine gO Tryz.func259 ?_;rw [hw];refine a8 ⟨by simp; omega,by simp; omega,by simp⟩ ?_;refine gO Tryz.func259 ?_;refine congrArg DV.bool ?_;rw [Bool.eq_iff_iff,beq_iff_eq,decide_eq_true_eq,List.suffix_iff_eq_drop];simp only [Option.getD_some,Option.getD_none,Int.toNat_natCast,List.take_length,show ((a.length:Int) - b.length).toNat=a.length - b.length by omega];exact eq_comm
 ·have h:=of_decide_eq_false h;refine gO Tryz.func259 ?_;rw [decide_eq_false];exact fun e=>by have:=e.length_le; omega
theorem PV (a b:Text) (ha:a.length≤maxLen) (hb:b.length≤maxLen):aq E 180 [.str a,.str b] (· = .bool (xv a b)):=by
 have c1:=PU a b ha hb;refine eP Tryz.func180 ?_;refine ao (c1) ?_;refine gO Tryz.func180 ?_
 with_reducible rfl
theorem uK (t z:Text) (ht:t.length≤maxLen) (hz:z.length≤maxLen):aq E 107 [.str t,.str z] (· = .aD [.bool (Nm.iB t z),.int .i64 (if Nm.valid t&&Nm.valid z then 0 else 11)]):=by
 unfold Nm.iB;have c1:=sJ t ht;have c2:=sJ z hz;have c3:=PV t z ht hz;cases h1:Nm.valid t
 ·rw [h1] at c1;refine eP Tryz.func107 ?_;repeat' (first | with_reducible refine ao (c1) ?_ | with_reducible refine ay (c1) ?_ | with_reducible refine ao (c2) ?_ | with_reducible refine ay (c2) ?_ | with_reducible refine cY ?_ | with_reducible refine cN ?_ | with_reducible refine ai (fun _=>?_) (fun _=>?_) | refine gA Tryz.func107 ?_ | refine gB ?_ | with_reducible rfl)
  rfl
 cases h2:Nm.valid z
 ·rw [h1] at c1;rw [h2] at c2;refine eP Tryz.func107 ?_;repeat' (first | with_reducible refine ao (c1) ?_ | with_reducible refine ay (c1) ?_ | with_reducible refine ao (c2) ?_ | with_reducible refine ay (c2) ?_ | with_reducible refine cY ?_ | with_reducible refine cN ?_ | with_reducible refine ai (fun _=>?_) (fun _=>?_) | refine gA Tryz.func107 ?_ | refine gB ?_ | with_reducible rfl)
  rfl
 have hu:=Nm.PR t z h1 h2;have PW:=Nm.PT t z;have l1:=eJ h1;have l2:=eJ h2;rw [h1] at c1;rw [h2] at c2;refine eP Tryz.func107 ?_;repeat' (first | with_reducible refine ao (c1) ?_ | with_reducible refine ay (c1) ?_ | with_reducible refine ao (c2) ?_ | with_reducible refine ay (c2) ?_ | with_reducible refine ao (c3) ?_ | with_reducible refine ay (c3) ?_ | with_reducible refine cY ?_ | with_reducible refine cN ?_ | with_reducible refine ai (fun _=>?_) (fun _=>?_) | refine gA Tryz.func107 ?_ | refine gB ?_ | with_reducible rfl)
 all_goals try
  rename_i e1 e2 e3 e4;have h5:t≠z:=by simpa using e1
  have h6:z≠[46]:=by simpa using e2
  have h7:z.length<t.length:=by simp at e3; omega
  have h8:z <:+ t:=by simpa [xv] using e4
  obtain ⟨c,hc⟩:=aL (l:=t) (k:=t.length - z.length - 1) (by omega);refine jt c (by rw [wrap64 (n:=(t.length:Int) - z.length) (by omega) (by omega),wrap64 (by omega) (by omega)]; omega) (by rw [wrap64 (n:=(t.length:Int) - z.length) (by omega) (by omega),wrap64 (by omega) (by omega),show ((t.length:Int) - z.length - 1).toNat=t.length - z.length - 1 by omega]; exact hc) ?_;refine gO Tryz.func107 ?_;have e:((c.toNat:Int)==46)=Nm.under t z:=by
   rw [Bool.eq_iff_iff,hu h5 h6,hc,beq_iff_eq];exact ⟨fun h=>⟨h7,h8,congrArg some (UInt8.toNat_inj.1 (Int.ofNat.inj h))⟩,fun h=>by cases h.2.2; rfl⟩
  rw [e];rfl
 all_goals
  refine congrArg (fun b=>DV.aD [.bool b,.int .i64 0]) ?_;symm;first
   |(exact PW (by simp_all))
   |(refine Bool.eq_false_iff.2 fun e=>?_; have:=(hu (by simp_all) (by simp_all)).1 e; simp_all [xv]; try omega)
theorem DE {t:Text} (h:Nm.valid t=true):(Nm.labels t).length≤8:=by
 unfold Nm.labels;split
 ·simp
 ·rename_i hr;simp only [Nm.valid,hr,decide_false,Bool.false_or,Bool.and_eq_true,Nm.parts,decide_eq_true_eq] at h;exact h.2.1
theorem PX {α:Type} {m:Nat} {a b:α} {L:List α}:(List.replicate (m+1) a++L).set m b=List.replicate m a++b::L:=by
 rw [List.replicate_succ',List.append_assoc,List.set_append_right _ _ (by simp)];simp
theorem Ik {a b:Text} (h:Nm.labels a=Nm.labels b):a=b:=by
 unfold Nm.labels at h;split at h <;> split at h
 ·simp_all
 ·exact absurd h.symm (Nm.mA _)
 ·exact absurd h (Nm.mA _)
 ·exact Nm.HP _ _ h
def xw (t:Text):DV:=if Nm.valid t then .aD [.sl ((Nm.labels t).map .str),.int .i64 0] else .aD [.aH,.int .i64 11]
theorem DF (t:Text) (ht:t.length≤maxLen):aq E 154 [.str t] (· = xw t):=by
 have c1:=sJ t ht;unfold xw;cases h1:Nm.valid t
 ·rw [h1] at c1;refine eP Tryz.func154 ?_;repeat' (first | with_reducible refine ao (c1) ?_ | with_reducible refine ay (c1) ?_ | with_reducible refine cY ?_ | with_reducible refine cN ?_ | with_reducible refine ai (fun _=>?_) (fun _=>?_) | refine gA Tryz.func154 ?_ | refine gB ?_ | with_reducible rfl)
  rfl
 rw [h1] at c1;have l1:=eJ h1;have l2:=DE h1;rw [if_pos rfl];refine eP Tryz.func154 ?_;refine ao (c1) ?_;refine gO Tryz.func154 ?_;refine aQ ?_;refine gO Tryz.func154 ?_;refine a8 (by decide) ?_;refine gO Tryz.func154 ?_;refine I.rangeFunc (aP rfl) Tryz.func233 rfl (by decide) rfl (fun ll d tt=>?_);refine gO Tryz.func233 ?_;refine ai (fun h3=>?_) (fun h3=>?_)
 ·obtain rfl:t=[46]:=by simpa using h3
  refine gO Tryz.func233 ?_;refine I.iD af Tryz.func233 rfl rfl rfl rfl (fun e=>nomatch e) ?_;(conv=>whnf);refine I.freeze 0 ?_;refine gO Tryz.func154 ?_;refine I.slice3 (n:=8) af rfl rfl rfl rfl rfl (aP rfl) (aP rfl) (aP rfl) (aP rfl) (by decide) (by decide) ?_;refine gO Tryz.func154 ?_;refine I.fS af Tryz.func154 rfl rfl rfl rfl rfl ?_;rfl
 have hr:t≠[46]:=by simpa using h3
 have qL:Nm.labels t=Nm.split t:=by simp [Nm.labels,hr]
 rw [qL] at l2 ⊢;refine gO Tryz.func233 ?_;refine I.loop (κ:=Text × List Text) [4,5,9,10,11,12,13,14,15,16,17,18,19,20,21,22,23,24] (fun x=>[(4,.d (.str x.1))]) (fun x=>[(0,.arr 0 (9,1) (List.replicate (8 - x.2.length) (DV.str [])++x.2.map .str)),(2,.cells [.d (.int .i64 ((8:Int) - x.2.length))])]) (fun x=>x.1.length≤60∧Nm.split t=Nm.split x.1++x.2) (fun x=>x.1.length) (t,[]) ⟨l1,by simp⟩ ?_ ?_
 ·(conv=>whnf);repeat (first | exact trivial | (refine sI ?_; conv=>whnf))
  refine And.intro rfl ?_;(conv=>whnf);repeat (first | exact trivial | (refine sI ?_; conv=>whnf))
  refine And.intro rfl ?_;exact sZ
 rintro ⟨rest,S⟩ ⟨k1,k2⟩ IH;simp only at k1 k2;obtain ⟨i,x,P,e1,e2,e3,e4,e5,e6,e7⟩:=zZ rest;have c1:=zY rest (by unfold maxLen; omega);have hw:IntKind.i64.wrap (i+1)=i+1:=wrap64 (by omega) (by omega);have e8:Nm.split t=P++x::S:=by rw [k2,e5]; simp
 have hn:S.length+1≤8:=by rw [e8] at l2; simp at l2; omega
 rw [e1] at c1;refine I.head af Tryz.func233 2000 ?_;(conv=>whnf);refine ao (c1) ?_;refine gO Tryz.func233 ?_;refine a8 ⟨by rw [hw]; simp; omega,by rw [hw]; simp; omega,by simp⟩ ?_;refine gO Tryz.func233 ?_;rw [hw];simp only [Option.getD_none,Option.getD_some,Int.toNat_natCast,List.take_length,e4];refine I.yield 0 rfl rfl rfl (aP rfl) (lG (aP rfl)) rfl ?_;(conv=>whnf);refine gO Tryz.func154 ?_;refine I.begin 0 rfl rfl rfl ?_;(conv=>whnf);refine gO Tryz.func154 ?_;obtain ⟨m,hm⟩:∃ m,8 - S.length=m+1:=⟨7 - S.length,by omega⟩;have xx:IntKind.i64.wrap ((8:Int) - S.length - 1)=(m:Int):=by rw [wrap64 (by omega) (by omega)]; omega
 have rD:=PX (m:=m) (a:=DV.str []) (b:=DV.str x) (L:=S.map .str);rw [hm];refine a8 ⟨by rw [xx]; omega,by rw [xx]; simp; omega⟩ ?_;refine gO Tryz.func154 ?_;rw [xx];refine aE (e := .str []) ⟨by omega,by simp [List.getElem?_append_left]⟩ rfl ?_;refine gO Tryz.func154 ?_;rw [Int.toNat_natCast,rD];refine I.mC 0 rfl rfl rfl ?_;(conv=>whnf);refine gO Tryz.func233 ?_;refine aZ (by decide) ?_;refine gO Tryz.func233 ?_;refine ai (fun h5=>?_) (fun h5=>?_)
 ·refine gO Tryz.func233 ?_;refine I.iD af Tryz.func233 rfl rfl rfl rfl (fun e=>nomatch e) ?_;(conv=>whnf);refine I.freeze 0 ?_;refine gO Tryz.func154 ?_
  refine I.slice3 (n:=m) af rfl rfl rfl rfl rfl (aP rfl) (aP rfl) (aP rfl) (aP rfl) (by simp) (fun e he=>by
   rcases List.mem_append.1 he with h | h
   ·rw [(List.mem_replicate.1 h).2]; rfl
   ·rcases List.mem_cons.1 h with rfl | h
    ·rfl
    ·obtain ⟨y,-,rfl⟩:=List.mem_map.1 h; rfl) ?_
  refine gO Tryz.func154 ?_;refine I.fS af Tryz.func154 rfl rfl rfl rfl rfl ?_;rw [e8,e6 (by simpa using h5),List.drop_left' (by simp)];rfl
 ·have h5:0≤i:=by simpa using h5
  refine gO Tryz.func233 ?_;refine a8 ⟨by simp,by simp; omega,by simp; omega⟩ ?_;refine gO Tryz.func233 ?_;simp only [Option.getD_none,Option.getD_some,Int.toNat_zero,List.drop_zero];refine I.back (IH (rest.take i.toNat,x::S) ⟨by simp; omega,by simp only; rw [e8,e7 h5]⟩ (by simp; omega)) ?_;(conv=>whnf);repeat (first | exact trivial | (refine sI ?_; conv=>whnf))
  refine And.intro (by rw [show 8 - (rest.take i.toNat,x::S).2.length=m by simp; omega]; rfl) ?_;(conv=>whnf);repeat (first | exact trivial | (refine sI ?_; conv=>whnf))
  refine And.intro (congrArg (DV.int .i64) (by simp; omega)) ?_;exact sZ
end Go.Proofs.YtfmdaiojokniiaaGreatDoor.P
end
section
namespace Go.Proofs.YtfmdaiojokniiaaGreatDoor.P
open Go Go.aw
set_option maxRecDepth 100000
theorem xy (x a b:Int):aq E 277 [.int .i64 x,.int .i64 a,.int .i64 b] (· = .bool (decide (a≤x)&&decide (x≤b))):=by
 refine eP Tryz.func277 ?_;refine ai (fun h=>?_) (fun h=>?_)
 ·refine gO Tryz.func277 ?_;rw [h]; rfl
 ·refine gO Tryz.func277 ?_;rw [h]; rfl
theorem Il (x a b:Int):aq E 350 [.int .u8 x,.int .u8 a,.int .u8 b] (· = .bool (decide (a≤x)&&decide (x≤b))):=by
 refine eP Tryz.func350 ?_;refine ai (fun h=>?_) (fun h=>?_)
 ·refine gO Tryz.func350 ?_;rw [h]; rfl
 ·refine gO Tryz.func350 ?_;rw [h]; rfl
theorem Im (x:Int):aq E 176 [.int .i64 x] (· = .bool false):=by
 refine eP Tryz.func176 ?_;simp
theorem Io (x:List UInt8):aq E 351 [.str x] (· = .bool false):=by
 refine eP Tryz.func351 ?_;simp
def iE (a b:Int):Int:=if a<b then -1 else if b<a then 1 else 0
theorem z6 (a b:Int):aq E 101 [.int .i64 a,.int .i64 b] (· = .int .i64 (iE a b)):=by
 refine eP Tryz.func101 ?_;repeat' (first | with_reducible refine ao (Im _) ?_ | with_reducible refine ay (Im _) ?_ | with_reducible refine cY ?_ | with_reducible refine cN ?_ | with_reducible refine ai (fun _=>?_) (fun _=>?_) | refine gA Tryz.func101 ?_ | refine gB ?_ | with_reducible rfl)
 all_goals (simp_all [iE])
 all_goals omega
def uL (a b:List UInt8):Int:=if Op.bytesLess a b then -1 else if a=b then 0 else 1
theorem PY (a b:List UInt8):aq E 332 [.str a,.str b] (· = .int .i64 (uL a b)):=by
 refine eP Tryz.func332 ?_;repeat' (first | with_reducible refine ao (Io _) ?_ | with_reducible refine ay (Io _) ?_ | with_reducible refine cY ?_ | with_reducible refine cN ?_ | with_reducible refine ai (fun _=>?_) (fun _=>?_) | refine gA Tryz.func332 ?_ | refine gB ?_ | with_reducible rfl)
 all_goals (simp_all [uL])
end Go.Proofs.YtfmdaiojokniiaaGreatDoor.P
end
section
namespace Go.Proofs.YtfmdaiojokniiaaGreatDoor.P
open Go Go.aw
set_option maxRecDepth 100000
def pn:List Int→Int
 | []=>0
 |x::l=>if x=0 then pn l else x
theorem DG {l:List Int}:∀ {k:Nat},(∀ j,j<k→l[j]? = some 0)→pn l=pn (l.drop k)
 | 0,_=>rfl
 |k+1,h=>by
  cases l with
  |nil=>rfl
  |cons x l =>
   have h0:=h 0 (by omega);simp at h0;subst h0;simp only [pn,if_true,List.drop_succ_cons];exact DG fun j hj=>by have:=h (j+1) (by omega); simpa using this
theorem PZ (l:List Int) (hl:l.length≤2147483648):aq E 331 [.sl (l.map (.int .i64))] (· = .int .i64 (pn l)):=by
 refine eP Tryz.func331 ?_;refine I.loop (κ:=Nat) ([2,5]++rg 8 9) (fun k=>[(8,.d (.int .i64 k)),(2,.d (.int .i64 0))]) (fun _=>[]) (fun k=>k≤l.length∧∀ j,j<k→l[j]? = some 0) (fun k=>l.length - k) 0 ⟨Nat.zero_le _,fun j h=>by omega⟩ ?_ ?_
 ·exact sZ
 ·intro k hk IH;refine I.head af Tryz.func331 2000 ?_;(conv=>whnf);refine ai (fun h1=>?_) (fun h1=>?_)
  ·simp at h1;obtain ⟨x,hx⟩:=aL h1;refine gO Tryz.func331 ?_;refine ev (.int .i64 x) (by omega) (jY hx) rfl ?_;refine gO Tryz.func331 ?_;refine ai (fun h2=>?_) (fun h2=>?_)
   ·refine gO Tryz.func331 ?_;have aJ:x≠0:=by simpa using h2
    rw [DG hk.2,List.drop_eq_getElem_cons h1];have:l[k]=x:=by simpa [h1] using hx
    simp only [pn,this,if_neg aJ]
   ·refine gO Tryz.func331 ?_;have h0:x=0:=by simpa using h2
    subst h0;refine I.back (IH (k+1) ⟨by omega,fun j hj=>?_⟩ (by omega)) ?_
    ·rcases Nat.lt_or_ge j k with h | h
     ·exact hk.2 j h
     ·obtain rfl:j=k:=by omega
      exact hx
    ·exact sZ
  ·simp at h1;refine gO Tryz.func331 ?_;rw [DG hk.2,List.drop_of_length_le h1];rfl
def po (a b:Datum):Int:=pn [uL a.text b.text,iE a.n b.n,iE a.m b.m]
theorem P0 (a b:Datum):aq E 280 [a.enc,b.enc] (· = .int .i64 (po a b)):=by
 refine eP Tryz.func280 ?_;refine I.bH af bI 2000 (by kernel_rfl) ?_;(conv=>whnf);refine ay (PY _ _) ?_;refine gD ?_;refine ay (z6 _ _) ?_;refine gD ?_;refine ay (z6 _ _) ?_;refine gD ?_;refine ay (PZ [uL a.text b.text,iE a.n b.n,iE a.m b.m] (by simp)) ?_;refine gD ?_;refine gO Tryz.func280 ?_;rfl
def preB (a b:List UInt8):Bool:=b.isPrefixOf a
theorem P1 {a b:List UInt8}:(a.take b.length==b)=preB a b:=by
 unfold preB;rw [Bool.eq_iff_iff,beq_iff_eq,List.isPrefixOf_iff_prefix];constructor
 ·intro e; rw [← e]; exact List.take_prefix _ _
 ·intro e; exact (List.prefix_iff_eq_take.1 e).symm
theorem P2 {a b:List UInt8} (h:a.length<b.length):preB a b=false:=by
 unfold preB;rw [Bool.eq_false_iff];intro e;have:=(List.isPrefixOf_iff_prefix.1 e).length_le;omega
theorem P3 (a b:List UInt8):aq E 207 [.str a,.str b] (· = .bool (preB a b)):=by
 refine eP Tryz.func207 ?_;refine ai (fun h=>?_) (fun h=>?_)
 ·simp at h;refine gO Tryz.func207 ?_;refine a8 ⟨by simp,by simp,by simp; omega⟩ ?_;refine gO Tryz.func207 ?_;simp;exact P1
 ·simp at h;refine gO Tryz.func207 ?_;rw [P2 h]
theorem z7 (a b:List UInt8):aq E 133 [.str a,.str b] (· = .bool (preB a b)):=by
 refine eP Tryz.func133 ?_
 with_reducible refine ao (P3 _ _) ?_
 refine gO Tryz.func133 ?_
 with_reducible rfl
theorem Ip (a:List UInt8):preB a [42]=Nm.gZ a:=by
 cases a with
 |nil=>rfl
 |cons c a =>
  show ((42:UInt8)==c&&List.isPrefixOf [] a)=(c==42);simp only [List.isPrefixOf,Bool.and_true];exact BEq.comm
theorem z8 (a:List UInt8):aq E 278 [.str a] (· = .bool (Nm.gZ a)):=by
 refine eP Tryz.func278 ?_
 with_reducible refine ao (z7 _ _) ?_
 refine gO Tryz.func278 ?_;exact congrArg _ (Ip a)
def nv (c:UInt8):Bool:=(decide (97≤(c.toNat:Int))&&decide ((c.toNat:Int)≤122))||(decide (48≤(c.toNat:Int))&&decide ((c.toNat:Int)≤57))||((c.toNat:Int)==32)
def gh (t:List UInt8):Bool:=decide (1≤(t.length:Int))&&decide ((t.length:Int)≤40) && !(t.head?.any fun c=>(c.toNat:Int)==32) && !(t.getLast?.any fun c=>(c.toNat:Int)==32)&&t.all nv
theorem Iq {t:List UInt8} (h1:1≤t.length) (h2:t.length≤40) {c0 c1:UInt8} (h3:t[0]? = some c0) (h4:t[t.length - 1]? = some c1) (h5:((c0.toNat:Int)==32)=false) (h6:((c1.toNat:Int)==32)=false):gh t=t.all nv:=by
 have e1:t.head? = some c0:=by rw [← h3]; exact List.head?_eq_getElem?
 have e2:t.getLast? = some c1:=by rw [← h4,List.getLast?_eq_getElem?]
 have e3:decide (1≤(t.length:Int))=true:=by simp; omega
 have e4:decide ((t.length:Int)≤40)=true:=by simp; omega
 simp only [gh,e1,e2,e3,e4,Option.any_some,h5,h6,Bool.not_false,Bool.and_self,Bool.true_and]
theorem okF {a b:Bool} {x y:Int} (h1:(!a)=true) (h2:(!b)=true) (h3:(x != y)=true):(a||b||(x==y))=false:=by
 cases a <;> cases b <;> simp_all
theorem P4 {a b d:Bool} (h:(!a)=false):(a||b||d)=true:=by cases a <;> simp_all
theorem P5 {a b d:Bool} (h:(!b)=false):(a||b||d)=true:=by cases b <;> simp_all
theorem P6 {a b:Bool} {x y:Int} (h:(x != y)=false):(a||b||(x==y))=true:=by simp_all
theorem Ir (t:List UInt8):aq E 330 [.str t] (· = .bool (gh t)):=by
 refine eP Tryz.func330 ?_
 with_reducible refine ao (xy _ _ _) ?_
 refine gO Tryz.func330 ?_;refine ai (fun h1=>?_) (fun h1=>?_)
 ·refine gO Tryz.func330 ?_;refine aV ?_;refine gO Tryz.func330 ?_;refine aV ?_;refine gO Tryz.func330 ?_;have:(decide (1≤(t.length:Int))&&decide ((t.length:Int)≤40))=false:=by rw [Bool.not_eq_true'] at h1; exact h1
  simp only [gh,this,Bool.false_and]
 ·have hb:1≤t.length∧t.length≤40:=by simp at h1; omega
  obtain ⟨c0,pq⟩:=aL (l:=t) (k:=0) (by omega);obtain ⟨c1,jM⟩:=aL (l:=t) (k:=t.length - 1) (by omega);have hw:(IntKind.i64.wrap (t.length - 1))=((t.length - 1:Nat):Int):=by rw [wrap64 (by omega) (by omega)]; omega
  refine gO Tryz.func330 ?_;refine jt c0 (by decide) pq ?_;refine gO Tryz.func330 ?_;refine ai (fun h2=>?_) (fun h2=>?_)
  ·refine gO Tryz.func330 ?_;refine aV ?_;refine gO Tryz.func330 ?_;have e1:t.head? = some c0:=by rw [← pq]; exact List.head?_eq_getElem?
   simp only [gh,e1,Option.any_some,h2,Bool.not_true,Bool.and_false,Bool.false_and]
  ·refine gO Tryz.func330 ?_;rw [hw];refine jt c1 (by omega) (by rw [Int.toNat_natCast]; exact jM) ?_;refine gO Tryz.func330 ?_;refine ai (fun h3=>?_) (fun h3=>?_)
   ·refine gO Tryz.func330 ?_;have e2:t.getLast? = some c1:=by rw [← jM,List.getLast?_eq_getElem?]
    simp only [gh,e2,Option.any_some,h3,Bool.not_true,Bool.and_false,Bool.false_and]
   ·rw [Iq hb.1 hb.2 pq jM h2 h3];refine gO Tryz.func330 ?_;refine I.loop (κ:=Nat) ([3,4,2]++rg 24 19) (fun k=>[(24,.d (.int .i64 k))]) (fun _=>[]) (fun k=>k≤t.length∧∀ j c,j<k→t[j]? = some c→nv c=true) (fun k=>t.length - k) 0 ⟨Nat.zero_le _,fun j c h=>by omega⟩ ?_ ?_
    ·exact sZ
    ·intro k hk IH;have no:∀ c,t[k]? = some c→nv c=false→t.all nv=false:=fun c hc h=>by
      rw [Bool.eq_false_iff];intro aW;have:=List.all_eq_true.1 aW c (List.mem_of_getElem? hc);rw [h] at this;cases this
     refine I.head af Tryz.func330 2000 ?_;(conv=>whnf);refine ai (fun h4=>?_) (fun h4=>?_)
     ·simp at h4;obtain ⟨c,hc⟩:=aL h4;have next:nv c=true→∀ j c',j<k+1→t[j]? = some c'→nv c'=true:=fun ho j c' hj vY=>by
       rcases Nat.lt_or_ge j k with h | h
       ·exact hk.2 j c' h vY
       ·obtain rfl:j=k:=by omega
        rw [hc] at vY; cases vY; exact ho
      refine gO Tryz.func330 ?_;refine jt c (by omega) (by rw [Int.toNat_natCast]; exact hc) ?_;refine gO Tryz.func330 ?_
      with_reducible refine ao (Il _ _ _) ?_
      refine gO Tryz.func330 ?_;refine ai (fun h5=>?_) (fun h5=>?_)
      ·refine gO Tryz.func330 ?_
       with_reducible refine ao (Il _ _ _) ?_
       refine gO Tryz.func330 ?_;refine ai (fun h6=>?_) (fun h6=>?_)
       ·refine gO Tryz.func330 ?_;refine ai (fun h7=>?_) (fun h7=>?_)
        ·refine gO Tryz.func330 ?_;rw [no c hc (okF h5 h6 h7)]
        ·refine gO Tryz.func330 ?_;refine I.back (IH (k+1) ⟨by omega,next (P6 h7)⟩ (by omega)) ?_;exact sZ
       ·refine gO Tryz.func330 ?_;refine aQ ?_;refine gO Tryz.func330 ?_;refine I.back (IH (k+1) ⟨by omega,next (P5 h6)⟩ (by omega)) ?_;exact sZ
      ·refine gO Tryz.func330 ?_;refine aQ ?_;refine gO Tryz.func330 ?_;refine aQ ?_;refine gO Tryz.func330 ?_;refine I.back (IH (k+1) ⟨by omega,next (P4 h5)⟩ (by omega)) ?_;exact sZ
     ·simp at h4;refine gO Tryz.func330 ?_;have:t.all nv=true:=by
       rw [List.all_eq_true];intro c hc;obtain ⟨j,hj⟩:=List.getElem?_of_mem hc;exact hk.2 j c (by have:=aR hj; omega) hj
      rw [this]
end Go.Proofs.YtfmdaiojokniiaaGreatDoor.P
end
