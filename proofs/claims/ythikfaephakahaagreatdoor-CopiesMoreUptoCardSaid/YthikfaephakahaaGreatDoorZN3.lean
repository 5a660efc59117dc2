/- Several texts of mine, one behind the other. Conditions: as each says. -/
import Derived.Test.YthikfaephakahaaGreatDoorZM8
set_option linter.unusedVariables false
set_option linter.unusedSimpArgs false
section
namespace Go.Proofs.YthikfaephakahaaGreatDoor.P
open Go Go.Eng
set_option maxRecDepth 100000
set_option maxHeartbeats 4000000
theorem split_len (t:Text):(Nm.split t).length≤t.length+1:=by
 induction t with
 |nil=>simp [Nm.split]
 |cons c r ih =>
  by_cases hc:c=46
  ·subst hc; simp [Nm.split]; omega
  ·obtain ⟨x,u,h1,h2⟩:=Nm.split_cons c r hc;rw [h2];rw [h1] at ih;simp at ih ⊢;omega
theorem split_mem (t:Text):∀ x∈Nm.split t,x.length≤t.length:=by
 induction t with
 |nil=>simp [Nm.split]
 |cons c r ih =>
  intro x hx;by_cases hc:c=46
  ·subst hc;simp only [Nm.split,if_true] at hx;rcases List.mem_cons.1 hx with rfl | hx
   ·simp
   ·have:=ih x hx; simp; omega
  ·obtain ⟨y,u,h1,h2⟩:=Nm.split_cons c r hc;rw [h2] at hx;rw [h1] at ih;rcases List.mem_cons.1 hx with rfl | hx
   ·have:=ih y (List.mem_cons_self ..); simp; omega
   ·have:=ih x (List.mem_cons_of_mem _ hx); simp; omega
theorem rsplit_p (t:Text) (ht:t.length≤1000):PCalls E 85 [.str t] (· = .sl ((Nm.split t).map .str)):=by
 refine PCalls.run E_ok (fn:=Tryz.f85) Tryz.func85 (body:=Tryz.f85.body.getD .skip) rfl (by decide) 6 ?_;(conv=>whnf);refine AWL.buildOwn E_ok rfl ?_;refine gO Tryz.func85 ?_;refine AWL.loop (κ:=Nat) ([3,4]++rg 6 30) (fun k=>[(4,.d (.int .i64 k)),(3,.own 0 1)]) (fun k=>[(0,.arr 1 (9,1) ((Nm.split (t.take k)).map .str))]) (fun k=>k≤t.length) (fun k=>t.length - k) 0 (Nat.zero_le _) ?_ ?_
 ·(conv=>whnf);repeat (first | exact trivial | (refine sI ?_; conv=>whnf))
  refine And.intro (by simp [Nm.split]) ?_;(conv=>whnf);repeat (first | exact trivial | (refine sI ?_; conv=>whnf))
 ·intro k hk IH;have hlen:=split_len (t.take k);rw [List.length_take] at hlen;refine AWL.head E_ok Tryz.func85 2000 ?_;(conv=>whnf);refine caseB_split (fun h1=>?_) (fun h1=>?_)
  ·have hlt:k<t.length:=by simpa using h1
   obtain ⟨c,hc⟩:=some_of_lt hlt;refine gO Tryz.func85 ?_;refine byteP_intro c (by omega) (by rw [Int.toNat_natCast]; exact hc) ?_;refine gO Tryz.func85 ?_;refine caseB_split (fun h2=>?_) (fun h2=>?_)
   ·have hdot:c=46:=by
     have:(c.toNat:Int)=46:=by simpa using h2
     exact UInt8.toNat_inj.1 (by simp; omega)
    refine gO Tryz.func85 ?_;refine need_intro ⟨by simp; omega,by simp [DV.cells]⟩ ?_;refine gO Tryz.func85 ?_;refine AWL.back (IH (k+1) (by omega) (by omega)) ?_;(conv=>whnf);repeat (first | exact trivial | (refine sI ?_; conv=>whnf))
    refine And.intro (by rw [Nm.split_step_dot t k c hc hdot]; simp) ?_;(conv=>whnf);repeat (first | exact trivial | (refine sI ?_; conv=>whnf))
   ·have hdot:c≠46:=by rintro rfl; simp at h2
    obtain ⟨i,x,e1⟩:∃ i x,Nm.split (t.take k)=i++[x]:=⟨_,_,(List.dropLast_concat_getLast (Nm.split_ne _)).symm⟩;have hst:=Nm.split_step t k c hc hdot i x e1;rw [e1] at hlen ⊢;have hw:IntKind.i64.wrap ((((i++[x]).map DV.str).length:Int) - 1)=(i.length:Int):=by
     rw [wrap64 (by simp) (by simp; simp at hlen; omega)]; simp
    refine gO Tryz.func85 ?_;refine AWL.draw E_ok E_mixed 17 2000 (by kernel_rfl) ?_;(conv=>whnf);rw [hw];have hel:((i++[x]).map DV.str)[((i.length:Nat):Int).toNat]? = some (.str x):=by simp
    have hcb:(List.drop (Int.toNat (k:Int)) (List.take (IntKind.i64.wrap ((k:Int)+1)).toNat t))=[c]:=by
     rw [wrap64 (by omega) (by omega),show ((k:Int)+1).toNat=k+1 by omega,Int.toNat_natCast,take_next hc];simp [Nat.min_eq_left (Nat.le_of_lt hlt)]
    refine need_intro ⟨by omega,by simp; omega⟩ ?_;refine gD ?_;refine elemP_intro (.str x) (by omega) hel rfl ?_;refine gD ?_;have hk1:IntKind.i64.wrap ((k:Int)+1)=(k:Int)+1:=wrap64 (by omega) (by omega);refine need_intro ⟨by simp,by simp [hk1]; omega,by simp [hk1]; omega⟩ ?_;refine gD ?_;have hxl:x.length≤1000:=by
     have:=split_mem (t.take k) x (by rw [e1]; simp);simp at this;omega
    simp only [Option.getD_some];rw [hcb];refine need_intro (by simp; omega) ?_;refine gD ?_;refine need_intro ⟨by omega,by simp; omega⟩ ?_;refine gD ?_;refine gS ?_;refine elemP_intro (.str x) (by omega) hel rfl ?_;refine gS ?_;refine gO Tryz.func85 ?_;refine AWL.back (IH (k+1) (by omega) (by omega)) ?_;(conv=>whnf);repeat (first | exact trivial | (refine sI ?_; conv=>whnf))
    refine And.intro (by rw [hst]; simp [List.set_append_right]) ?_;(conv=>whnf);repeat (first | exact trivial | (refine sI ?_; conv=>whnf))
  ·have hge:k=t.length:=by simp at h1; omega
   subst hge;refine gO Tryz.func85 ?_;simp
theorem rparts_p (t:Text) (ht:t.length≤1000):PCalls E 83 [.str t] (· = .sl ((Nm.labels t).map .str)):=by
 refine PCalls.norm ?_;refine eP Tryz.func83 ?_;repeat' (first | with_reducible refine callP_eq (rsplit_p _ ht) ?_ | with_reducible refine callP1_eq (rsplit_p _ ht) ?_ | with_reducible refine cY ?_ | with_reducible refine cN ?_ | with_reducible refine caseB_split (fun _=>?_) (fun _=>?_) | refine gA Tryz.func83 ?_ | refine gB ?_ | refine gC ?_ | with_reducible rfl)
 all_goals simp_all [Nm.labels,norm]
theorem rin_p (t z:Text) (ht:t.length≤1000) (hz:z.length≤1000):PCalls E 224 [.str t,.str z] (· = .bool (Nm.under t z)) :=
 ofTexts (g:=fun t z => .bool (Nm.under t z)) t z ⟨_,Tryz.func224,rfl,by decide⟩ fun w=>(rin_any ⟨t.toArray⟩ ⟨z.toArray⟩ w (by simpa [ByteArray.size] using ht) (by simpa [ByteArray.size] using hz)).mono fun e w' ⟨h1,h2⟩=>⟨_,h1,fun _ _=>by
  simp only [toL_mk]
  exact .bool _,h2⟩
def wildL (t:Text):Bool:=match Nm.labels t with
 | []=>false
 |x::_=>x==[42]
theorem rwildL_p (t:Text) (ht:t.length≤1000):PCalls E 202 [.str t] (· = .bool (wildL t)):=by
 unfold wildL;refine eP Tryz.func202 ?_
 with_reducible refine callP_eq (rparts_p _ ht) ?_
 refine gO Tryz.func202 ?_;cases hl:Nm.labels t with
 |nil =>
  refine caseB_no (by simp) ?_;refine gO Tryz.func202 ?_
  with_reducible rfl
 |cons x l =>
  refine caseB_yes (by simp) ?_;refine gO Tryz.func202 ?_;refine elemP_intro (.str x) (by decide) rfl rfl ?_;refine gO Tryz.func202 ?_
  with_reducible rfl
def cmpL:List Text→List Text→Int
 | [],[]=>0
 | [],_::_ => -1
 |_::_,[]=>1
 |x::l,y::m=>if Op.bytesLess x y then -1 else if x==y then cmpL l m else 1
def ordN (a b:Text):Int:=cmpL (Nm.labels a).reverse (Nm.labels b).reverse
theorem rev_at {α:Type} {l:List α} {k:Nat} (hk:k<l.length):∃ x,l[l.length - (k+1)]? = some x∧l.reverse.drop k=x::l.reverse.drop (k+1):=by
 have h1:l.length - (k+1)<l.length:=by omega
 refine ⟨l[l.length - (k+1)],by simp [h1],?_⟩;rw [List.drop_eq_getElem_cons (by simpa using hk)]
 congr 1
 simp only [List.getElem_reverse]
 congr 1
 omega
theorem labels_len (t:Text):(Nm.labels t).length≤t.length+1:=by
 unfold Nm.labels;split
 ·simp
 ·exact split_len t
theorem rorder_p (a b:Text) (ha:a.length≤1000) (hb:b.length≤1000):PCalls E 38 [.str a,.str b] (· = .int .i64 (ordN a b)):=by
 have hla:=labels_len a;have hlb:=labels_len b;unfold ordN;refine eP Tryz.func38 ?_
 with_reducible refine callP_eq (rparts_p _ ha) ?_
 refine gO Tryz.func38 ?_
 with_reducible refine callP_eq (rparts_p _ hb) ?_
 refine gO Tryz.func38 ?_;generalize Nm.labels a=l at *;generalize Nm.labels b=m at *;refine AWL.loop (κ:=Nat) ([4,7,8,9]++rg 14 32) (fun k=>[(7,.d (.int .i64 (k+1)))]) (fun _=>[]) (fun k=>k≤l.length∧k≤m.length∧cmpL l.reverse m.reverse=cmpL (l.reverse.drop k) (m.reverse.drop k)) (fun k=>l.length - k) 0 ⟨Nat.zero_le _,Nat.zero_le _,rfl⟩ ?_ ?_
 ·(conv=>whnf);repeat (first | exact trivial | (refine sI ?_; conv=>whnf))
 ·intro k hk IH;refine AWL.head E_ok Tryz.func38 2000 ?_;(conv=>whnf);refine caseB_split (fun h1=>?_) (fun h1=>?_)
  ·refine gO Tryz.func38 ?_;refine caseB_split (fun h2=>?_) (fun h2=>?_)
   ·have h1':k<l.length:=by simp at h1; omega
    have h2':k<m.length:=by simp at h2; omega
    obtain ⟨x,hx,hxd⟩:=rev_at h1';obtain ⟨y,hy,hyd⟩:=rev_at h2';have hw1:IntKind.i64.wrap ((l.length:Int) - (k+1))=((l.length - (k+1):Nat):Int):=by rw [wrap64 (by omega) (by omega)]; omega
    have hw2:IntKind.i64.wrap ((m.length:Int) - (k+1))=((m.length - (k+1):Nat):Int):=by rw [wrap64 (by omega) (by omega)]; omega
    have hc:=hk.2.2;rw [hxd,hyd] at hc;refine gO Tryz.func38 ?_;simp only [List.length_map];rw [hw1];refine elemP_intro (.str x) (by omega) (elem_map hx) rfl ?_;refine gO Tryz.func38 ?_;simp only [List.length_map];rw [hw2];refine elemP_intro (.str y) (by omega) (elem_map hy) rfl ?_;refine gO Tryz.func38 ?_;refine caseB_split (fun h3=>?_) (fun h3=>?_)
    ·refine gO Tryz.func38 ?_;rw [hc,cmpL,if_pos h3]
    ·refine gO Tryz.func38 ?_;refine caseB_split (fun h4=>?_) (fun h4=>?_)
     ·refine gO Tryz.func38 ?_;rw [hc,cmpL,if_neg (by rw [h3]; decide),if_neg (by simp [h3] at h4; simpa using h4)]
     ·refine gO Tryz.func38 ?_;refine AWL.back (IH (k+1) ⟨by omega,by omega,by rw [hc,cmpL,if_neg (by rw [h3]; decide),if_pos (by simpa [h3] using h4)]⟩ (by omega)) ?_;(conv=>whnf);repeat (first | exact trivial | (refine sI ?_; conv=>whnf))
   ·have h1':k<l.length:=by simp at h1; omega
    have h2':k=m.length:=by simp at h2; omega
    obtain ⟨x,hx,hxd⟩:=rev_at h1';have hc:=hk.2.2;rw [hxd,List.drop_of_length_le (l:=m.reverse) (by simp; omega),cmpL] at hc;refine gO Tryz.func38 ?_;refine caseB_no (by simp; omega) ?_;refine gO Tryz.func38 ?_;refine caseB_yes (by simp; omega) ?_;refine gO Tryz.func38 ?_;rw [hc]
  ·have h1':k=l.length:=by simp at h1; omega
   have hc:=hk.2.2;rw [List.drop_of_length_le (l:=l.reverse) (by simp; omega)] at hc;refine gO Tryz.func38 ?_;refine caseB_false ?_;refine gO Tryz.func38 ?_;refine caseB_split (fun h2=>?_) (fun h2=>?_)
   ·have h2':k<m.length:=by simp at h2; omega
    obtain ⟨y,hy,hyd⟩:=rev_at h2';rw [hyd,cmpL] at hc;refine gO Tryz.func38 ?_;rw [hc]
   ·have h2':k=m.length:=by simp at h2; omega
    rw [List.drop_of_length_le (l:=m.reverse) (by simp; omega),cmpL] at hc;refine gO Tryz.func38 ?_;refine caseB_no (by simp; omega) ?_;refine gO Tryz.func38 ?_;rw [hc]
theorem rcompare_p (a b:Text) (ha:Nm.valid a=true) (hb:Nm.valid b=true):PCalls E 290 [.str a,.str b] (· = .tup [.int .i64 (ordN a b),.int .i64 0]):=by
 have h1:=valid_len ha;have h2:=valid_len hb;refine eP Tryz.func290 ?_
 with_reducible refine callP_eq (rvalid_p _ (by unfold maxLen; omega)) ?_
 refine gO Tryz.func290 ?_
 with_reducible refine callP_eq (rvalid_p _ (by unfold maxLen; omega)) ?_
 refine gO Tryz.func290 ?_;rw [ha,hb];refine caseB_no (by decide) ?_;refine gO Tryz.func290 ?_;refine caseB_no (by decide) ?_;refine gO Tryz.func290 ?_
 with_reducible refine callP_eq (rorder_p _ _ (by omega) (by omega)) ?_
 refine gO Tryz.func290 ?_
 with_reducible rfl
def ordS (a b:RSet):Int:=if ordN a.name b.name≠0 then ordN a.name b.name else cmpI a.type b.type
theorem rordS_p (a b:RSet) (ha:Nm.valid a.name=true) (hb:Nm.valid b.name=true):PCalls E 245 [a.enc,b.enc] (· = .int .i64 (ordS a b)):=by
 refine eP Tryz.func245 ?_;repeat' (first | with_reducible refine callP_eq (rcompare_p _ _ ha hb) ?_ | with_reducible refine callP1_eq (rcompare_p _ _ ha hb) ?_ | with_reducible refine cY ?_ | with_reducible refine cN ?_ | with_reducible refine caseB_split (fun _=>?_) (fun _=>?_) | refine gA Tryz.func245 ?_ | refine gB ?_ | refine gC ?_ | with_reducible rfl)
 all_goals simp_all [ordS,cmpI]
 all_goals omega
end Go.Proofs.YthikfaephakahaaGreatDoor.P
end
section
namespace Go.Proofs.YthikfaephakahaaGreatDoor.P
open Go Go.Eng
set_option maxRecDepth 100000
set_option maxHeartbeats 4000000
theorem takeEq_next {α:Type} {a b:List α} {k:Nat} {x y:α} (h:a.take k=b.take k) (ha:a[k]? = some x) (hb:b[k]? = some y) (e:x=y):a.take (k+1)=b.take (k+1):=by
 subst e;rw [take_next ha,take_next hb,h]
theorem takeEq_all {α:Type} {a b:List α} {k:Nat} (h:a.take k=b.take k) (ha:a.length≤k) (hb:b.length≤k):a=b:=by
 rwa [List.take_of_length_le ha,List.take_of_length_le hb] at h
theorem ne_of_at {α:Type} {a b:List α} {k:Nat} {x y:α} (ha:a[k]? = some x) (hb:b[k]? = some y) (e:x≠y):a≠b:=by
 rintro rfl;rw [ha] at hb;cases hb;exact e rfl
def datEq (a b:Datum):Bool:=(a.text==b.text&&(a.n==b.n&&(a.m==b.m&&true)))
theorem datEq_iff {a b:Datum}:datEq a b=true↔a=b:=by
 obtain ⟨a1,a2,a3⟩:=a;obtain ⟨b1,b2,b3⟩:=b;simp [datEq]
theorem rsame_p (a b:RSet) (ha:a.data.length≤2147483648):PCalls E 222 [a.enc,b.enc] (· = .bool (decide (a=b))):=by
 obtain ⟨an,at',al,ad⟩:=a;obtain ⟨bn,bt,bl,bd⟩:=b;simp only at ha;refine eP Tryz.func222 ?_;repeat' (first | with_reducible refine cY ?_ | with_reducible refine cN ?_ | with_reducible refine caseB_split (fun _=>?_) (fun _=>?_) | refine gA Tryz.func222 ?_ | refine gB ?_ | refine gC ?_ | with_reducible rfl)
 all_goals try (simp_all; done)
 case' refine_2.refine_2.refine_2.refine_1 =>
  rename_i h4;rw [decide_eq_false];intro h;have:=congrArg (fun s:RSet=>s.data.length) h;simp only at this;simp [this] at h4
 all_goals
  rename_i h1 h2 h3 h4;simp only [bne_eq_false_iff_eq,Bool.not_eq_false',beq_iff_eq,List.length_map] at h1 h2 h3 h4;subst h1;subst h2;subst h3;have hl:ad.length=bd.length:=by omega
  rw [show decide (RSet.mk an at' al ad=RSet.mk an at' al bd)=decide (ad=bd) by simp];refine gO Tryz.func222 ?_;refine AWL.loop (κ:=Nat) ([4,5]++rg 34 18) (fun k=>[(5,.d (.int .i64 k))]) (fun _=>[]) (fun k=>k≤ad.length∧ad.take k=bd.take k) (fun k=>ad.length - k) 0 ⟨Nat.zero_le _,rfl⟩ ?_ ?_
  ·(conv=>whnf);repeat (first | exact trivial | (refine sI ?_; conv=>whnf))
  ·intro k hk IH;refine AWL.head E_ok Tryz.func222 2000 ?_;(conv=>whnf);refine caseB_split (fun h5=>?_) (fun h5=>?_)
   ·have hlt:k<ad.length:=by simpa using h5
    obtain ⟨x,hx⟩:=some_of_lt hlt;obtain ⟨y,hy⟩:=some_of_lt (l:=bd) (k:=k) (by omega);refine gO Tryz.func222 ?_;refine AWL.draw E_ok E_mixed 11 2000 (by kernel_rfl) ?_;(conv=>whnf);refine elemP_intro x.enc (by omega) (elem_map hx) rfl ?_;refine gD ?_;refine elemP_intro y.enc (by omega) (elem_map hy) rfl ?_;refine gD ?_;refine gS ?_;refine gO Tryz.func222 ?_;refine caseB_split (fun h6=>?_) (fun h6=>?_)
    ·have hne:x≠y:=fun e=>by
      have:=datEq_iff.2 e;simp [datEq] at this;simp [this] at h6
     refine gO Tryz.func222 ?_;rw [decide_eq_false (ne_of_at hx hy hne)]
    ·have he:x=y:=datEq_iff.1 (by simpa [datEq] using h6);refine gO Tryz.func222 ?_;refine AWL.back (IH (k+1) ⟨by omega,takeEq_next hk.2 hx hy he⟩ (by omega)) ?_;(conv=>whnf);repeat (first | exact trivial | (refine sI ?_; conv=>whnf))
   ·have hge:k=ad.length:=by simp at h5; omega
    refine gO Tryz.func222 ?_;rw [decide_eq_true (takeEq_all hk.2 (by omega) (by omega))]
theorem rsameSigned_p (a b:Signed) (ha:a.set.data.length≤2147483648) (hs:a.sigs.length≤2147483648):PCalls E 157 [a.enc,b.enc] (· = .bool (decide (a=b))):=by
 obtain ⟨aset,ad⟩:=a;obtain ⟨bset,bd⟩:=b;simp only at ha hs;rw [show decide (Signed.mk aset ad=Signed.mk bset bd)=(decide (aset=bset)&&decide (ad=bd)) by simp];have hsame:=rsame_p aset bset ha;generalize decide (aset=bset)=q at hsame ⊢;refine eP Tryz.func157 ?_
 with_reducible refine callP_eq (hsame) ?_
 refine gO Tryz.func157 ?_;cases q
 ·refine caseB_yes rfl ?_;refine gO Tryz.func157 ?_;refine caseB_true ?_;refine gO Tryz.func157 ?_;rfl
 ·refine caseB_no rfl ?_;refine gO Tryz.func157 ?_;refine caseB_split (fun h4=>?_) (fun h4=>?_)
  ·refine gO Tryz.func157 ?_;rw [decide_eq_false]
   ·rfl
   ·rintro rfl;simp at h4
  ·simp only [bne_eq_false_iff_eq,List.length_map] at h4;have hl:ad.length=bd.length:=by omega
   rw [Bool.true_and];refine gO Tryz.func157 ?_;refine AWL.loop (κ:=Nat) ([4,5]++rg 21 18) (fun k=>[(5,.d (.int .i64 k))]) (fun _=>[]) (fun k=>k≤ad.length∧ad.take k=bd.take k) (fun k=>ad.length - k) 0 ⟨Nat.zero_le _,rfl⟩ ?_ ?_
   ·(conv=>whnf);repeat (first | exact trivial | (refine sI ?_; conv=>whnf))
   ·intro k hk IH;refine AWL.head E_ok Tryz.func157 2000 ?_;(conv=>whnf);refine caseB_split (fun h5=>?_) (fun h5=>?_)
    ·have hlt:k<ad.length:=by simpa using h5
     obtain ⟨x,hx⟩:=some_of_lt hlt;obtain ⟨y,hy⟩:=some_of_lt (l:=bd) (k:=k) (by omega);refine gO Tryz.func157 ?_;refine AWL.draw E_ok E_mixed 11 2000 (by kernel_rfl) ?_;(conv=>whnf);refine elemP_intro x.enc (by omega) (elem_map hx) rfl ?_;refine gD ?_;refine elemP_intro y.enc (by omega) (elem_map hy) rfl ?_;refine gD ?_;refine gS ?_;refine gO Tryz.func157 ?_;refine caseB_split (fun h6=>?_) (fun h6=>?_)
     ·have hne:x≠y:=fun e=>by
       have:=sigEq_iff.2 e;simp [sigEq] at this;simp [this] at h6
      refine gO Tryz.func157 ?_;rw [decide_eq_false (ne_of_at hx hy hne)]
     ·have he:x=y:=sigEq_iff.1 (by simpa [sigEq] using h6);refine gO Tryz.func157 ?_;refine AWL.back (IH (k+1) ⟨by omega,takeEq_next hk.2 hx hy he⟩ (by omega)) ?_;(conv=>whnf);repeat (first | exact trivial | (refine sI ?_; conv=>whnf))
    ·have hge:k=ad.length:=by simp at h5; omega
     refine gO Tryz.func157 ?_;rw [decide_eq_true (takeEq_all hk.2 (by omega) (by omega))]
structure Signed.Lens (s:Signed):Prop where
 data:s.set.data.length≤2147483648
 sigs:s.sigs.length≤2147483648
theorem rsameList_p (a b:List Signed) (hl:a.length≤2147483648) (ha:∀ s∈a,s.Lens):PCalls E 100 [encSets a,encSets b] (· = .bool (decide (a=b))):=by
 refine eP Tryz.func100 ?_;refine caseB_split (fun h4=>?_) (fun h4=>?_)
 ·refine gO Tryz.func100 ?_;rw [decide_eq_false];rintro rfl;simp at h4
 ·simp only [bne_eq_false_iff_eq,List.length_map] at h4;have hlab:a.length=b.length:=by omega
  refine gO Tryz.func100 ?_;refine AWL.loop (κ:=Nat) ([4,5]++rg 11 16) (fun k=>[(5,.d (.int .i64 k))]) (fun _=>[]) (fun k=>k≤a.length∧a.take k=b.take k) (fun k=>a.length - k) 0 ⟨Nat.zero_le _,rfl⟩ ?_ ?_
  ·(conv=>whnf);repeat (first | exact trivial | (refine sI ?_; conv=>whnf))
  ·intro k hk IH;refine AWL.head E_ok Tryz.func100 2000 ?_;(conv=>whnf);refine caseB_split (fun h5=>?_) (fun h5=>?_)
   ·have hlt:k<a.length:=by simpa using h5
    obtain ⟨x,hx⟩:=some_of_lt hlt;obtain ⟨y,hy⟩:=some_of_lt (l:=b) (k:=k) (by omega);have hxl:=ha x (List.mem_of_getElem? hx);refine gO Tryz.func100 ?_;refine AWL.draw E_ok E_mixed 10 2000 (by kernel_rfl) ?_;(conv=>whnf);refine elemP_intro x.enc (by omega) (elem_map hx) rfl ?_;refine gD ?_;refine elemP_intro y.enc (by omega) (elem_map hy) rfl ?_;refine gD ?_
    with_reducible refine callP1_eq (rsameSigned_p x y hxl.data hxl.sigs) ?_
    refine gD ?_;refine gS ?_;refine gO Tryz.func100 ?_;refine caseB_split (fun h6=>?_) (fun h6=>?_)
    ·have hne:x≠y:=by simpa using h6
     refine gO Tryz.func100 ?_;rw [decide_eq_false (ne_of_at hx hy hne)]
    ·have he:x=y:=by simpa using h6
     refine gO Tryz.func100 ?_;refine AWL.back (IH (k+1) ⟨by omega,takeEq_next hk.2 hx hy he⟩ (by omega)) ?_;(conv=>whnf);repeat (first | exact trivial | (refine sI ?_; conv=>whnf))
   ·have hge:k=a.length:=by simp at h5; omega
    refine gO Tryz.func100 ?_;rw [decide_eq_true (takeEq_all hk.2 (by omega) (by omega))]
structure Zone.Lens (z:Zone):Prop where
 sets:z.sets.length≤2147483648
 each:∀ s∈z.sets,s.Lens
theorem rsameZone_p (a b:Zone) (ha:a.Lens):PCalls E 65 [a.enc,b.enc] (· = .bool (decide (a=b))):=by
 obtain ⟨aa,sa⟩:=a;obtain ⟨ba,sb⟩:=b;rw [show decide (Zone.mk aa sa=Zone.mk ba sb)=(decide (aa=ba)&&decide (sa=sb)) by simp];have hs:=rsameList_p sa sb ha.sets ha.each;refine eP Tryz.func65 ?_;repeat' (first | with_reducible refine callP_eq (hs) ?_ | with_reducible refine callP1_eq (hs) ?_ | with_reducible refine cY ?_ | with_reducible refine cN ?_ | with_reducible refine caseB_split (fun _=>?_) (fun _=>?_) | refine gA Tryz.func65 ?_ | refine gB ?_ | refine gC ?_ | with_reducible rfl)
 all_goals simp_all
end Go.Proofs.YthikfaephakahaaGreatDoor.P
end
section
namespace Go.Proofs.YthikfaephakahaaGreatDoor.P
open Go Go.Eng
set_option maxRecDepth 100000
set_option maxHeartbeats 4000000
def At1 (l:List DV) (n:Int) (e:DV):Prop:=0≤n∧l[n.toNat]? = some e
theorem elemP_at {l:List DV} {sz:Nat} {n:Int} {K:DV→Prop} {e:DV} (h:At1 l n e) (hs:e.cells.length=sz) (k:K e):elemP l sz n K:=elemP_intro e h.1 h.2 hs k
theorem at_map {α:Type} {f:α→DV} {l:List α} {k:Nat} {x:α} (h:l[k]? = some x):At1 (l.map f) (k:Int) (f x):=⟨by omega,elem_map h⟩
theorem at_zero {α:Type} {f:α→DV} {l:List α} {x:α} (h:l[0]? = some x):At1 (l.map f) 0 (f x):=⟨by omega,by simp [h]⟩
theorem at_prev {α:Type} {f:α→DV} {l:List α} {k:Nat} {x:α} (h:l[k - 1]? = some x) (h0:0<k) (hb:k≤4294967296):At1 (l.map f) (IntKind.i64.wrap ((k:Int) - 1)) (f x):=by
 have:IntKind.i64.wrap ((k:Int) - 1)=((k - 1:Nat):Int):=by rw [wrap64 (by omega) (by omega)]; omega
 rw [this];exact at_map h
theorem at_next {α:Type} {f:α→DV} {l:List α} {k:Nat} {x:α} (h:l[k+1]? = some x) (hb:k≤4294967296):At1 (l.map f) (IntKind.i64.wrap ((k:Int)+1)) (f x):=by
 have:IntKind.i64.wrap ((k:Int)+1)=((k+1:Nat):Int):=by rw [wrap64 (by omega) (by omega)]; omega
 rw [this];exact at_map h
def chain {α:Type} (ok:α→Bool) (rel:α→α→Bool):Option α→List α→Bool
 |_,[]=>true
 |p,x::l=>ok x&&(match p with | none=>true | some q=>rel q x)&&chain ok rel (some x) l
def prevA {α:Type} (l:List α) (k:Nat):Option α:=if k=0 then none else l[k - 1]?
theorem chain_next {α:Type} {ok:α→Bool} {rel:α→α→Bool} {l:List α} {k:Nat} {x:α} (hx:l[k]? = some x):chain ok rel (prevA l k) (l.drop k)=(ok x&&(match prevA l k with | none=>true | some q=>rel q x)&&chain ok rel (prevA l (k+1)) (l.drop (k+1))):=by
 have hk:=lt_of_getElem? hx;rw [List.drop_eq_getElem_cons hk];have e1:l[k]=x:=by simpa [hk] using hx
 have e2:prevA l (k+1)=some x:=by simp [prevA,hx]
 rw [e1,e2];rfl
theorem prevA_some {α:Type} {l:List α} {k:Nat} (h0:0<k) (hk:k≤l.length):∃ q,l[k - 1]? = some q∧prevA l k=some q:=by
 obtain ⟨q,hq⟩:=some_of_lt (l:=l) (k:=k - 1) (by omega);exact ⟨q,hq,by simp [prevA,hq]; omega⟩
def sigZ (apex:Text) (g0 g:Sig):Bool:=(g.zone==apex)&&decide (1≤g.key)&&decide (g.key≤1000000)&&decide (1≤g.alg)&&decide (g.alg≤3)&&(g.frm==g0.frm)&&(g.upto==g0.upto)&&decide (0≤g.frm)&&decide (g.frm≤g.upto)&&decide (g.upto≤20000000)
def keyLt (q g:Sig):Bool:=decide (q.key<g.key)
def sigsB (l:List Sig) (apex:Text):Bool:=decide ((l.length:Int)≤6)&&chain (sigZ apex (l.headD sig0)) keyLt none l
theorem head_at {l:List Sig} {k:Nat} (h:k<l.length):l[0]? = some (l.headD sig0):=by
 cases l with
 |nil=>simp at h
 |cons x l=>rfl
theorem rsigs_p (l:List Sig) (apex:Text):PCalls E 249 [encSigs l,.str apex] (· = .bool (sigsB l apex)):=by
 unfold sigsB;have hg:∃ g0,g0=l.headD sig0:=⟨_,rfl⟩;obtain ⟨g0,hg⟩:=hg;rw [← hg];refine eP Tryz.func249 ?_;refine caseB_split (fun h1=>?_) (fun h1=>?_)
 ·refine gO Tryz.func249 ?_;simp only [List.length_map] at h1;rw [decide_eq_false (by simp at h1; omega),Bool.false_and]
 ·have h6:l.length≤6:=by simp at h1; omega
  rw [decide_eq_true (by omega),Bool.true_and];refine gO Tryz.func249 ?_;refine AWL.loop (κ:=Nat) ([4,5,6]++rg 10 82) (fun k=>[(5,.d (.int .i64 k))]) (fun _=>[]) (fun k=>k≤l.length∧chain (sigZ apex g0) keyLt none l=chain (sigZ apex g0) keyLt (prevA l k) (l.drop k)) (fun k=>l.length - k) 0 ⟨Nat.zero_le _,rfl⟩ ?_ ?_
  ·(conv=>whnf);repeat (first | exact trivial | (refine sI ?_; conv=>whnf))
  ·intro k hk IH;refine AWL.head E_ok Tryz.func249 2000 ?_;(conv=>whnf);refine caseB_split (fun h5=>?_) (fun h5=>?_)
   ·have hlt:k<l.length:=by simpa using h5
    obtain ⟨x,hx⟩:=some_of_lt hlt;have h0:=head_at hlt;rw [← hg] at h0;have hnext:=chain_next (ok:=sigZ apex g0) (rel:=keyLt) hx;rw [← hk.2] at hnext;refine gO Tryz.func249 ?_;refine elemP_at (at_map hx) rfl ?_;refine gO Tryz.func249 ?_;refine AWL.draw E_ok E_mixed 57 2000 (by kernel_rfl) ?_;(conv=>whnf);rcases Nat.eq_zero_or_pos k with hk0 | hk0
    ·have hpq:prevA l k=none:=by simp [prevA,hk0]
     rw [hpq] at hnext;dsimp only at hnext;rw [Bool.and_true] at hnext;repeat' (first | with_reducible refine elemP_at (at_map hx) rfl ?_ | with_reducible refine elemP_at (at_zero h0) rfl ?_ | with_reducible refine cY ?_ | with_reducible refine cN ?_ | with_reducible refine caseB_split (fun _=>?_) (fun _=>?_) | refine gA Tryz.func249 ?_ | refine gB ?_ | refine gC ?_ | with_reducible rfl)
     all_goals first
      |(have hno : sigZ apex g0 x = false := by clear hnext hk IH hg; simp_all [sigZ, keyLt, prevA] <;> (intros; omega)
        rw [hnext, hno, Bool.false_and]
        done)
      |(exfalso; clear hnext hk IH hg; simp_all; done)
      |skip
     all_goals
      refine gO Tryz.func249 ?_;refine AWL.back (IH (k+1) ⟨by omega,by rw [hnext,show sigZ apex g0 x=true by clear hnext hk IH hg; simp_all [sigZ,keyLt,prevA] <;> omega,Bool.true_and]⟩ (by omega)) ?_;(conv=>whnf);repeat (first | exact trivial | (refine sI ?_; conv=>whnf))
    ·obtain ⟨q,hq,hpq⟩:=prevA_some hk0 hk.1;rw [hpq] at hnext;repeat' (first | with_reducible refine elemP_at (at_map hx) rfl ?_ | with_reducible refine elemP_at (at_zero h0) rfl ?_ | with_reducible refine elemP_at (at_prev hq hk0 (by omega)) rfl ?_ | with_reducible refine cY ?_ | with_reducible refine cN ?_ | with_reducible refine caseB_split (fun _=>?_) (fun _=>?_) | refine gA Tryz.func249 ?_ | refine gB ?_ | refine gC ?_ | with_reducible rfl)
     all_goals first
      |(have hno : (sigZ apex g0 x && keyLt q x) = false := by clear hnext hk IH hg; simp_all [sigZ, keyLt, prevA] <;> (intros; omega)
        rw [hnext, hno, Bool.false_and]
        done)
      |(exfalso; clear hnext hk IH hg; simp_all; done)
      |skip
     all_goals
      refine gO Tryz.func249 ?_;refine AWL.back (IH (k+1) ⟨by omega,by rw [hnext,show (sigZ apex g0 x&&keyLt q x)=true by clear hnext hk IH hg; simp_all [sigZ,keyLt,prevA] <;> omega,Bool.true_and]⟩ (by omega)) ?_;(conv=>whnf);repeat (first | exact trivial | (refine sI ?_; conv=>whnf))
   ·have hge:l.length≤k:=by simpa using h5
    refine gO Tryz.func249 ?_;rw [hk.2,List.drop_of_length_le hge];rfl
def placedB (t:Int) (apex:Bool):Bool:=if apex then t != 3&&t != 6 else t != 4&&t != 7
theorem rplaced_p (t:Int) (apex:Bool):PCalls E 246 [.int .i64 t,.bool apex] (· = .bool (placedB t apex)):=by
 refine eP Tryz.func246 ?_;repeat' (first | with_reducible refine cY ?_ | with_reducible refine cN ?_ | with_reducible refine caseB_split (fun _=>?_) (fun _=>?_) | refine gA Tryz.func246 ?_ | refine gB ?_ | refine gC ?_ | with_reducible rfl)
 all_goals simp_all [placedB]
structure Quest where
 name:Text
 type:Int
 deriving DecidableEq
@[reducible] def Quest.enc (q : Quest) : DV := .agg [.str q.name, .int .i64 q.type]
def atQ (q:Quest) (s:Signed):Bool:=s.set.name==q.name&&s.set.type==q.type
def atI (l:List Signed) (q:Quest):Int:=match l.findIdx? (atQ q) with
 |some i=>i
 |none => -1
theorem atI_here {l:List Signed} {q:Quest} {k:Nat} {x:Signed} (h:∀ j y,j<k→l[j]? = some y→atQ q y=false) (hx:l[k]? = some x) (hq:atQ q x=true):atI l q=k:=by
 have:l.findIdx? (atQ q)=some k:=by
  rw [List.findIdx?_eq_some_iff_getElem];have hk:=lt_of_getElem? hx;refine ⟨hk,?_,fun j hj=>?_⟩
  ·have:l[k]=x:=by simpa [hk] using hx
   rw [this]; exact hq
  ·have:=h j l[j] hj (by simp);rw [this]; decide
 rw [atI,this]
theorem atI_none {l:List Signed} {q:Quest} (h:∀ j y,j<l.length→l[j]? = some y→atQ q y=false):atI l q = -1:=by
 have:l.findIdx? (atQ q)=none:=by
  rw [List.findIdx?_eq_none_iff];intro x hx;obtain ⟨j,hj⟩:=List.getElem?_of_mem hx;exact h j x (lt_of_getElem? hj) hj
 rw [atI,this]
theorem rat_p (z:Zone) (q:Quest) (hl:z.sets.length≤2147483648):PCalls E 40 [z.enc,q.enc] (· = .int .i64 (atI z.sets q)):=by
 obtain ⟨apex,l⟩:=z;simp only at hl ⊢;refine eP Tryz.func40 ?_;refine AWL.loop (κ:=Nat) (rg 4 32) (fun k=>[(5,.d (.int .i64 k))]) (fun _=>[]) (fun k=>k≤l.length∧∀ j y,j<k→l[j]? = some y→atQ q y=false) (fun k=>l.length - k) 0 ⟨Nat.zero_le _,fun j y h=>by omega⟩ ?_ ?_
 ·(conv=>whnf);repeat (first | exact trivial | (refine sI ?_; conv=>whnf))
 ·intro k hk IH;refine AWL.head E_ok Tryz.func40 2000 ?_;(conv=>whnf);refine caseB_split (fun h5=>?_) (fun h5=>?_)
  ·have hlt:k<l.length:=by simpa using h5
   obtain ⟨x,hx⟩:=some_of_lt hlt;refine gO Tryz.func40 ?_;refine AWL.draw E_ok E_mixed 22 2000 (by kernel_rfl) ?_;(conv=>whnf);repeat' (first | with_reducible refine elemP_at (at_map hx) rfl ?_ | with_reducible refine cY ?_ | with_reducible refine cN ?_ | with_reducible refine caseB_split (fun _=>?_) (fun _=>?_) | refine gA Tryz.func40 ?_ | refine gB ?_ | refine gC ?_ | with_reducible rfl)
   all_goals first
    |(rw [atI_here hk.2 hx (by simp_all [atQ])]; done)
    |skip
   all_goals
    refine gO Tryz.func40 ?_;refine AWL.back (IH (k+1) ⟨by omega,fun j y hj hy=>?_⟩ (by omega)) ?_
    ·rcases Nat.lt_or_ge j k with h | h
     ·exact hk.2 j y h hy
     ·obtain rfl:j=k:=by omega
      rw [hx] at hy;cases hy;simp_all [atQ]
    ·(conv=>whnf);repeat (first | exact trivial | (refine sI ?_; conv=>whnf))
  ·have hge:k=l.length:=by simp at h5; omega
   subst hge;refine gO Tryz.func40 ?_;rw [atI_none hk.2]
end Go.Proofs.YthikfaephakahaaGreatDoor.P
end
section
namespace Go.Proofs.YthikfaephakahaaGreatDoor.P
open Go Go.Eng
set_option maxRecDepth 100000
set_option maxHeartbeats 4000000
def few1 (s:Signed):Bool := !(decide ((s.set.data.length:Int)>20)) && !(decide ((s.sigs.length:Int)>20))
def fewZ (z:Zone):Bool:=(z.sets.take 101).all few1&&decide ((z.sets.length:Int)≤100)
theorem rfewZ_p (z:Zone):PCalls E 48 [z.enc] (· = .bool (fewZ z)):=by
 obtain ⟨apex,l⟩:=z;unfold fewZ;simp only;refine eP Tryz.func48 ?_;refine AWL.loop (κ:=Nat) (rg 2 32) (fun k=>[(3,.d (.int .i64 k))]) (fun _=>[]) (fun k=>k≤l.length∧k≤101∧(l.take k).all few1=true) (fun k=>l.length - k) 0 ⟨Nat.zero_le _,by omega,rfl⟩ ?_ ?_
 ·(conv=>whnf);repeat (first | exact trivial | (refine sI ?_; conv=>whnf))
 ·intro k hk IH;refine AWL.head E_ok Tryz.func48 2000 ?_;(conv=>whnf);refine caseB_split (fun h5=>?_) (fun h5=>?_)
  ·have hlt:k<l.length:=by simpa using h5
   obtain ⟨x,hx⟩:=some_of_lt hlt;refine gO Tryz.func48 ?_;refine caseB_split (fun h6=>?_) (fun h6=>?_)
   ·have h100:k≤100:=by simp at h6; omega
    have hx':(l.take 101)[k]? = some x:=by rw [List.getElem?_take,if_pos (by omega)]; exact hx
    refine gO Tryz.func48 ?_;repeat' (first | with_reducible refine elemP_at (at_map hx) rfl ?_ | with_reducible refine cY ?_ | with_reducible refine cN ?_ | with_reducible refine caseB_split (fun _=>?_) (fun _=>?_) | refine gA Tryz.func48 ?_ | refine gB ?_ | refine gC ?_ | with_reducible rfl)
    all_goals first
     |(rw [all_no hx' (by simp_all [few1]),Bool.false_and]; done)
     |skip
    all_goals
     refine gO Tryz.func48 ?_;refine AWL.back (IH (k+1) ⟨by omega,by omega,all_next hk.2.2 hx (by simp_all [few1])⟩ (by omega)) ?_;(conv=>whnf);repeat (first | exact trivial | (refine sI ?_; conv=>whnf))
   ·have h100:k=101:=by simp at h6; omega
    subst h100;refine gO Tryz.func48 ?_;rw [hk.2.2,Bool.true_and];simp
  ·have hge:k=l.length:=by simp at h5; omega
   refine gO Tryz.func48 ?_;refine caseB_false ?_;refine gO Tryz.func48 ?_;rw [show (l.take 101).all few1=true by rw [List.take_of_length_le (by omega)]; exact all_end hk.2.2 (by omega),Bool.true_and];simp
def twoB (z:Zone):Bool := !(decide (atI z.sets ⟨z.apex,4⟩<0)) && !(decide (atI z.sets ⟨z.apex,2⟩<0))&&z.sets.all fun s=>placedB s.set.type (s.set.name==z.apex)
theorem rtwo_p (z:Zone) (hl:z.sets.length≤2147483648):PCalls E 175 [z.enc] (· = .bool (twoB z)):=by
 obtain ⟨apex,l⟩:=z;simp only at hl;have h1:=rat_p ⟨apex,l⟩ ⟨apex,4⟩ hl;have h2:=rat_p ⟨apex,l⟩ ⟨apex,2⟩ hl;refine eP Tryz.func175 ?_;repeat' (first | with_reducible refine callP_eq (h1) ?_ | with_reducible refine callP1_eq (h1) ?_ | with_reducible refine callP_eq (h2) ?_ | with_reducible refine callP1_eq (h2) ?_ | with_reducible refine cY ?_ | with_reducible refine cN ?_ | with_reducible refine caseB_split (fun _=>?_) (fun _=>?_) | refine gA Tryz.func175 ?_ | refine gB ?_ | refine gC ?_ | with_reducible rfl)
 all_goals try (simp_all [twoB]; done)
 all_goals
  rename_i h3 h4;simp only [twoB,h3,h4,Bool.not_false,Bool.true_and];refine gO Tryz.func175 ?_;refine AWL.loop (κ:=Nat) ([2,3]++rg 18 26) (fun k=>[(3,.d (.int .i64 k))]) (fun _=>[]) (fun k=>k≤l.length∧(l.take k).all (fun s=>placedB s.set.type (s.set.name==apex))=true) (fun k=>l.length - k) 0 ⟨Nat.zero_le _,rfl⟩ ?_ ?_
  ·(conv=>whnf);repeat (first | exact trivial | (refine sI ?_; conv=>whnf))
  ·intro k hk IH;refine AWL.head E_ok Tryz.func175 2000 ?_;(conv=>whnf);refine caseB_split (fun h5=>?_) (fun h5=>?_)
   ·have hlt:k<l.length:=by simpa using h5
    obtain ⟨x,hx⟩:=some_of_lt hlt;refine gO Tryz.func175 ?_;refine AWL.draw E_ok E_mixed 19 2000 (by kernel_rfl) ?_;(conv=>whnf);repeat' (first | with_reducible refine elemP_at (at_map hx) rfl ?_ | with_reducible refine callP_eq (rplaced_p _ _) ?_ | with_reducible refine callP1_eq (rplaced_p _ _) ?_ | with_reducible refine cY ?_ | with_reducible refine cN ?_ | with_reducible refine caseB_split (fun _=>?_) (fun _=>?_) | refine gA Tryz.func175 ?_ | refine gB ?_ | refine gC ?_ | with_reducible rfl)
    all_goals first
     |(rw [all_no hx (by simp_all)]; done)
     |skip
    all_goals
     refine gO Tryz.func175 ?_;refine AWL.back (IH (k+1) ⟨by omega,all_next hk.2 hx (by simp_all)⟩ (by omega)) ?_;(conv=>whnf);repeat (first | exact trivial | (refine sI ?_; conv=>whnf))
   ·have hge:l.length≤k:=by simpa using h5
    refine gO Tryz.func175 ?_;rw [all_end hk.2 hge]
def threeL:Text→Option Text→List Signed→Bool
 |_,_,[]=>true
 |al,p,s::l=>(match p with
   |none=>true
   |some n=>if n==s.set.name then !((s.set.name != []&&s.set.type==3)||(s.set.name != []&&(s.set.name==if s.set.type==3 then s.set.name else al)&&s.set.type != 3&&s.set.type != 8)) else true)
  && threeL (if s.set.type==3 then s.set.name else al) (some s.set.name) l
theorem threeL_next {al : Text} {l : List Signed} {k : Nat} {x : Signed} (hx : l[k]? = some x) : threeL al (prevA (l.map (·.set.name)) k) (l.drop k) = ((match prevA (l.map (·.set.name)) k with
      | none => true
      | some n => if n == x.set.name then !((x.set.name != [] && x.set.type == 3) || (x.set.name != [] && (x.set.name == if x.set.type == 3 then x.set.name else al) && x.set.type != 3 && x.set.type != 8)) else true)
  && threeL (if x.set.type==3 then x.set.name else al) (prevA (l.map (·.set.name)) (k+1)) (l.drop (k+1))):=by
 have hk:=lt_of_getElem? hx;rw [List.drop_eq_getElem_cons hk];have e1:l[k]=x:=by simpa [hk] using hx
 have e2:prevA (l.map (·.set.name)) (k+1)=some x.set.name:=by simp [prevA,hx]
 rw [e1,e2];rfl
theorem rthree_p (z:Zone) (hl:z.sets.length≤2147483648):PCalls E 176 [z.enc] (· = .bool (threeL [] none z.sets)):=by
 obtain ⟨apex,l⟩:=z;simp only at hl ⊢;refine eP Tryz.func176 ?_;refine AWL.loop (κ:=Nat × Text) [2,3,4,5,6,7,8,9,10,11,12,13,14,15,16,17,18,19,20,21,22,23,24,25,26,27,28,29,30,31,32,33,34,35,36,37,38,39,40,41,42,43,44,45,46,47,48,49,50,51,52,53,54,55,56,57,58,59,60,61,62,63,64,65,66,67,68,69,70,71,72,73,74,75,76,77,78,79,80,81,82,83,84,85] (fun k=>[(4,.d (.int .i64 k.1)),(3,.d (.str k.2))]) (fun _=>[]) (fun k=>k.1≤l.length∧threeL [] none l=threeL k.2 (prevA (l.map (·.set.name)) k.1) (l.drop k.1)) (fun k=>l.length - k.1) (0,[]) ⟨Nat.zero_le _,rfl⟩ ?_ ?_
 ·(conv=>whnf);repeat (first | exact trivial | (refine sI ?_; conv=>whnf))
 ·rintro ⟨k,al⟩ hk IH;simp only at hk;refine AWL.head E_ok Tryz.func176 2000 ?_;(conv=>whnf);refine caseB_split (fun h5=>?_) (fun h5=>?_)
  ·have hlt:k<l.length:=by simpa using h5
   obtain ⟨x,hx⟩:=some_of_lt hlt;have hnext:=threeL_next (al:=al) hx;rw [← hk.2] at hnext;refine gO Tryz.func176 ?_;refine elemP_at (at_map hx) rfl ?_;refine gO Tryz.func176 ?_;refine caseB_split (fun h6=>?_) (fun h6=>?_);all_goals
    rcases Nat.eq_zero_or_pos k with hk0 | hk0
    ·have hpq:prevA (l.map (·.set.name)) k=none:=by simp [prevA,hk0]
     rw [hpq] at hnext;refine gO Tryz.func176 ?_;repeat' (first | with_reducible refine elemP_at (at_map hx) rfl ?_ | with_reducible refine cY ?_ | with_reducible refine cN ?_ | with_reducible refine caseB_split (fun _=>?_) (fun _=>?_) | refine gA Tryz.func176 ?_ | refine gB ?_ | refine gC ?_ | with_reducible rfl)
     refine gO Tryz.func176 ?_;refine AWL.draw E_ok E_mixed 20 2000 (by kernel_rfl) ?_;(conv=>whnf);repeat' (first | with_reducible refine elemP_at (at_map hx) rfl ?_ | with_reducible refine cY ?_ | with_reducible refine cN ?_ | with_reducible refine caseB_split (fun _=>?_) (fun _=>?_) | refine gA Tryz.func176 ?_ | refine gB ?_ | refine gC ?_ | with_reducible rfl)
     all_goals first
      |(exfalso; clear hnext hk IH; simp_all; done)
      |skip
     all_goals
      refine gO Tryz.func176 ?_;refine AWL.back (IH (k+1,if x.set.type==3 then x.set.name else al) ⟨by simp only; omega,by simp only; rw [hnext]; simp⟩ (by simp only; omega)) ?_;(conv=>whnf);repeat (first | exact trivial | (refine And.intro (by first | with_reducible rfl | exact congrArg (DV.int .i64) (by omega) | exact congrArg DV.str (by simp [h6]) | exact congrArg (DV.int .i64) (wrap64 (by omega) (by omega)) | exact congrArg (DV.int .i64) ((wrap64 (by omega) (by omega)).trans (by omega))) ?_; conv=>whnf))
    ·obtain ⟨q,hq,-⟩:=prevA_some hk0 hk.1;have hpq:prevA (l.map (·.set.name)) k=some q.set.name:=by simp [prevA,hq]; omega
     rw [hpq] at hnext;refine gO Tryz.func176 ?_;repeat' (first | with_reducible refine elemP_at (at_map hx) rfl ?_ | with_reducible refine elemP_at (at_prev hq hk0 (by omega)) rfl ?_ | with_reducible refine cY ?_ | with_reducible refine cN ?_ | with_reducible refine caseB_split (fun _=>?_) (fun _=>?_) | refine gA Tryz.func176 ?_ | refine gB ?_ | refine gC ?_ | with_reducible rfl)
     refine gO Tryz.func176 ?_;refine AWL.draw E_ok E_mixed 20 2000 (by kernel_rfl) ?_;(conv=>whnf);repeat' (first | with_reducible refine elemP_at (at_map hx) rfl ?_ | with_reducible refine elemP_at (at_prev hq hk0 (by omega)) rfl ?_ | with_reducible refine cY ?_ | with_reducible refine cN ?_ | with_reducible refine caseB_split (fun _=>?_) (fun _=>?_) | refine gA Tryz.func176 ?_ | refine gB ?_ | refine gC ?_ | with_reducible rfl)
     all_goals first
      |(rw [hnext]; clear hnext hk IH; simp_all; done)
      |(exfalso; clear hnext hk IH; simp_all; done)
      |skip
     all_goals
      refine gO Tryz.func176 ?_;refine AWL.back (IH (k+1,if x.set.type==3 then x.set.name else al) ⟨by simp only; omega,by simp only; rw [hnext]; clear hnext hk IH; simp_all⟩ (by simp only; omega)) ?_;(conv=>whnf);repeat (first | exact trivial | (refine And.intro (by first | with_reducible rfl | exact congrArg (DV.int .i64) (by omega) | exact congrArg DV.str (by simp [h6]) | exact congrArg (DV.int .i64) (wrap64 (by omega) (by omega)) | exact congrArg (DV.int .i64) ((wrap64 (by omega) (by omega)).trans (by omega))) ?_; conv=>whnf))
  ·have hge:l.length≤k:=by simpa using h5
   refine gO Tryz.func176 ?_;rw [hk.2,List.drop_of_length_le hge];rfl
end Go.Proofs.YthikfaephakahaaGreatDoor.P
end
section
namespace Go.Proofs.YthikfaephakahaaGreatDoor.P
open Go Go.Eng
set_option maxRecDepth 100000
set_option maxHeartbeats 4000000
def isCut (apex:Text) (s:Signed):Bool:=s.set.type==2&&s.set.name != apex
def cutsL (apex:Text) (l:List Signed):List Text:=(l.filter (isCut apex)).map (·.set.name)
theorem cutsL_next {apex:Text} {l:List Signed} {k:Nat} {x:Signed} (h:l[k]? = some x):cutsL apex (l.take (k+1))=cutsL apex (l.take k)++(if isCut apex x then [x.set.name] else []):=by
 rw [take_next h];simp only [cutsL,List.filter_append,List.map_append]
 congr 1
 cases hc:isCut apex x <;> simp [hc]
theorem cutsL_len (apex:Text) (l:List Signed):(cutsL apex l).length≤l.length:=by
 simp only [cutsL,List.length_map];exact List.length_filter_le _ _
theorem cutsL_mem {apex:Text} {l:List Signed} {c:Text} (h:c∈cutsL apex l):∃ s∈l,s.set.name=c∧isCut apex s=true:=by
 simp only [cutsL,List.mem_map,List.mem_filter] at h;obtain ⟨s,⟨h1,h2⟩,h3⟩:=h;exact ⟨s,h1,h3,h2⟩
theorem rcuts_p (z:Zone) (hl:z.sets.length≤1000000000):PCalls E 283 [z.enc] (· = .sl ((cutsL z.apex z.sets).map .str)):=by
 obtain ⟨apex,l⟩:=z;simp only at hl ⊢;refine eP Tryz.func283 ?_;refine AWL.adopt 3 (9,1) (by decide) rfl ?_;(conv=>whnf);refine AWL.loop (κ:=Nat) (rg 3 31) (fun k=>[(4,.d (.int .i64 k)),(3,.own 1 1)]) (fun k=>[(1,.arr 1 (9,1) ((cutsL apex (l.take k)).map .str))]) (fun k=>k≤l.length) (fun k=>l.length - k) 0 (Nat.zero_le _) ?_ ?_
 ·(conv=>whnf);repeat (first | exact trivial | (refine And.intro (by first | with_reducible rfl | exact congrArg (DV.int .i64) (by omega) | exact rfl | exact congrArg (DV.int .i64) (wrap64 (by omega) (by omega)) | exact congrArg (DV.int .i64) ((wrap64 (by omega) (by omega)).trans (by omega))) ?_; conv=>whnf))
 ·intro k hk IH;have hcl:=cutsL_len apex (l.take k);rw [List.length_take] at hcl;refine AWL.head E_ok Tryz.func283 2000 ?_;(conv=>whnf);refine caseB_split (fun h5=>?_) (fun h5=>?_)
  ·have hlt:k<l.length:=by simpa using h5
   obtain ⟨x,hx⟩:=some_of_lt hlt;have hnext:=cutsL_next (apex:=apex) hx;refine gO Tryz.func283 ?_;repeat' (first | with_reducible refine elemP_at (at_map hx) rfl ?_ | with_reducible refine cY ?_ | with_reducible refine cN ?_ | with_reducible refine caseB_split (fun _=>?_) (fun _=>?_) | refine gA Tryz.func283 ?_ | refine gB ?_ | refine gC ?_ | with_reducible rfl)
   all_goals first
    |(refine need_intro ⟨by simp; omega, by simp [DV.cells]⟩ ?_
      have hc : isCut apex x = true := by simp_all [isCut])
    |(have hc:isCut apex x=false:=by simp_all [isCut])
   all_goals
    rw [hc] at hnext;refine gO Tryz.func283 ?_;refine AWL.back (IH (k+1) (by omega) (by omega)) ?_;(conv=>whnf);repeat (first | exact trivial | (refine sI ?_; conv=>whnf))
    refine And.intro (by rw [hnext]; simp) ?_;(conv=>whnf);repeat (first | exact trivial | (refine sI ?_; conv=>whnf))
  ·have hge:l.length≤k:=by simpa using h5
   refine gO Tryz.func283 ?_;rw [List.take_of_length_le hge]
def highStep (out:List Text) (c:Text):List Text:=match out.getLast? with
 |none=>out++[c]
 |some d=>if Nm.under c d then out else out++[c]
def highL (l:List Text):List Text:=l.foldl highStep []
theorem highL_next {l:List Text} {k:Nat} {x:Text} (h:l[k]? = some x):highL (l.take (k+1))=highStep (highL (l.take k)) x:=by
 rw [take_next h,highL,List.foldl_append];rfl
theorem highStep_len (o:List Text) (c:Text):(highStep o c).length≤o.length+1:=by
 unfold highStep;split
 ·simp
 ·split <;> simp
theorem highL_len (l:List Text):(highL l).length≤l.length:=by
 have:∀ (l o:List Text),(l.foldl highStep o).length≤o.length+l.length:=by
  intro l
  induction l with
  |nil=>simp
  |cons x l ih=>intro o; have:=ih (highStep o x); have:=highStep_len o x; simp; omega
 have:=this l []
 simpa [highL] using this
theorem highL_mem {l:List Text}:∀ c∈highL l,c∈l:=by
 have:∀ (l o:List Text),∀ c∈l.foldl highStep o,c∈o∨c∈l:=by
  intro l
  induction l with
  |nil=>intro o c h; exact .inl h
  |cons x l ih =>
   intro o c h;rcases ih (highStep o x) c h with h | h
   ·have:c∈o∨c=x:=by
     unfold highStep at h;split at h
     ·simpa using h
     ·split at h
      ·exact .inl h
      ·simpa using h
    rcases this with h | h
    ·exact .inl h
    ·exact .inr (by simp [h])
   ·exact .inr (List.mem_cons_of_mem _ h)
 intro c h;rcases this l [] c h with h | h
 ·simp at h
 ·exact h
theorem rhighest_p (z:Zone) (hl:z.sets.length≤1000000000) (hn:∀ s∈z.sets,s.set.name.length≤1000):PCalls E 291 [z.enc] (· = .sl ((highL (cutsL z.apex z.sets)).map .str)):=by
 have hcn:∀ c∈cutsL z.apex z.sets,c.length≤1000:=fun c hc=>by
  obtain ⟨s,h1,rfl,-⟩:=cutsL_mem hc;exact hn s h1
 have hcl:=cutsL_len z.apex z.sets;refine eP Tryz.func291 ?_
 with_reducible refine callP_eq (rcuts_p z hl) ?_
 refine gO Tryz.func291 ?_;generalize cutsL z.apex z.sets=l at *;refine AWL.adopt 4 (9,1) (by decide) rfl ?_;(conv=>whnf);refine AWL.loop (κ:=Nat) ([4,5]++rg 8 30) (fun k=>[(5,.d (.int .i64 k)),(4,.own 1 1)]) (fun k=>[(1,.arr 1 (9,1) ((highL (l.take k)).map .str))]) (fun k=>k≤l.length) (fun k=>l.length - k) 0 (Nat.zero_le _) ?_ ?_
 ·(conv=>whnf);repeat (first | exact trivial | (refine And.intro (by first | with_reducible rfl | exact congrArg (DV.int .i64) (by omega) | exact rfl | exact congrArg (DV.int .i64) (wrap64 (by omega) (by omega)) | exact congrArg (DV.int .i64) ((wrap64 (by omega) (by omega)).trans (by omega))) ?_; conv=>whnf))
 ·intro k hk IH;have hhl:=highL_len (l.take k);rw [List.length_take] at hhl;have hhm:∀ c∈highL (l.take k),c.length≤1000:=fun c hc=>hcn c (List.mem_of_mem_take (highL_mem c hc));refine AWL.head E_ok Tryz.func291 2000 ?_;(conv=>whnf);refine caseB_split (fun h5=>?_) (fun h5=>?_)
  ·have hlt:k<l.length:=by simpa using h5
   obtain ⟨x,hx⟩:=some_of_lt hlt;have hxl:=hcn x (List.mem_of_getElem? hx);have hnext:=highL_next hx;generalize highL (l.take k)=o at *;rcases List.eq_nil_or_concat o with rfl | ⟨i,d,rfl⟩
   ·refine gO Tryz.func291 ?_;refine AWL.draw E_ok E_mixed 17 2000 (by kernel_rfl) ?_;(conv=>whnf);refine caseB_yes (by simp) ?_;refine gD ?_;refine gS ?_;refine gO Tryz.func291 ?_;refine caseB_true ?_;refine gO Tryz.func291 ?_;refine elemP_at (at_map hx) rfl ?_;refine gO Tryz.func291 ?_;refine need_intro ⟨by simp,by simp [DV.cells]⟩ ?_;refine gO Tryz.func291 ?_;refine AWL.back (IH (k+1) (by omega) (by omega)) ?_;(conv=>whnf);repeat (first | exact trivial | (refine sI ?_; conv=>whnf))
    refine And.intro (by rw [hnext]; simp [highStep]) ?_;(conv=>whnf);repeat (first | exact trivial | (refine sI ?_; conv=>whnf))
   ·simp only [List.concat_eq_append] at *;have hw:IntKind.i64.wrap ((((i++[d]).map DV.str).length:Int) - 1)=(i.length:Int):=by
     rw [wrap64 (by simp) (by simp; simp at hhl; omega)]; simp
    have hel:((i++[d]).map DV.str)[((i.length:Nat):Int).toNat]? = some (.str d):=by simp
    have hdl:=hhm d (by simp);have hst:highStep (i++[d]) x=if Nm.under x d then i++[d] else i++[d]++[x]:=by simp [highStep]
    rw [hst] at hnext;refine gO Tryz.func291 ?_;refine AWL.draw E_ok E_mixed 17 2000 (by kernel_rfl) ?_;(conv=>whnf);refine caseB_no (by simp; omega) ?_;refine gD ?_;refine elemP_at (at_map hx) rfl ?_;refine gD ?_;rw [hw];refine need_intro ⟨by omega,by simp; omega⟩ ?_;refine gD ?_;refine elemP_intro (.str d) (by omega) (by simp) rfl ?_;refine gD ?_
    with_reducible refine callP1_eq (rin_p _ _ hxl hdl) ?_
    refine gD ?_;cases hu:Nm.under x d
    ·rw [hu] at hnext;refine gS ?_;refine gO Tryz.func291 ?_;refine caseB_yes (by decide) ?_;refine gO Tryz.func291 ?_;refine elemP_at (at_map hx) rfl ?_;refine gO Tryz.func291 ?_;refine need_intro ⟨by simp; simp at hhl; omega,by simp [DV.cells]⟩ ?_;refine gO Tryz.func291 ?_;refine AWL.back (IH (k+1) (by omega) (by omega)) ?_;(conv=>whnf);repeat (first | exact trivial | (refine sI ?_; conv=>whnf))
     refine And.intro (by rw [hnext]; simp) ?_;(conv=>whnf);repeat (first | exact trivial | (refine sI ?_; conv=>whnf))
    ·rw [hu] at hnext;refine gS ?_;refine gO Tryz.func291 ?_;refine caseB_no (by decide) ?_;refine gO Tryz.func291 ?_;refine AWL.back (IH (k+1) (by omega) (by omega)) ?_;(conv=>whnf);repeat (first | exact trivial | (refine sI ?_; conv=>whnf))
     refine And.intro (by rw [hnext]; simp) ?_;(conv=>whnf);repeat (first | exact trivial | (refine sI ?_; conv=>whnf))
  ·have hge:l.length≤k:=by simpa using h5
   refine gO Tryz.func291 ?_;rw [List.take_of_length_le hge]
end Go.Proofs.YthikfaephakahaaGreatDoor.P
end
section
namespace Go.Proofs.YthikfaephakahaaGreatDoor.P
open Go Go.Eng
set_option maxRecDepth 100000
set_option maxHeartbeats 4000000
def adv (cuts:List Text) (n:Text) (k:Nat):Nat:=k+((cuts.drop k).takeWhile fun c=>decide (ordN c n≤0)).length
theorem adv_yes {cuts:List Text} {n c:Text} {k:Nat} (h:cuts[k]? = some c) (ho:ordN c n≤0):adv cuts n k=adv cuts n (k+1):=by
 have hk:=lt_of_getElem? h;have e1:cuts[k]=c:=by simpa [hk] using h
 unfold adv;rw [List.drop_eq_getElem_cons hk,e1,List.takeWhile_cons_of_pos (by simpa using ho)];simp;omega
theorem adv_no {cuts:List Text} {n c:Text} {k:Nat} (h:cuts[k]? = some c) (ho:¬ ordN c n≤0):adv cuts n k=k:=by
 have hk:=lt_of_getElem? h;have e1:cuts[k]=c:=by simpa [hk] using h
 unfold adv;rw [List.drop_eq_getElem_cons hk,e1,List.takeWhile_cons_of_neg (by simpa using ho)];simp
theorem adv_end {cuts:List Text} {n:Text} {k:Nat} (h:cuts.length≤k):adv cuts n k=k:=by
 unfold adv;rw [List.drop_of_length_le h];simp
theorem adv_le {cuts:List Text} {n:Text} {k:Nat} (h:k≤cuts.length):adv cuts n k≤cuts.length:=by
 unfold adv;have h1:((cuts.drop k).takeWhile fun c=>decide (ordN c n≤0)).length≤(cuts.drop k).length:=(List.takeWhile_prefix _).length_le;simp at h1 ⊢;omega
def behAt (cuts:List Text) (n:Text) (k:Nat):Text:=if k=0 then [] else match cuts[k - 1]? with
 |some c=>if Nm.under n c then c else []
 |none=>[]
def behL (cuts:List Text):Nat→List Text→List Text
 |_,[]=>[]
 |k,n::ns=>behAt cuts n (adv cuts n k)::behL cuts (adv cuts n k) ns
theorem behL_len (cuts:List Text):∀ (k:Nat) (ns:List Text),(behL cuts k ns).length=ns.length
 |_,[]=>rfl
 |k,n::ns=>by simp [behL,behL_len cuts _ ns]
def behindZ (z:Zone):List Text:=behL (highL (cutsL z.apex z.sets)) 0 (z.sets.map (·.set.name))
theorem behindZ_len (z:Zone):(behindZ z).length=z.sets.length:=by simp [behindZ,behL_len]
theorem take_rep {α:Type} {B:List α} {e x:α} {i n:Nat} (hB:B.length=n) (h:B[i]? = some x):(B.take i++List.replicate (n - i) e).set i x=B.take (i+1)++List.replicate (n - (i+1)) e:=by
 have hi:=lt_of_getElem? h;rw [take_next h,List.set_append_right _ _ (by simp; omega)];simp only [List.length_take,List.append_assoc]
 congr 1
 rw [show n - i=(n - (i+1))+1 by omega,List.replicate_succ];simp [Nat.min_eq_left (Nat.le_of_lt hi)]
theorem take_rep_same {α:Type} {B:List α} {e:α} {i n:Nat} (hB:B.length=n) (h:B[i]? = some e):B.take i++List.replicate (n - i) e=B.take (i+1)++List.replicate (n - (i+1)) e:=by
 have hi:=lt_of_getElem? h;rw [take_next h,List.append_assoc]
 congr 1
 rw [show n - i=(n - (i+1))+1 by omega,List.replicate_succ];rfl
theorem rep_at {α:Type} {B:List α} {e:α} {i n:Nat} (hB:B.length=n) (hi:i<n):(B.take i++List.replicate (n - i) e)[i]? = some e:=by
 rw [List.getElem?_append_right (by simp; omega)];simp only [List.length_take];rw [show i - min i B.length=0 by omega];rw [List.getElem?_replicate,if_pos (by omega)]
theorem rbehind_p (z:Zone) (hl:z.sets.length≤1000000) (hn:∀ s∈z.sets,s.set.name.length≤1000):PCalls E 247 [z.enc] (· = .sl ((behindZ z).map .str)):=by
 have hcn:∀ c∈highL (cutsL z.apex z.sets),c.length≤1000:=fun c hc=>by
  obtain ⟨s,h1,rfl,-⟩:=cutsL_mem (highL_mem c hc);exact hn s h1
 have hcl:(highL (cutsL z.apex z.sets)).length≤z.sets.length:=Nat.le_trans (highL_len _) (cutsL_len _ _);have hBl:=behindZ_len z;have hB0:behindZ z=behL (highL (cutsL z.apex z.sets)) 0 (z.sets.map (·.set.name)):=rfl;generalize behindZ z=B at *;refine eP Tryz.func247 ?_
 with_reducible refine callP_eq (rhighest_p z (by omega) hn) ?_
 refine gO Tryz.func247 ?_;generalize highL (cutsL z.apex z.sets)=cuts at *;obtain ⟨apex,l⟩:=z;simp only at *;refine need_intro ?_ ?_
 ·simp; omega
 ·refine gO Tryz.func247 ?_;refine AWL.loop (κ:=Nat × Nat) [5,6,7,14,15,16,17,18,19,20,21,22,23,24,25,26,27,28,29,30,31,32,33,34,35,36,37,38,39,40,41,42,43,44,45,46,47,48,49,50,51,52,53,54,55,56,57,58,59,60,61] (fun k=>[(6,.d (.int .i64 k.1)),(5,.d (.int .i64 k.2)),(4,.own 1 0)]) (fun k=>[(1,.arr 0 (9,1) ((B.take k.1++List.replicate (l.length - k.1) []).map .str))]) (fun k=>k.1≤l.length∧k.2≤cuts.length∧B.drop k.1=behL cuts k.2 ((l.drop k.1).map (·.set.name))) (fun k=>l.length - k.1) (0,0) ⟨Nat.zero_le _,Nat.zero_le _,by simpa using hB0⟩ ?_ ?_
  ·(conv=>whnf);repeat (first | exact trivial | (refine sI ?_; conv=>whnf))
   refine And.intro (by simp) ?_;(conv=>whnf);repeat (first | exact trivial | (refine sI ?_; conv=>whnf))
  ·rintro ⟨i,k⟩ hk IH;simp only at hk;refine AWL.head E_ok Tryz.func247 2000 ?_;(conv=>whnf);refine caseB_split (fun h5=>?_) (fun h5=>?_)
   ·have hlt:i<l.length:=by simpa using h5
    obtain ⟨x,hx⟩:=some_of_lt hlt;have hxl:=hn x (List.mem_of_getElem? hx);have hcons:(l.drop i).map (·.set.name)=x.set.name::(l.drop (i+1)).map (·.set.name):=by
     have e1:l[i]=x:=by simpa [hlt] using hx
     rw [List.drop_eq_getElem_cons hlt,e1];rfl
    obtain ⟨-,hk2,hkB⟩:=hk;rw [hcons,behL] at hkB;have hBi:B[i]? = some (behAt cuts x.set.name (adv cuts x.set.name k)):=by
     have:=congrArg (fun l=>l[0]?) hkB
     simpa using this
    have hBd:B.drop (i+1)=behL cuts (adv cuts x.set.name k) ((l.drop (i+1)).map (·.set.name)):=by
     have:=congrArg List.tail hkB
     simpa using this
    have hal:=adv_le (n:=x.set.name) hk2;refine gO Tryz.func247 ?_;refine elemP_at (at_map hx) rfl ?_;refine gO Tryz.func247 ?_;refine AWL.loop (κ:=Nat) ([5]++rg 28 15) (fun j=>[(5,.d (.int .i64 j))]) (fun _=>[]) (fun j=>j≤cuts.length∧adv cuts x.set.name k=adv cuts x.set.name j) (fun j=>cuts.length - j) k ⟨hk2,rfl⟩ ?_ ?_
    ·(conv=>whnf);repeat (first | exact trivial | (refine sI ?_; conv=>whnf))
    ·intro j hj IH2;have leave:∀ (hjj:adv cuts x.set.name k=j),True:=fun _=>trivial;refine AWL.head E_ok Tryz.func247 2000 ?_;(conv=>whnf);refine caseB_split (fun h6=>?_) (fun h6=>?_)
     ·have hlt2:j<cuts.length:=by simpa using h6
      obtain ⟨c,hc⟩:=some_of_lt hlt2;have hcl2:=hcn c (List.mem_of_getElem? hc);refine gO Tryz.func247 ?_;refine elemP_at (at_map hc) rfl ?_;refine gO Tryz.func247 ?_
      with_reducible refine callP_eq (rorder_p _ _ hcl2 hxl) ?_
      refine gO Tryz.func247 ?_;refine caseB_split (fun h7=>?_) (fun h7=>?_)
      ·refine gO Tryz.func247 ?_;refine AWL.back (IH2 (j+1) ⟨by omega,by rw [hj.2]; exact adv_yes hc (by simpa using h7)⟩ (by omega)) ?_;(conv=>whnf);repeat (first | exact trivial | (refine sI ?_; conv=>whnf))
      ·have hadv:adv cuts x.set.name k=j:=by rw [hj.2]; exact adv_no hc (by simpa using h7)
       rw [hadv] at hBi hBd;refine gO Tryz.func247 ?_;rcases Nat.eq_zero_or_pos j with hj0 | hj0
       ·have hb0:behAt cuts x.set.name j=[]:=by simp [behAt,hj0]
        rw [hb0] at hBi;refine caseB_no (by simp; omega) ?_;refine gO Tryz.func247 ?_;refine caseB_false ?_;refine gO Tryz.func247 ?_;refine AWL.back (IH (i+1,j) ⟨by simp only; omega,by simp only; omega,hBd⟩ (by simp only; omega)) ?_;(conv=>whnf);repeat (first | exact trivial | (refine sI ?_; conv=>whnf))
        refine And.intro (by rw [take_rep_same hBl hBi]) ?_;(conv=>whnf);repeat (first | exact trivial | (refine sI ?_; conv=>whnf))
       ·obtain ⟨c,hc⟩:=some_of_lt (l:=cuts) (k:=j - 1) (by omega);have hcl3:=hcn c (List.mem_of_getElem? hc);have hb0:behAt cuts x.set.name j=if Nm.under x.set.name c then c else []:=by simp [behAt,hc]; omega
        rw [hb0] at hBi;refine caseB_yes (by simp; omega) ?_;refine gO Tryz.func247 ?_;refine elemP_at (at_prev hc hj0 (by omega)) rfl ?_;refine gO Tryz.func247 ?_
        with_reducible refine callP_eq (rin_p _ _ hxl hcl3) ?_
        refine gO Tryz.func247 ?_;cases hu:Nm.under x.set.name c
        ·rw [hu] at hBi;refine caseB_false ?_;refine gO Tryz.func247 ?_;refine AWL.back (IH (i+1,j) ⟨by simp only; omega,by simp only; omega,hBd⟩ (by simp only; omega)) ?_;(conv=>whnf);repeat (first | exact trivial | (refine sI ?_; conv=>whnf))
         refine And.intro (by rw [take_rep_same hBl (by simpa using hBi)]) ?_;(conv=>whnf);repeat (first | exact trivial | (refine sI ?_; conv=>whnf))
        ·rw [hu] at hBi;refine caseB_true ?_;refine gO Tryz.func247 ?_;refine elemP_at (at_prev hc hj0 (by omega)) rfl ?_;refine gO Tryz.func247 ?_;refine need_intro ⟨by omega,by simp; omega⟩ ?_;refine gO Tryz.func247 ?_;refine elemP_intro (.str []) (by omega) (by simp only [Int.toNat_natCast,List.getElem?_map]; rw [rep_at hBl hlt]; rfl) rfl ?_;refine gO Tryz.func247 ?_;refine AWL.back (IH (i+1,j) ⟨by simp only; omega,by simp only; omega,hBd⟩ (by simp only; omega)) ?_;(conv=>whnf);repeat (first | exact trivial | (refine sI ?_; conv=>whnf))
         refine And.intro (by rw [← take_rep (e:=[]) hBl (by simpa using hBi)]; simp [List.map_set]) ?_;(conv=>whnf);repeat (first | exact trivial | (refine sI ?_; conv=>whnf))
     ·have hadv:adv cuts x.set.name k=j:=by rw [hj.2]; exact adv_end (by simpa using h6)
      rw [hadv] at hBi hBd;refine gO Tryz.func247 ?_;refine caseB_false ?_;refine gO Tryz.func247 ?_;rcases Nat.eq_zero_or_pos j with hj0 | hj0
      ·have hb0:behAt cuts x.set.name j=[]:=by simp [behAt,hj0]
       rw [hb0] at hBi;refine caseB_no (by simp; omega) ?_;refine gO Tryz.func247 ?_;refine caseB_false ?_;refine gO Tryz.func247 ?_;refine AWL.back (IH (i+1,j) ⟨by simp only; omega,by simp only; omega,hBd⟩ (by simp only; omega)) ?_;(conv=>whnf);repeat (first | exact trivial | (refine sI ?_; conv=>whnf))
       refine And.intro (by rw [take_rep_same hBl hBi]) ?_;(conv=>whnf);repeat (first | exact trivial | (refine sI ?_; conv=>whnf))
      ·obtain ⟨c,hc⟩:=some_of_lt (l:=cuts) (k:=j - 1) (by omega);have hcl3:=hcn c (List.mem_of_getElem? hc);have hb0:behAt cuts x.set.name j=if Nm.under x.set.name c then c else []:=by simp [behAt,hc]; omega
       rw [hb0] at hBi;refine caseB_yes (by simp; omega) ?_;refine gO Tryz.func247 ?_;refine elemP_at (at_prev hc hj0 (by omega)) rfl ?_;refine gO Tryz.func247 ?_
       with_reducible refine callP_eq (rin_p _ _ hxl hcl3) ?_
       refine gO Tryz.func247 ?_;cases hu:Nm.under x.set.name c
       ·rw [hu] at hBi;refine caseB_false ?_;refine gO Tryz.func247 ?_;refine AWL.back (IH (i+1,j) ⟨by simp only; omega,by simp only; omega,hBd⟩ (by simp only; omega)) ?_;(conv=>whnf);repeat (first | exact trivial | (refine sI ?_; conv=>whnf))
        refine And.intro (by rw [take_rep_same hBl (by simpa using hBi)]) ?_;(conv=>whnf);repeat (first | exact trivial | (refine sI ?_; conv=>whnf))
       ·rw [hu] at hBi;refine caseB_true ?_;refine gO Tryz.func247 ?_;refine elemP_at (at_prev hc hj0 (by omega)) rfl ?_;refine gO Tryz.func247 ?_;refine need_intro ⟨by omega,by simp; omega⟩ ?_;refine gO Tryz.func247 ?_;refine elemP_intro (.str []) (by omega) (by simp only [Int.toNat_natCast,List.getElem?_map]; rw [rep_at hBl hlt]; rfl) rfl ?_;refine gO Tryz.func247 ?_;refine AWL.back (IH (i+1,j) ⟨by simp only; omega,by simp only; omega,hBd⟩ (by simp only; omega)) ?_;(conv=>whnf);repeat (first | exact trivial | (refine sI ?_; conv=>whnf))
        refine And.intro (by rw [← take_rep (e:=[]) hBl (by simpa using hBi)]; simp [List.map_set]) ?_;(conv=>whnf);repeat (first | exact trivial | (refine sI ?_; conv=>whnf))
   ·have hge:l.length≤i:=by simpa using h5
    refine gO Tryz.func247 ?_;simp only [show l.length - i=0 by omega,List.replicate_zero,List.append_nil];rw [List.take_of_length_le (by omega)]
end Go.Proofs.YthikfaephakahaaGreatDoor.P
end
section
namespace Go.Proofs.YthikfaephakahaaGreatDoor.P
open Go Go.Eng
set_option maxRecDepth 100000
set_option maxHeartbeats 4000000
theorem zip_at {α β:Type} {a:List α} {b:List β} {k:Nat} {x:α} {y:β} (ha:a[k]? = some x) (hb:b[k]? = some y):(a.zip b)[k]? = some (x,y):=by
 rw [List.getElem?_zip_eq_some];exact ⟨ha,hb⟩
def own1 (s:Signed) (b:Text):Bool:=b==[]||(s.set.type != 2&&s.set.type != 1)
def ownZ (z:Zone):List Bool:=(z.sets.zip (behindZ z)).map fun p=>own1 p.1 p.2
theorem ownZ_len (z:Zone):(ownZ z).length=z.sets.length:=by simp [ownZ,behindZ_len]
theorem rown_p (z:Zone) (hl:z.sets.length≤1000000) (hn:∀ s∈z.sets,s.set.name.length≤1000):PCalls E 248 [z.enc] (· = .sl ((ownZ z).map .bool)):=by
 have hBl:=behindZ_len z;have hOl:=ownZ_len z;have hO:ownZ z=(z.sets.zip (behindZ z)).map fun p=>own1 p.1 p.2:=rfl;generalize ownZ z=O at *;refine eP Tryz.func248 ?_
 with_reducible refine callP_eq (rbehind_p z hl hn) ?_
 refine gO Tryz.func248 ?_;generalize behindZ z=B at *;obtain ⟨apex,l⟩:=z;simp only at *;refine need_intro (by simp; omega) ?_;refine gO Tryz.func248 ?_;refine AWL.loop (κ:=Nat) ([5,6]++rg 13 30) (fun k=>[(5,.d (.int .i64 k)),(4,.own 1 0)]) (fun k=>[(1,.arr 0 (4,1) ((O.take k++List.replicate (l.length - k) false).map .bool))]) (fun k=>k≤l.length) (fun k=>l.length - k) 0 (Nat.zero_le _) ?_ ?_
 ·(conv=>whnf);repeat (first | exact trivial | (refine sI ?_; conv=>whnf))
  refine And.intro (by simp) ?_;(conv=>whnf);repeat (first | exact trivial | (refine sI ?_; conv=>whnf))
 ·intro k hk IH;refine AWL.head E_ok Tryz.func248 2000 ?_;(conv=>whnf);refine caseB_split (fun h5=>?_) (fun h5=>?_)
  ·have hlt:k<l.length:=by simpa using h5
   obtain ⟨x,hx⟩:=some_of_lt hlt;obtain ⟨b,hb⟩:=some_of_lt (l:=B) (k:=k) (by omega);have hOk:O[k]? = some (own1 x b):=by rw [hO,List.getElem?_map,zip_at hx hb]; rfl
   have hrep:=rep_at (e:=false) hOl hlt;have hset:=take_rep (e:=false) hOl hOk;refine gO Tryz.func248 ?_;repeat' (first | with_reducible refine elemP_at (at_map hx) rfl ?_ | with_reducible refine elemP_at (at_map hb) rfl ?_ | with_reducible refine cY ?_ | with_reducible refine cN ?_ | with_reducible refine caseB_split (fun _=>?_) (fun _=>?_) | refine gA Tryz.func248 ?_ | refine gB ?_ | refine gC ?_ | with_reducible rfl)
   all_goals
    refine need_intro ⟨by omega,by simp; omega⟩ ?_;refine gO Tryz.func248 ?_;refine elemP_intro (.bool false) (by omega) (by simp only [Int.toNat_natCast,List.getElem?_map]; rw [hrep]; rfl) rfl ?_;refine gO Tryz.func248 ?_;refine AWL.back (IH (k+1) (by omega) (by omega)) ?_;(conv=>whnf);repeat (first | exact trivial | (refine sI ?_; conv=>whnf))
    refine And.intro (by rw [← hset]; simp only [Int.toNat_natCast,List.map_set]; congr 2; clear hset hrep hOk hO IH hb; rcases b with _ | ⟨c,b⟩ <;> simp_all [own1]) ?_;(conv=>whnf);repeat (first | exact trivial | (refine sI ?_; conv=>whnf))
  ·have hge:l.length≤k:=by simpa using h5
   refine gO Tryz.func248 ?_;simp only [show l.length - k=0 by omega,List.replicate_zero,List.append_nil];rw [List.take_of_length_le (by omega)]
def ok1 (apex:Text) (s:Signed):Bool:=setOK s.set&&Nm.under s.set.name apex
def before1 (q s:Signed):Bool:=decide (ordS q.set s.set<0)
def oneB (z:Zone):Bool:=Nm.valid z.apex && !wildL z.apex && !(decide ((z.sets.length:Int)>20000))&&chain (ok1 z.apex) before1 none z.sets
theorem setOK_name {s:RSet} (h:setOK s=true):Nm.valid s.name=true:=by
 simp only [setOK,Bool.and_eq_true] at h;exact h.1.1.1.1.1.1
structure Zone.Fits (z:Zone):Prop where
 apex:z.apex.length≤maxLen
 sets:∀ s∈z.sets,s.set.Fits
theorem rone_p (z:Zone) (hf:z.Fits):PCalls E 174 [z.enc] (· = .bool (oneB z)):=by
 obtain ⟨apex,l⟩:=z;have hfa:apex.length≤maxLen:=hf.apex;have hfs:∀ s∈l,s.set.Fits:=hf.sets;unfold oneB;simp only;cases hv:Nm.valid apex
 ·refine eP Tryz.func174 ?_
  with_reducible refine callP_eq (rvalid_p _ hfa) ?_
  refine gO Tryz.func174 ?_;rw [hv];refine caseB_yes rfl ?_;refine gO Tryz.func174 ?_;refine caseB_true ?_;refine gO Tryz.func174 ?_;refine caseB_true ?_;refine gO Tryz.func174 ?_;simp
 ·have hal:=valid_len hv;refine eP Tryz.func174 ?_
  with_reducible refine callP_eq (rvalid_p _ hfa) ?_
  refine gO Tryz.func174 ?_;rw [hv];refine caseB_no rfl ?_;refine gO Tryz.func174 ?_
  with_reducible refine callP_eq (rwildL_p apex (by omega)) ?_
  refine gO Tryz.func174 ?_;cases hw:wildL apex
  case true =>
   refine caseB_true ?_;refine gO Tryz.func174 ?_;refine caseB_true ?_;refine gO Tryz.func174 ?_;simp
  refine caseB_false ?_;refine gO Tryz.func174 ?_;refine caseB_split (fun h3=>?_) (fun h3=>?_)
  ·refine gO Tryz.func174 ?_;simp only [List.length_map] at h3;rw [h3];simp
  ·simp only [List.length_map] at h3;rw [h3];simp only [Bool.not_false,Bool.true_and];have h20:l.length≤20000:=by simp at h3; omega
   refine gO Tryz.func174 ?_;refine AWL.loop (κ:=Nat) ([2,3,4]++rg 20 40) (fun k=>[(3,.d (.int .i64 k))]) (fun _=>[]) (fun k=>k≤l.length∧chain (ok1 apex) before1 none l=chain (ok1 apex) before1 (prevA l k) (l.drop k)∧∀ q,prevA l k=some q→setOK q.set=true) (fun k=>l.length - k) 0 ⟨Nat.zero_le _,rfl,fun q h=>by simp [prevA] at h⟩ ?_ ?_
   ·(conv=>whnf);repeat (first | exact trivial | (refine sI ?_; conv=>whnf))
   ·intro k hk IH;refine AWL.head E_ok Tryz.func174 2000 ?_;(conv=>whnf);refine caseB_split (fun h5=>?_) (fun h5=>?_)
    ·have hlt:k<l.length:=by simpa using h5
     obtain ⟨x,hx⟩:=some_of_lt hlt;have hnext:=chain_next (ok:=ok1 apex) (rel:=before1) hx;rw [← hk.2.1] at hnext;have hxf:=hfs x (List.mem_of_getElem? hx);have hp1:prevA l (k+1)=some x:=by simp [prevA,hx]
     cases hs:setOK x.set
     ·refine gO Tryz.func174 ?_;refine elemP_at (at_map hx) rfl ?_;refine gO Tryz.func174 ?_;refine AWL.draw E_ok E_mixed 27 2000 (by kernel_rfl) ?_;conv=>whnf
      with_reducible refine callP1_eq (rsetOK_p x.set hxf) ?_
      refine gD ?_;rw [hs];refine caseB_yes rfl ?_;refine gD ?_;repeat' (first | with_reducible refine cY ?_ | with_reducible refine cN ?_ | with_reducible refine caseB_split (fun _=>?_) (fun _=>?_) | refine gA Tryz.func174 ?_ | refine gB ?_ | refine gC ?_ | with_reducible rfl)
      rw [hnext,ok1,hs];simp
     ·have hxv:=setOK_name hs;have hxl:=valid_len hxv;refine gO Tryz.func174 ?_;refine elemP_at (at_map hx) rfl ?_;refine gO Tryz.func174 ?_;refine AWL.draw E_ok E_mixed 27 2000 (by kernel_rfl) ?_;conv=>whnf
      with_reducible refine callP1_eq (rsetOK_p x.set hxf) ?_
      refine gD ?_;rw [hs];refine caseB_no rfl ?_;refine gD ?_
      with_reducible refine callP1_eq (rin_p x.set.name apex (by omega) (by omega)) ?_
      refine gD ?_;rcases Nat.eq_zero_or_pos k with hk0 | hk0
      ·have hpq:prevA l k=none:=by simp [prevA,hk0]
       rw [hpq] at hnext;dsimp only at hnext;rw [Bool.and_true] at hnext;repeat' (first | with_reducible refine cY ?_ | with_reducible refine cN ?_ | with_reducible refine caseB_split (fun _=>?_) (fun _=>?_) | refine gA Tryz.func174 ?_ | refine gB ?_ | refine gC ?_ | with_reducible rfl)
       all_goals first
        |(have hno : ok1 apex x = false := by clear hnext hk IH; simp_all [ok1]
          rw [hnext, hno, Bool.false_and]
          done)
        |(exfalso; clear hnext hk IH; simp_all; done)
        |skip
       all_goals
        refine gO Tryz.func174 ?_;refine AWL.back (IH (k+1) ⟨by omega,by rw [hnext,show ok1 apex x=true by clear hnext hk IH; simp_all [ok1],Bool.true_and],fun q hq=>by rw [hp1] at hq; cases hq; exact hs⟩ (by omega)) ?_;(conv=>whnf);repeat (first | exact trivial | (refine sI ?_; conv=>whnf))
      ·obtain ⟨q,hq,hpq⟩:=prevA_some hk0 hk.1;have hqv:=setOK_name (hk.2.2 q hpq);rw [hpq] at hnext;repeat' (first | with_reducible refine elemP_at (at_prev hq hk0 (by omega)) rfl ?_ | with_reducible refine callP_eq (rordS_p q.set x.set hqv hxv) ?_ | with_reducible refine callP1_eq (rordS_p q.set x.set hqv hxv) ?_ | with_reducible refine cY ?_ | with_reducible refine cN ?_ | with_reducible refine caseB_split (fun _=>?_) (fun _=>?_) | refine gA Tryz.func174 ?_ | refine gB ?_ | refine gC ?_ | with_reducible rfl)
       all_goals first
        |(have hno : (ok1 apex x && before1 q x) = false := by clear hnext hk IH; simp_all [ok1, before1]
          rw [hnext, hno, Bool.false_and]
          done)
        |(exfalso; clear hnext hk IH; simp_all; omega)
        |skip
       all_goals
        refine gO Tryz.func174 ?_;refine AWL.back (IH (k+1) ⟨by omega,by rw [hnext,show (ok1 apex x&&before1 q x)=true by clear hnext hk IH; simp_all [ok1,before1],Bool.true_and],fun q hq=>by rw [hp1] at hq; cases hq; exact hs⟩ (by omega)) ?_;(conv=>whnf);repeat (first | exact trivial | (refine sI ?_; conv=>whnf))
    ·have hge:l.length≤k:=by simpa using h5
     refine gO Tryz.func174 ?_;rw [hk.2.1,List.drop_of_length_le hge];rfl
def four1 (s:Signed) (b:Text):Bool := !(b != []&&s.set.type != 1 && !(b != []&&s.set.name==b)) && !((b != []&&s.set.name==b)&&s.set.type != 1&&s.set.type != 2&&s.set.type != 6&&s.set.type != 8) && !(s.set.type==6 && !(b != []&&s.set.name==b))
def fourB (z:Zone):Bool:=(z.sets.zip (behindZ z)).all fun p=>four1 p.1 p.2
theorem rfour_p (z:Zone) (hl:z.sets.length≤1000000) (hn:∀ s∈z.sets,s.set.name.length≤1000):PCalls E 177 [z.enc] (· = .bool (fourB z)):=by
 have hBl:=behindZ_len z;unfold fourB;refine eP Tryz.func177 ?_
 with_reducible refine callP_eq (rbehind_p z hl hn) ?_
 refine gO Tryz.func177 ?_;generalize behindZ z=B at *;obtain ⟨apex,l⟩:=z;simp only at *;refine AWL.loop (κ:=Nat) ([2,4,5,6]++rg 9 69) (fun k=>[(4,.d (.int .i64 k))]) (fun _=>[]) (fun k=>k≤l.length∧((l.zip B).take k).all (fun p=>four1 p.1 p.2)=true) (fun k=>l.length - k) 0 ⟨Nat.zero_le _,rfl⟩ ?_ ?_
 ·(conv=>whnf);repeat (first | exact trivial | (refine sI ?_; conv=>whnf))
 ·intro k hk IH;refine AWL.head E_ok Tryz.func177 2000 ?_;(conv=>whnf);refine caseB_split (fun h5=>?_) (fun h5=>?_)
  ·have hlt:k<l.length:=by simpa using h5
   obtain ⟨x,hx⟩:=some_of_lt hlt;obtain ⟨b,hb⟩:=some_of_lt (l:=B) (k:=k) (by omega);have hz:=zip_at hx hb;refine gO Tryz.func177 ?_;refine elemP_at (at_map hx) rfl ?_;refine gO Tryz.func177 ?_;refine AWL.draw E_ok E_mixed 15 2000 (by kernel_rfl) ?_;(conv=>whnf);repeat' (first | with_reducible refine elemP_at (at_map hb) rfl ?_ | with_reducible refine cY ?_ | with_reducible refine cN ?_ | with_reducible refine caseB_split (fun _=>?_) (fun _=>?_) | refine gA Tryz.func177 ?_ | refine gB ?_ | refine gC ?_ | with_reducible rfl)
   all_goals first
    |(rw [all_no hz (by clear hz hb hk IH; rcases b with _ | ⟨c,b⟩ <;> simp_all [four1])]; done)
    |(exfalso; clear hz hb hk IH; rcases b with _ | ⟨c,b⟩ <;> simp_all; done)
    |skip
   all_goals
    refine gO Tryz.func177 ?_;refine AWL.back (IH (k+1) ⟨by omega,all_next hk.2 hz (by clear hz hb hk IH; rcases b with _ | ⟨c,b⟩ <;> simp_all [four1])⟩ (by omega)) ?_;(conv=>whnf);repeat (first | exact trivial | (refine sI ?_; conv=>whnf))
  ·have hge:l.length≤k:=by simpa using h5
   refine gO Tryz.func177 ?_;rw [all_end hk.2 (by simp; omega)]
def five1 (apex:Text) (s:Signed) (o:Bool):Bool:=sigsB s.sigs apex && !(!o&&decide ((s.sigs.length:Int)>0))
def fiveB (z:Zone):Bool:=(z.sets.zip (ownZ z)).all fun p=>five1 z.apex p.1 p.2
theorem rfive_p (z:Zone) (hl:z.sets.length≤1000000) (hn:∀ s∈z.sets,s.set.name.length≤1000):PCalls E 178 [z.enc] (· = .bool (fiveB z)):=by
 have hOl:=ownZ_len z;unfold fiveB;refine eP Tryz.func178 ?_
 with_reducible refine callP_eq (rown_p z hl hn) ?_
 refine gO Tryz.func178 ?_;generalize ownZ z=O at *;obtain ⟨apex,l⟩:=z;simp only at *;refine AWL.loop (κ:=Nat) ([2,4]++rg 7 34) (fun k=>[(4,.d (.int .i64 k))]) (fun _=>[]) (fun k=>k≤l.length∧((l.zip O).take k).all (fun p=>five1 apex p.1 p.2)=true) (fun k=>l.length - k) 0 ⟨Nat.zero_le _,rfl⟩ ?_ ?_
 ·(conv=>whnf);repeat (first | exact trivial | (refine sI ?_; conv=>whnf))
 ·intro k hk IH;refine AWL.head E_ok Tryz.func178 2000 ?_;(conv=>whnf);refine caseB_split (fun h5=>?_) (fun h5=>?_)
  ·have hlt:k<l.length:=by simpa using h5
   obtain ⟨x,hx⟩:=some_of_lt hlt;obtain ⟨b,hb⟩:=some_of_lt (l:=O) (k:=k) (by omega);have hz:=zip_at hx hb;refine gO Tryz.func178 ?_;refine AWL.draw E_ok E_mixed 27 2000 (by kernel_rfl) ?_;(conv=>whnf);repeat' (first | with_reducible refine elemP_at (at_map hx) rfl ?_ | with_reducible refine elemP_at (at_map hb) rfl ?_ | with_reducible refine callP_eq (rsigs_p _ _) ?_ | with_reducible refine callP1_eq (rsigs_p _ _) ?_ | with_reducible refine cY ?_ | with_reducible refine cN ?_ | with_reducible refine caseB_split (fun _=>?_) (fun _=>?_) | refine gA Tryz.func178 ?_ | refine gB ?_ | refine gC ?_ | with_reducible rfl)
   all_goals first
    |(rw [all_no hz (by clear hz hb hk IH; simp_all [five1])]; done)
    |(exfalso; clear hz hb hk IH; simp_all; done)
    |skip
   all_goals
    refine gO Tryz.func178 ?_;refine AWL.back (IH (k+1) ⟨by omega,all_next hk.2 hz (by clear hz hb hk IH; simp_all [five1])⟩ (by omega)) ?_;(conv=>whnf);repeat (first | exact trivial | (refine sI ?_; conv=>whnf))
  ·have hge:l.length≤k:=by simpa using h5
   refine gO Tryz.func178 ?_;rw [all_end hk.2 (by simp; omega)]
def zoneR (z:Zone):Bool:=oneB z&&(twoB z&&(threeL [] none z.sets&&(fourB z&&fiveB z)))
theorem chain_mem {α:Type} {ok:α→Bool} {rel:α→α→Bool}:∀ {p:Option α} {l:List α},chain ok rel p l=true→∀ x∈l,ok x=true
 |_,[],_,x,hx=>by simp at hx
 |p,y::l,h,x,hx=>by
  simp only [chain,Bool.and_eq_true] at h;rcases List.mem_cons.1 hx with rfl | hx
  ·exact h.1.1
  ·exact chain_mem h.2 x hx
theorem oneB_sets {z:Zone} (h:oneB z=true):z.sets.length≤20000∧(∀ s∈z.sets,ok1 z.apex s=true)∧Nm.valid z.apex=true:=by
 simp only [oneB,Bool.and_eq_true] at h;refine ⟨by have:=h.1.2; simp at this; omega,chain_mem h.2,h.1.1.1⟩
theorem ok1_name {apex:Text} {s:Signed} (h:ok1 apex s=true):s.set.name.length≤60:=by
 simp only [ok1,Bool.and_eq_true] at h;exact valid_len (setOK_name h.1)
theorem rzone_p (z:Zone) (hf:z.Fits):PCalls E 116 [z.enc] (· = .bool (zoneR z)):=by
 unfold zoneR;cases h1:oneB z
 ·have hone:=rone_p z hf;rw [h1] at hone;refine eP Tryz.func116 ?_;repeat' (first | with_reducible refine callP_eq (hone) ?_ | with_reducible refine callP1_eq (hone) ?_ | with_reducible refine cY ?_ | with_reducible refine cN ?_ | with_reducible refine caseB_split (fun _=>?_) (fun _=>?_) | refine gA Tryz.func116 ?_ | refine gB ?_ | refine gC ?_ | with_reducible rfl)
  all_goals simp_all
 ·obtain ⟨g1,g2,-⟩:=oneB_sets h1;have gl:z.sets.length≤1000000:=by omega
  have gn:∀ s∈z.sets,s.set.name.length≤1000:=fun s hs=>by have:=ok1_name (g2 s hs); omega
  have hone:=rone_p z hf;rw [h1] at hone;refine eP Tryz.func116 ?_;repeat' (first | with_reducible refine callP_eq (hone) ?_ | with_reducible refine callP1_eq (hone) ?_ | with_reducible refine callP_eq (rtwo_p z (by omega)) ?_ | with_reducible refine callP1_eq (rtwo_p z (by omega)) ?_ | with_reducible refine callP_eq (rthree_p z (by omega)) ?_ | with_reducible refine callP1_eq (rthree_p z (by omega)) ?_ | with_reducible refine callP_eq (rfour_p z gl gn) ?_ | with_reducible refine callP1_eq (rfour_p z gl gn) ?_ | with_reducible refine callP_eq (rfive_p z gl gn) ?_ | with_reducible refine callP1_eq (rfive_p z gl gn) ?_ | with_reducible refine cY ?_ | with_reducible refine cN ?_ | with_reducible refine caseB_split (fun _=>?_) (fun _=>?_) | refine gA Tryz.func116 ?_ | refine gB ?_ | refine gC ?_ | with_reducible rfl)
  all_goals simp_all
end Go.Proofs.YthikfaephakahaaGreatDoor.P
end
