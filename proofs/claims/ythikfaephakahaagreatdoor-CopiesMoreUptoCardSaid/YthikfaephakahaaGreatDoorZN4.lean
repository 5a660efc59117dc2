/- Several texts of mine, one behind the other. Conditions: as each says. -/
import Derived.Test.YthikfaephakahaaGreatDoorZN3
import Derived.Test.YthikfaephakahaaGreatDoorZN2
import Derived.Test.YthikfaephakahaaGreatDoorZM4
set_option linter.unusedVariables false
set_option linter.unusedSimpArgs false
section
namespace Go.Proofs.YthikfaephakahaaGreatDoor.P
open Go Go.Eng
set_option maxRecDepth 100000
set_option maxHeartbeats 4000000
theorem fitsApex_p (t:Int) (apex:Bool):PCalls E 234 [.int .i64 t,.bool apex] (· = .bool (placedB t apex)):=by
 refine eP Tryz.func234 ?_;repeat' (first | with_reducible refine cY ?_ | with_reducible refine cN ?_ | with_reducible refine caseB_split (fun _=>?_) (fun _=>?_) | refine gA Tryz.func234 ?_ | refine gB ?_ | refine gC ?_ | with_reducible rfl)
 all_goals (cases apex <;> simp_all [placedB])
theorem inForm_p (l:List Sig) (apex:Text):PCalls E 235 [encSigs l,.str apex] (· = .bool (sigsB l apex)):=by
 unfold sigsB;have hg:∃ g0,g0=l.headD sig0:=⟨_,rfl⟩;obtain ⟨g0,hg⟩:=hg;rw [← hg];refine eP Tryz.func235 ?_;refine caseB_split (fun h1=>?_) (fun h1=>?_)
 ·refine gO Tryz.func235 ?_;simp only [List.length_map] at h1;rw [decide_eq_false (by simp at h1; omega),Bool.false_and]
 ·have h6:l.length≤6:=by simp at h1; omega
  rw [decide_eq_true (by omega),Bool.true_and];refine gO Tryz.func235 ?_;refine AWL.loop (κ:=Nat) ([4,5,6]++rg 12 76) (fun k=>[(12,.d (.int .i64 k))]) (fun _=>[]) (fun k=>k≤l.length∧chain (sigZ apex g0) keyLt none l=chain (sigZ apex g0) keyLt (prevA l k) (l.drop k)) (fun k=>l.length - k) 0 ⟨Nat.zero_le _,rfl⟩ ?_ ?_
  ·(conv=>whnf);repeat (first | exact trivial | (refine sI ?_; conv=>whnf))
  ·intro k hk IH;refine AWL.head E_ok Tryz.func235 2000 ?_;(conv=>whnf);refine caseB_split (fun h5=>?_) (fun h5=>?_)
   ·have hlt:k<l.length:=by simpa using h5
    obtain ⟨x,hx⟩:=some_of_lt hlt;have h0:=head_at hlt;rw [← hg] at h0;have hnext:=chain_next (ok:=sigZ apex g0) (rel:=keyLt) hx;rw [← hk.2] at hnext;rcases Nat.eq_zero_or_pos k with hk0 | hk0
    ·have hpq:prevA l k=none:=by simp [prevA,hk0]
     rw [hpq] at hnext;dsimp only at hnext;rw [Bool.and_true] at hnext;have hx0:x=g0:=by subst hk0; rw [hx] at h0; exact Option.some.inj h0
     refine gO Tryz.func235 ?_;repeat' (first | with_reducible refine elemP_at (at_map hx) rfl ?_ | with_reducible refine cY ?_ | with_reducible refine cN ?_ | with_reducible refine caseB_split (fun _=>?_) (fun _=>?_) | refine gA Tryz.func235 ?_ | refine gB ?_ | refine gC ?_ | with_reducible rfl)
     all_goals first
      |(have hno : sigZ apex g0 x = false := by clear hnext hk IH hg; simp_all [sigZ] <;> (intros; omega)
        rw [hnext, hno, Bool.false_and]
        done)
      |skip
     refine gO Tryz.func235 ?_;refine AWL.draw E_ok E_mixed 31 2000 (by kernel_rfl) ?_;(conv=>whnf);repeat' (first | with_reducible refine elemP_at (at_map hx) rfl ?_ | with_reducible refine elemP_at (at_zero h0) rfl ?_ | with_reducible refine cY ?_ | with_reducible refine cN ?_ | with_reducible refine caseB_split (fun _=>?_) (fun _=>?_) | refine gA Tryz.func235 ?_ | refine gB ?_ | refine gC ?_ | with_reducible rfl)
     all_goals first
      |(exfalso; clear hnext hk IH hg; simp_all; done)
      |skip
     all_goals
      refine gO Tryz.func235 ?_;refine AWL.back (IH (k+1) ⟨by omega,by rw [hnext,show sigZ apex g0 x=true by clear hnext hk IH hg; simp_all [sigZ] <;> omega,Bool.true_and]⟩ (by omega)) ?_;(conv=>whnf);repeat (first | exact trivial | (refine sI ?_; conv=>whnf))
    ·obtain ⟨q,hq,hpq⟩:=prevA_some hk0 hk.1;rw [hpq] at hnext;refine gO Tryz.func235 ?_;repeat' (first | with_reducible refine elemP_at (at_map hx) rfl ?_ | with_reducible refine cY ?_ | with_reducible refine cN ?_ | with_reducible refine caseB_split (fun _=>?_) (fun _=>?_) | refine gA Tryz.func235 ?_ | refine gB ?_ | refine gC ?_ | with_reducible rfl)
     all_goals first
      |(have hno : sigZ apex g0 x = false := by clear hnext hk IH hg; simp_all [sigZ] <;> (intros; omega)
        rw [hnext, hno, Bool.false_and, Bool.false_and]
        done)
      |skip
     refine gO Tryz.func235 ?_;refine AWL.draw E_ok E_mixed 31 2000 (by kernel_rfl) ?_;(conv=>whnf);repeat' (first | with_reducible refine elemP_at (at_map hx) rfl ?_ | with_reducible refine elemP_at (at_zero h0) rfl ?_ | with_reducible refine elemP_at (at_prev hq hk0 (by omega)) rfl ?_ | with_reducible refine cY ?_ | with_reducible refine cN ?_ | with_reducible refine caseB_split (fun _=>?_) (fun _=>?_) | refine gA Tryz.func235 ?_ | refine gB ?_ | refine gC ?_ | with_reducible rfl)
     all_goals first
      |(have hno : (sigZ apex g0 x && keyLt q x) = false := by clear hnext hk IH hg; simp_all [sigZ, keyLt] <;> (intros; omega)
        rw [hnext, hno, Bool.false_and]
        done)
      |(exfalso; clear hnext hk IH hg; simp_all; omega)
      |skip
     all_goals
      refine gO Tryz.func235 ?_;refine AWL.back (IH (k+1) ⟨by omega,by rw [hnext,show (sigZ apex g0 x&&keyLt q x)=true by clear hnext hk IH hg; simp_all [sigZ,keyLt] <;> omega,Bool.true_and]⟩ (by omega)) ?_;(conv=>whnf);repeat (first | exact trivial | (refine sI ?_; conv=>whnf))
   ·have hge:l.length≤k:=by simpa using h5
    refine gO Tryz.func235 ?_;rw [hk.2,List.drop_of_length_le hge];rfl
@[reducible] def layEnc (z : Zone) (b : List Text) : DV := .agg [.str z.apex, encSets z.sets, .sl (b.map .str)]
theorem cutsHold_p (z:Zone) (B:List Text) (hB:B.length=z.sets.length) (hl:z.sets.length≤1000000):PCalls E 165 [layEnc z B] (· = .bool ((z.sets.zip B).all fun p=>four1 p.1 p.2)):=by
 obtain ⟨apex,l⟩:=z;simp only at *;refine eP Tryz.func165 ?_;refine AWL.loop (κ:=Nat) (rg 2 4++rg 11 39) (fun k=>[(11,.d (.int .i64 k))]) (fun _=>[]) (fun k=>k≤l.length∧((l.zip B).take k).all (fun p=>four1 p.1 p.2)=true) (fun k=>l.length - k) 0 ⟨Nat.zero_le _,rfl⟩ ?_ ?_
 ·(conv=>whnf);repeat (first | exact trivial | (refine sI ?_; conv=>whnf))
 ·intro k hk IH;refine AWL.head E_ok Tryz.func165 2000 ?_;(conv=>whnf);refine caseB_split (fun h5=>?_) (fun h5=>?_)
  ·have hlt:k<l.length:=by simpa using h5
   obtain ⟨x,hx⟩:=some_of_lt hlt;obtain ⟨b,hb⟩:=some_of_lt (l:=B) (k:=k) (by omega);have hz:=zip_at hx hb;refine gO Tryz.func165 ?_;repeat' (first | with_reducible refine elemP_at (at_map hx) rfl ?_ | with_reducible refine elemP_at (at_map hb) rfl ?_ | with_reducible refine cY ?_ | with_reducible refine cN ?_ | with_reducible refine caseB_split (fun _=>?_) (fun _=>?_) | refine gA Tryz.func165 ?_ | refine gB ?_ | refine gC ?_ | with_reducible rfl)
   all_goals first
    |(have hno : four1 x b = false := by clear hz hb hk IH hx; obtain ⟨⟨nm, ty, lf, dt⟩, sg⟩ := x; rcases b with _ | ⟨c, b⟩ <;> simp_all [four1] <;> first | (rintro rfl; simp_all; done) | (intro h; exact absurd h.symm (by assumption)) | (subst_vars; simp_all; done) | (intros; simp_all; done)
      rw [all_no hz hno]
      done)
    |(exfalso; clear hz hb hk IH; rcases b with _ | ⟨c,b⟩ <;> simp_all; done)
    |skip
   all_goals
    refine gO Tryz.func165 ?_;refine AWL.back (IH (k+1) ⟨by omega,all_next hk.2 hz (by clear hz hb hk IH hx; obtain ⟨⟨nm,ty,lf,dt⟩,sg⟩:=x; rcases b with _ | ⟨c,b⟩ <;> simp_all [four1] <;> first | (rintro rfl; simp_all; done) | (intro h; exact absurd h.symm (by assumption)) | (subst_vars; simp_all; done) | (intros; simp_all; done))⟩ (by omega)) ?_;(conv=>whnf);repeat (first | exact trivial | (refine sI ?_; conv=>whnf))
  ·have hge:l.length≤k:=by simpa using h5
   refine gO Tryz.func165 ?_;rw [all_end hk.2 (by simp; omega)]
def sigs1 (s:Signed) (b:Text):Bool := !(!own1 s b&&decide ((s.sigs.length:Int)>0))
theorem sigsHold_p (z:Zone) (B:List Text) (hB:B.length=z.sets.length) (hl:z.sets.length≤1000000):PCalls E 166 [layEnc z B] (· = .bool ((z.sets.zip B).all fun p=>sigs1 p.1 p.2)):=by
 obtain ⟨apex,l⟩:=z;simp only at *;refine eP Tryz.func166 ?_;refine AWL.loop (κ:=Nat) (rg 2 4++rg 11 31) (fun k=>[(11,.d (.int .i64 k))]) (fun _=>[]) (fun k=>k≤l.length∧((l.zip B).take k).all (fun p=>sigs1 p.1 p.2)=true) (fun k=>l.length - k) 0 ⟨Nat.zero_le _,rfl⟩ ?_ ?_
 ·(conv=>whnf);repeat (first | exact trivial | (refine sI ?_; conv=>whnf))
 ·intro k hk IH;refine AWL.head E_ok Tryz.func166 2000 ?_;(conv=>whnf);refine caseB_split (fun h5=>?_) (fun h5=>?_)
  ·have hlt:k<l.length:=by simpa using h5
   obtain ⟨x,hx⟩:=some_of_lt hlt;obtain ⟨b,hb⟩:=some_of_lt (l:=B) (k:=k) (by omega);have hz:=zip_at hx hb;refine gO Tryz.func166 ?_;repeat' (first | with_reducible refine elemP_at (at_map hx) rfl ?_ | with_reducible refine elemP_at (at_map hb) rfl ?_ | with_reducible refine cY ?_ | with_reducible refine cN ?_ | with_reducible refine caseB_split (fun _=>?_) (fun _=>?_) | refine gA Tryz.func166 ?_ | refine gB ?_ | refine gC ?_ | with_reducible rfl)
   all_goals first
    |(rw [all_no hz (by clear hz hb hk IH; rcases b with _ | ⟨c,b⟩ <;> simp_all [sigs1,own1])]; done)
    |(exfalso; clear hz hb hk IH; rcases b with _ | ⟨c,b⟩ <;> simp_all; done)
    |skip
   all_goals
    refine gO Tryz.func166 ?_;refine AWL.back (IH (k+1) ⟨by omega,all_next hk.2 hz (by clear hz hb hk IH; rcases b with _ | ⟨c,b⟩ <;> simp_all [sigs1,own1])⟩ (by omega)) ?_;(conv=>whnf);repeat (first | exact trivial | (refine sI ?_; conv=>whnf))
  ·have hge:l.length≤k:=by simpa using h5
   refine gO Tryz.func166 ?_;rw [all_end hk.2 (by simp; omega)]
theorem formHolds_p (z:Zone) (B:List Text) (hl:z.sets.length≤1000000):PCalls E 167 [layEnc z B] (· = .bool (z.sets.all fun s=>sigsB s.sigs z.apex)):=by
 obtain ⟨apex,l⟩:=z;simp only at *;refine eP Tryz.func167 ?_;refine AWL.loop (κ:=Nat) ([2,4]++rg 10 13) (fun k=>[(10,.d (.int .i64 k))]) (fun _=>[]) (fun k=>k≤l.length∧(l.take k).all (fun s=>sigsB s.sigs apex)=true) (fun k=>l.length - k) 0 ⟨Nat.zero_le _,rfl⟩ ?_ ?_
 ·(conv=>whnf);repeat (first | exact trivial | (refine sI ?_; conv=>whnf))
 ·intro k hk IH;refine AWL.head E_ok Tryz.func167 2000 ?_;(conv=>whnf);refine caseB_split (fun h5=>?_) (fun h5=>?_)
  ·have hlt:k<l.length:=by simpa using h5
   obtain ⟨x,hx⟩:=some_of_lt hlt;refine gO Tryz.func167 ?_;repeat' (first | with_reducible refine elemP_at (at_map hx) rfl ?_ | with_reducible refine callP_eq (inForm_p _ _) ?_ | with_reducible refine callP1_eq (inForm_p _ _) ?_ | with_reducible refine cY ?_ | with_reducible refine cN ?_ | with_reducible refine caseB_split (fun _=>?_) (fun _=>?_) | refine gA Tryz.func167 ?_ | refine gB ?_ | refine gC ?_ | with_reducible rfl)
   all_goals first
    |(rw [all_no hx (by simp_all)]; done)
    |skip
   all_goals
    refine gO Tryz.func167 ?_;refine AWL.back (IH (k+1) ⟨by omega,all_next hk.2 hx (by simp_all)⟩ (by omega)) ?_;(conv=>whnf);repeat (first | exact trivial | (refine sI ?_; conv=>whnf))
  ·have hge:l.length≤k:=by simpa using h5
   refine gO Tryz.func167 ?_;rw [all_end hk.2 hge]
def alias1 (p:Option Text) (s:Signed) (t:Option Signed):Bool:=s.set.type != 3||(p != some s.set.name&&(match t with | none=>true | some t => !(t.set.name==s.set.name&&t.set.type != 8)))
def aliasL:Option Text→List Signed→Bool
 |_,[]=>true
 |p,s::l=>alias1 p s l.head? && aliasL (some s.set.name) l
theorem aliasL_next {l:List Signed} {k:Nat} {x:Signed} (hx:l[k]? = some x):aliasL (prevA (l.map (·.set.name)) k) (l.drop k)=(alias1 (prevA (l.map (·.set.name)) k) x l[k+1]? && aliasL (prevA (l.map (·.set.name)) (k+1)) (l.drop (k+1))):=by
 have hk:=lt_of_getElem? hx;rw [List.drop_eq_getElem_cons hk];have e1:l[k]=x:=by simpa [hk] using hx
 have e2:prevA (l.map (·.set.name)) (k+1)=some x.set.name:=by simp [prevA,hx]
 have e3:(l.drop (k+1)).head? = l[k+1]? := by rw [List.head?_drop]
 rw [e1,e2,aliasL,e3]
theorem aliasesHold_p (z:Zone) (B:List Text) (hl:z.sets.length≤1000000):PCalls E 164 [layEnc z B] (· = .bool (aliasL none z.sets)):=by
 obtain ⟨apex,l⟩:=z;simp only at *;refine eP Tryz.func164 ?_;refine AWL.loop (κ:=Nat) ([2,3,4]++rg 10 65) (fun k=>[(10,.d (.int .i64 k))]) (fun _=>[]) (fun k=>k≤l.length∧aliasL none l=aliasL (prevA (l.map (·.set.name)) k) (l.drop k)) (fun k=>l.length - k) 0 ⟨Nat.zero_le _,rfl⟩ ?_ ?_
 ·(conv=>whnf);repeat (first | exact trivial | (refine sI ?_; conv=>whnf))
 ·intro k hk IH;refine AWL.head E_ok Tryz.func164 2000 ?_;(conv=>whnf);refine caseB_split (fun h5=>?_) (fun h5=>?_)
  ·have hlt:k<l.length:=by simpa using h5
   obtain ⟨x,hx⟩:=some_of_lt hlt;have hnext:=aliasL_next hx;rw [← hk.2] at hnext;have hw:IntKind.i64.wrap ((k:Int)+1)=((k+1:Nat):Int):=by rw [wrap64 (by omega) (by omega)]; omega
   refine gO Tryz.func164 ?_;refine elemP_at (at_map hx) rfl ?_;refine gO Tryz.func164 ?_;refine caseB_split (fun h6=>?_) (fun h6=>?_)
   ·refine gO Tryz.func164 ?_;refine AWL.back (IH (k+1) ⟨by omega,by rw [hnext]; simp only [alias1,h6,Bool.true_or,Bool.true_and]⟩ (by omega)) ?_;(conv=>whnf);repeat (first | exact trivial | (refine sI ?_; conv=>whnf))
   ·have e1:alias1 (prevA (l.map (·.set.name)) k) x l[k+1]? = (prevA (l.map (·.set.name)) k != some x.set.name&&(match l[k+1]? with | none=>true | some t => !(t.set.name==x.set.name&&t.set.type != 8))):=by simp only [alias1,h6,Bool.false_or]
    rw [e1] at hnext;clear e1;rcases Nat.eq_zero_or_pos k with hk0 | hk0
    ·have hpq:prevA (l.map (·.set.name)) k=none:=by simp [prevA,hk0]
     rw [hpq] at hnext;refine gO Tryz.func164 ?_;refine AWL.draw E_ok E_mixed 18 2000 (by kernel_rfl) ?_;(conv=>whnf);refine caseB_no (by simp; omega) ?_;refine gD ?_;refine gS ?_;refine gO Tryz.func164 ?_;refine caseB_false ?_;refine gO Tryz.func164 ?_;refine AWL.draw E_ok E_mixed 37 2000 (by kernel_rfl) ?_;(conv=>whnf);by_cases hk1:k+1<l.length
     ·obtain ⟨t,ht⟩:=some_of_lt hk1;rw [ht] at hnext;refine caseB_yes (by rw [hw]; simp; omega) ?_;refine gD ?_;repeat' (first | with_reducible refine elemP_at (at_next ht (by omega)) rfl ?_ | with_reducible refine cY ?_ | with_reducible refine cN ?_ | with_reducible refine caseB_split (fun _=>?_) (fun _=>?_) | refine gA Tryz.func164 ?_ | refine gB ?_ | refine gC ?_ | with_reducible rfl)
      all_goals first
       |(rw [hnext]; clear hnext hk IH hpq; simp_all; done)
       |skip
      all_goals
       refine gO Tryz.func164 ?_;refine AWL.back (IH (k+1) ⟨by omega,by rw [hnext]; clear hnext hk IH hpq; simp_all⟩ (by omega)) ?_;(conv=>whnf);repeat (first | exact trivial | (refine sI ?_; conv=>whnf))
     ·have ht:l[k+1]? = none:=List.getElem?_eq_none (by omega);rw [ht] at hnext;refine caseB_no (by rw [hw]; simp; omega) ?_;refine gD ?_;repeat' (first | with_reducible refine cY ?_ | with_reducible refine cN ?_ | with_reducible refine caseB_split (fun _=>?_) (fun _=>?_) | refine gA Tryz.func164 ?_ | refine gB ?_ | refine gC ?_ | with_reducible rfl)
      refine gO Tryz.func164 ?_;refine AWL.back (IH (k+1) ⟨by omega,by rw [hnext]; clear hnext hk IH hpq; simp_all⟩ (by omega)) ?_;(conv=>whnf);repeat (first | exact trivial | (refine sI ?_; conv=>whnf))
    ·obtain ⟨q,hq,-⟩:=prevA_some hk0 hk.1;have hpq:prevA (l.map (·.set.name)) k=some q.set.name:=by simp [prevA,hq]; omega
     rw [hpq] at hnext;refine gO Tryz.func164 ?_;refine AWL.draw E_ok E_mixed 18 2000 (by kernel_rfl) ?_;(conv=>whnf);refine caseB_yes (by simp; omega) ?_;refine gD ?_;refine elemP_at (at_prev hq hk0 (by omega)) rfl ?_;refine gD ?_;refine gS ?_;refine gO Tryz.func164 ?_;refine caseB_split (fun h7=>?_) (fun h7=>?_)
     ·refine gO Tryz.func164 ?_;rw [hnext];clear hnext hk IH hpq;simp_all
     ·refine gO Tryz.func164 ?_;refine AWL.draw E_ok E_mixed 37 2000 (by kernel_rfl) ?_;(conv=>whnf);by_cases hk1:k+1<l.length
      ·obtain ⟨t,ht⟩:=some_of_lt hk1;rw [ht] at hnext;refine caseB_yes (by rw [hw]; simp; omega) ?_;refine gD ?_;repeat' (first | with_reducible refine elemP_at (at_next ht (by omega)) rfl ?_ | with_reducible refine cY ?_ | with_reducible refine cN ?_ | with_reducible refine caseB_split (fun _=>?_) (fun _=>?_) | refine gA Tryz.func164 ?_ | refine gB ?_ | refine gC ?_ | with_reducible rfl)
       all_goals first
        |(rw [hnext]; clear hnext hk IH hpq; simp_all; done)
        |skip
       all_goals
        refine gO Tryz.func164 ?_;refine AWL.back (IH (k+1) ⟨by omega,by rw [hnext]; clear hnext hk IH hpq; simp_all⟩ (by omega)) ?_;(conv=>whnf);repeat (first | exact trivial | (refine sI ?_; conv=>whnf))
      ·have ht:l[k+1]? = none:=List.getElem?_eq_none (by omega);rw [ht] at hnext;refine caseB_no (by rw [hw]; simp; omega) ?_;refine gD ?_;repeat' (first | with_reducible refine cY ?_ | with_reducible refine cN ?_ | with_reducible refine caseB_split (fun _=>?_) (fun _=>?_) | refine gA Tryz.func164 ?_ | refine gB ?_ | refine gC ?_ | with_reducible rfl)
       refine gO Tryz.func164 ?_;refine AWL.back (IH (k+1) ⟨by omega,by rw [hnext]; clear hnext hk IH hpq; simp_all⟩ (by omega)) ?_;(conv=>whnf);repeat (first | exact trivial | (refine sI ?_; conv=>whnf))
  ·have hge:l.length≤k:=by simpa using h5
   refine gO Tryz.func164 ?_;rw [hk.2,List.drop_of_length_le hge];rfl
end Go.Proofs.YthikfaephakahaaGreatDoor.P
end
section
namespace Go.Proofs.YthikfaephakahaaGreatDoor.P
open Go Go.Eng
set_option maxRecDepth 100000
set_option maxHeartbeats 4000000
theorem u8_tri (c d:UInt8):c<d∨c=d∨d<c:=by
 rcases Nat.lt_trichotomy c.toNat d.toNat with h | h | h
 ·exact .inl (UInt8.lt_iff_toNat_lt.2 h)
 ·exact .inr (.inl (UInt8.toNat_inj.1 h))
 ·exact .inr (.inr (UInt8.lt_iff_toNat_lt.2 h))
theorem bl_cons {c d:UInt8} {a b:Text}:Op.bytesLess (c::a) (d::b)=true↔c<d∨(c=d∧Op.bytesLess a b=true):=by
 simp [Op.bytesLess]
theorem bl_trans:∀ {a b c:Text},Op.bytesLess a b=true→Op.bytesLess b c=true→Op.bytesLess a c=true
 |_,[],_,h,_=>by simp [Op.bytesLess] at h
 |_,_::_,[],_,h=>by simp [Op.bytesLess] at h
 | [],_::_,_::_,_,_=>by simp [Op.bytesLess]
 |x::a,y::b,z::c,h,k=>by
  rw [bl_cons] at h k ⊢;rcases h with h | ⟨rfl,h⟩
  ·rcases k with k | ⟨rfl,k⟩
   ·exact .inl (UInt8.lt_trans h k)
   ·exact .inl h
  ·rcases k with k | ⟨rfl,k⟩
   ·exact .inl k
   ·exact .inr ⟨rfl,bl_trans h k⟩
theorem bl_tri:∀ (a b:Text),Op.bytesLess a b=true∨a=b∨Op.bytesLess b a=true
 | [],[] => .inr (.inl rfl)
 | [],_::_ => .inl (by simp [Op.bytesLess])
 |_::_,[] => .inr (.inr (by simp [Op.bytesLess]))
 |c::a,d::b=>by
  rw [bl_cons,bl_cons];rcases u8_tri c d with h | rfl | h
  ·exact .inl (.inl h)
  ·rcases bl_tri a b with h | rfl | h
   ·exact .inl (.inr ⟨rfl,h⟩)
   ·exact .inr (.inl rfl)
   ·exact .inr (.inr (.inr ⟨rfl,h⟩))
  ·exact .inr (.inr (.inl h))
theorem bl_asymm {a b:Text} (h:Op.bytesLess a b=true):Op.bytesLess b a=false:=by
 rw [← Bool.not_eq_true];intro k;have:=bl_trans h k;rw [bytesLess_irrefl] at this;cases this
theorem bl_ne {a b:Text} (h:Op.bytesLess a b=true):a≠b:=by
 rintro rfl;rw [bytesLess_irrefl] at h;cases h
theorem bytesLess_cmp:∀ (a b:Text),Lib.compareBytes a b=if Op.bytesLess a b then -1 else if a==b then 0 else 1
 | [],[]=>by simp [Lib.compareBytes,Op.bytesLess]
 | [],_::_=>by simp [Lib.compareBytes,Op.bytesLess]
 |_::_,[]=>by simp [Lib.compareBytes,Op.bytesLess]
 |c::a,d::b=>by
  simp only [Lib.compareBytes,Op.bytesLess];rcases u8_tri c d with h | rfl | h
  ·simp [h]
  ·simp [bytesLess_cmp a b]
  ·have h1:¬ c<d:=UInt8.not_lt.2 (UInt8.le_of_lt h);have h2:¬ c=d:=by rintro rfl; exact absurd h (by simp)
   simp [h,h1,h2]
theorem cmpL_cons (x y:Text) (l m:List Text):(Op.bytesLess x y=true∧cmpL (x::l) (y::m) = -1)∨(x=y∧cmpL (x::l) (y::m)=cmpL l m)∨(Op.bytesLess y x=true∧cmpL (x::l) (y::m)=1):=by
 rcases bl_tri x y with h | rfl | h
 ·exact .inl ⟨h,by simp [cmpL,h]⟩
 ·exact .inr (.inl ⟨rfl,by simp [cmpL,bytesLess_irrefl]⟩)
 ·exact .inr (.inr ⟨h,by simp [cmpL,bl_asymm h,(bl_ne h).symm]⟩)
theorem cmpL_self:∀ (l:List Text),cmpL l l=0
 | []=>rfl
 |x::l=>by simp [cmpL,bytesLess_irrefl,cmpL_self l]
theorem cmpL_zero:∀ {l m:List Text},cmpL l m=0→l=m
 | [],[],_=>rfl
 | [],_::_,h=>by simp [cmpL] at h
 |_::_,[],h=>by simp [cmpL] at h
 |x::l,y::m,h=>by
  rcases cmpL_cons x y l m with ⟨-,e⟩ | ⟨rfl,e⟩ | ⟨-,e⟩
  ·rw [e] at h; cases h
  ·rw [e] at h; rw [cmpL_zero h]
  ·rw [e] at h; cases h
theorem cmpL_neg:∀ (l m:List Text),cmpL m l = - cmpL l m
 | [],[]=>rfl
 | [],_::_=>rfl
 |_::_,[]=>rfl
 |x::l,y::m=>by
  rcases cmpL_cons x y l m with ⟨h,e⟩ | ⟨rfl,e⟩ | ⟨h,e⟩
  ·rw [e];simp [cmpL,bl_asymm h,(bl_ne h).symm]
  ·rw [e,← cmpL_neg l m];simp [cmpL,bytesLess_irrefl]
  ·rw [e];simp [cmpL,h]
theorem cmpL_trans:∀ {a b c:List Text},cmpL a b<0→cmpL b c<0→cmpL a c<0
 | [],[],_,h,_=>by simp [cmpL] at h
 |_::_,[],_,h,_=>by simp [cmpL] at h
 |_,_::_,[],_,h=>by simp [cmpL] at h
 | [],_::_,_::_,_,_=>by simp [cmpL]
 |x::a,y::b,z::c,h,k=>by
  rcases cmpL_cons x y a b with ⟨h1,e1⟩ | ⟨rfl,e1⟩ | ⟨h1,e1⟩
  ·rcases cmpL_cons y z b c with ⟨h2,e2⟩ | ⟨rfl,e2⟩ | ⟨h2,e2⟩
   ·simp [cmpL,bl_trans h1 h2]
   ·simp [cmpL,h1]
   ·rw [e2] at k; simp at k
  ·rcases cmpL_cons x z b c with ⟨h2,e2⟩ | ⟨rfl,e2⟩ | ⟨h2,e2⟩
   ·simp [cmpL,h2]
   ·rw [e1] at h;rw [e2] at k;have:=cmpL_trans h k;rcases cmpL_cons x x a c with ⟨h3,-⟩ | ⟨-,e3⟩ | ⟨h3,-⟩
    ·rw [bytesLess_irrefl] at h3; cases h3
    ·rw [e3]; exact this
    ·rw [bytesLess_irrefl] at h3; cases h3
   ·rw [e2] at k; simp at k
  ·rw [e1] at h; simp at h
theorem cmpL_between:∀ {c m n:List Text},cmpL c m≤0→cmpL m n≤0→c <+: n→c <+: m
 | [],_,_,_,_,_=>List.nil_prefix
 |_::_,[],_,h,_,_=>by simp [cmpL] at h
 |_::_,_::_,[],_,_,h=>by simp at h
 |x::c,y::m,z::n,h,k,hp=>by
  rw [List.cons_prefix_cons] at hp;obtain ⟨rfl,hp⟩:=hp;rcases cmpL_cons x y c m with ⟨h1,e1⟩ | ⟨rfl,e1⟩ | ⟨h1,e1⟩
  ·rcases cmpL_cons y x m n with ⟨h2,e2⟩ | ⟨rfl,e2⟩ | ⟨h2,e2⟩
   ·have:=bl_asymm h1; rw [h2] at this; cases this
   ·rw [bytesLess_irrefl] at h1; cases h1
   ·rw [e2] at k; simp at k
  ·rcases cmpL_cons x x m n with ⟨h2,-⟩ | ⟨-,e2⟩ | ⟨h2,-⟩
   ·rw [bytesLess_irrefl] at h2; cases h2
   ·rw [List.cons_prefix_cons];rw [e1] at h;rw [e2] at k;exact ⟨rfl,cmpL_between h k hp⟩
   ·rw [bytesLess_irrefl] at h2; cases h2
  ·rw [e1] at h; simp at h
theorem cmpL_prefix:∀ {c n:List Text},c <+: n→cmpL c n≤0
 | [],[],_=>by simp [cmpL]
 | [],_::_,_=>by simp [cmpL]
 |_::_,[],h=>by simp at h
 |x::c,y::n,h=>by
  rw [List.cons_prefix_cons] at h;obtain ⟨rfl,h⟩:=h;simp only [cmpL,bytesLess_irrefl,Bool.false_eq_true,if_false,beq_self_eq_true,if_true];exact cmpL_prefix h
theorem ordN_self (a:Text):ordN a a=0:=cmpL_self _
theorem ordN_zero {a b:Text} (h:ordN a b=0):a=b:=labels_inj (List.reverse_inj.1 (cmpL_zero h))
theorem ordN_neg (a b:Text):ordN b a = - ordN a b:=cmpL_neg _ _
theorem ordN_trans {a b c:Text} (h:ordN a b<0) (k:ordN b c<0):ordN a c<0:=cmpL_trans h k
theorem under_iff {s z:Text}:Nm.under s z=true↔(Nm.labels z).reverse <+: (Nm.labels s).reverse:=by
 simp [Nm.under,List.reverse_prefix]
theorem ordN_between {c m n:Text} (h:ordN c m≤0) (k:ordN m n≤0) (hp:Nm.under n c=true):Nm.under m c=true:=under_iff.2 (cmpL_between h k (under_iff.1 hp))
theorem ordN_under {c n:Text} (h:Nm.under n c=true):ordN c n≤0:=cmpL_prefix (under_iff.1 h)
theorem cmpB_cmpL:∀ (l m:List Text),cmpB (l.map bs) (m.map bs)=cmpL l m
 | [],[]=>rfl
 | [],_::_=>rfl
 |_::_,[]=>rfl
 |x::l,y::m=>by
  simp only [List.map_cons,cmpB,toL_bs,bytesLess_cmp];rw [cmpB_cmpL l m];rcases cmpL_cons x y l m with ⟨h,e⟩ | ⟨rfl,e⟩ | ⟨h,e⟩
  ·simp [cmpL,h]
  ·simp [cmpL,bytesLess_irrefl]
  ·simp [cmpL,bl_asymm h,(bl_ne h).symm]
theorem cmpB_ord (a b:Text):cmpB (Nm.back ⟨a.toArray⟩) (Nm.back ⟨b.toArray⟩)=ordN a b:=by
 simp only [Nm.back,toL_mk];exact cmpB_cmpL _ _
theorem ncompare_p (a b:Text) (ha:Nm.valid a=true) (hb:Nm.valid b=true):PCalls E 135 [.str a,.str b] (· = .tup [.int .i64 (ordN a b),.int .i64 0]):=by
 refine ofTexts (g:=fun a b => .tup [.int .i64 (ordN a b),.int .i64 0]) a b ⟨_,Tryz.func135,rfl,by decide⟩ fun w=>?_;have vd:∀ (v:Int) (bad:Nat→Prop) (w:World),VD bad w (.tup [.int .i64 v,.int .i64 0]) (.tuple #[.int .i64 v,.int .i64 0]):=fun v bad w => .tup _ _ rfl fun j x u hx hu=>by
  match j with
  | 0=>simp at hx hu; subst hx; subst hu; exact .int _ _
  | 1=>simp at hx hu; subst hx; subst hu; exact .int _ _
  |j+2=>simp at hx
 by_cases he:a=b
 ·subst he;refine (compare_eq ⟨a.toArray⟩ w (by rw [toL_mk]; exact ha)).mono fun e w' ⟨h1,h2⟩=>⟨_,h1,fun bad w=>?_,h2⟩;rw [ordN_self];exact vd 0 bad w
 ·refine (compare_ne ⟨a.toArray⟩ ⟨b.toArray⟩ w (by rw [toL_mk]; exact ha) (by rw [toL_mk]; exact hb) (by rw [toL_mk,toL_mk]; exact he)).mono fun e w' ⟨h1,h2⟩=>⟨_,h1,fun bad w=>?_,h2⟩;rw [cmpB_ord];exact vd _ bad w
def cmpP (a:Text) (s:Int) (b:Text) (t:Int):Int:=if a≠b then ordN a b else cmpI s t
theorem cmpP_p (a:Text) (s:Int) (b:Text) (t:Int) (ha:Nm.valid a=true) (hb:Nm.valid b=true):PCalls E 215 [.str a,.int .i64 s,.str b,.int .i64 t] (· = .int .i64 (cmpP a s b t)):=by
 refine eP Tryz.func215 ?_;repeat' (first | with_reducible refine callP_eq (ncompare_p _ _ ha hb) ?_ | with_reducible refine callP1_eq (ncompare_p _ _ ha hb) ?_ | with_reducible refine callP_eq (cmpI_p _ _) ?_ | with_reducible refine callP1_eq (cmpI_p _ _) ?_ | with_reducible refine cY ?_ | with_reducible refine cN ?_ | with_reducible refine caseB_split (fun _=>?_) (fun _=>?_) | refine gA Tryz.func215 ?_ | refine gB ?_ | refine gC ?_ | with_reducible rfl)
 all_goals simp_all [cmpP]
theorem cmpP_ordS (a b:RSet):cmpP a.name a.type b.name b.type=ordS a b:=by
 unfold cmpP ordS;by_cases h:a.name=b.name
 ·simp [h,ordN_self]
 ·have:ordN a.name b.name≠0:=fun e=>h (ordN_zero e);simp [h,this]
end Go.Proofs.YthikfaephakahaaGreatDoor.P
end
section
namespace Go.Proofs.YthikfaephakahaaGreatDoor.P
open Go Go.Eng
set_option maxRecDepth 100000
set_option maxHeartbeats 4000000
def cmpQ (s:Signed) (q:Quest):Int:=cmpP s.set.name s.set.type q.name q.type
theorem cmpI_zero {a b:Int}:cmpI a b=0↔a=b:=by
 unfold cmpI;split
 ·omega
 ·split <;> omega
theorem cmpQ_zero {s:Signed} {q:Quest}:(cmpQ s q==0)=atQ q s:=by
 rw [Bool.eq_iff_iff,beq_iff_eq];unfold cmpQ cmpP atQ;by_cases h:s.set.name=q.name
 ·simp [h,cmpI_zero]
 ·have:ordN s.set.name q.name≠0:=fun e=>h (ordN_zero e);simp [h,this]
def Sorted (l:List Signed):Prop:=∀ (i j:Nat) (x y:Signed),i<j→l[i]? = some x→l[j]? = some y→ordS x.set y.set<0
theorem cmpI_trans {a b c:Int} (h:cmpI a b<0) (k:cmpI b c<0):cmpI a c<0:=by
 unfold cmpI at *;repeat' split at h
 all_goals first | omega | skip
 repeat' split at k
 all_goals first | omega | skip
 repeat' split
 all_goals omega
theorem cmpP_trans {a b c:Text} {s t u:Int} (h:cmpP a s b t<0) (k:cmpP b t c u<0):cmpP a s c u<0:=by
 unfold cmpP at *;by_cases e1:a=b
 ·subst e1;simp only [ne_eq,not_true_eq_false,if_false] at h;by_cases e2:a=c
  ·subst e2;simp only [ne_eq,not_true_eq_false,if_false] at k ⊢;exact cmpI_trans h k
  ·simp only [ne_eq,e2,not_false_eq_true,if_true] at k ⊢;exact k
 ·simp only [ne_eq,e1,not_false_eq_true,if_true] at h;by_cases e2:b=c
  ·subst e2;simp only [ne_eq,e1,not_false_eq_true,if_true];exact h
  ·simp only [ne_eq,e2,not_false_eq_true,if_true] at k;have:=ordN_trans h k;have e3:a≠c:=by
    rintro rfl;rw [ordN_self] at this;omega
   simp only [ne_eq,e3,not_false_eq_true,if_true];exact this
theorem find1_p (s:Signed) (q:Quest) (hs:Nm.valid s.set.name=true) (hq:Nm.valid q.name=true):PCalls E 214 [s.enc,q.enc] (· = .int .i64 (cmpQ s q)):=by
 refine eP Tryz.func214 ?_
 with_reducible refine callP_eq (cmpP_p _ _ _ _ hs hq) ?_
 refine gO Tryz.func214 ?_;rfl
theorem mid_eq {i j:Nat} (h:i+j≤4294967296):IntKind.i64.wrap (shI .shr .u64 (IntKind.u64.wrap (IntKind.i64.wrap ((i:Int)+j))) (Int.toNat 1))=(((i+j) / 2:Nat):Int):=by
 rw [wrap64 (n:=(i:Int)+j) (by omega) (by omega)];have e1:IntKind.u64.wrap ((i:Int)+j)=(i:Int)+j:=by
  simp [IntKind.wrap,IntKind.signed,IntKind.bits];omega
 rw [e1];have e2:shI .shr .u64 ((i:Int)+j) (Int.toNat 1)=(((i+j) / 2:Nat):Int):=by
  show ((i:Int)+j).fdiv (2 ^ 1)=_;rw [Int.fdiv_eq_ediv_of_nonneg _ (by decide)];omega
 rw [e2,wrap64 (by omega) (by omega)]
theorem search_a (l:List Signed) (q:Quest) (hl:l.length≤1000000) (hv:∀ s∈l,Nm.valid s.set.name=true) (hq:Nm.valid q.name=true) (hs:Sorted l) :
  ACalls E 213 [] [.d (encSets l),.d q.enc,.fn (.func 214) [] []] (fun a b=>(∃ i:Nat,i≤l.length∧a = .tup [.d (.int .i64 i),.d (.bool (l.any (atQ q)))]∧∀ j x,l[j]? = some x→atQ q x=true→j=i)∧b=[.cells [.d (.str q.name),.d (.int .i64 q.type)]]):=by
 refine ACalls.run E_ok (fn:=Tryz.f213) Tryz.func213 (body:=Tryz.f213.body.getD .skip) rfl (by decide) 2000 rfl ?_;(conv=>whnf);refine AWL.loop (κ:=Nat × Nat) [9,10,11,15,16,17,18,19,20,21,22,23,24,25,26,27,28,29,30,31,32,33,34] (fun k=>[(9,.d (.int .i64 k.1)),(10,.d (.int .i64 k.2))]) (fun _=>[]) (fun k=>k.1≤k.2∧k.2≤l.length∧(∀ m x,m<k.1→l[m]? = some x→cmpQ x q<0)∧(∀ m x,k.2≤m→l[m]? = some x→¬ cmpQ x q<0)) (fun k=>k.2 - k.1) (0,l.length) ⟨Nat.zero_le _,Nat.le_refl _,fun m x h=>by omega,fun m x h hx=>by have:=lt_of_getElem? hx; omega⟩ ?_ ?_
 ·(conv=>whnf);repeat (first | exact trivial | (refine And.intro (by first | with_reducible rfl | exact congrArg (DV.int .i64) (by omega) | exact congrArg (DV.int .i64) (by simp) | exact congrArg (DV.int .i64) (wrap64 (by omega) (by omega)) | exact congrArg (DV.int .i64) ((wrap64 (by omega) (by omega)).trans (by omega))) ?_; conv=>whnf))
 ·rintro ⟨i,j⟩ hk IH;obtain ⟨k1,k2,k3,k4⟩:=hk;simp only at k1 k2 k3 k4;refine AWL.head E_ok Tryz.func213 2000 ?_;(conv=>whnf);refine caseB_split (fun h5=>?_) (fun h5=>?_)
  ·have hlt:i<j:=by simpa using h5
   obtain ⟨x,hx⟩:=some_of_lt (l:=l) (k:=(i+j) / 2) (by omega);have hxv:=hv x (List.mem_of_getElem? hx);have hmid:=mid_eq (i:=i) (j:=j) (by omega);refine gO Tryz.func213 ?_;refine need_intro (by decide) ?_;refine gO Tryz.func213 ?_;refine AWL.draw E_ok E_mixed 8 2000 (by kernel_rfl) ?_;(conv=>whnf);rw [show IntKind.i64.wrap (shI .shr .u64 (IntKind.u64.wrap (IntKind.i64.wrap (((i,j).fst:Int)+((i,j).snd:Int)))) (Int.toNat 1))=(((i+j) / 2:Nat):Int) from hmid];refine elemP_at (at_map hx) rfl ?_;refine gD ?_
   with_reducible refine callP1_eq (find1_p x q hxv hq) ?_
   refine gD ?_;refine gS ?_;refine gO Tryz.func213 ?_;refine caseB_split (fun h6=>?_) (fun h6=>?_)
   ·have hc:cmpQ x q<0:=by simpa using h6
    refine gO Tryz.func213 ?_;refine AWL.back (IH ((i+j) / 2+1,j) ⟨by simp only; omega,k2,fun m y hm hy=>?_,k4⟩ (by simp only; omega)) ?_
    ·simp only at hm;rcases Nat.lt_or_ge m ((i+j) / 2) with h | h
     ·have h1:=hs m ((i+j) / 2) y x h hy hx;rw [← cmpP_ordS] at h1;exact cmpP_trans h1 hc
     ·obtain rfl:m=(i+j) / 2:=by omega
      rw [hx] at hy;cases hy;exact hc
    ·(conv=>whnf);repeat (first | exact trivial | (refine sI ?_; conv=>whnf))
   ·have hc:¬ cmpQ x q<0:=by simpa using h6
    refine gO Tryz.func213 ?_;refine AWL.back (IH (i,(i+j) / 2) ⟨by simp only; omega,by simp only; omega,k3,fun m y hm hy=>?_⟩ (by simp only; omega)) ?_
    ·simp only at hm;rcases Nat.lt_or_ge ((i+j) / 2) m with h | h
     ·intro hy0;have h1:=hs ((i+j) / 2) m x y h hx hy;rw [← cmpP_ordS] at h1;exact hc (cmpP_trans h1 hy0)
     ·obtain rfl:m=(i+j) / 2:=by omega
      rw [hx] at hy;cases hy;exact hc
    ·(conv=>whnf);repeat (first | exact trivial | (refine sI ?_; conv=>whnf))
  ·have hge:i=j:=by simp at h5; omega
   subst hge;have only:∀ m y,l[m]? = some y→atQ q y=true→m=i:=fun m y hy ha=>by
    rw [← cmpQ_zero,beq_iff_eq] at ha;rcases Nat.lt_trichotomy m i with h | h | h
    ·have:=k3 m y h hy; omega
    ·exact h
    ·obtain ⟨x,hx⟩:=some_of_lt (l:=l) (k:=i) (by have:=lt_of_getElem? hy; omega);have h1:=hs i m x y h hx hy;rw [← cmpP_ordS] at h1;have h2:=k4 i x (Nat.le_refl _) hx;have h3:cmpP x.set.name x.set.type q.name q.type<0:=by
      have e:y.set.name=q.name∧y.set.type=q.type:=by
       have:atQ q y=true:=by rw [← cmpQ_zero,beq_iff_eq]; exact ha
       simpa [atQ] using this
      rw [e.1,e.2] at h1;exact h1
     exact absurd h3 h2
   rcases Nat.lt_or_ge i l.length with hi | hi
   ·obtain ⟨x,hx⟩:=some_of_lt hi;have hxv:=hv x (List.mem_of_getElem? hx);have hany:l.any (atQ q)=atQ q x:=by
     cases ha:atQ q x
     ·rw [← Bool.not_eq_true,List.any_eq_true];rintro ⟨y,hy,hay⟩;obtain ⟨m,hm⟩:=List.getElem?_of_mem hy;obtain rfl:=only m y hm hay;rw [hx] at hm;cases hm;rw [ha] at hay;cases hay
     ·rw [List.any_eq_true];exact ⟨x,List.mem_of_getElem? hx,ha⟩
    refine gO Tryz.func213 ?_;refine AWL.draw E_ok E_mixed 16 2000 (by kernel_rfl) ?_;(conv=>whnf);refine caseB_yes (by simp; omega) ?_;refine gD ?_;refine elemP_at (at_map hx) rfl ?_;refine gD ?_
    with_reducible refine callP1_eq (find1_p x q hxv hq) ?_
    refine gD ?_;refine gS ?_;refine gO Tryz.func213 ?_;exact ⟨⟨i,by omega,by rw [hany,← cmpQ_zero],only⟩,rfl⟩
   ·have hany:l.any (atQ q)=false:=by
     rw [← Bool.not_eq_true,List.any_eq_true];rintro ⟨y,hy,hay⟩;obtain ⟨m,hm⟩:=List.getElem?_of_mem hy;obtain rfl:=only m y hm hay;have:=lt_of_getElem? hm;omega
    refine gO Tryz.func213 ?_;refine AWL.draw E_ok E_mixed 16 2000 (by kernel_rfl) ?_;(conv=>whnf);refine caseB_no (by simp; omega) ?_;refine gD ?_;refine gS ?_;refine gO Tryz.func213 ?_;exact ⟨⟨i,by omega,by rw [hany],only⟩,rfl⟩
theorem find_p (z:Zone) (q:Quest) (hl:z.sets.length≤1000000) (hv:∀ s∈z.sets,Nm.valid s.set.name=true) (hq:Nm.valid q.name=true) (hs:Sorted z.sets) :
  PCalls E 148 [z.enc,q.enc] (fun r=>∃ i:Nat,i≤z.sets.length∧r = .tup [.int .i64 i,.bool (z.sets.any (atQ q))]∧∀ j x,z.sets[j]? = some x→atQ q x=true→j=i):=by
 refine eP Tryz.func148 ?_;refine callS_any (search_a z.sets q hl hv hq hs) ?_;rintro r h1 ⟨⟨i,hi,rfl,ho⟩,rfl⟩;refine gO Tryz.func148 ?_;exact ⟨i,hi,rfl,ho⟩
theorem wild_eq {t:Text} (h:Nm.valid t=true):wildL t=Nm.wild t:=by
 unfold wildL Nm.labels;by_cases hr:t=[46]
 ·subst hr; rfl
 ·rw [if_neg hr];have hp:Nm.parts (Nm.split t)=true:=by
   simp only [Nm.valid,Bool.or_eq_true,decide_eq_true_eq,Bool.and_eq_true] at h;rcases h with h | h
   ·exact absurd h hr
   ·exact h.2
  cases t with
  |nil=>rfl
  |cons c r =>
   by_cases hc:c=46
   ·subst hc;simp [Nm.split,Nm.parts,Nm.label] at hp
   ·obtain ⟨x,u,h1,h2⟩:=Nm.split_cons c r hc;rw [h2] at hp ⊢;simp only [Nm.parts,Bool.and_eq_true,Bool.or_eq_true] at hp;show (c::x==[42])=(c==42);rcases hp.2.1 with hl | hl
    ·have h0:Nm.labelAt (c::x) 0=true:=by
      simp only [Nm.label,decide_eq_true_eq] at hl;exact hl.2.2 0 (by simp)
     have hne:(c==42)=false:=by
      rw [← Bool.not_eq_true];intro e;have:c=42:=by simpa using e
      subst this;simp [Nm.labelAt,Nm.alnum] at h0
     have hne':c≠42:=by simpa using hne
     rw [hne];simp [hne']
    ·have:c::x=[42]:=by simpa using hl
     injection this with e1 e2;subst e1;subst e2;rfl
theorem under_v {s z:Text} (hs:Nm.valid s=true) (hz:Nm.valid z=true):Nm.vunder s z=Nm.under s z:=by simp [Nm.vunder,hs,hz]
theorem ordered_p (z:Zone) (hf:z.Fits):PCalls E 161 [z.enc] (· = .bool (oneB z)):=by
 obtain ⟨apex,l⟩:=z;have hfa:apex.length≤maxLen:=hf.apex;have hfs:∀ s∈l,s.set.Fits:=hf.sets;unfold oneB;simp only;cases hv:Nm.valid apex
 ·refine eP Tryz.func161 ?_
  with_reducible refine callP_eq (nvalid_p _ hfa) ?_
  refine gO Tryz.func161 ?_;rw [hv];refine caseB_yes rfl ?_;refine gO Tryz.func161 ?_;refine caseB_true ?_;refine gO Tryz.func161 ?_;refine caseB_true ?_;refine gO Tryz.func161 ?_;simp
 ·have hal:=valid_len hv;rw [wild_eq hv];refine eP Tryz.func161 ?_
  with_reducible refine callP_eq (nvalid_p _ hfa) ?_
  refine gO Tryz.func161 ?_;rw [hv];refine caseB_no rfl ?_;refine gO Tryz.func161 ?_
  with_reducible refine callP_eq (hasPrefix_p _ _) ?_
  refine gO Tryz.func161 ?_;rw [show preB apex _=Nm.wild apex from pre_star apex];cases hw:Nm.wild apex
  case true =>
   refine caseB_true ?_;refine gO Tryz.func161 ?_;refine caseB_true ?_;refine gO Tryz.func161 ?_;simp
  refine caseB_false ?_;refine gO Tryz.func161 ?_;refine caseB_split (fun h3=>?_) (fun h3=>?_)
  ·refine gO Tryz.func161 ?_;simp only [List.length_map] at h3;rw [h3];simp
  ·simp only [List.length_map] at h3;rw [h3];simp only [Bool.not_false,Bool.true_and];have h20:l.length≤20000:=by simp at h3; omega
   refine gO Tryz.func161 ?_;refine AWL.loop (κ:=Nat) (rg 2 6++rg 30 44) (fun k=>[(30,.d (.int .i64 k))]) (fun _=>[]) (fun k=>k≤l.length∧chain (ok1 apex) before1 none l=chain (ok1 apex) before1 (prevA l k) (l.drop k)∧∀ q,prevA l k=some q→setOK q.set=true) (fun k=>l.length - k) 0 ⟨Nat.zero_le _,rfl,fun q h=>by simp [prevA] at h⟩ ?_ ?_
   ·(conv=>whnf);repeat (first | exact trivial | (refine sI ?_; conv=>whnf))
   ·intro k hk IH;refine AWL.head E_ok Tryz.func161 2000 ?_;(conv=>whnf);refine caseB_split (fun h5=>?_) (fun h5=>?_)
    ·have hlt:k<l.length:=by simpa using h5
     obtain ⟨x,hx⟩:=some_of_lt hlt;have hnext:=chain_next (ok:=ok1 apex) (rel:=before1) hx;rw [← hk.2.1] at hnext;have hxf:=hfs x (List.mem_of_getElem? hx);have hp1:prevA l (k+1)=some x:=by simp [prevA,hx]
     cases hs:setOK x.set
     ·refine gO Tryz.func161 ?_;refine elemP_at (at_map hx) rfl ?_;refine gO Tryz.func161 ?_
      with_reducible refine callP_eq (setOK_p x.set hxf) ?_
      refine gO Tryz.func161 ?_;rw [hs];refine caseB_yes rfl ?_;refine gO Tryz.func161 ?_;rw [hnext,ok1,hs];simp
     ·have hxv:=setOK_name hs;have hxl:=valid_len hxv;have hun:=nunder_p x.set.name apex (by unfold maxLen; omega) hfa;rw [under_v hxv hv] at hun;refine gO Tryz.func161 ?_;refine elemP_at (at_map hx) rfl ?_;refine gO Tryz.func161 ?_
      with_reducible refine callP_eq (setOK_p x.set hxf) ?_
      refine gO Tryz.func161 ?_;rw [hs];refine caseB_no rfl ?_;refine gO Tryz.func161 ?_
      with_reducible refine callP_eq (hun) ?_
      refine gO Tryz.func161 ?_;cases hu:Nm.under x.set.name apex
      ·refine caseB_yes rfl ?_;refine gO Tryz.func161 ?_;rw [hnext,ok1,hu];simp
      ·have hok:ok1 apex x=true:=by simp [ok1,hs,hu]
       refine caseB_no rfl ?_;refine gO Tryz.func161 ?_;rcases Nat.eq_zero_or_pos k with hk0 | hk0
       ·have hpq:prevA l k=none:=by simp [prevA,hk0]
        rw [hpq] at hnext;dsimp only at hnext;rw [Bool.and_true,hok,Bool.true_and] at hnext;refine caseB_yes (by simp [hk0]) ?_;refine gO Tryz.func161 ?_;refine AWL.back (IH (k+1) ⟨by omega,hnext,fun q hq=>by rw [hp1] at hq; cases hq; exact hs⟩ (by omega)) ?_;(conv=>whnf);repeat (first | exact trivial | (refine sI ?_; conv=>whnf))
       ·obtain ⟨q,hq,hpq⟩:=prevA_some hk0 hk.1;have hqv:=setOK_name (hk.2.2 q hpq);rw [hpq] at hnext;dsimp only at hnext;rw [hok,Bool.true_and] at hnext;have hc:=cmpP_p q.set.name q.set.type x.set.name x.set.type hqv hxv;rw [cmpP_ordS] at hc;refine caseB_no (by simp; omega) ?_;refine gO Tryz.func161 ?_;refine elemP_at (at_prev hq hk0 (by omega)) rfl ?_;refine gO Tryz.func161 ?_
        with_reducible refine callP_eq (hc) ?_
        refine gO Tryz.func161 ?_;refine caseB_split (fun h8=>?_) (fun h8=>?_)
        ·have hb:before1 q x=false:=by simp at h8; simp [before1]; omega
         refine gO Tryz.func161 ?_;rw [hnext,hb,Bool.false_and]
        ·have hb:before1 q x=true:=by simp at h8; simp [before1]; omega
         refine gO Tryz.func161 ?_;refine AWL.back (IH (k+1) ⟨by omega,by rw [hnext,hb,Bool.true_and],fun q hq=>by rw [hp1] at hq; cases hq; exact hs⟩ (by omega)) ?_;(conv=>whnf);repeat (first | exact trivial | (refine sI ?_; conv=>whnf))
    ·have hge:l.length≤k:=by simpa using h5
     refine gO Tryz.func161 ?_;rw [hk.2.1,List.drop_of_length_le hge];rfl
theorem any_at {l:List Signed} {q:Quest}:l.any (atQ q) = !(decide (atI l q<0)):=by
 unfold atI;cases h:l.findIdx? (atQ q) with
 |none =>
  have h1:=List.findIdx?_eq_none_iff.1 h;have:l.any (atQ q)=false:=by
   rw [← Bool.not_eq_true,List.any_eq_true];rintro ⟨x,hx,ha⟩;rw [h1 x hx] at ha;cases ha
  rw [this];rfl
 |some i =>
  obtain ⟨hi,ha,-⟩:=List.findIdx?_eq_some_iff_getElem.1 h;have:l.any (atQ q)=true:=List.any_eq_true.2 ⟨_,List.getElem_mem hi,ha⟩;rw [this];simp
theorem apexHolds_p (z:Zone) (hl:z.sets.length≤1000000) (hv:∀ s∈z.sets,Nm.valid s.set.name=true) (hq:Nm.valid z.apex=true) (hs:Sorted z.sets):PCalls E 162 [z.enc] (· = .bool (twoB z)):=by
 have f1:=find_p z ⟨z.apex,4⟩ hl hv hq hs;have f2:=find_p z ⟨z.apex,2⟩ hl hv hq hs;obtain ⟨apex,l⟩:=z;simp only at *;unfold twoB;simp only [← any_at];refine eP Tryz.func162 ?_;refine AWL.unroll ?_;refine AWL.run E_ok Tryz.func162 2000 ?_;(conv=>whnf);refine caseB_yes (by decide) ?_;refine gO Tryz.func162 ?_;refine elemP_intro (.int .i64 4) (by decide) rfl rfl ?_;refine gO Tryz.func162 ?_
 with_reducible refine callP_any (f1) ?_
 rintro r ⟨i,-,rfl,-⟩;refine gO Tryz.func162 ?_;cases h1:l.any (atQ ⟨apex,4⟩)
 ·refine caseB_yes rfl ?_;refine gO Tryz.func162 ?_;rfl
 refine caseB_no rfl ?_;refine gO Tryz.func162 ?_;refine AWL.again ?_;refine AWL.run E_ok Tryz.func162 2000 ?_;(conv=>whnf);refine caseB_yes (by decide) ?_;refine gO Tryz.func162 ?_;refine elemP_intro (.int .i64 2) (by decide) rfl rfl ?_;refine gO Tryz.func162 ?_
 with_reducible refine callP_any (f2) ?_
 rintro r ⟨j,-,rfl,-⟩;refine gO Tryz.func162 ?_;cases h2:l.any (atQ ⟨apex,2⟩)
 ·refine caseB_yes rfl ?_;refine gO Tryz.func162 ?_;rfl
 refine caseB_no rfl ?_;refine gO Tryz.func162 ?_;refine AWL.again ?_;refine AWL.run E_ok Tryz.func162 2000 ?_;(conv=>whnf);refine caseB_no (by decide) ?_;refine gO Tryz.func162 ?_;simp only [Bool.true_and];refine AWL.loop (κ:=Nat) ([2,8]++rg 32 17) (fun k=>[(32,.d (.int .i64 k))]) (fun _=>[]) (fun k=>k≤l.length∧(l.take k).all (fun s=>placedB s.set.type (s.set.name==apex))=true) (fun k=>l.length - k) 0 ⟨Nat.zero_le _,rfl⟩ ?_ ?_
 ·(conv=>whnf);repeat (first | exact trivial | (refine sI ?_; conv=>whnf))
 ·intro k hk IH;refine AWL.head E_ok Tryz.func162 2000 ?_;(conv=>whnf);refine caseB_split (fun h5=>?_) (fun h5=>?_)
  ·have hlt:k<l.length:=by simpa using h5
   obtain ⟨x,hx⟩:=some_of_lt hlt;refine gO Tryz.func162 ?_;repeat' (first | with_reducible refine elemP_at (at_map hx) rfl ?_ | with_reducible refine callP_eq (fitsApex_p _ _) ?_ | with_reducible refine callP1_eq (fitsApex_p _ _) ?_ | with_reducible refine cY ?_ | with_reducible refine cN ?_ | with_reducible refine caseB_split (fun _=>?_) (fun _=>?_) | refine gA Tryz.func162 ?_ | refine gB ?_ | refine gC ?_ | with_reducible rfl)
   all_goals first
    |(rw [all_no hx (by simp_all)]; done)
    |skip
   all_goals
    refine gO Tryz.func162 ?_;refine AWL.back (IH (k+1) ⟨by omega,all_next hk.2 hx (by simp_all)⟩ (by omega)) ?_;(conv=>whnf);repeat (first | exact trivial | (refine sI ?_; conv=>whnf))
  ·have hge:l.length≤k:=by simpa using h5
   refine gO Tryz.func162 ?_;rw [all_end hk.2 hge]
end Go.Proofs.YthikfaephakahaaGreatDoor.P
end
section
namespace Go.Proofs.YthikfaephakahaaGreatDoor.P
open Go Go.Eng
set_option maxRecDepth 100000
set_option maxHeartbeats 4000000
def cutMap (apex:Text) (l:List Signed):List (DV × DV):=l.foldl (fun es s=>if isCut apex s then putD (.str s.set.name) (.bool true) es else es) []
theorem cutMap_next {apex:Text} {l:List Signed} {k:Nat} {x:Signed} (h:l[k]? = some x):cutMap apex (l.take (k+1))=if isCut apex x then putD (.str x.set.name) (.bool true) (cutMap apex (l.take k)) else cutMap apex (l.take k):=by
 rw [take_next h,cutMap,List.foldl_append];rfl
theorem keyEq_str (a b:Text):keyEq (.str a) (.str b)=(a==b):=rfl
def StrKeys (es:List (DV × DV)):Prop:=∀ p∈es,∃ s,p.1=DV.str s
theorem strKeys_put {n:Text} {v:DV}:∀ {es:List (DV × DV)},StrKeys es→StrKeys (putD (.str n) v es)
 | [],_,p,hp=>by simp [putD] at hp; subst hp; exact ⟨_,rfl⟩
 |q::es,h,p,hp=>by
  unfold putD at hp;split at hp
  ·rcases List.mem_cons.1 hp with rfl | hp
   ·exact ⟨_,rfl⟩
   ·exact h p (List.mem_cons_of_mem _ hp)
  ·rcases List.mem_cons.1 hp with rfl | hp
   ·exact h _ (List.mem_cons_self ..)
   ·exact strKeys_put (fun r hr=>h r (List.mem_cons_of_mem _ hr)) p hp
theorem findD_put {n m:Text} {v:DV}:∀ {es:List (DV × DV)},StrKeys es→findD (.str m) (putD (.str n) v es)=if m==n then some v else findD (.str m) es
 | [],_=>by simp [putD,findD,keyEq_str]
 |q::es,h=>by
  obtain ⟨s,hs⟩:=h q (List.mem_cons_self ..);obtain ⟨q1,q2⟩:=q;simp only at hs;subst hs;unfold putD;simp only [keyEq_str];by_cases e:n=s
  ·subst e;simp only [beq_self_eq_true,if_true,findD,keyEq_str];by_cases e2:m=n
   ·simp [e2]
   ·simp [e2]
  ·have ih:=findD_put (n:=n) (m:=m) (v:=v) (es:=es) (fun r hr=>h r (List.mem_cons_of_mem _ hr));have e':(n==s)=false:=by simpa using e
   simp only [e',Bool.false_eq_true,if_false,findD,keyEq_str,ih];by_cases e2:m=s
   ·subst e2;have:(m==n)=false:=by simpa using fun h=>e h.symm
    simp [this]
   ·simp [e2]
theorem cutMap_ok (apex:Text) (l:List Signed):StrKeys (cutMap apex l)∧∀ n,findD (.str n) (cutMap apex l)=if (cutsL apex l).contains n then some (.bool true) else none:=by
 have main:∀ (l:List Signed) (es:List (DV × DV)) (C:List Text),StrKeys es→(∀ n,findD (.str n) es=if C.contains n then some (.bool true) else none) →
   StrKeys (l.foldl (fun es s=>if isCut apex s then putD (.str s.set.name) (.bool true) es else es) es)∧∀ n,findD (.str n) (l.foldl (fun es s=>if isCut apex s then putD (.str s.set.name) (.bool true) es else es) es)=if (C++cutsL apex l).contains n then some (.bool true) else none:=by
  intro l
  induction l with
  |nil=>intro es C h1 h2; exact ⟨h1,by simpa [cutsL] using h2⟩
  |cons s l ih =>
   intro es C h1 h2;cases hc:isCut apex s
   ·have e:cutsL apex (s::l)=cutsL apex l:=by simp [cutsL,hc]
    simp only [List.foldl_cons,hc,Bool.false_eq_true,if_false,e];exact ih es C h1 h2
   ·have e:cutsL apex (s::l)=s.set.name::cutsL apex l:=by simp [cutsL,hc]
    simp only [List.foldl_cons,hc,if_true,e]
    have:=ih (putD (.str s.set.name) (.bool true) es) (C++[s.set.name]) (strKeys_put h1) (fun n=>by
     rw [findD_put h1,h2 n];by_cases h:n=s.set.name
     ·simp [h]
     ·simp [h])
    simpa using this
 have:=main l [] [] (fun p hp=>by simp at hp) (fun n=>by simp [findD])
 simpa [cutMap] using this
def layS (C:List Text) (cut n:Text):Text:=if (if cut != [] && !Nm.under n cut then [] else cut)==[]&&C.contains n then n else (if cut != [] && !Nm.under n cut then [] else cut)
def layL (C:List Text):Text→List Text→List Text
 |_,[]=>[]
 |cut,n::ns=>layS C cut n::layL C (layS C cut n) ns
theorem layL_len (C:List Text):∀ (k:Text) (ns:List Text),(layL C k ns).length=ns.length
 |_,[]=>rfl
 |k,n::ns=>by simp [layL,layL_len C _ ns]
def layZ (z:Zone):List Text:=layL (cutsL z.apex z.sets) [] (z.sets.map (·.set.name))
theorem layZ_len (z:Zone):(layZ z).length=z.sets.length:=by simp [layZ,layL_len]
theorem layS_ok {C:List Text} {cut n:Text} (hn:Nm.valid n=true) (hc:cut=[]∨Nm.valid cut=true):layS C cut n=[]∨Nm.valid (layS C cut n)=true:=by
 cases h:(cut != [] && !Nm.under n cut)
 ·simp only [layS,h,Bool.false_eq_true,if_false];split
  ·exact .inr hn
  ·exact hc
 ·simp only [layS,h,if_true];split
  ·exact .inr hn
  ·exact .inl rfl
theorem lay_p (z:Zone) (hl:z.sets.length≤1000000) (hv:∀ s∈z.sets,Nm.valid s.set.name=true):PCalls E 163 [z.enc] (· = layEnc z (layZ z)):=by
 have hBl:=layZ_len z;have hB0:layZ z=layL (cutsL z.apex z.sets) [] (z.sets.map (·.set.name)):=rfl;generalize layZ z=B at *;obtain ⟨apex,l⟩:=z;simp only at *;refine eP Tryz.func163 ?_;refine gO Tryz.func163 ?_;refine AWL.loop (κ:=Nat) ([5]++rg 18 22) (fun k=>[(18,.d (.int .i64 k)),(3,.map 2)]) (fun k=>[(2,.map (cutMap apex (l.take k)))]) (fun k=>k≤l.length) (fun k=>l.length - k) 0 (Nat.zero_le _) ?_ ?_
 ·(conv=>whnf);repeat (first | exact trivial | (refine And.intro (by first | with_reducible rfl | exact congrArg (DV.int .i64) (by omega) | exact rfl | exact congrArg (DV.int .i64) (wrap64 (by omega) (by omega)) | exact congrArg (DV.int .i64) ((wrap64 (by omega) (by omega)).trans (by omega))) ?_; conv=>whnf))
 ·intro k hk IH;refine AWL.head E_ok Tryz.func163 2000 ?_;(conv=>whnf);refine caseB_split (fun h5=>?_) (fun h5=>?_)
  ·have hlt:k<l.length:=by simpa using h5
   obtain ⟨x,hx⟩:=some_of_lt hlt;have hnext:=cutMap_next (apex:=apex) hx;have hkeys:=(cutMap_ok apex (l.take k)).1;refine gO Tryz.func163 ?_;repeat' (first | with_reducible refine elemP_at (at_map hx) rfl ?_ | with_reducible refine cY ?_ | with_reducible refine cN ?_ | with_reducible refine caseB_split (fun _=>?_) (fun _=>?_) | refine gA Tryz.func163 ?_ | refine gB ?_ | refine gC ?_ | with_reducible rfl)
   all_goals first
    |(refine need_intro ⟨⟨_, rfl⟩, hkeys⟩ ?_
      have hc : isCut apex x = true := by simp_all [isCut])
    |(have hc:isCut apex x=false:=by simp_all [isCut])
   all_goals
    rw [hc] at hnext;refine gO Tryz.func163 ?_;refine AWL.back (IH (k+1) (by omega) (by omega)) ?_;(conv=>whnf);repeat (first | exact trivial | (refine sI ?_; conv=>whnf))
    refine And.intro (by rw [hnext]; simp) ?_;(conv=>whnf);repeat (first | exact trivial | (refine sI ?_; conv=>whnf))
  ·have hge:l.length≤k:=by simpa using h5
   rw [List.take_of_length_le hge];refine gO Tryz.func163 ?_;refine AWL.drawT E_ok E_mixed (.alt 0 (.alt 1 (.alt 2 (.alt 3 (.alt 4 (.alt 5 (.alt 6 (.alt 7 (.alt 8 .leaf .leaf) .leaf) (.alt 7 (.alt 6 (.alt 8 .leaf .leaf) .leaf) .leaf)) (.alt 7 (.alt 5 (.alt 6 (.alt 8 .leaf .leaf) .leaf) .leaf) .leaf)) (.alt 7 (.alt 4 (.alt 5 (.alt 6 (.alt 8 .leaf .leaf) .leaf) .leaf) .leaf) .leaf)) (.alt 7 (.alt 3 (.alt 4 (.alt 5 (.alt 6 (.alt 8 .leaf .leaf) .leaf) .leaf) .leaf) .leaf) .leaf)) (.alt 7 (.alt 2 (.alt 3 (.alt 4 (.alt 5 (.alt 6 (.alt 8 .leaf .leaf) .leaf) .leaf) .leaf) .leaf) .leaf) .leaf)) (.alt 7 (.alt 1 (.alt 2 (.alt 3 (.alt 4 (.alt 5 (.alt 6 (.alt 8 .leaf .leaf) .leaf) .leaf) .leaf) .leaf) .leaf) .leaf) .leaf)) (.alt 1 (.alt 0 (.alt 2 (.alt 3 (.alt 4 (.alt 5 (.alt 6 (.alt 7 (.alt 8 .leaf .leaf) .leaf) (.alt 7 (.alt 6 (.alt 8 .leaf .leaf) .leaf) .leaf)) (.alt 7 (.alt 5 (.alt 6 (.alt 8 .leaf .leaf) .leaf) .leaf) .leaf)) (.alt 7 (.alt 4 (.alt 5 (.alt 6 (.alt 8 .leaf .leaf) .leaf) .leaf) .leaf) .leaf)) (.alt 7 (.alt 3 (.alt 4 (.alt 5 (.alt 6 (.alt 8 .leaf .leaf) .leaf) .leaf) .leaf) .leaf) .leaf)) (.alt 7 (.alt 2 (.alt 3 (.alt 4 (.alt 5 (.alt 6 (.alt 8 .leaf .leaf) .leaf) .leaf) .leaf) .leaf) .leaf) .leaf)) (.alt 2 (.alt 0 (.alt 3 (.alt 4 (.alt 5 (.alt 6 (.alt 7 (.alt 8 .leaf .leaf) .leaf) (.alt 7 (.alt 6 (.alt 8 .leaf .leaf) .leaf) .leaf)) (.alt 7 (.alt 5 (.alt 6 (.alt 8 .leaf .leaf) .leaf) .leaf) .leaf)) (.alt 7 (.alt 4 (.alt 5 (.alt 6 (.alt 8 .leaf .leaf) .leaf) .leaf) .leaf) .leaf)) (.alt 7 (.alt 3 (.alt 4 (.alt 5 (.alt 6 (.alt 8 .leaf .leaf) .leaf) .leaf) .leaf) .leaf) .leaf)) (.alt 3 (.alt 0 (.alt 4 (.alt 5 (.alt 6 (.alt 7 (.alt 8 .leaf .leaf) .leaf) (.alt 7 (.alt 6 (.alt 8 .leaf .leaf) .leaf) .leaf)) (.alt 7 (.alt 5 (.alt 6 (.alt 8 .leaf .leaf) .leaf) .leaf) .leaf)) (.alt 7 (.alt 4 (.alt 5 (.alt 6 (.alt 8 .leaf .leaf) .leaf) .leaf) .leaf) .leaf)) (.alt 4 (.alt 0 (.alt 5 (.alt 6 (.alt 7 (.alt 8 .leaf .leaf) .leaf) (.alt 7 (.alt 6 (.alt 8 .leaf .leaf) .leaf) .leaf)) (.alt 7 (.alt 5 (.alt 6 (.alt 8 .leaf .leaf) .leaf) .leaf) .leaf)) (.alt 5 (.alt 0 (.alt 6 (.alt 7 (.alt 8 .leaf .leaf) .leaf) (.alt 7 (.alt 6 (.alt 8 .leaf .leaf) .leaf) .leaf)) (.alt 7 (.alt 0 (.alt 6 (.alt 8 .leaf .leaf) .leaf) .leaf) .leaf)) (.alt 7 (.alt 0 (.alt 5 (.alt 6 (.alt 8 .leaf .leaf) .leaf) .leaf) (.alt 5 (.alt 0 (.alt 6 (.alt 8 .leaf .leaf) .leaf) .leaf) .leaf)) .leaf))) (.alt 7 (.alt 0 (.alt 4 (.alt 5 (.alt 6 (.alt 8 .leaf .leaf) .leaf) .leaf) .leaf) (.alt 4 (.alt 0 (.alt 5 (.alt 6 (.alt 8 .leaf .leaf) .leaf) .leaf) (.alt 5 (.alt 0 (.alt 6 (.alt 8 .leaf .leaf) .leaf) .leaf) .leaf)) .leaf)) .leaf))) (.alt 7 (.alt 0 (.alt 3 (.alt 4 (.alt 5 (.alt 6 (.alt 8 .leaf .leaf) .leaf) .leaf) .leaf) .leaf) (.alt 3 (.alt 0 (.alt 4 (.alt 5 (.alt 6 (.alt 8 .leaf .leaf) .leaf) .leaf) .leaf) (.alt 4 (.alt 0 (.alt 5 (.alt 6 (.alt 8 .leaf .leaf) .leaf) .leaf) (.alt 5 (.alt 0 (.alt 6 (.alt 8 .leaf .leaf) .leaf) .leaf) .leaf)) .leaf)) .leaf)) .leaf))) (.alt 7 (.alt 0 (.alt 2 (.alt 3 (.alt 4 (.alt 5 (.alt 6 (.alt 8 .leaf .leaf) .leaf) .leaf) .leaf) .leaf) .leaf) (.alt 2 (.alt 0 (.alt 3 (.alt 4 (.alt 5 (.alt 6 (.alt 8 .leaf .leaf) .leaf) .leaf) .leaf) .leaf) (.alt 3 (.alt 0 (.alt 4 (.alt 5 (.alt 6 (.alt 8 .leaf .leaf) .leaf) .leaf) .leaf) (.alt 4 (.alt 0 (.alt 5 (.alt 6 (.alt 8 .leaf .leaf) .leaf) .leaf) (.alt 5 (.alt 0 (.alt 6 (.alt 8 .leaf .leaf) .leaf) .leaf) .leaf)) .leaf)) .leaf)) .leaf)) .leaf))) (.alt 7 (.alt 0 (.alt 1 (.alt 2 (.alt 3 (.alt 4 (.alt 5 (.alt 6 (.alt 8 .leaf .leaf) .leaf) .leaf) .leaf) .leaf) .leaf) .leaf) (.alt 1 (.alt 0 (.alt 2 (.alt 3 (.alt 4 (.alt 5 (.alt 6 (.alt 8 .leaf .leaf) .leaf) .leaf) .leaf) .leaf) .leaf) (.alt 2 (.alt 0 (.alt 3 (.alt 4 (.alt 5 (.alt 6 (.alt 8 .leaf .leaf) .leaf) .leaf) .leaf) .leaf) (.alt 3 (.alt 0 (.alt 4 (.alt 5 (.alt 6 (.alt 8 .leaf .leaf) .leaf) .leaf) .leaf) (.alt 4 (.alt 0 (.alt 5 (.alt 6 (.alt 8 .leaf .leaf) .leaf) .leaf) (.alt 5 (.alt 0 (.alt 6 (.alt 8 .leaf .leaf) .leaf) .leaf) .leaf)) .leaf)) .leaf)) .leaf)) .leaf)) .leaf))) ?pstate ?qstate (by kernel_rfl) ?tree ?first ?second
   case tree =>
    repeat' ((try conv=>whnf); first
     |with_reducible exact True.intro
     |with_reducible exact TWL.fst
     |with_reducible exact TWL.snd
     |with_reducible refine need_intro (by simp; omega) ?_
     |with_reducible refine And.intro ?_ ?_
     |with_reducible refine TWL.step E_ok ?_)
   case first =>
    (conv=>whnf);refine gO Tryz.func163 ?_;refine AWL.loop (κ:=Nat × Text) [7,8,9,10,11,12,51,52,53,54,55,56,57,58,59,60,61,62,63,64,65,66,67,68,69,70,71,72,73,74,75,76,77,78,79,80,81,82] (fun k=>[(51,.d (.int .i64 k.1)),(7,.d (.str k.2))]) (fun k=>[(3,.arr 0 (9,1) ((B.take k.1++List.replicate (l.length - k.1) []).map .str))]) (fun k=>k.1≤l.length∧B.drop k.1=layL (cutsL apex l) k.2 ((l.drop k.1).map (·.set.name))∧(k.2=[]∨Nm.valid k.2=true)) (fun k=>l.length - k.1) (0,[]) ⟨Nat.zero_le _,by simpa using hB0,.inl rfl⟩ ?_ ?_
    ·(conv=>whnf);repeat (first | exact trivial | (refine sI ?_; conv=>whnf))
     refine And.intro (by simp) ?_;(conv=>whnf);repeat (first | exact trivial | (refine sI ?_; conv=>whnf))
    ·rintro ⟨i,cut⟩ hk IH;simp only at hk;refine AWL.head E_ok Tryz.func163 2000 ?_;(conv=>whnf);refine caseB_split (fun h5=>?_) (fun h5=>?_)
     ·have hlt:i<l.length:=by simpa using h5
      obtain ⟨x,hx⟩:=some_of_lt hlt;have hxv:=hv x (List.mem_of_getElem? hx);have hxl:=valid_len hxv;have hcons:(l.drop i).map (·.set.name)=x.set.name::(l.drop (i+1)).map (·.set.name):=by
       have e1:l[i]=x:=by simpa [hlt] using hx
       rw [List.drop_eq_getElem_cons hlt,e1];rfl
      obtain ⟨-,hkB,hcut⟩:=hk;rw [hcons,layL] at hkB;have hBi:B[i]? = some (layS (cutsL apex l) cut x.set.name):=by
       have:=congrArg (fun l=>l[0]?) hkB
       simpa using this
      have hBd:B.drop (i+1)=layL (cutsL apex l) (layS (cutsL apex l) cut x.set.name) ((l.drop (i+1)).map (·.set.name)):=by
       have:=congrArg List.tail hkB
       simpa using this
      have hfind:=(cutMap_ok apex l).2 x.set.name;have hkeys:=(cutMap_ok apex l).1;refine gO Tryz.func163 ?_;refine elemP_at (at_map hx) rfl ?_;refine gO Tryz.func163 ?_;rcases hcut':cut with _ | ⟨c0,cut0⟩
      ·subst hcut';refine caseB_no (by simp) ?_;refine gO Tryz.func163 ?_;refine caseB_yes (by simp) ?_;refine gO Tryz.func163 ?_;refine lookP_intro (.bool false) (.bool false) (v := .bool ((cutsL apex l).contains x.set.name)) (f:=(cutsL apex l).contains x.set.name) ⟨_,rfl⟩ hkeys (fun w=>by kernel_rfl) (fun _ _ => .bool _) (by rw [hfind]; split <;> simp_all) (by rw [hfind]; split <;> simp_all) ?_;refine gO Tryz.func163 ?_;cases hcc:(cutsL apex l).contains x.set.name
       ·refine caseB_false ?_;refine gO Tryz.func163 ?_;have hS:layS (cutsL apex l) ([]:Text) x.set.name=[]:=by simp [layS]; intro h; exact absurd h (by simpa using hcc)
        refine need_intro ⟨by omega,by simp; omega⟩ ?_;refine gO Tryz.func163 ?_;refine elemP_intro (.str []) (by omega) (by simp only [Int.toNat_natCast,List.getElem?_map]; rw [rep_at hBl hlt]; rfl) rfl ?_;refine gO Tryz.func163 ?_;refine AWL.back (IH (i+1,[]) ⟨by simp only; omega,by rw [hS] at hBd; exact hBd,by have hq:=layS_ok (C:=cutsL apex l) hxv hcut; rw [hS] at hq; exact hq⟩ (by simp only; omega)) ?_;(conv=>whnf);repeat (first | exact trivial | (refine sI ?_; conv=>whnf))
        refine And.intro (by rw [← take_rep (e:=[]) (x:=[]) hBl (by rw [hS] at hBi; exact hBi)]; simp [List.map_set]) ?_;(conv=>whnf);repeat (first | exact trivial | (refine sI ?_; conv=>whnf))
       ·refine caseB_true ?_;refine gO Tryz.func163 ?_;have hS:layS (cutsL apex l) ([]:Text) x.set.name=x.set.name:=by simp [layS]; intro h; exact absurd (by simpa using hcc) h
        refine need_intro ⟨by omega,by simp; omega⟩ ?_;refine gO Tryz.func163 ?_;refine elemP_intro (.str []) (by omega) (by simp only [Int.toNat_natCast,List.getElem?_map]; rw [rep_at hBl hlt]; rfl) rfl ?_;refine gO Tryz.func163 ?_;refine AWL.back (IH (i+1,x.set.name) ⟨by simp only; omega,by rw [hS] at hBd; exact hBd,by have hq:=layS_ok (C:=cutsL apex l) hxv hcut; rw [hS] at hq; exact hq⟩ (by simp only; omega)) ?_;(conv=>whnf);repeat (first | exact trivial | (refine sI ?_; conv=>whnf))
        refine And.intro (by rw [← take_rep (e:=[]) (x:=x.set.name) hBl (by rw [hS] at hBi; exact hBi)]; simp [List.map_set]) ?_;(conv=>whnf);repeat (first | exact trivial | (refine sI ?_; conv=>whnf))
      ·have hcv:Nm.valid cut=true:=by
        rcases hcut with h | h
        ·rw [hcut'] at h; cases h
        ·exact h
       have hcl:=valid_len hcv;have hun:=nunder_p x.set.name cut (by unfold maxLen; omega) (by unfold maxLen; omega);rw [under_v hxv hcv] at hun;rw [← hcut'];have hne:cut≠[]:=by rw [hcut']; simp
       refine caseB_yes (by simpa using hne) ?_;refine gO Tryz.func163 ?_
       with_reducible refine callP_eq (hun) ?_
       refine gO Tryz.func163 ?_;cases hu:Nm.under x.set.name cut
       ·refine caseB_yes rfl ?_;refine gO Tryz.func163 ?_;refine caseB_yes (by simp) ?_;refine gO Tryz.func163 ?_;refine lookP_intro (.bool false) (.bool false) (v := .bool ((cutsL apex l).contains x.set.name)) (f:=(cutsL apex l).contains x.set.name) ⟨_,rfl⟩ hkeys (fun w=>by kernel_rfl) (fun _ _ => .bool _) (by rw [hfind]; split <;> simp_all) (by rw [hfind]; split <;> simp_all) ?_;refine gO Tryz.func163 ?_;cases hcc:(cutsL apex l).contains x.set.name
        ·refine caseB_false ?_;refine gO Tryz.func163 ?_;have hS:layS (cutsL apex l) cut x.set.name=[]:=by simp [layS,hu,hne]; intro h; exact absurd h (by simpa using hcc)
         refine need_intro ⟨by omega,by simp; omega⟩ ?_;refine gO Tryz.func163 ?_;refine elemP_intro (.str []) (by omega) (by simp only [Int.toNat_natCast,List.getElem?_map]; rw [rep_at hBl hlt]; rfl) rfl ?_;refine gO Tryz.func163 ?_;refine AWL.back (IH (i+1,[]) ⟨by simp only; omega,by rw [hS] at hBd; exact hBd,by have hq:=layS_ok (C:=cutsL apex l) hxv hcut; rw [hS] at hq; exact hq⟩ (by simp only; omega)) ?_;(conv=>whnf);repeat (first | exact trivial | (refine sI ?_; conv=>whnf))
         refine And.intro (by rw [← take_rep (e:=[]) (x:=[]) hBl (by rw [hS] at hBi; exact hBi)]; simp [List.map_set]) ?_;(conv=>whnf);repeat (first | exact trivial | (refine sI ?_; conv=>whnf))
        ·refine caseB_true ?_;refine gO Tryz.func163 ?_;have hS:layS (cutsL apex l) cut x.set.name=x.set.name:=by simp [layS,hu,hne]; intro h; exact absurd (by simpa using hcc) h
         refine need_intro ⟨by omega,by simp; omega⟩ ?_;refine gO Tryz.func163 ?_;refine elemP_intro (.str []) (by omega) (by simp only [Int.toNat_natCast,List.getElem?_map]; rw [rep_at hBl hlt]; rfl) rfl ?_;refine gO Tryz.func163 ?_;refine AWL.back (IH (i+1,x.set.name) ⟨by simp only; omega,by rw [hS] at hBd; exact hBd,by have hq:=layS_ok (C:=cutsL apex l) hxv hcut; rw [hS] at hq; exact hq⟩ (by simp only; omega)) ?_;(conv=>whnf);repeat (first | exact trivial | (refine sI ?_; conv=>whnf))
         refine And.intro (by rw [← take_rep (e:=[]) (x:=x.set.name) hBl (by rw [hS] at hBi; exact hBi)]; simp [List.map_set]) ?_;(conv=>whnf);repeat (first | exact trivial | (refine sI ?_; conv=>whnf))
       ·have hS:layS (cutsL apex l) cut x.set.name=cut:=by simp [layS,hu,hne]
        refine caseB_no rfl ?_;refine gO Tryz.func163 ?_;refine caseB_no (by simpa using hne) ?_;refine gO Tryz.func163 ?_;refine caseB_false ?_;refine gO Tryz.func163 ?_;refine need_intro ⟨by omega,by simp; omega⟩ ?_;refine gO Tryz.func163 ?_;refine elemP_intro (.str []) (by omega) (by simp only [Int.toNat_natCast,List.getElem?_map]; rw [rep_at hBl hlt]; rfl) rfl ?_;refine gO Tryz.func163 ?_;refine AWL.back (IH (i+1,cut) ⟨by simp only; omega,by rw [hS] at hBd; exact hBd,by have hq:=layS_ok (C:=cutsL apex l) hxv hcut; rw [hS] at hq; exact hq⟩ (by simp only; omega)) ?_;(conv=>whnf);repeat (first | exact trivial | (refine sI ?_; conv=>whnf))
        refine And.intro (by rw [← take_rep (e:=[]) (x:=cut) hBl (by rw [hS] at hBi; exact hBi)]; simp [List.map_set]) ?_;(conv=>whnf);repeat (first | exact trivial | (refine sI ?_; conv=>whnf))
     ·have hge:l.length≤i:=by simpa using h5
      refine gO Tryz.func163 ?_;simp only [show l.length - i=0 by omega,List.replicate_zero,List.append_nil];rw [List.take_of_length_le (by omega)]
   case second =>
    (conv=>whnf);refine gO Tryz.func163 ?_;refine AWL.loop (κ:=Nat × Text) [7,8,9,10,11,12,51,52,53,54,55,56,57,58,59,60,61,62,63,64,65,66,67,68,69,70,71,72,73,74,75,76,77,78,79,80,81,82] (fun k=>[(51,.d (.int .i64 k.1)),(7,.d (.str k.2))]) (fun k=>[(4,.arr 0 (9,1) ((B.take k.1++List.replicate (l.length - k.1) []).map .str))]) (fun k=>k.1≤l.length∧B.drop k.1=layL (cutsL apex l) k.2 ((l.drop k.1).map (·.set.name))∧(k.2=[]∨Nm.valid k.2=true)) (fun k=>l.length - k.1) (0,[]) ⟨Nat.zero_le _,by simpa using hB0,.inl rfl⟩ ?_ ?_
    ·(conv=>whnf);repeat (first | exact trivial | (refine sI ?_; conv=>whnf))
     refine And.intro (by simp) ?_;(conv=>whnf);repeat (first | exact trivial | (refine sI ?_; conv=>whnf))
    ·rintro ⟨i,cut⟩ hk IH;simp only at hk;refine AWL.head E_ok Tryz.func163 2000 ?_;(conv=>whnf);refine caseB_split (fun h5=>?_) (fun h5=>?_)
     ·have hlt:i<l.length:=by simpa using h5
      obtain ⟨x,hx⟩:=some_of_lt hlt;have hxv:=hv x (List.mem_of_getElem? hx);have hxl:=valid_len hxv;have hcons:(l.drop i).map (·.set.name)=x.set.name::(l.drop (i+1)).map (·.set.name):=by
       have e1:l[i]=x:=by simpa [hlt] using hx
       rw [List.drop_eq_getElem_cons hlt,e1];rfl
      obtain ⟨-,hkB,hcut⟩:=hk;rw [hcons,layL] at hkB;have hBi:B[i]? = some (layS (cutsL apex l) cut x.set.name):=by
       have:=congrArg (fun l=>l[0]?) hkB
       simpa using this
      have hBd:B.drop (i+1)=layL (cutsL apex l) (layS (cutsL apex l) cut x.set.name) ((l.drop (i+1)).map (·.set.name)):=by
       have:=congrArg List.tail hkB
       simpa using this
      have hfind:=(cutMap_ok apex l).2 x.set.name;have hkeys:=(cutMap_ok apex l).1;refine gO Tryz.func163 ?_;refine elemP_at (at_map hx) rfl ?_;refine gO Tryz.func163 ?_;rcases hcut':cut with _ | ⟨c0,cut0⟩
      ·subst hcut';refine caseB_no (by simp) ?_;refine gO Tryz.func163 ?_;refine caseB_yes (by simp) ?_;refine gO Tryz.func163 ?_;refine lookP_intro (.bool false) (.bool false) (v := .bool ((cutsL apex l).contains x.set.name)) (f:=(cutsL apex l).contains x.set.name) ⟨_,rfl⟩ hkeys (fun w=>by kernel_rfl) (fun _ _ => .bool _) (by rw [hfind]; split <;> simp_all) (by rw [hfind]; split <;> simp_all) ?_;refine gO Tryz.func163 ?_;cases hcc:(cutsL apex l).contains x.set.name
       ·refine caseB_false ?_;refine gO Tryz.func163 ?_;have hS:layS (cutsL apex l) ([]:Text) x.set.name=[]:=by simp [layS]; intro h; exact absurd h (by simpa using hcc)
        refine need_intro ⟨by omega,by simp; omega⟩ ?_;refine gO Tryz.func163 ?_;refine elemP_intro (.str []) (by omega) (by simp only [Int.toNat_natCast,List.getElem?_map]; rw [rep_at hBl hlt]; rfl) rfl ?_;refine gO Tryz.func163 ?_;refine AWL.back (IH (i+1,[]) ⟨by simp only; omega,by rw [hS] at hBd; exact hBd,by have hq:=layS_ok (C:=cutsL apex l) hxv hcut; rw [hS] at hq; exact hq⟩ (by simp only; omega)) ?_;(conv=>whnf);repeat (first | exact trivial | (refine sI ?_; conv=>whnf))
        refine And.intro (by rw [← take_rep (e:=[]) (x:=[]) hBl (by rw [hS] at hBi; exact hBi)]; simp [List.map_set]) ?_;(conv=>whnf);repeat (first | exact trivial | (refine sI ?_; conv=>whnf))
       ·refine caseB_true ?_;refine gO Tryz.func163 ?_;have hS:layS (cutsL apex l) ([]:Text) x.set.name=x.set.name:=by simp [layS]; intro h; exact absurd (by simpa using hcc) h
        refine need_intro ⟨by omega,by simp; omega⟩ ?_;refine gO Tryz.func163 ?_;refine elemP_intro (.str []) (by omega) (by simp only [Int.toNat_natCast,List.getElem?_map]; rw [rep_at hBl hlt]; rfl) rfl ?_;refine gO Tryz.func163 ?_;refine AWL.back (IH (i+1,x.set.name) ⟨by simp only; omega,by rw [hS] at hBd; exact hBd,by have hq:=layS_ok (C:=cutsL apex l) hxv hcut; rw [hS] at hq; exact hq⟩ (by simp only; omega)) ?_;(conv=>whnf);repeat (first | exact trivial | (refine sI ?_; conv=>whnf))
        refine And.intro (by rw [← take_rep (e:=[]) (x:=x.set.name) hBl (by rw [hS] at hBi; exact hBi)]; simp [List.map_set]) ?_;(conv=>whnf);repeat (first | exact trivial | (refine sI ?_; conv=>whnf))
      ·have hcv:Nm.valid cut=true:=by
        rcases hcut with h | h
        ·rw [hcut'] at h; cases h
        ·exact h
       have hcl:=valid_len hcv;have hun:=nunder_p x.set.name cut (by unfold maxLen; omega) (by unfold maxLen; omega);rw [under_v hxv hcv] at hun;rw [← hcut'];have hne:cut≠[]:=by rw [hcut']; simp
       refine caseB_yes (by simpa using hne) ?_;refine gO Tryz.func163 ?_
       with_reducible refine callP_eq (hun) ?_
       refine gO Tryz.func163 ?_;cases hu:Nm.under x.set.name cut
       ·refine caseB_yes rfl ?_;refine gO Tryz.func163 ?_;refine caseB_yes (by simp) ?_;refine gO Tryz.func163 ?_;refine lookP_intro (.bool false) (.bool false) (v := .bool ((cutsL apex l).contains x.set.name)) (f:=(cutsL apex l).contains x.set.name) ⟨_,rfl⟩ hkeys (fun w=>by kernel_rfl) (fun _ _ => .bool _) (by rw [hfind]; split <;> simp_all) (by rw [hfind]; split <;> simp_all) ?_;refine gO Tryz.func163 ?_;cases hcc:(cutsL apex l).contains x.set.name
        ·refine caseB_false ?_;refine gO Tryz.func163 ?_;have hS:layS (cutsL apex l) cut x.set.name=[]:=by simp [layS,hu,hne]; intro h; exact absurd h (by simpa using hcc)
         refine need_intro ⟨by omega,by simp; omega⟩ ?_;refine gO Tryz.func163 ?_;refine elemP_intro (.str []) (by omega) (by simp only [Int.toNat_natCast,List.getElem?_map]; rw [rep_at hBl hlt]; rfl) rfl ?_;refine gO Tryz.func163 ?_;refine AWL.back (IH (i+1,[]) ⟨by simp only; omega,by rw [hS] at hBd; exact hBd,by have hq:=layS_ok (C:=cutsL apex l) hxv hcut; rw [hS] at hq; exact hq⟩ (by simp only; omega)) ?_;(conv=>whnf);repeat (first | exact trivial | (refine sI ?_; conv=>whnf))
         refine And.intro (by rw [← take_rep (e:=[]) (x:=[]) hBl (by rw [hS] at hBi; exact hBi)]; simp [List.map_set]) ?_;(conv=>whnf);repeat (first | exact trivial | (refine sI ?_; conv=>whnf))
        ·refine caseB_true ?_;refine gO Tryz.func163 ?_;have hS:layS (cutsL apex l) cut x.set.name=x.set.name:=by simp [layS,hu,hne]; intro h; exact absurd (by simpa using hcc) h
         refine need_intro ⟨by omega,by simp; omega⟩ ?_;refine gO Tryz.func163 ?_;refine elemP_intro (.str []) (by omega) (by simp only [Int.toNat_natCast,List.getElem?_map]; rw [rep_at hBl hlt]; rfl) rfl ?_;refine gO Tryz.func163 ?_;refine AWL.back (IH (i+1,x.set.name) ⟨by simp only; omega,by rw [hS] at hBd; exact hBd,by have hq:=layS_ok (C:=cutsL apex l) hxv hcut; rw [hS] at hq; exact hq⟩ (by simp only; omega)) ?_;(conv=>whnf);repeat (first | exact trivial | (refine sI ?_; conv=>whnf))
         refine And.intro (by rw [← take_rep (e:=[]) (x:=x.set.name) hBl (by rw [hS] at hBi; exact hBi)]; simp [List.map_set]) ?_;(conv=>whnf);repeat (first | exact trivial | (refine sI ?_; conv=>whnf))
       ·have hS:layS (cutsL apex l) cut x.set.name=cut:=by simp [layS,hu,hne]
        refine caseB_no rfl ?_;refine gO Tryz.func163 ?_;refine caseB_no (by simpa using hne) ?_;refine gO Tryz.func163 ?_;refine caseB_false ?_;refine gO Tryz.func163 ?_;refine need_intro ⟨by omega,by simp; omega⟩ ?_;refine gO Tryz.func163 ?_;refine elemP_intro (.str []) (by omega) (by simp only [Int.toNat_natCast,List.getElem?_map]; rw [rep_at hBl hlt]; rfl) rfl ?_;refine gO Tryz.func163 ?_;refine AWL.back (IH (i+1,cut) ⟨by simp only; omega,by rw [hS] at hBd; exact hBd,by have hq:=layS_ok (C:=cutsL apex l) hxv hcut; rw [hS] at hq; exact hq⟩ (by simp only; omega)) ?_;(conv=>whnf);repeat (first | exact trivial | (refine sI ?_; conv=>whnf))
        refine And.intro (by rw [← take_rep (e:=[]) (x:=cut) hBl (by rw [hS] at hBi; exact hBi)]; simp [List.map_set]) ?_;(conv=>whnf);repeat (first | exact trivial | (refine sI ?_; conv=>whnf))
     ·have hge:l.length≤i:=by simpa using h5
      refine gO Tryz.func163 ?_;simp only [show l.length - i=0 by omega,List.replicate_zero,List.append_nil];rw [List.take_of_length_le (by omega)]
end Go.Proofs.YthikfaephakahaaGreatDoor.P
end
section
namespace Go.Proofs.YthikfaephakahaaGreatDoor.P
open Go Go.Eng
set_option maxRecDepth 100000
set_option maxHeartbeats 4000000
theorem ordN_le_trans {a b c:Text} (h:ordN a b≤0) (k:ordN b c≤0):ordN a c≤0:=by
 rcases Int.lt_or_eq_of_le h with h | h
 ·rcases Int.lt_or_eq_of_le k with k | k
  ·exact Int.le_of_lt (ordN_trans h k)
  ·rw [← ordN_zero k]; exact Int.le_of_lt h
 ·rw [ordN_zero h]; exact k
theorem under_self (a:Text):Nm.under a a=true:=by simp [Nm.under]
def Asc (l:List Text):Prop:=∀ (i j:Nat) (x y:Text),i<j→l[i]? = some x→l[j]? = some y→ordN x y≤0
def Apart (l:List Text):Prop:=∀ (i j:Nat) (x y:Text),i<j→l[i]? = some x→l[j]? = some y→Nm.under y x=false
theorem Asc.snoc {l:List Text} {c:Text} (h:Asc (l++[c])):Asc l∧∀ x∈l,ordN x c≤0:=by
 refine ⟨fun i j x y hij hx hy=>h i j x y hij (by rw [List.getElem?_append_left (lt_of_getElem? hx)]; exact hx) (by rw [List.getElem?_append_left (lt_of_getElem? hy)]; exact hy),fun x hx=>?_⟩;obtain ⟨i,hi⟩:=List.getElem?_of_mem hx;have:=lt_of_getElem? hi;exact h i l.length x c this (by rw [List.getElem?_append_left this]; exact hi) (by simp)
theorem snoc_at {α:Type} {l:List α} {c x:α} {i:Nat} (h:(l++[c])[i]? = some x):l[i]? = some x∨(i=l.length∧x=c):=by
 rcases Nat.lt_or_ge i l.length with hi | hi
 ·rw [List.getElem?_append_left hi] at h; exact .inl h
 ·rw [List.getElem?_append_right hi] at h;have h0:i - l.length=0:=by
   have:=lt_of_getElem? h;simp at this;omega
  rw [h0] at h;simp at h;exact .inr ⟨by omega,h.symm⟩
theorem high_ok:∀ (C:List Text),Asc C→Asc (highL C)∧Apart (highL C)∧(∀ c∈C,∃ d∈highL C,Nm.under c d=true):=by
 have main:∀ (n:Nat) (C:List Text),C.length=n→Asc C→Asc (highL C)∧Apart (highL C)∧(∀ c∈C,∃ d∈highL C,Nm.under c d=true):=by
  intro n
  induction n with
  |zero =>
   intro C hn _;obtain rfl:C=[]:=List.eq_nil_of_length_eq_zero hn;exact ⟨fun i j x y _ h=>by simp [highL] at h,fun i j x y _ h=>by simp [highL] at h,fun c h=>by simp at h⟩
  |succ n ih =>
   intro C hn hA;rcases List.eq_nil_or_concat C with rfl | ⟨P,c,rfl⟩
   ·simp at hn
   rw [List.concat_eq_append] at *;obtain ⟨hA1,hA2⟩:=hA.snoc;obtain ⟨i1,i2,i3⟩:=ih P (by simpa using hn) hA1;have e:highL (P++[c])=highStep (highL P) c:=by rw [highL,List.foldl_append]; rfl
   have hle:∀ d∈highL P,ordN d c≤0:=fun d hd=>hA2 d (highL_mem d hd);rw [e];generalize highL P=H at *;rcases List.eq_nil_or_concat H with rfl | ⟨H0,d,rfl⟩
   ·have e2:highStep [] c=[c]:=rfl;rw [e2];refine ⟨fun i j x y hij hx hy=>?_,fun i j x y hij hx hy=>?_,fun x hx=>?_⟩
    ·have:=lt_of_getElem? hy; simp at this; omega
    ·have:=lt_of_getElem? hy; simp at this; omega
    ·rcases List.mem_append.1 hx with hx | hx
     ·obtain ⟨d,hd,-⟩:=i3 x hx;simp at hd
     ·simp at hx; subst hx; exact ⟨x,by simp,under_self x⟩
   ·rw [List.concat_eq_append] at *;have e2:highStep (H0++[d]) c=if Nm.under c d then H0++[d] else H0++[d]++[c]:=by simp [highStep]
    rw [e2];cases hu:Nm.under c d
    ·simp only [Bool.false_eq_true,if_false];refine ⟨fun i j x y hij hx hy=>?_,fun i j x y hij hx hy=>?_,fun x hx=>?_⟩
     ·rcases snoc_at hy with hy' | ⟨rfl,rfl⟩
      ·rcases snoc_at hx with hx | ⟨rfl,rfl⟩
       ·exact i1 i j x y hij hx hy'
       ·exact absurd (lt_of_getElem? hy') (by omega)
      ·rcases snoc_at hx with hx | ⟨h,-⟩
       ·exact hle x (List.mem_of_getElem? hx)
       ·omega
     ·rcases snoc_at hy with hy' | ⟨rfl,rfl⟩
      ·rcases snoc_at hx with hx | ⟨rfl,rfl⟩
       ·exact i2 i j x y hij hx hy'
       ·exact absurd (lt_of_getElem? hy') (by omega)
      ·rcases snoc_at hx with hx | ⟨h,-⟩
       ·rcases snoc_at hx with hx0 | ⟨-,rfl⟩
        ·rw [← Bool.not_eq_true];intro hxu;have hd:(H0++[d])[H0.length]? = some d:=by simp
         have hi0:=lt_of_getElem? hx0;have h1:=i1 i H0.length x d hi0 hx hd;have h2:=hle d (by simp);have h3:=ordN_between h1 h2 hxu;rw [i2 i H0.length x d hi0 hx hd] at h3;cases h3
        ·exact hu
       ·omega
     ·rcases List.mem_append.1 hx with hx | hx
      ·obtain ⟨q,hq,hqu⟩:=i3 x hx;exact ⟨q,List.mem_append_left _ hq,hqu⟩
      ·simp at hx; subst hx; exact ⟨x,by simp,under_self x⟩
    ·simp only [if_true];refine ⟨i1,i2,fun x hx=>?_⟩;rcases List.mem_append.1 hx with hx | hx
     ·exact i3 x hx
     ·simp at hx; subst hx; exact ⟨d,by simp,hu⟩
 exact fun C=>main C.length C rfl
def IsF (H:List Text) (n r:Text):Prop:=(r∈H∧Nm.under n r=true)∨(r=[]∧∀ d∈H,Nm.under n d=false)
theorem only_one {H:List Text} (hA:Asc H) (hP:Apart H) {n d e:Text} (hd:d∈H) (he:e∈H) (h1:Nm.under n d=true) (h2:Nm.under n e=true):d=e:=by
 obtain ⟨i,hi⟩:=List.getElem?_of_mem hd;obtain ⟨j,hj⟩:=List.getElem?_of_mem he;rcases Nat.lt_trichotomy i j with h | h | h
 ·have:=ordN_between (hA i j d e h hi hj) (ordN_under h2) h1;rw [hP i j d e h hi hj] at this;cases this
 ·subst h; rw [hi] at hj; exact Option.some.inj hj
 ·have:=ordN_between (hA j i e d h hj hi) (ordN_under h1) h2;rw [hP j i e d h hj hi] at this;cases this
theorem IsF.unique {H:List Text} (hA:Asc H) (hP:Apart H) {n r s:Text} (h1:IsF H n r) (h2:IsF H n s):r=s:=by
 rcases h1 with ⟨a1,a2⟩ | ⟨a1,a2⟩
 ·rcases h2 with ⟨b1,b2⟩ | ⟨b1,b2⟩
  ·exact only_one hA hP a1 b1 a2 b2
  ·rw [b2 r a1] at a2; cases a2
 ·rcases h2 with ⟨b1,b2⟩ | ⟨b1,b2⟩
  ·rw [a2 s b1] at b2; cases b2
  ·rw [a1,b1]
theorem takeWhile_ok {α:Type} (p:α→Bool):∀ (l:List α),∀ x∈l.takeWhile p,p x=true
 | [],x,h=>by simp at h
 |a::l,x,h=>by
  rw [List.takeWhile_cons] at h;cases ha:p a
  ·rw [ha] at h; simp at h
  ·rw [ha] at h;rcases List.mem_cons.1 h with rfl | h
   ·exact ha
   ·exact takeWhile_ok p l x h
theorem takeWhile_end {α:Type} (p:α→Bool):∀ (l:List α) (x:α),l[(l.takeWhile p).length]? = some x→p x=false
 | [],x,h=>by simp at h
 |a::l,x,h=>by
  rw [List.takeWhile_cons] at h;cases ha:p a
  ·rw [ha] at h; simp at h; rw [← h]; exact ha
  ·rw [ha] at h;exact takeWhile_end p l x (by simpa using h)
theorem beh_isF {H:List Text} (hA:Asc H) (hP:Apart H) {n:Text} {k:Nat} (hk:k≤H.length) (hlow:∀ m d,m<k→H[m]? = some d→ordN d n≤0) :
  IsF H n (behAt H n (adv H n k))∧(∀ m d,m<adv H n k→H[m]? = some d→ordN d n≤0):=by
 have hal:=adv_le (n:=n) hk;have low:∀ m d,m<adv H n k→H[m]? = some d→ordN d n≤0:=fun m d hm hd=>by
  rcases Nat.lt_or_ge m k with h | h
  ·exact hlow m d h hd
  ·unfold adv at hm;have h1:(H.drop k)[m - k]? = some d:=by rw [List.getElem?_drop,show k+(m - k)=m by omega]; exact hd
   have h2:=List.takeWhile_prefix (fun c=>decide (ordN c n≤0)) (l:=H.drop k);have h3:((H.drop k).takeWhile fun c=>decide (ordN c n≤0))[m - k]? = some d:=by
    obtain ⟨r,hr⟩:=h2;rw [← hr,List.getElem?_append_left (by omega)] at h1;exact h1
   simpa using takeWhile_ok _ _ d (List.mem_of_getElem? h3)
 have high:∀ m d,adv H n k≤m→H[m]? = some d→Nm.under n d=false:=fun m d hm hd=>by
  rw [← Bool.not_eq_true];intro hu;have h1:=ordN_under hu;obtain ⟨e,he⟩:=some_of_lt (l:=H) (k:=adv H n k) (by have:=lt_of_getElem? hd; omega);have h2:ordN e n≤0:=by
   rcases Nat.lt_or_ge (adv H n k) m with h | h
   ·exact ordN_le_trans (hA _ m e d h he hd) h1
   ·obtain rfl:m=adv H n k:=by omega
    rw [he] at hd; cases hd; exact h1
  have h3:(H.drop k)[((H.drop k).takeWhile fun c=>decide (ordN c n≤0)).length]? = some e:=by
   rw [List.getElem?_drop]; exact he
  have h6:=takeWhile_end _ _ e h3;simp at h6;omega
 refine ⟨?_,low⟩;generalize adv H n k=j at *;unfold behAt;by_cases hj:j=0
 ·rw [if_pos hj];refine .inr ⟨rfl,fun d hd=>?_⟩;obtain ⟨m,hm⟩:=List.getElem?_of_mem hd;exact high m d (by omega) hm
 ·rw [if_neg hj];obtain ⟨c,hc⟩:=some_of_lt (l:=H) (k:=j - 1) (by omega);rw [hc];dsimp only;cases hu:Nm.under n c
  ·simp only [Bool.false_eq_true,if_false];refine .inr ⟨rfl,fun d hd=>?_⟩;obtain ⟨m,hm⟩:=List.getElem?_of_mem hd;rcases Nat.lt_or_ge m j with h | h
   ·rcases Nat.lt_or_ge m (j - 1) with h' | h'
    ·rw [← Bool.not_eq_true];intro hdu;have:=ordN_between (hA m (j - 1) d c h' hm hc) (low (j - 1) c (by omega) hc) hdu;rw [hP m (j - 1) d c h' hm hc] at this;cases this
    ·obtain rfl:m=j - 1:=by omega
     rw [hc] at hm;cases hm;exact hu
   ·exact high m d h hm
  ·simp only [if_true];exact .inl ⟨List.mem_of_getElem? hc,hu⟩
theorem lay_isF {C H:List Text} (hA:Asc H) (hP:Apart H) (hHC:∀ d∈H,d∈C) (hCH:∀ c∈C,∃ d∈H,Nm.under c d=true) (hne:∀ c∈C,c≠[]) {cut n:Text} {prev:Option Text}
  (hcut:match prev with | none=>cut=[] | some p=>IsF H p cut) (hbefore:∀ d∈H,ordN d n<0→∃ p,prev=some p∧ordN d p≤0) (hpn:∀ p,prev=some p→ordN p n≤0):IsF H n (layS C cut n):=by
 have key:∀ d∈H,Nm.under n d=true→d≠n→cut=d:=fun d hd hu hdn=>by
  have h1:=ordN_under hu;have h2:ordN d n<0:=by
   rcases Int.lt_or_eq_of_le h1 with h | h
   ·exact h
   ·exact absurd (ordN_zero h) hdn
  obtain ⟨p,hp,hdp⟩:=hbefore d hd h2;have h3:=ordN_between hdp (hpn p hp) hu;rw [hp] at hcut;exact hcut.unique hA hP (.inl ⟨hd,h3⟩)
 by_cases hc:cut≠[]∧Nm.under n cut=true
 ·have e:layS C cut n=cut:=by simp [layS,hc.1,hc.2]
  rw [e];refine .inl ⟨?_,hc.2⟩;cases prev with
  |none=>exact absurd hcut hc.1
  |some p =>
   rcases hcut with h | h
   ·exact h.1
   ·exact absurd h.1 hc.1
 ·have no:∀ d∈H,Nm.under n d=true→d=n:=fun d hd hu=>by
   apply Classical.byContradiction;intro hdn;have:=key d hd hu hdn;subst this;exact hc ⟨hne _ (hHC _ hd),hu⟩
  have e0:(if cut != [] && !Nm.under n cut then [] else cut)=[]:=by
   by_cases h1:cut=[]
   ·simp [h1]
   ·have:Nm.under n cut=false:=by
     rw [← Bool.not_eq_true];exact fun h=>hc ⟨h1,h⟩
    simp [h1,this]
  have e:layS C cut n=if C.contains n then n else []:=by
   simp only [layS,e0];cases C.contains n <;> rfl
  rw [e];cases hcn:C.contains n
  ·refine .inr ⟨by simp,fun d hd=>?_⟩;rw [← Bool.not_eq_true];intro hu;have:=no d hd hu;subst this;have:C.contains d=true:=by simpa using hHC d hd
   rw [hcn] at this;cases this
  ·simp only [if_true];have hn:n∈C:=by simpa using hcn
   obtain ⟨d,hd,hu⟩:=hCH n hn;have:=no d hd hu;subst this;exact .inl ⟨hd,hu⟩
theorem lay_beh {C H:List Text} (hA:Asc H) (hP:Apart H) (hHC:∀ d∈H,d∈C) (hCH:∀ c∈C,∃ d∈H,Nm.under c d=true) (hne:∀ c∈C,c≠[]) :
  ∀ (rest done:List Text) (cut:Text) (k:Nat),Asc (done++rest)→(∀ c∈C,c∈done++rest)→k≤H.length→(match done.getLast? with | none=>cut=[] | some p=>IsF H p cut)→(∀ m d,m<k→H[m]? = some d→∃ p,done.getLast? = some p∧ordN d p≤0)→layL C cut rest=behL H k rest
 | [],_,_,_,_,_,_,_,_=>rfl
 |n::rest,done,cut,k,hasc,hall,hk,hcut,hlow=>by
  have hpn:∀ p,done.getLast? = some p→ordN p n≤0:=fun p hp=>by
   have hl:0<done.length:=by cases done with | nil=>simp at hp | cons=>simp
   rw [List.getLast?_eq_getElem?] at hp;exact hasc (done.length - 1) done.length p n (by omega) (by rw [List.getElem?_append_left (by omega)]; exact hp) (by simp)
  have hbefore:∀ d∈H,ordN d n<0→∃ p,done.getLast? = some p∧ordN d p≤0:=fun d hd hdn=>by
   have:=hall d (hHC d hd);obtain ⟨i,hi⟩:=List.getElem?_of_mem this;have hnn:(done++n::rest)[done.length]? = some n:=by simp
   have hlt:i<done.length:=by
    rcases Nat.lt_trichotomy i done.length with h | h | h
    ·exact h
    ·subst h; rw [hnn] at hi; cases hi; rw [ordN_self] at hdn; omega
    ·have h1:=hasc done.length i n d h hnn hi;have h2:=ordN_neg d n;omega
   rw [List.getElem?_append_left hlt] at hi;obtain ⟨p,hp⟩:=some_of_lt (l:=done) (k:=done.length - 1) (by omega);refine ⟨p,by rw [List.getLast?_eq_getElem?]; exact hp,?_⟩;rcases Nat.lt_or_ge i (done.length - 1) with h | h
   ·exact hasc i (done.length - 1) d p h (by rw [List.getElem?_append_left hlt]; exact hi) (by rw [List.getElem?_append_left (by omega)]; exact hp)
   ·obtain rfl:i=done.length - 1:=by omega
    rw [hp] at hi; cases hi;rw [ordN_self]; omega
  have f1:=lay_isF hA hP hHC hCH hne hcut hbefore hpn
  obtain ⟨f2,f3⟩:=beh_isF hA hP (n:=n) hk (fun m d hm hd=>by
   obtain ⟨p,hp,hdp⟩:=hlow m d hm hd
   exact ordN_le_trans hdp (hpn p hp))
  have e:=f1.unique hA hP f2;simp only [layL,behL,e]
  congr 1
  have ih:=lay_beh hA hP hHC hCH hne rest (done++[n]) (behAt H n (adv H n k)) (adv H n k) (by simpa using hasc) (by simpa using hall) (adv_le hk) (by simpa using f2) (fun m d hm hd=>⟨n,by simp,f3 m d hm hd⟩);exact ih
end Go.Proofs.YthikfaephakahaaGreatDoor.P
end
