/- Several texts of mine, one behind the other. Conditions: as each says. -/
import Derived.Test.YthikfaephakahaaGreatDoorZP21
import Derived.Test.YthikfaephakahaaGreatDoorZM7
import Derived.Test.YthikfaephakahaaGreatDoorZEngGG
set_option linter.unusedVariables false
set_option linter.unusedSimpArgs false
section
namespace Go.Proofs.YthikfaephakahaaGreatDoor.P
open Go Go.Eng
set_option maxRecDepth 100000
set_option maxHeartbeats 4000000
theorem cloneDatum_p (l:List DV) (hl:l.length≤2147483648) (hc:∀ e∈l,e.cells.length=3):PCalls E 113 [.sl l] (· = .sl l):=by
 by_cases h:l=[]
 ·subst h;refine PCalls.norm ?_;refine eP Tryz.func113 ?_;refine AWL.nilTest E_ok rfl rfl rfl rfl (ev_at rfl) (fun b hb=>?_);cases b
  ·refine gO Tryz.func113 ?_;refine caseB_false ?_;refine gO Tryz.func113 ?_;refine need_intro ⟨by decide,fun e he=>by cases he⟩ ?_;refine gO Tryz.func113 ?_;rfl
  ·refine gO Tryz.func113 ?_;refine caseB_true ?_;refine gO Tryz.func113 ?_;rfl
 ·refine eP Tryz.func113 ?_;refine AWL.nilTest E_ok rfl rfl rfl rfl (ev_at rfl) (fun b hb=>?_);obtain rfl:b=false:=by
   cases b
   ·rfl
   ·exact absurd (hb rfl) h
  refine gO Tryz.func113 ?_;refine caseB_false ?_;refine gO Tryz.func113 ?_;refine need_intro ⟨by simp; omega,hc⟩ ?_;refine gO Tryz.func113 ?_;rfl
theorem cloneSigned_p (l:List DV) (hl:l.length≤2147483648) (hc:∀ e∈l,e.cells.length=5):PCalls E 112 [.sl l] (· = .sl l):=by
 by_cases h:l=[]
 ·subst h;refine PCalls.norm ?_;refine eP Tryz.func112 ?_;refine AWL.nilTest E_ok rfl rfl rfl rfl (ev_at rfl) (fun b hb=>?_);cases b
  ·refine gO Tryz.func112 ?_;refine caseB_false ?_;refine gO Tryz.func112 ?_;refine need_intro ⟨by decide,fun e he=>by cases he⟩ ?_;refine gO Tryz.func112 ?_;rfl
  ·refine gO Tryz.func112 ?_;refine caseB_true ?_;refine gO Tryz.func112 ?_;rfl
 ·refine eP Tryz.func112 ?_;refine AWL.nilTest E_ok rfl rfl rfl rfl (ev_at rfl) (fun b hb=>?_);obtain rfl:b=false:=by
   cases b
   ·rfl
   ·exact absurd (hb rfl) h
  refine gO Tryz.func112 ?_;refine caseB_false ?_;refine gO Tryz.func112 ?_;refine need_intro ⟨by simp; omega,hc⟩ ?_;refine gO Tryz.func112 ?_;rfl
theorem cloneSigned_a (l:List DV) (h:l≠[]) (hl:l.length≤2147483648) (hc:∀ e∈l,e.cells.length=5):ACalls E 112 [] [.d (.sl l)] (fun a b=>a = .own 0 1∧b=[.arr 1 (81,5) l]):=by
 refine ACalls.run E_ok (fn:=Tryz.f112) Tryz.func112 (body:=Tryz.f112.body.getD .skip) rfl (by decide) 2000 rfl ?_;(conv=>whnf);refine AWL.nilTest E_ok rfl rfl rfl rfl (ev_at rfl) (fun b hb=>?_);obtain rfl:b=false:=by
  cases b
  ·rfl
  ·exact absurd (hb rfl) h
 refine gO Tryz.func112 ?_;refine caseB_false ?_;refine gO Tryz.func112 ?_;refine need_intro ⟨by simp; omega,hc⟩ ?_;refine gO Tryz.func112 ?_;exact ⟨rfl,rfl⟩
theorem cloneSig_p (l:List DV) (hl:l.length≤2147483648) (hc:∀ e∈l,e.cells.length=6):PCalls E 114 [.sl l] (· = .sl l):=by
 by_cases h:l=[]
 ·subst h;refine PCalls.norm ?_;refine eP Tryz.func114 ?_;refine AWL.nilTest E_ok rfl rfl rfl rfl (ev_at rfl) (fun b hb=>?_);cases b
  ·refine gO Tryz.func114 ?_;refine caseB_false ?_;refine gO Tryz.func114 ?_;refine need_intro ⟨by decide,fun e he=>by cases he⟩ ?_;refine gO Tryz.func114 ?_;rfl
  ·refine gO Tryz.func114 ?_;refine caseB_true ?_;refine gO Tryz.func114 ?_;rfl
 ·refine eP Tryz.func114 ?_;refine AWL.nilTest E_ok rfl rfl rfl rfl (ev_at rfl) (fun b hb=>?_);obtain rfl:b=false:=by
   cases b
   ·rfl
   ·exact absurd (hb rfl) h
  refine gO Tryz.func114 ?_;refine caseB_false ?_;refine gO Tryz.func114 ?_;refine need_intro ⟨by simp; omega,hc⟩ ?_;refine gO Tryz.func114 ?_;rfl
end Go.Proofs.YthikfaephakahaaGreatDoor.P
end
section
namespace Go.Proofs.YthikfaephakahaaGreatDoor.P
open Go Go.Eng
set_option maxRecDepth 100000
set_option maxHeartbeats 4000000
structure Zone.Short (z:Zone):Prop where
 sets:z.sets.length≤2147483648
 each:∀ s∈z.sets,s.set.data.length≤2147483648∧s.sigs.length≤2147483648
theorem zoneR_short {z:Zone} (h:zoneR z=true):z.Short:=by
 simp only [zoneR,Bool.and_eq_true] at h;obtain ⟨h1,h2,h3,h4,h5⟩:=h;obtain ⟨q1,q2,q3⟩:=oneB_sets h1;refine ⟨by omega,fun s hs=>⟨?_,?_⟩⟩
 ·have:=q2 s hs;simp only [ok1,Bool.and_eq_true] at this;have:=setOK_lens this.1;omega
 ·obtain ⟨i,hi⟩:=List.getElem?_of_mem hs;have hlt:=lt_of_getElem? hi;obtain ⟨o,ho⟩:=some_of_lt (l:=ownZ z) (k:=i) (by rw [ownZ_len]; exact hlt);have hm:(s,o)∈z.sets.zip (ownZ z):=List.mem_of_getElem? (i:=i) (by rw [List.getElem?_zip_eq_some]; exact ⟨hi,ho⟩);have h6:=List.all_eq_true.1 h5 _ hm;simp only [five1,sigsB,Bool.and_eq_true,decide_eq_true_eq] at h6;omega
theorem fewZ_of {z:Zone} (hg:z.Good) (h:fewZ z=true):z.Fits∧z.Short∧z.Lens:=by
 simp only [fewZ,Bool.and_eq_true,decide_eq_true_eq] at h;obtain ⟨h1,h2⟩:=h;rw [List.take_of_length_le (by omega)] at h1;have he:∀ s∈z.sets,s.set.data.length≤20∧s.sigs.length≤20:=fun s hs=>by
  have:=List.all_eq_true.1 h1 s hs;simp [few1] at this;omega
 refine ⟨⟨hg.1,fun s hs=>⟨((hg.2.2 s hs).1).1,by have:=he s hs; omega,fun d hd=>(((hg.2.2 s hs).1).2.2.2.2 d hd).1⟩⟩,⟨by omega,fun s hs=>by have:=he s hs; omega⟩,⟨by omega,fun s hs=>⟨by have:=he s hs; omega,by have:=he s hs; omega⟩⟩⟩
theorem sets_next {l:List Signed} {i:Nat} {x:Signed} (h:l[i]? = some x):(l.map Signed.enc).set i x.enc=l.map Signed.enc:=by
 apply List.ext_getElem?;intro j;rw [List.getElem?_set];split
 ·rename_i e;subst e;have hlt:=lt_of_getElem? h;rw [if_pos (by simpa using hlt),List.getElem?_map,h];rfl
 ·rfl
end Go.Proofs.YthikfaephakahaaGreatDoor.P
end
