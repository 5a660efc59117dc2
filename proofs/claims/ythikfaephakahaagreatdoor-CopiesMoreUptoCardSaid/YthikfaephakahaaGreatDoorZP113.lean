/- The law CopiesMatchesReference: the walk. Conditions: what Go allows of the arguments. -/
import Derived.Test.YthikfaephakahaaGreatDoorZP106
set_option linter.unusedVariables false
set_option linter.unusedSimpArgs false
namespace Go.Proofs.YthikfaephakahaaGreatDoor.P
open Go Go.Eng
set_option maxRecDepth 100000
set_option maxHeartbeats 4000000
theorem fewVer_lens {l:List Version} {polls:List Poll} (hg:∀ v∈l,v.Good) (h:fewVer l polls=true):∀ v∈l,v.zone.Lens:=by
 simp only [fewVer,Bool.and_eq_true,decide_eq_true_eq] at h;obtain ⟨h1,h2,h3⟩:=h;rw [List.take_of_length_le (by omega)] at h1;exact fun v hv=>(fewZ_of (hg v hv).2 (List.all_eq_true.1 h1 v hv)).2.2
theorem spreadR_zones {l:List Version} {pr:Int} {polls:List Poll} {fin:Int}:∀ c∈spreadR l pr polls fin,∃ v∈l,c.zone=v.zone:=fun c hc=>by
 unfold spreadR at hc;split at hc
 case isFalse=>simp at hc
 rename_i h0;have h1:(endB fin&&(rightB l fin&&(hostN pr&&pollsB polls fin)))=true:=by
  unfold spreadN at h0;cases e:(endB fin&&(rightB l fin&&(hostN pr&&pollsB polls fin)))
  ·rw [e] at h0; simp at h0
  ·rfl
 simp only [Bool.and_eq_true] at h1;obtain ⟨-,h2,-,h3⟩:=h1;have V:=right_of h2;simp only [pollsB,Bool.and_eq_true] at h3;obtain ⟨_,_,s,hs,e⟩:=spread_mem.1 hc;obtain ⟨_,_,_,r4,r5⟩:=str_range (times_in V.times (List.all_eq_true.1 h3.2)) hs;obtain ⟨v,hv,e2⟩:=zoneA_mem r4 r5;exact ⟨v,hv,by rw [e]; exact e2⟩
theorem spreadR_len {l:List Version} {pr:Int} {polls:List Poll} {fin:Int} (h:l.length≤12):(spreadR l pr polls fin).length≤768:=by
 unfold spreadR;split
 ·have h1:=spread_len (l:=l) (pr:=pr) (polls:=polls) (fin:=fin) 64;show (spreadTo l pr polls fin 64).length≤768;omega
 ·simp
theorem copiesMatches_p (l:List Version) (pr:Int) (polls:List Poll) (c:List Copy) (h fin:Int) (hg:∀ v∈l,v.Good):PCalls E 3 [.sl (l.map Version.enc),.int .i64 pr,.sl (polls.map Poll.enc),.sl (c.map Copy.enc),.int .i64 h,.int .i64 fin] (· = .bool true):=by
 refine eP Tryz.func3 ?_
 with_reducible refine callP_eq (head15_p) ?_
 refine gO Tryz.func3 ?_
 with_reducible refine callP_eq (rfew15_p l polls) ?_
 refine gO Tryz.func3 ?_;cases hf:fewVer l polls
 ·repeat' (first | with_reducible refine cY ?_ | with_reducible refine cN ?_ | with_reducible refine caseB_split (fun _=>?_) (fun _=>?_) | refine gA Tryz.func3 ?_ | refine gB ?_ | refine gC ?_ | with_reducible rfl)
 obtain ⟨f1,f2,f3⟩:=fewVer_of hg hf;have hz:=fewVer_lens hg hf;refine caseB_false ?_;refine gO Tryz.func3 ?_;refine caseB_split (fun h5=>?_) (fun h5=>?_)
 ·refine gO Tryz.func3 ?_
  with_reducible rfl
 have hc:c.length≤60:=by have:=of_decide_eq_false h5; simp at this; omega
 have c5:=rsameCopies_p (spreadR l pr polls fin) (spreadR l pr polls fin) (by have:=spreadR_len (pr:=pr) (polls:=polls) (fin:=fin) f2; omega) (fun x hx=>by
  obtain ⟨v,hv,e⟩:=spreadR_zones x hx
  rw [e]; exact hz v hv)
 rw [decide_eq_true rfl] at c5;have c1:=spread_p l pr fin polls f1 (by omega);have c2:=rspread_p l pr fin polls f1 (by omega);have c3:=lag15_p l c h fin f1 (by omega);have c4:=rlag_p l c h fin f1 (by omega);refine gO Tryz.func3 ?_;refine callP_eq (c1) ?_;refine gO Tryz.func3 ?_;refine callP_eq (c2) ?_;refine gO Tryz.func3 ?_;refine callP_eq (c3) ?_;refine gO Tryz.func3 ?_;refine callP_eq (c4) ?_;refine gO Tryz.func3 ?_;refine caseB_true ?_;refine gO Tryz.func3 ?_;refine callP_eq (c5) ?_;refine gO Tryz.func3 ?_;refine caseB_true ?_;refine gO Tryz.func3 ?_;refine caseB_yes (by simp) ?_;refine gO Tryz.func3 ?_;refine caseB_yes (by simp) ?_;refine gO Tryz.func3 ?_;simp
theorem copiesMatches_g (l:List Version) (pr:Int) (polls:List Poll) (c:List Copy) (h fin:Int) (g0:l.length≤maxLen∧∀ a∈l,Version.Good a) (g1:I64 pr) (g2:polls.length≤maxLen∧∀ a∈polls,Poll.Good a) (g3:c.length≤maxLen∧∀ a∈c,Copy.Good a) (g4:I64 h) (g5:I64 fin):PCalls E 3 [.sl (l.map Version.enc),.int .i64 pr,.sl (polls.map Poll.enc),.sl (c.map Copy.enc),.int .i64 h,.int .i64 fin] (· = .bool true):=copiesMatches_p l pr polls c h fin g0.2
end Go.Proofs.YthikfaephakahaaGreatDoor.P
