/- The law CopiesTimes: the walk. Conditions: what Go allows of the arguments. -/
import Derived.Test.YthikfaephakahaaGreatDoorZP106
set_option linter.unusedVariables false
set_option linter.unusedSimpArgs false
namespace Go.Proofs.YthikfaephakahaaGreatDoor.P
open Go Go.Eng
set_option maxRecDepth 100000
set_option maxHeartbeats 4000000
theorem copiesTimes_p (l:List Version) (pr:Int) (polls:List Poll) (fin h t:Int) (hg:∀ v∈l,v.Good):PCalls E 4 [.sl (l.map Version.enc),.int .i64 pr,.sl (polls.map Poll.enc),.int .i64 fin,.int .i64 h,.int .i64 t] (· = .bool true):=by
 have cu:=usable15_p l pr polls fin hg;refine eP Tryz.func4 ?_
 with_reducible refine callP_eq (head15_p) ?_
 refine gO Tryz.func4 ?_
 with_reducible refine callP_eq (cu) ?_
 refine gO Tryz.func4 ?_;cases hu:useC l pr polls fin
 ·repeat' (first | with_reducible refine cY ?_ | with_reducible refine cN ?_ | with_reducible refine caseB_split (fun _=>?_) (fun _=>?_) | refine gA Tryz.func4 ?_ | refine gB ?_ | refine gC ?_ | with_reducible rfl)
 have U:=useC_of hg hu;refine caseB_false ?_;refine gO Tryz.func4 ?_
 with_reducible refine callP_eq (rhost_p h) ?_
 refine gO Tryz.func4 ?_;cases hh:hostN h
 ·repeat' (first | with_reducible refine cY ?_ | with_reducible refine cN ?_ | with_reducible refine caseB_split (fun _=>?_) (fun _=>?_) | refine gA Tryz.func4 ?_ | refine gB ?_ | refine gC ?_ | with_reducible rfl)
 have hh2:0≤h∧h<64:=by simpa [hostN] using hh
 refine caseB_false ?_;refine gO Tryz.func4 ?_;refine caseB_split (fun q1=>?_) (fun q1=>?_)
 ·repeat' (first | with_reducible refine cY ?_ | with_reducible refine cN ?_ | with_reducible refine caseB_split (fun _=>?_) (fun _=>?_) | refine gA Tryz.func4 ?_ | refine gB ?_ | refine gC ?_ | with_reducible rfl)
 refine gO Tryz.func4 ?_;refine caseB_split (fun q2=>?_) (fun q2=>?_)
 ·repeat' (first | with_reducible refine cY ?_ | with_reducible refine cN ?_ | with_reducible refine caseB_split (fun _=>?_) (fun _=>?_) | refine gA Tryz.func4 ?_ | refine gB ?_ | refine gC ?_ | with_reducible rfl)
 have q1:=of_decide_eq_false q1;have q2:=of_decide_eq_false q2;have c1:=spread_p l pr fin polls U.fits (by have:=U.some; omega);rw [U.n,U.r] at c1;have hat:=at_spread (pr:=pr) (polls:=polls) U.ver.nodup U.ver.times U.polls hh2.1 hh2.2 (show t<fin by omega);have c2:=at15_p l (spreadC l pr polls fin) h t U.fits (by have:=U.len; omega);rw [hat] at c2;have hlen:=U.fits.len;have hps:=U.some;have c3:=fun s=>rnewest_p l s U.ver.sorted hlen;refine gO Tryz.func4 ?_;refine callP_eq (c1) ?_;refine gO Tryz.func4 ?_;refine AWL.loop (κ:=Nat) ([16,18]++rg 52 24) (fun k=>[(52,.d (.int .i64 k)),(16,.d (.int .i64 (lastT h t (polls.take k))))]) (fun _=>[]) (fun k=>k≤polls.length) (fun k=>polls.length - k) 0 (Nat.zero_le _) ?_ ?_
 ·(conv=>whnf);repeat (first | exact trivial | (refine sI ?_; conv=>whnf))
  refine And.intro rfl ?_;(conv=>whnf);repeat (first | exact trivial | (refine sI ?_; conv=>whnf))
 rintro k hk IH;refine AWL.head E_ok Tryz.func4 2000 ?_;(conv=>whnf);refine caseB_split (fun h5=>?_) (fun h5=>?_)
 ·have hlt:k<polls.length:=by simpa using h5
  obtain ⟨p,hp⟩:=some_of_lt hlt;have hnx:=lastT_next (h:=h) (t:=t) hp;have skip:lastQ h t p=false→lastT h t (polls.take (k+1))=lastT h t (polls.take k):=fun e=>by rw [hnx,e]; rfl
  refine gO Tryz.func4 ?_;refine elemP_at (e:=p.enc) (at_map hp) rfl ?_;refine gO Tryz.func4 ?_;refine caseB_split (fun q3=>?_) (fun q3=>?_)
  case refine_2 =>
   have:=of_decide_eq_false q3;repeat' (first | with_reducible refine cY ?_ | with_reducible refine cN ?_ | with_reducible refine caseB_split (fun _=>?_) (fun _=>?_) | refine gA Tryz.func4 ?_ | refine gB ?_ | refine gC ?_ | with_reducible rfl)
   refine gO Tryz.func4 ?_;refine AWL.back (IH (k+1) (by omega) (by omega)) ?_;(conv=>whnf);repeat (first | exact trivial | (refine sI ?_; conv=>whnf))
   refine And.intro (congrArg (DV.int .i64) (skip (by simp [lastQ,this])).symm) ?_;(conv=>whnf);repeat (first | exact trivial | (refine sI ?_; conv=>whnf))
  refine gO Tryz.func4 ?_;cases q4:p.lost
  case true =>
   refine caseB_no (by decide) ?_;repeat' (first | with_reducible refine cY ?_ | with_reducible refine cN ?_ | with_reducible refine caseB_split (fun _=>?_) (fun _=>?_) | refine gA Tryz.func4 ?_ | refine gB ?_ | refine gC ?_ | with_reducible rfl)
   refine gO Tryz.func4 ?_;refine AWL.back (IH (k+1) (by omega) (by omega)) ?_;(conv=>whnf);repeat (first | exact trivial | (refine sI ?_; conv=>whnf))
   refine And.intro (congrArg (DV.int .i64) (skip (by simp [lastQ,q4])).symm) ?_;(conv=>whnf);repeat (first | exact trivial | (refine sI ?_; conv=>whnf))
  refine caseB_yes (by decide) ?_;refine gO Tryz.func4 ?_;refine caseB_split (fun q5=>?_) (fun q5=>?_)
  case refine_2 =>
   have:=of_decide_eq_false q5;refine gO Tryz.func4 ?_;refine AWL.back (IH (k+1) (by omega) (by omega)) ?_;(conv=>whnf);repeat (first | exact trivial | (refine sI ?_; conv=>whnf))
   refine And.intro (congrArg (DV.int .i64) (skip (by simp [lastQ]; omega)).symm) ?_;(conv=>whnf);repeat (first | exact trivial | (refine sI ?_; conv=>whnf))
  have e3:=of_decide_eq_true q3;have e5:=of_decide_eq_true q5;refine gO Tryz.func4 ?_;refine AWL.maxK rfl rfl (ev_at rfl) (ev_at rfl) ?_;refine gO Tryz.func4 ?_;refine AWL.back (IH (k+1) (by omega) (by omega)) ?_;(conv=>whnf);repeat (first | exact trivial | (refine sI ?_; conv=>whnf))
  refine And.intro (congrArg (DV.int .i64) (by rw [hnx,if_pos (by simp [lastQ,e3,q4,e5])])) ?_;(conv=>whnf);repeat (first | exact trivial | (refine sI ?_; conv=>whnf))
 have hge:polls.length≤k:=by simpa using h5
 rw [List.take_of_length_le hge];clear IH;refine gO Tryz.func4 ?_;refine callP_eq (c3 (lastT h t polls)) ?_;refine gO Tryz.func4 ?_;by_cases hpr:h=pr
 ·refine caseB_yes (by simpa using hpr) ?_;refine gO Tryz.func4 ?_;refine callP_eq (c3 t) ?_;refine gO Tryz.func4 ?_;refine caseB_yes (by decide) ?_;refine gO Tryz.func4 ?_;refine caseB_yes (by decide) ?_;refine gO Tryz.func4 ?_;refine callP_eq (c2) ?_;refine gO Tryz.func4 ?_;rw [timesL,if_pos hpr,srv_prim U.ver.sorted];simp
 ·refine caseB_no (by simpa using hpr) ?_;refine gO Tryz.func4 ?_;refine caseB_yes (by decide) ?_;refine gO Tryz.func4 ?_;refine caseB_yes (by decide) ?_;refine gO Tryz.func4 ?_;refine callP_eq (c2) ?_;refine gO Tryz.func4 ?_;rw [srv_poll hpr (fun v hv=>(U.ver.times v hv).1)];simp
theorem copiesTimes_g (l:List Version) (pr:Int) (polls:List Poll) (fin h t:Int) (g0:l.length≤maxLen∧∀ a∈l,Version.Good a) (g1:I64 pr) (g2:polls.length≤maxLen∧∀ a∈polls,Poll.Good a) (g3:I64 fin) (g4:I64 h) (g5:I64 t):PCalls E 4 [.sl (l.map Version.enc),.int .i64 pr,.sl (polls.map Poll.enc),.int .i64 fin,.int .i64 h,.int .i64 t] (· = .bool true):=copiesTimes_p l pr polls fin h t g0.2
end Go.Proofs.YthikfaephakahaaGreatDoor.P
