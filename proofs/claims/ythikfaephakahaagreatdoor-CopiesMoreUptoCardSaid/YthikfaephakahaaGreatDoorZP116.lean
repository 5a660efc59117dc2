/- The law CopiesMore: the walk. Conditions: what Go allows of the arguments. -/
import Derived.Test.YthikfaephakahaaGreatDoorZP115
set_option linter.unusedVariables false
set_option linter.unusedSimpArgs false
namespace Go.Proofs.YthikfaephakahaaGreatDoor.P
open Go Go.Eng
set_option maxRecDepth 100000
set_option maxHeartbeats 4000000
theorem UseC.at_eq {l:List Version} {pr:Int} {polls:List Poll} {fin:Int} (U:UseC l pr polls fin) {h t:Int} (h0:0≤h) (h1:h<64) (ht:t<fin):PCalls E 25 [.sl (l.map Version.enc),.sl ((spreadC l pr polls fin).map Copy.enc),.int .i64 h,.int .i64 t] (· = .int .i64 ((srvN l (timesL l pr polls h) t:Int) - 1)):=by
 have c2:=at15_p l (spreadC l pr polls fin) h t U.fits (by have:=U.len; omega)
 rwa [at_spread U.ver.nodup U.ver.times U.polls h0 h1 ht] at c2
theorem UseC.spread {l:List Version} {pr:Int} {polls:List Poll} {fin:Int} (U:UseC l pr polls fin):PCalls E 17 [.sl (l.map Version.enc),.int .i64 pr,.sl (polls.map Poll.enc),.int .i64 fin] (· = .tup [.sl ((spreadC l pr polls fin).map Copy.enc),.int .i64 0]):=by
 have c1:=spread_p l pr fin polls U.fits (by have:=U.some; omega)
 rwa [U.n,U.r] at c1
theorem UseC.lagc {l:List Version} {pr:Int} {polls:List Poll} {fin:Int} (U:UseC l pr polls fin) {h:Int} (h0:0≤h) (h1:h<64):PCalls E 19 [.sl (l.map Version.enc),.sl ((spreadC l pr polls fin).map Copy.enc),.int .i64 h,.int .i64 fin] (· = .tup [.int .i64 (lagL l (strC l (timesL l pr polls h) fin) fin),.int .i64 0]):=by
 have c1:=lag15_p l (spreadC l pr polls fin) h fin U.fits (by have:=U.len; omega)
 rwa [U.lag h0 h1] at c1
theorem copiesMore_p (l:List Version) (pr:Int) (polls:List Poll) (m:Poll) (fin h t:Int) (hg:∀ v∈l,v.Good) (hpl:polls.length≤1048576):PCalls E 7 [.sl (l.map Version.enc),.int .i64 pr,.sl (polls.map Poll.enc),m.enc,.int .i64 fin,.int .i64 h,.int .i64 t] (· = .bool true):=by
 have cu:=usable15_p l pr polls fin hg;have cv:=usable15_p l pr (polls++[m]) fin hg;obtain ⟨mh,mt,ml⟩:=m;show PCalls E _ [.sl (l.map Version.enc),.int .i64 pr,.sl (polls.map Poll.enc),.agg [.int .i64 mh,.int .i64 mt,.bool ml],.int .i64 fin,.int .i64 h,.int .i64 t] _;refine eP Tryz.func7 ?_
 with_reducible refine callP_eq (head15_p) ?_
 refine gO Tryz.func7 ?_;refine AWL.drawG E_ok E_mixed [1,3,4] [] 2000 (by kernel_rfl) ?_;(conv=>whnf);refine GWL.run E_ok 2000 rfl rfl ?_;(conv=>whnf);refine And.intro rfl ?_;(conv=>whnf);refine GWL.run E_ok 2000 rfl rfl ?_;(conv=>whnf);refine need_intro ⟨by simp; omega,by simp [DV.cells]⟩ ?_;(conv=>whnf);refine And.intro rfl ?_;(conv=>whnf);refine GWL.run E_ok 2000 rfl rfl ?_;(conv=>whnf);refine need_intro ⟨by simp; omega,by simp [DV.cells]⟩ ?_;(conv=>whnf);refine And.intro rfl ?_;(conv=>whnf);refine GWL.run E_ok 2000 rfl rfl ?_;(conv=>whnf);refine And.intro rfl ?_;(conv=>whnf);refine GWL.run E_ok 2000 rfl rfl ?_;(conv=>whnf);refine AWL.freeze 1 ?_;(conv=>whnf);rw [show ([]++List.map Poll.enc polls++[DV.agg [DV.int IntKind.i64 mh,DV.int IntKind.i64 mt,DV.bool ml]])=(polls++[(⟨mh,mt,ml⟩:Poll)]).map Poll.enc by simp];refine gO Tryz.func7 ?_;refine callP_eq (cu) ?_;refine gO Tryz.func7 ?_;cases hu:useC l pr polls fin
 ·repeat' (first | with_reducible refine cY ?_ | with_reducible refine cN ?_ | with_reducible refine caseB_split (fun _=>?_) (fun _=>?_) | refine gA Tryz.func7 ?_ | refine gB ?_ | refine gC ?_ | with_reducible rfl)
 have U:=useC_of hg hu;refine caseB_false ?_;refine gO Tryz.func7 ?_;refine callP_eq (cv) ?_;refine gO Tryz.func7 ?_;cases hv:useC l pr (polls++[⟨mh,mt,ml⟩]) fin
 ·repeat' (first | with_reducible refine cY ?_ | with_reducible refine cN ?_ | with_reducible refine caseB_split (fun _=>?_) (fun _=>?_) | refine gA Tryz.func7 ?_ | refine gB ?_ | refine gC ?_ | with_reducible rfl)
 have V:=useC_of hg hv;refine caseB_false ?_;refine gO Tryz.func7 ?_;refine callP_eq (rhost_p h) ?_;refine gO Tryz.func7 ?_;cases hh:hostN h
 ·repeat' (first | with_reducible refine cY ?_ | with_reducible refine cN ?_ | with_reducible refine caseB_split (fun _=>?_) (fun _=>?_) | refine gA Tryz.func7 ?_ | refine gB ?_ | refine gC ?_ | with_reducible rfl)
 have hh2:0≤h∧h<64:=by simpa [hostN] using hh
 refine caseB_false ?_;refine gO Tryz.func7 ?_;refine caseB_split (fun q1=>?_) (fun q1=>?_)
 ·repeat' (first | with_reducible refine cY ?_ | with_reducible refine cN ?_ | with_reducible refine caseB_split (fun _=>?_) (fun _=>?_) | refine gA Tryz.func7 ?_ | refine gB ?_ | refine gC ?_ | with_reducible rfl)
 refine gO Tryz.func7 ?_;refine caseB_split (fun q2=>?_) (fun q2=>?_)
 ·repeat' (first | with_reducible refine cY ?_ | with_reducible refine cN ?_ | with_reducible refine caseB_split (fun _=>?_) (fun _=>?_) | refine gA Tryz.func7 ?_ | refine gB ?_ | refine gC ?_ | with_reducible rfl)
 have q1:=of_decide_eq_false q1;have q2:=of_decide_eq_false q2;have hsub:=fun s=>times_more (l:=l) (pr:=pr) (polls:=polls) (p:=⟨mh,mt,ml⟩) h s;have hle:=lag_sub U.ver.sorted U.ver.pos (show 0<fin by have:=U.fin1; omega) (times_in U.ver.times U.polls) (times_in V.ver.times V.polls) hsub;have hsv:=srv_sub (l:=l) (t:=t) hsub;refine gO Tryz.func7 ?_;refine callP_eq (U.spread) ?_;refine gO Tryz.func7 ?_;refine callP_eq (V.spread) ?_;refine gO Tryz.func7 ?_;refine callP_eq (U.lagc hh2.1 hh2.2) ?_;refine gO Tryz.func7 ?_;refine callP_eq (V.lagc hh2.1 hh2.2) ?_;refine gO Tryz.func7 ?_;refine caseB_yes (by decide) ?_;refine gO Tryz.func7 ?_;refine caseB_yes (by decide) ?_;refine gO Tryz.func7 ?_;refine caseB_yes (by decide) ?_;refine gO Tryz.func7 ?_;refine caseB_yes (by decide) ?_;refine gO Tryz.func7 ?_;refine caseB_yes (by decide) ?_;refine gO Tryz.func7 ?_;refine caseB_yes (decide_eq_true hle) ?_;refine gO Tryz.func7 ?_;refine callP_eq (U.at_eq hh2.1 hh2.2 (show t<fin by omega)) ?_;refine gO Tryz.func7 ?_;refine callP_eq (V.at_eq hh2.1 hh2.2 (show t<fin by omega)) ?_;refine gO Tryz.func7 ?_;refine caseB_yes (decide_eq_true (by omega)) ?_;refine gO Tryz.func7 ?_;refine callP_eq (U.at_eq hh2.1 hh2.2 (show t<fin by omega)) ?_;refine gO Tryz.func7 ?_;simp;omega
theorem copiesMore_g (l:List Version) (pr:Int) (polls:List Poll) (m:Poll) (fin h t:Int) (g0:l.length≤maxLen∧∀ a∈l,Version.Good a) (g1:I64 pr) (g2:polls.length≤maxLen∧∀ a∈polls,Poll.Good a) (g3:m.Good) (g4:I64 fin) (g5:I64 h) (g6:I64 t) (b0:l.length≤1048576) (b2:polls.length≤1048576):PCalls E 7 [.sl (l.map Version.enc),.int .i64 pr,.sl (polls.map Poll.enc),m.enc,.int .i64 fin,.int .i64 h,.int .i64 t] (· = .bool true):=copiesMore_p l pr polls m fin h t g0.2 b2
end Go.Proofs.YthikfaephakahaaGreatDoor.P
