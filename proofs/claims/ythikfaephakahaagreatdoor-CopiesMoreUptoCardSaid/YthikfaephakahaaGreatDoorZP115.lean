/- The law CopiesLost: the walk. Conditions: what Go allows of the arguments. -/
import Derived.Test.YthikfaephakahaaGreatDoorZP113
set_option linter.unusedVariables false
set_option linter.unusedSimpArgs false
namespace Go.Proofs.YthikfaephakahaaGreatDoor.P
open Go Go.Eng
set_option maxRecDepth 100000
set_option maxHeartbeats 4000000
theorem UseC.sub {l:List Version} {pr:Int} {polls some:List Poll} {fin:Int} (U:UseC l pr polls fin) (h:∀ p∈some,p∈polls) (hl:some.length≤60):UseC l pr some fin:=⟨U.fits,U.few,hl,U.fin1,U.fin2,U.right,U.ver,U.host0,U.host1,fun p hp=>U.polls p (h p hp)⟩
theorem UseC.same {l:List Version} {pr:Int} {polls:List Poll} {fin:Int} (U:UseC l pr polls fin):PCalls E 21 [.sl ((spreadC l pr polls fin).map Copy.enc),.sl ((spreadC l pr polls fin).map Copy.enc)] (· = .bool true):=by
 have c5:=rsameCopies_p (spreadC l pr polls fin) (spreadC l pr polls fin) (by have:=U.len; omega) (fun x hx=>by
  obtain ⟨v,hv,e⟩:=U.zones x hx
  rw [e]; exact U.fits.lens v hv)
 rwa [decide_eq_true rfl] at c5
def lostL (pr:Int) (polls:List Poll) (k:Nat):List Poll:=(polls.drop k).reverse.filter fun p => !p.lost && !decide (p.host=pr)
theorem lostL_next {pr:Int} {polls:List Poll} {k:Nat} {p:Poll} (hp:polls[k]? = some p):lostL pr polls k=lostL pr polls (k+1)++if !p.lost && !decide (p.host=pr) then [p] else []:=by
 obtain ⟨h1,h2⟩:=List.getElem?_eq_some_iff.1 hp;rw [lostL,List.drop_eq_getElem_cons h1,h2,List.reverse_cons,List.filter_append];cases e:(!p.lost && !decide (p.host=pr)) <;> simp [lostL,e]
theorem lostL_len {pr:Int} {polls:List Poll} {k:Nat}:(lostL pr polls k).length≤polls.length :=
 Nat.le_trans (List.length_filter_le ..) (by simp)
theorem copiesLost_p (l:List Version) (pr:Int) (polls:List Poll) (fin:Int) (hg:∀ v∈l,v.Good):PCalls E 6 [.sl (l.map Version.enc),.int .i64 pr,.sl (polls.map Poll.enc),.int .i64 fin] (· = .bool true):=by
 have cu:=usable15_p l pr polls fin hg;refine eP Tryz.func6 ?_
 with_reducible refine callP_eq (head15_p) ?_
 refine gO Tryz.func6 ?_
 with_reducible refine callP_eq (cu) ?_
 refine gO Tryz.func6 ?_;cases hu:useC l pr polls fin
 ·repeat' (first | with_reducible refine cY ?_ | with_reducible refine cN ?_ | with_reducible refine caseB_split (fun _=>?_) (fun _=>?_) | refine gA Tryz.func6 ?_ | refine gB ?_ | refine gC ?_ | with_reducible rfl)
 have U:=useC_of hg hu;have hps:=U.some;have c1:=spread_p l pr fin polls U.fits (by omega);rw [U.n,U.r] at c1;refine caseB_false ?_;refine gO Tryz.func6 ?_;refine AWL.adopt 10 (37,3) (by decide) rfl ?_;(conv=>whnf);refine AWL.loop (κ:=Nat) ([10,11]++rg 27 26) (fun k=>[(11,.d (.int .i64 ((k:Int) - 1))),(10,.own 0 1)]) (fun k=>[(0,.arr 1 (37,3) ((lostL pr polls k).map Poll.enc))]) (fun k=>k≤polls.length) (fun k=>k) polls.length (Nat.le_refl _) ?_ ?_
 ·(conv=>whnf);repeat (first | exact trivial | (refine sI ?_; conv=>whnf))
  refine And.intro (by simp [lostL]) ?_;(conv=>whnf);repeat (first | exact trivial | (refine sI ?_; conv=>whnf))
  refine And.intro (congrArg (DV.int .i64) (by simp only [List.length_map]; rw [wrap64 (by omega) (by omega)])) ?_;(conv=>whnf);repeat (first | exact trivial | (refine sI ?_; conv=>whnf))
 rintro k hk IH;refine AWL.head E_ok Tryz.func6 2000 ?_;(conv=>whnf);refine caseB_split (fun h5=>?_) (fun h5=>?_)
 ·have h5:=of_decide_eq_true h5;obtain ⟨k,rfl⟩:∃ j,k=j+1:=⟨k - 1,by omega⟩;obtain ⟨p,hp⟩:=some_of_lt (l:=polls) (k:=k) (by omega);have hnx:=lostL_next (pr:=pr) hp;have hll:=lostL_len (pr:=pr) (polls:=polls) (k:=k+1);have A1:At1 (polls.map Poll.enc) (((k+1:Nat):Int) - 1) p.enc:=by
   rw [show (((k+1:Nat):Int) - 1)=(k:Int) by omega];exact at_map hp
  have hw:IntKind.i64.wrap ((((k+1:Nat):Int) - 1) - 1)=(k:Int) - 1:=by rw [wrap64 (by omega) (by omega)]; omega
  refine gO Tryz.func6 ?_;refine elemP_at (e:=p.enc) A1 rfl ?_;refine gO Tryz.func6 ?_;cases q1:p.lost
  case true =>
   rw [q1] at hnx;refine caseB_no (by decide) ?_;repeat' (first | with_reducible refine cY ?_ | with_reducible refine cN ?_ | with_reducible refine caseB_split (fun _=>?_) (fun _=>?_) | refine gA Tryz.func6 ?_ | refine gB ?_ | refine gC ?_ | with_reducible rfl)
   refine gO Tryz.func6 ?_;refine AWL.back (IH k (by omega) (by omega)) ?_;rw [hnx];(conv=>whnf);repeat (first | exact trivial | (refine sI ?_; conv=>whnf))
   refine And.intro (by simp) ?_;(conv=>whnf);repeat (first | exact trivial | (refine sI ?_; conv=>whnf))
  rw [q1] at hnx;refine caseB_yes (by decide) ?_;refine gO Tryz.func6 ?_;refine elemP_at (e:=p.enc) A1 rfl ?_;refine gO Tryz.func6 ?_;by_cases q2:p.host=pr
  ·refine caseB_no (by simpa using q2) ?_;refine gO Tryz.func6 ?_;refine AWL.back (IH k (by omega) (by omega)) ?_;rw [hnx];(conv=>whnf);repeat (first | exact trivial | (refine sI ?_; conv=>whnf))
   refine And.intro (by simp [q2]) ?_;(conv=>whnf);repeat (first | exact trivial | (refine sI ?_; conv=>whnf))
  ·refine caseB_yes (by simpa using q2) ?_;refine gO Tryz.func6 ?_;refine elemP_at (e:=p.enc) A1 rfl ?_;refine gO Tryz.func6 ?_;refine need_intro ⟨by simp; omega,by simp [DV.cells]⟩ ?_;refine gO Tryz.func6 ?_;refine AWL.back (IH k (by omega) (by omega)) ?_;rw [hnx];(conv=>whnf);repeat (first | exact trivial | (refine sI ?_; conv=>whnf))
   refine And.intro (by simp [q2,q1]) ?_;(conv=>whnf);repeat (first | exact trivial | (refine sI ?_; conv=>whnf))
 ·have hge:k=0:=by have:=of_decide_eq_false h5; omega
  subst hge;clear IH;have hL:lostL pr polls 0=polls.reverse.filter fun p => !p.lost && !decide (p.host=pr):=by rw [lostL,List.drop_zero]
  have hll:=lostL_len (pr:=pr) (polls:=polls) (k:=0)
  have U2:=U.sub (some:=lostL pr polls 0) (fun p hp=>by
   rw [hL] at hp
   exact List.mem_reverse.1 (List.mem_filter.1 hp).1) (by omega)
  have c2:=spread_p l pr fin (lostL pr polls 0) U2.fits (by omega);have e1:spreadC l pr (lostL pr polls 0) fin=spreadC l pr polls fin:=by
   rw [hL];exact (spread_same times_lost).symm
  rw [U2.n,U2.r,e1] at c2;(conv=>whnf);refine AWL.freeze 0 ?_;(conv=>whnf);refine gO Tryz.func6 ?_;refine callP_eq (c1) ?_;refine gO Tryz.func6 ?_;refine callP_eq (c2) ?_;refine gO Tryz.func6 ?_;refine caseB_true ?_;refine gO Tryz.func6 ?_;refine caseB_yes (by decide) ?_;refine gO Tryz.func6 ?_;refine caseB_yes (by decide) ?_;refine gO Tryz.func6 ?_;refine callP_eq (U.same) ?_;refine gO Tryz.func6 ?_
  with_reducible rfl
theorem copiesLost_g (l:List Version) (pr:Int) (polls:List Poll) (fin:Int) (g0:l.length≤maxLen∧∀ a∈l,Version.Good a) (g1:I64 pr) (g2:polls.length≤maxLen∧∀ a∈polls,Poll.Good a) (g3:I64 fin):PCalls E 6 [.sl (l.map Version.enc),.int .i64 pr,.sl (polls.map Poll.enc),.int .i64 fin] (· = .bool true):=copiesLost_p l pr polls fin g0.2
end Go.Proofs.YthikfaephakahaaGreatDoor.P
