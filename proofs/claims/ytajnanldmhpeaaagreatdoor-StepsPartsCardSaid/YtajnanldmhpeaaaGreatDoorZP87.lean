/- The law StepsParts: the walk. Conditions: what Go allows of the arguments. -/
import Derived.Test.YtajnanldmhpeaaaGreatDoorZP86
set_option linter.unusedVariables false
set_option linter.unusedSimpArgs false
namespace Go.Proofs.YtajnanldmhpeaaaGreatDoor.P
open Go Go.Eng
set_option maxRecDepth 100000
set_option maxHeartbeats 4000000
theorem Use35.sub {h:History} {l m:List Step} (U:Use35 h l) (hs:m.Sublist l):Use35 h m :=
 ⟨validS_sub U.valid hs,U.hist,U.hf,U.hk1,U.hk2,U.hl,⟨fun s h=>U.ls.each s (hs.subset h),by have:=hs.length_le; have:=U.ll; omega⟩,Nat.le_trans hs.length_le U.ll,
  fun s h=>U.lsh s (hs.subset h),fun s h=>U.lle s (hs.subset h),fun s h=>U.puts s (hs.subset h)⟩
theorem stepsParts_p (h:History) (l:List Step) (many t:Int) (hg:h.Good) (hlg:∀ s∈l,s.Good) (hm:U8 many):PCalls E 9 [h.enc,.sl (l.map Step.enc),.int .u8 many,.int .i64 t] (· = .bool true):=by
 refine eP Tryz.func9 ?_
 with_reducible refine callP_eq (head35_p) ?_
 refine gO Tryz.func9 ?_
 with_reducible refine callP_eq (usable35_p h l hg hlg) ?_
 refine gO Tryz.func9 ?_;cases hu:useB h l
 ·repeat' (first | with_reducible refine cY ?_ | with_reducible refine cN ?_ | with_reducible refine caseB_split (fun _=>?_) (fun _=>?_) | refine gA Tryz.func9 ?_ | refine gB ?_ | refine gC ?_ | with_reducible rfl)
 have U:=use35_of hg hlg hu;have hk:=U.hk1;have hll:=U.ll;refine caseB_false ?_;refine gO Tryz.func9 ?_;have hw:IntKind.i64.wrap (((l.map Step.enc).length:Int)+1)=(l.length:Int)+1:=by rw [List.length_map,wrap64 (by omega) (by omega)]
 refine need_intro (by rw [hw]; omega) ?_;obtain ⟨m1,m2⟩:=hm;have hw2:IntKind.i64.wrap many=many:=wrap64 (by omega) (by omega);obtain ⟨K,hK,hKl⟩:∃ K:Nat,divI .rem .i64 (IntKind.i64.wrap many) (IntKind.i64.wrap (((l.map Step.enc).length:Int)+1))=(K:Int)∧K≤l.length:=by
  rw [hw,hw2];refine ⟨(many % ((l.length:Int)+1)).toNat,?_,?_⟩
  ·simp only [divI];rw [Int.tmod_eq_emod_of_nonneg m1];have:=Int.emod_nonneg many (b:=(l.length:Int)+1) (by omega);omega
  ·have:=Int.emod_lt_of_pos many (b:=(l.length:Int)+1) (by omega);omega
 rw [hK];have c1:=apply_p h l U.hf (by omega) U.ls;have UT:=U.sub (List.take_sublist K l);have UD:=U.sub (List.drop_sublist K l);have c2:=apply_p h (l.take K) U.hf (by omega) UT.ls;refine gO Tryz.func9 ?_;refine callP_eq (c1) ?_;refine gO Tryz.func9 ?_;refine AWL.drawA E_ok E_mixed 8 2000 (by kernel_rfl) ?_;(conv=>whnf);have hcl:∀ e∈l.map Step.enc,e.cells.length=2:=fun e h=>by
  obtain ⟨x,_,rfl⟩:=List.mem_map.1 h;rfl
 have hE:List.drop ((none:Option Int).getD 0).toNat (List.take ((some ((K:Nat):Int)).getD (((l.map Step.enc).length:Nat):Int)).toNat (l.map Step.enc))=(l.take K).map Step.enc:=by
  simp [List.map_take]
 refine need_intro ⟨by simp,by simp,by simp; omega,hcl⟩ ?_;rw [hE];refine gD ?_;refine callP1_eq (c2) ?_;refine gD ?_;refine gS ?_;refine gO Tryz.func9 ?_;have z1:=applyN_two U.valid;have z2:=applyN_two UT.valid;by_cases h1:applyN h l=0
 case neg =>
  rw [z1.resolve_left h1];rcases z2 with z2 | z2;all_goals
   rw [z2];repeat' (first | with_reducible refine cY ?_ | with_reducible refine cN ?_ | with_reducible refine caseB_split (fun _=>?_) (fun _=>?_) | refine gA Tryz.func9 ?_ | refine gB ?_ | refine gC ?_ | with_reducible rfl)
   all_goals first | rfl | (exfalso; simp_all; done)
 by_cases h2:applyN h (l.take K)=0
 case neg =>
  rw [h1,z2.resolve_left h2];repeat' (first | with_reducible refine cY ?_ | with_reducible refine cN ?_ | with_reducible refine caseB_split (fun _=>?_) (fun _=>?_) | refine gA Tryz.func9 ?_ | refine gB ?_ | refine gC ?_ | with_reducible rfl)
  all_goals first | rfl | (exfalso; simp_all; done)
 rw [h1,h2];refine caseB_no (by decide) ?_;refine gO Tryz.func9 ?_;refine caseB_no (by decide) ?_;obtain ⟨p1,p2⟩:=apply_parts h1 h2;have hx1:=applyH_zero h1;have hx2:=applyH_zero h2;have f1:=apply_fits2 U;have f2:=apply_fits2 UT;have L1:=apply_lens2 U;have L2:=apply_lens2 UT;have c3:=apply_p (applyH h (l.take K)) (l.drop K) f2 L2.copies UD.ls;rw [p1,p2] at c3;have s1:=rsame35_p (applyH h l) (applyH h l) L1;rw [decide_eq_true rfl] at s1;have hE2:List.drop ((some ((K:Nat):Int)).getD 0).toNat (List.take ((none:Option Int).getD (((l.map Step.enc).length:Nat):Int)).toNat (l.map Step.enc))=(l.drop K).map Step.enc:=by
  show List.drop K (List.take ((l.map Step.enc).length) (l.map Step.enc))=_;rw [List.take_length,List.map_drop]
 refine gO Tryz.func9 ?_;refine AWL.drawA E_ok E_mixed 8 2000 (by kernel_rfl) ?_;(conv=>whnf);refine need_intro ⟨by simp,by simp; omega,by simp,hcl⟩ ?_;rw [hE2];refine gD ?_;refine callP1_eq (c3) ?_;refine gD ?_;refine gS ?_;refine gO Tryz.func9 ?_;refine caseB_no (by decide) ?_;refine gO Tryz.func9 ?_;refine callP_eq (s1) ?_;refine gO Tryz.func9 ?_;refine caseB_false ?_;refine gO Tryz.func9 ?_;refine caseB_split (fun t1=>?_) (fun t1=>?_)
 ·repeat' (first | with_reducible refine cY ?_ | with_reducible refine cN ?_ | with_reducible refine caseB_split (fun _=>?_) (fun _=>?_) | refine gA Tryz.func9 ?_ | refine gB ?_ | refine gC ?_ | with_reducible rfl)
 have t1:0≤t:=by simpa using t1
 refine gO Tryz.func9 ?_;refine caseB_split (fun t2=>?_) (fun t2=>?_)
 ·repeat' (first | with_reducible refine cY ?_ | with_reducible refine cN ?_ | with_reducible refine caseB_split (fun _=>?_) (fun _=>?_) | refine gA Tryz.func9 ?_ | refine gB ?_ | refine gC ?_ | with_reducible rfl)
 have t2:t<h.fin:=by simpa using t2
 have n1:atN (applyH h l) t=0:=atN_zero.2 ⟨apply_valid h1,t1,by rw [hx1]; exact t2⟩;have n2:atN (applyH h (l.take K)) t=0:=atN_zero.2 ⟨apply_valid h2,t1,by rw [hx2]; exact t2⟩;have e1:atW (applyH h l) t=⟨h.hosts,servedL (runS h.fin h.copies l) t,h.anchor,h.hints⟩:=by rw [atW,if_pos n1,hx1]
 have e2:atW (applyH h (l.take K)) t=⟨h.hosts,servedL (runS h.fin h.copies (l.take K)) t,h.anchor,h.hints⟩:=by rw [atW,if_pos n2,hx2]
 have c4:=at_p (applyH h l) t f1 L1.copies;have c5:=at_p (applyH h (l.take K)) t f2 L2.copies;rw [n1,e1] at c4;rw [n2,e2] at c5
 have c6:=rsameWorld_p ⟨h.hosts,servedL (runS h.fin h.copies l) t,h.anchor,h.hints⟩ ⟨h.hosts,servedL (runS h.fin h.copies l) t,h.anchor,h.hints⟩ ⟨U.hl.hosts,by
   have h1:=L1.copies;rw [hx1] at h1;have h2:=served_len (cs:=runS h.fin h.copies l) (t:=t);exact Nat.le_trans h2 h1,U.hl.hints,U.hl.anchor,fun p hp=>by
   obtain ⟨c,hc,_,_,rfl⟩:=served_mem hp;have h1:=L1.zones;rw [hx1] at h1;exact h1 c hc⟩ (by
   have h1:=L1.copies;rw [hx1] at h1;have h2:=served_len (cs:=runS h.fin h.copies l) (t:=t)
   exact Nat.le_trans h2 h1)
 rw [sameWB_refl] at c6;have hps:=parts_served (k:=K) (t:=t) U.valid t2;refine gO Tryz.func9 ?_;refine caseB_split (fun t3=>?_) (fun t3=>?_)
 ·have hlt:K<l.length:=by simpa using t3
  obtain ⟨x,hx⟩:=some_of_lt hlt;refine gO Tryz.func9 ?_;refine elemP_at (e:=x.enc) (at_map hx) rfl ?_;refine gO Tryz.func9 ?_;refine caseB_split (fun t4=>?_) (fun t4=>?_)
  ·repeat' (first | with_reducible refine cY ?_ | with_reducible refine cN ?_ | with_reducible refine caseB_split (fun _=>?_) (fun _=>?_) | refine gA Tryz.func9 ?_ | refine gB ?_ | refine gC ?_ | with_reducible rfl)
  have t4:t<x.time:=by simpa using t4
  rw [← hps (fun s hs=>by rw [hx] at hs; obtain rfl:=Option.some.inj hs; exact t4)] at c5;refine gO Tryz.func9 ?_;refine callP_eq (c4) ?_;refine gO Tryz.func9 ?_;refine callP_eq (c5) ?_;refine gO Tryz.func9 ?_;refine caseB_true ?_;refine gO Tryz.func9 ?_;refine caseB_yes (by decide) ?_;refine gO Tryz.func9 ?_;refine caseB_yes (by decide) ?_;refine gO Tryz.func9 ?_;refine callP_eq (c6) ?_;refine gO Tryz.func9 ?_
  with_reducible rfl
 ·have hge:l.length≤K:=by simpa using t3
  rw [← hps (fun s hs=>by rw [List.getElem?_eq_none hge] at hs; cases hs)] at c5;refine gO Tryz.func9 ?_;refine caseB_false ?_;refine gO Tryz.func9 ?_;refine callP_eq (c4) ?_;refine gO Tryz.func9 ?_;refine callP_eq (c5) ?_;refine gO Tryz.func9 ?_;refine caseB_true ?_;refine gO Tryz.func9 ?_;refine caseB_yes (by decide) ?_;refine gO Tryz.func9 ?_;refine caseB_yes (by decide) ?_;refine gO Tryz.func9 ?_;refine callP_eq (c6) ?_;refine gO Tryz.func9 ?_
  with_reducible rfl
theorem stepsParts_g (h:History) (l:List Step) (many t:Int) (g0:h.Good) (g1:l.length≤maxLen∧∀ a∈l,Step.Good a) (g2:U8 many) (_:I64 t):PCalls E 9 [h.enc,.sl (l.map Step.enc),.int .u8 many,.int .i64 t] (· = .bool true):=stepsParts_p h l many t g0 g1.2 g2
end Go.Proofs.YtajnanldmhpeaaaGreatDoor.P
