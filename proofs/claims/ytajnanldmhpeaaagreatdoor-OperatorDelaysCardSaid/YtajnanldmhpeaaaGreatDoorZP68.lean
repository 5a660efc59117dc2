/- Contracts by the engine: package operator: Take. Conditions: lengths that Go allows. -/
import Derived.Test.YtajnanldmhpeaaaGreatDoorZO3
set_option linter.unusedVariables false
set_option linter.unusedSimpArgs false
namespace Go.Proofs.YtajnanldmhpeaaaGreatDoor.P
open Go Go.Eng
set_option maxRecDepth 100000
set_option maxHeartbeats 4000000
theorem takeF1_a (r1 r2 r3 r4 t:Int):ACalls E 55 [.cells [.d (.int .i64 r1),.d (.int .i64 r2),.d (.int .i64 r3),.d (.int .i64 r4)],.cells [.d (.int .i64 t)]] [.ptr 0 0,.ptr 1 0] (fun a b=>a = .d (.int .i64 (IntKind.i64.wrap (r3 - t)))∧b=[.cells [.d (.int .i64 r1),.d (.int .i64 r2),.d (.int .i64 r3),.d (.int .i64 r4)],.cells [.d (.int .i64 t)]]):=by
 refine ACalls.run E_ok (fn:=Tryz.f55) Tryz.func55 (body:=Tryz.f55.body.getD .skip) rfl (by decide) 2000 rfl ?_;(conv=>whnf);exact ⟨rfl,rfl⟩
theorem takeF2_a (r1 r2 r3 r4:Int):ACalls E 56 [.cells [.d (.int .i64 r1),.d (.int .i64 r2),.d (.int .i64 r3),.d (.int .i64 r4)]] [.ptr 0 0] (fun a b=>a = .d (.int .i64 r4)∧b=[.cells [.d (.int .i64 r1),.d (.int .i64 r2),.d (.int .i64 r3),.d (.int .i64 r4)]]):=by
 refine ACalls.run E_ok (fn:=Tryz.f56) Tryz.func56 (body:=Tryz.f56.body.getD .skip) rfl (by decide) 2000 rfl ?_;(conv=>whnf);exact ⟨rfl,rfl⟩
theorem takeF3_p:PCalls E 57 [] (· = .int .i64 0):=by
 refine eP Tryz.func57 ?_
 with_reducible rfl
theorem takeF4_a (r1 r2 r3 r4 t:Int):ACalls E 58 [.cells [.d (.int .i64 r1),.d (.int .i64 r2),.d (.int .i64 r3),.d (.int .i64 r4)],.cells [.d (.int .i64 t)]] [.ptr 0 0,.ptr 1 0] (fun a b=>a = .d (.int .i64 (IntKind.i64.wrap (IntKind.i64.wrap (r3+r4) - t)))∧b=[.cells [.d (.int .i64 r1),.d (.int .i64 r2),.d (.int .i64 r3),.d (.int .i64 r4)],.cells [.d (.int .i64 t)]]):=by
 refine ACalls.run E_ok (fn:=Tryz.f58) Tryz.func58 (body:=Tryz.f58.body.getD .skip) rfl (by decide) 2000 rfl ?_;(conv=>whnf);exact ⟨rfl,rfl⟩
theorem take_p (h:History) (p:Progress) (r:Report) (hf:h.Fits) (hk1:h.copies.length≤1000000) (hs:Steps.Fits p.steps) (he:∀ s∈p.steps,s.stage.puts.length≤1000000∧∀ x∈s.stage.puts,x.zone.Short):PCalls E 19 [h.enc,p.enc,r.enc] (· = PE.enc (takeR h p r)):=by
 have hv0:=valid42_p h p hf hk1 hs;have hr0:=right_p h r;refine PCalls.norm ?_;by_cases hv:validP h p=true
 case neg =>
  have hv:validP h p=false:=by simpa using hv
  have e:takeR h p r=(zeroP,1):=by simp [takeR,hv]
  rw [e];rw [hv] at hv0;obtain ⟨hosts,copies,anchor,hints,drift,fin⟩:=h;obtain ⟨st,dn,pa,ov⟩:=p;obtain ⟨r1,r2,r3,r4⟩:=r;show PCalls E _ [DV.agg [.sl (hosts.map Host.enc),.sl (copies.map Copy.enc),.str anchor.name,.int .i64 anchor.type,.int .i64 anchor.life,.sl (anchor.data.map Datum.enc),.sl (hints.map (.int .i64)),.int .i64 drift,.int .i64 fin],DV.agg [.sl (st.map Step.enc),.sl (dn.map (.int .i64)),.bool pa,.bool ov],DV.agg [.int .i64 r1,.int .i64 r2,.int .i64 r3,.int .i64 r4]] _;refine eP Tryz.func19 ?_
  with_reducible refine callP_eq (hv0) ?_
  refine gO Tryz.func19 ?_;refine caseB_true ?_;refine gO Tryz.func19 ?_;refine caseB_true ?_;refine gO Tryz.func19 ?_;rfl
 by_cases hr:repB h.fin r=true
 case neg =>
  have hr:repB h.fin r=false:=by simpa using hr
  have e:takeR h p r=(zeroP,1):=by simp [takeR,hr]
  rw [e];rw [hv] at hv0;rw [hr] at hr0;obtain ⟨hosts,copies,anchor,hints,drift,fin⟩:=h;obtain ⟨st,dn,pa,ov⟩:=p;obtain ⟨r1,r2,r3,r4⟩:=r;show PCalls E _ [DV.agg [.sl (hosts.map Host.enc),.sl (copies.map Copy.enc),.str anchor.name,.int .i64 anchor.type,.int .i64 anchor.life,.sl (anchor.data.map Datum.enc),.sl (hints.map (.int .i64)),.int .i64 drift,.int .i64 fin],DV.agg [.sl (st.map Step.enc),.sl (dn.map (.int .i64)),.bool pa,.bool ov],DV.agg [.int .i64 r1,.int .i64 r2,.int .i64 r3,.int .i64 r4]] _;refine eP Tryz.func19 ?_
  with_reducible refine callP_eq (hv0) ?_
  refine gO Tryz.func19 ?_;refine caseB_false ?_;refine gO Tryz.func19 ?_
  with_reducible refine callP_eq (hr0) ?_
  refine gO Tryz.func19 ?_;refine caseB_true ?_;refine gO Tryz.func19 ?_;rfl
 rw [hv] at hv0;rw [hr] at hr0;have hT:takeR h p r=takeR h p r:=rfl;have hlen:=(validP_iff.1 hv).2.1;have hst4:=(validS_iff.1 (validP_iff.1 hv).1).2.1;obtain ⟨k1,k2,_,_,_,_⟩:=repB_iff.1 hr;have hcp:=copyOf_a p (by omega) (by omega) he;by_cases hst:stuckB p r=true
 case pos =>
  have e:takeR h p r=(zeroP,6):=by simp [takeR,hv,hr,hst]
  rw [e];obtain ⟨hosts,copies,anchor,hints,drift,fin⟩:=h;obtain ⟨st,dn,pa,ov⟩:=p;obtain ⟨r1,r2,r3,r4⟩:=r;show PCalls E _ [DV.agg [.sl (hosts.map Host.enc),.sl (copies.map Copy.enc),.str anchor.name,.int .i64 anchor.type,.int .i64 anchor.life,.sl (anchor.data.map Datum.enc),.sl (hints.map (.int .i64)),.int .i64 drift,.int .i64 fin],DV.agg [.sl (st.map Step.enc),.sl (dn.map (.int .i64)),.bool pa,.bool ov],DV.agg [.int .i64 r1,.int .i64 r2,.int .i64 r3,.int .i64 r4]] _;refine eP Tryz.func19 ?_
  with_reducible refine callP_eq (hv0) ?_
  refine gO Tryz.func19 ?_;refine caseB_false ?_;refine gO Tryz.func19 ?_
  with_reducible refine callP_eq (hr0) ?_
  refine gO Tryz.func19 ?_;refine caseB_false ?_;cases pa <;> cases ov;all_goals
   repeat' (first | with_reducible refine cY ?_ | with_reducible refine cN ?_ | with_reducible refine caseB_split (fun _=>?_) (fun _=>?_) | refine gA Tryz.func19 ?_ | refine gB ?_ | refine gC ?_ | with_reducible rfl)
  all_goals first
   |rfl
   |(exfalso; simp [stuckB] at hst; simp_all; done)
   |(exfalso; simp [stuckB] at hst; simp_all; omega)
 have hst:stuckB p r=false:=by simpa using hst
 have hfree:p.paused=false∧p.over=false∧p.done.length≠p.steps.length∧r.step=p.done.length:=by
  simpa [stuckB] using hst
 obtain ⟨f1,f2,f3,f4⟩:=hfree;obtain ⟨s,hs1⟩:=some_of_lt (l:=p.steps) (k:=p.done.length) (by omega);have hE:earlyB p r s.time=false→Taken h p r s:=fun e=>⟨hv,hr,hs1,hst,e⟩;have hTk:takeR h p r=if earlyB p r s.time then (zeroP,32) else if beforeB (takeQ p r s.time) h.fin then (takeQ p r s.time,0) else (zeroP,36):=by
  simp [takeR,hv,hr,hst,hs1]
 have hfin:histB h=true:=(validS_iff.1 (validP_iff.1 hv).1).1;generalize takeR h p r=T at *;obtain ⟨hosts,copies,anchor,hints,drift,fin⟩:=h;obtain ⟨st,dn,pa,ov⟩:=p;obtain ⟨r1,r2,r3,r4⟩:=r;simp only at f1 f2 f3 f4 hs1 hTk hlen hst4;subst f1;subst f2;subst f4;have hnxt:At1 (st.map Step.enc) ((dn.map (DV.int .i64)).length:Int) s.enc:=by
  rw [List.length_map];exact at_map hs1
 show PCalls E _ [DV.agg [.sl (hosts.map Host.enc),.sl (copies.map Copy.enc),.str anchor.name,.int .i64 anchor.type,.int .i64 anchor.life,.sl (anchor.data.map Datum.enc),.sl (hints.map (.int .i64)),.int .i64 drift,.int .i64 fin],DV.agg [.sl (st.map Step.enc),.sl (dn.map (.int .i64)),.bool false,.bool false],DV.agg [.int .i64 (dn.length:Int),.int .i64 r2,.int .i64 r3,.int .i64 r4]] _;refine eP Tryz.func19 ?_
 with_reducible refine callP_eq (hv0) ?_
 refine gO Tryz.func19 ?_;refine caseB_false ?_;refine gO Tryz.func19 ?_
 with_reducible refine callP_eq (hr0) ?_
 refine gO Tryz.func19 ?_;refine caseB_false ?_;refine gO Tryz.func19 ?_;refine caseB_false ?_;refine gO Tryz.func19 ?_;refine caseB_false ?_;refine gO Tryz.func19 ?_;refine caseB_no (by simp; omega) ?_;refine gO Tryz.func19 ?_;refine caseB_no (by simp) ?_;refine gO Tryz.func19 ?_;refine elemP_at (e:=s.enc) hnxt rfl ?_;refine gO Tryz.func19 ?_;simp only at k1 k2;have hk:r2=1∨r2=2∨r2=3∨r2=4:=by omega
 by_cases hA:∃ u,dn[dn.length - 1]? = some u∧r3≤u
 ·obtain ⟨u,hu,hru⟩:=hA;have h0:=lt_of_getElem? hu;have e:T=(zeroP,32):=by rw [hTk,if_pos]; simp [earlyB,hu,hru]
  subst e;have hlast:At1 (dn.map (DV.int .i64)) (IntKind.i64.wrap (((dn.map (DV.int .i64)).length:Int) - 1)) (.int .i64 u):=by
   rw [List.length_map];exact at_prev hu (by omega) (by omega)
  refine AWL.draw E_ok E_mixed 13 2000 (by kernel_rfl) ?_;(conv=>whnf);refine caseB_yes (by simp; omega) ?_;refine gD ?_;refine elemP_at (e := .int .i64 u) hlast rfl ?_;refine gD ?_;refine gS ?_;refine gO Tryz.func19 ?_;refine caseB_yes (by simpa using hru) ?_;repeat' (first | with_reducible refine cY ?_ | with_reducible refine cN ?_ | with_reducible refine caseB_split (fun _=>?_) (fun _=>?_) | refine gA Tryz.func19 ?_ | refine gB ?_ | refine gC ?_ | with_reducible rfl)
  rfl
 by_cases hB:(r2=1∨r2=4)∧r3<s.time
 ·have e:T=(zeroP,32):=by
   rw [hTk,if_pos];simp only [earlyB,Bool.or_eq_true,Bool.and_eq_true,decide_eq_true_eq];exact .inr hB
  subst e;have hlt:decide (r3<s.time)=true:=decide_eq_true hB.2;refine AWL.draw E_ok E_mixed 13 2000 (by kernel_rfl) ?_;(conv=>whnf);rcases hB.1 with rfl | rfl;all_goals
   rcases Nat.eq_zero_or_pos dn.length with h0 | h0
   ·refine caseB_no (decide_eq_false (by rw [List.length_map]; omega)) ?_;repeat' (first | with_reducible refine cY ?_ | with_reducible refine cN ?_ | with_reducible refine caseB_split (fun _=>?_) (fun _=>?_) | refine gA Tryz.func19 ?_ | refine gB ?_ | refine gC ?_ | with_reducible rfl)
    rfl
   ·obtain ⟨u,hu⟩:=some_of_lt (l:=dn) (k:=dn.length - 1) (by omega);have hru:decide (r3≤u)=false:=decide_eq_false fun hru=>hA ⟨u,hu,hru⟩;have hlast:At1 (dn.map (DV.int .i64)) (IntKind.i64.wrap (((dn.map (DV.int .i64)).length:Int) - 1)) (.int .i64 u):=by
     rw [List.length_map];exact at_prev hu (by omega) (by omega)
    refine caseB_yes (by simp; omega) ?_;refine gD ?_;refine elemP_at (e := .int .i64 u) hlast rfl ?_;repeat' (first | with_reducible refine cY ?_ | with_reducible refine cN ?_ | with_reducible refine caseB_split (fun _=>?_) (fun _=>?_) | refine gA Tryz.func19 ?_ | refine gB ?_ | refine gC ?_ | with_reducible rfl)
    rfl
 have hEf:earlyB ⟨st,dn,false,false⟩ ⟨dn.length,r2,r3,r4⟩ s.time=false:=by
  have h1:¬ ((r2=1∨r2=4)∧r3<s.time):=hB;cases hu:dn[dn.length - 1]? with
  |none=>simp [earlyB,hu]; omega
  |some u=>have:¬ r3≤u:=fun hru=>hA ⟨u,hu,hru⟩; simp [earlyB,hu]; omega
 rw [hEf,if_neg (by simp)] at hTk;have H:=hE hEf;have hw:=H.by_range;have hsteps:=H.times;have hcells:∀ e∈dn.map (DV.int .i64),e.cells.length=1:=fun e h=>by obtain ⟨d,_,rfl⟩:=List.mem_map.1 h; rfl
 rcases hk with rfl | rfl | rfl | rfl
 ·have hq:takeQ ⟨st,dn,false,false⟩ ⟨dn.length,1,r3,r4⟩ s.time=⟨offL (dn++[r3]).length (IntKind.i64.wrap (r3 - s.time)) st,(dn++[r3]),false,false⟩:=by simp [takeQ,doneOf,byOf]
  have hlt:decide (r3<s.time)=false:=decide_eq_false fun e=>hB ⟨by simp,e⟩;have hpo:ACalls E 59 [.cells [.own 1 0,.own 2 0,.d (.bool false),.d (.bool false)],.arr 0 (45,2) (st.map Step.enc),.arr 0 (3,1) (dn.map (DV.int .i64)++[DV.int .i64 r3])] [.ptr 0 0,.d (.int .i64 (IntKind.i64.wrap (r3 - s.time)))] (fun a b=>a = .tup []∧b=[.cells [.own 1 0,.own 2 0,.d (.bool false),.d (.bool false)],.arr 0 (45,2) ((offL (dn++[r3]).length (IntKind.i64.wrap (r3 - s.time)) st).map Step.enc),.arr 0 (3,1) (dn.map (DV.int .i64)++[DV.int .i64 r3])]):=by
   have:=putOff_a st (dn++[r3]) false false (IntKind.i64.wrap (r3 - s.time)) (by omega) (by first | omega | (simp; omega));simp only [List.map_append,List.map_cons,List.map_nil] at this;exact this
  have hlate:=H.late;rw [hq] at hlate hTk;simp only at hlate hTk;rw [hlate] at hTk;clear hlate hE;refine AWL.draw E_ok E_mixed 13 2000 (by kernel_rfl) ?_;(conv=>whnf);rcases Nat.eq_zero_or_pos dn.length with h0 | h0
  ·refine caseB_no (decide_eq_false (by rw [List.length_map]; omega)) ?_;repeat' (first | with_reducible refine cY ?_ | with_reducible refine cN ?_ | with_reducible refine caseB_split (fun _=>?_) (fun _=>?_) | refine gA Tryz.func19 ?_ | refine gB ?_ | refine gC ?_ | with_reducible rfl)
   refine gO Tryz.func19 ?_;refine AWL.indexArr E_ok 1 rfl rfl rfl rfl rfl rfl rfl (ev_at rfl) (ev_at rfl) rfl (by decide) rfl ?_;refine gO Tryz.func19 ?_
   with_reducible refine callS_eq (takeF1_a (dn.length:Int) 1 r3 r4 s.time) ?_
   refine gO Tryz.func19 ?_;refine callP_own (hcp) rfl ?_;refine gO Tryz.func19 ?_;refine caseB_yes (by decide) ?_;refine gO Tryz.func19 ?_;refine need_intro ⟨by simp; omega,by simp [DV.cells]⟩ ?_;refine gO Tryz.func19 ?_
   with_reducible refine callS_eq (hpo) ?_
   refine gO Tryz.func19 ?_;refine AWL.draw E_ok E_mixed 17 2000 (by kernel_rfl) ?_;(conv=>whnf);by_cases hmk:dn.length+1<st.length
   ·obtain ⟨y,hy⟩:=some_of_lt (l:=offL (dn++[r3]).length (IntKind.i64.wrap (r3 - s.time)) st) (k:=st.length - 1) (by rw [off_len]; omega);have hlb:lastB ⟨offL (dn++[r3]).length (IntKind.i64.wrap (r3 - s.time)) st,(dn++[r3]),false,false⟩ fin=decide (y.time≥fin):=by
     unfold lastB;simp only [off_len];rw [hy,decide_eq_true (by first | omega | (simp; omega))];rfl
    have hw9:IntKind.i64.wrap ((((offL (dn++[r3]).length (IntKind.i64.wrap (r3 - s.time)) st).map Step.enc).length:Int) - 1)=((st.length - 1:Nat):Int):=by
     rw [List.length_map,off_len,wrap64 (by omega) (by omega)];omega
    have hat:At1 ((offL (dn++[r3]).length (IntKind.i64.wrap (r3 - s.time)) st).map Step.enc) (((IntKind.i64.wrap ((((offL (dn++[r3]).length (IntKind.i64.wrap (r3 - s.time)) st).map Step.enc).length:Int) - 1)).toNat:Nat):Int) y.enc:=by
     rw [hw9];exact at_map hy
    have hb9:0≤IntKind.i64.wrap ((((offL (dn++[r3]).length (IntKind.i64.wrap (r3 - s.time)) st).map Step.enc).length:Int) - 1)∧IntKind.i64.wrap ((((offL (dn++[r3]).length (IntKind.i64.wrap (r3 - s.time)) st).map Step.enc).length:Int) - 1)<(((offL (dn++[r3]).length (IntKind.i64.wrap (r3 - s.time)) st).map Step.enc).length:Int):=by
     rw [hw9,List.length_map,off_len];omega
    refine caseB_yes (by simp [off_len]; omega) ?_;refine gD ?_;refine need_intro hb9 ?_;refine gD ?_;refine elemP_at (e:=y.enc) hat rfl ?_;refine gD ?_;refine gS ?_;refine gO Tryz.func19 ?_;refine caseB_split (fun h9=>?_) (fun h9=>?_)
    ·rw [hlb,h9] at hTk;simp only [Bool.not_true,Bool.false_eq_true,if_false] at hTk;subst hTk;refine gO Tryz.func19 ?_;rfl
    ·rw [hlb,h9] at hTk;simp only [Bool.not_false,if_true] at hTk;subst hTk;refine gO Tryz.func19 ?_;first | rfl | (simp only [PE.enc,Progress.enc,List.map_append,List.map_cons,List.map_nil]; rfl)
   ·have hlb:lastB ⟨offL (dn++[r3]).length (IntKind.i64.wrap (r3 - s.time)) st,(dn++[r3]),false,false⟩ fin=false:=by
     unfold lastB;simp only [off_len];rw [decide_eq_false (by first | omega | (simp; omega))];rfl
    rw [hlb] at hTk;simp only [Bool.not_false,if_true] at hTk;subst hTk;refine caseB_no (by simp [off_len]; omega) ?_;refine gD ?_;refine gS ?_;refine gO Tryz.func19 ?_;refine caseB_false ?_;refine gO Tryz.func19 ?_;first | rfl | (simp only [PE.enc,Progress.enc,List.map_append,List.map_cons,List.map_nil]; rfl)
  ·obtain ⟨u,hu⟩:=some_of_lt (l:=dn) (k:=dn.length - 1) (by omega);have hru:decide (r3≤u)=false:=decide_eq_false fun hru=>hA ⟨u,hu,hru⟩;have hlast:At1 (dn.map (DV.int .i64)) (IntKind.i64.wrap (((dn.map (DV.int .i64)).length:Int) - 1)) (.int .i64 u):=by
    rw [List.length_map];exact at_prev hu (by omega) (by omega)
   refine caseB_yes (by simp; omega) ?_;refine gD ?_;refine elemP_at (e := .int .i64 u) hlast rfl ?_;repeat' (first | with_reducible refine cY ?_ | with_reducible refine cN ?_ | with_reducible refine caseB_split (fun _=>?_) (fun _=>?_) | refine gA Tryz.func19 ?_ | refine gB ?_ | refine gC ?_ | with_reducible rfl)
   refine gO Tryz.func19 ?_;refine AWL.indexArr E_ok 1 rfl rfl rfl rfl rfl rfl rfl (ev_at rfl) (ev_at rfl) rfl (by decide) rfl ?_;refine gO Tryz.func19 ?_
   with_reducible refine callS_eq (takeF1_a (dn.length:Int) 1 r3 r4 s.time) ?_
   refine gO Tryz.func19 ?_;refine callP_own (hcp) rfl ?_;refine gO Tryz.func19 ?_;refine caseB_yes (by decide) ?_;refine gO Tryz.func19 ?_;refine need_intro ⟨by simp; omega,by simp [DV.cells]⟩ ?_;refine gO Tryz.func19 ?_
   with_reducible refine callS_eq (hpo) ?_
   refine gO Tryz.func19 ?_;refine AWL.draw E_ok E_mixed 17 2000 (by kernel_rfl) ?_;(conv=>whnf);by_cases hmk:dn.length+1<st.length
   ·obtain ⟨y,hy⟩:=some_of_lt (l:=offL (dn++[r3]).length (IntKind.i64.wrap (r3 - s.time)) st) (k:=st.length - 1) (by rw [off_len]; omega);have hlb:lastB ⟨offL (dn++[r3]).length (IntKind.i64.wrap (r3 - s.time)) st,(dn++[r3]),false,false⟩ fin=decide (y.time≥fin):=by
     unfold lastB;simp only [off_len];rw [hy,decide_eq_true (by first | omega | (simp; omega))];rfl
    have hw9:IntKind.i64.wrap ((((offL (dn++[r3]).length (IntKind.i64.wrap (r3 - s.time)) st).map Step.enc).length:Int) - 1)=((st.length - 1:Nat):Int):=by
     rw [List.length_map,off_len,wrap64 (by omega) (by omega)];omega
    have hat:At1 ((offL (dn++[r3]).length (IntKind.i64.wrap (r3 - s.time)) st).map Step.enc) (((IntKind.i64.wrap ((((offL (dn++[r3]).length (IntKind.i64.wrap (r3 - s.time)) st).map Step.enc).length:Int) - 1)).toNat:Nat):Int) y.enc:=by
     rw [hw9];exact at_map hy
    have hb9:0≤IntKind.i64.wrap ((((offL (dn++[r3]).length (IntKind.i64.wrap (r3 - s.time)) st).map Step.enc).length:Int) - 1)∧IntKind.i64.wrap ((((offL (dn++[r3]).length (IntKind.i64.wrap (r3 - s.time)) st).map Step.enc).length:Int) - 1)<(((offL (dn++[r3]).length (IntKind.i64.wrap (r3 - s.time)) st).map Step.enc).length:Int):=by
     rw [hw9,List.length_map,off_len];omega
    refine caseB_yes (by simp [off_len]; omega) ?_;refine gD ?_;refine need_intro hb9 ?_;refine gD ?_;refine elemP_at (e:=y.enc) hat rfl ?_;refine gD ?_;refine gS ?_;refine gO Tryz.func19 ?_;refine caseB_split (fun h9=>?_) (fun h9=>?_)
    ·rw [hlb,h9] at hTk;simp only [Bool.not_true,Bool.false_eq_true,if_false] at hTk;subst hTk;refine gO Tryz.func19 ?_;rfl
    ·rw [hlb,h9] at hTk;simp only [Bool.not_false,if_true] at hTk;subst hTk;refine gO Tryz.func19 ?_;first | rfl | (simp only [PE.enc,Progress.enc,List.map_append,List.map_cons,List.map_nil]; rfl)
   ·have hlb:lastB ⟨offL (dn++[r3]).length (IntKind.i64.wrap (r3 - s.time)) st,(dn++[r3]),false,false⟩ fin=false:=by
     unfold lastB;simp only [off_len];rw [decide_eq_false (by first | omega | (simp; omega))];rfl
    rw [hlb] at hTk;simp only [Bool.not_false,if_true] at hTk;subst hTk;refine caseB_no (by simp [off_len]; omega) ?_;refine gD ?_;refine gS ?_;refine gO Tryz.func19 ?_;refine caseB_false ?_;refine gO Tryz.func19 ?_;first | rfl | (simp only [PE.enc,Progress.enc,List.map_append,List.map_cons,List.map_nil]; rfl)
 ·have hq:takeQ ⟨st,dn,false,false⟩ ⟨dn.length,2,r3,r4⟩ s.time=⟨offL dn.length r4 st,dn,false,false⟩:=by simp [takeQ,doneOf,byOf]
  have hpo:ACalls E 59 [.cells [.own 1 0,.own 2 0,.d (.bool false),.d (.bool false)],.arr 0 (45,2) (st.map Step.enc),.arr 0 (3,1) (dn.map (DV.int .i64))] [.ptr 0 0,.d (.int .i64 r4)] (fun a b=>a = .tup []∧b=[.cells [.own 1 0,.own 2 0,.d (.bool false),.d (.bool false)],.arr 0 (45,2) ((offL dn.length r4 st).map Step.enc),.arr 0 (3,1) (dn.map (DV.int .i64))]):=by
   have:=putOff_a st dn false false r4 (by omega) (by first | omega | (simp; omega));have:=this;exact this
  have hlate:=H.late;rw [hq] at hlate hTk;simp only at hlate hTk;rw [hlate] at hTk;clear hlate hE;refine AWL.draw E_ok E_mixed 13 2000 (by kernel_rfl) ?_;(conv=>whnf);rcases Nat.eq_zero_or_pos dn.length with h0 | h0
  ·refine caseB_no (decide_eq_false (by rw [List.length_map]; omega)) ?_;repeat' (first | with_reducible refine cY ?_ | with_reducible refine cN ?_ | with_reducible refine caseB_split (fun _=>?_) (fun _=>?_) | refine gA Tryz.func19 ?_ | refine gB ?_ | refine gC ?_ | with_reducible rfl)
   refine gO Tryz.func19 ?_;refine AWL.indexArr E_ok 2 rfl rfl rfl rfl rfl rfl rfl (ev_at rfl) (ev_at rfl) rfl (by decide) rfl ?_;refine gO Tryz.func19 ?_
   with_reducible refine callS_eq (takeF2_a (dn.length:Int) 2 r3 r4) ?_
   refine gO Tryz.func19 ?_;refine callP_own (hcp) rfl ?_;refine gO Tryz.func19 ?_;refine caseB_no (by decide) ?_;refine gO Tryz.func19 ?_;refine caseB_no (by decide) ?_;refine gO Tryz.func19 ?_
   with_reducible refine callS_eq (hpo) ?_
   refine gO Tryz.func19 ?_;refine AWL.draw E_ok E_mixed 17 2000 (by kernel_rfl) ?_;(conv=>whnf);obtain ⟨y,hy⟩:=some_of_lt (l:=offL dn.length r4 st) (k:=st.length - 1) (by rw [off_len]; omega);have hlb:lastB ⟨offL dn.length r4 st,dn,false,false⟩ fin=decide (y.time≥fin):=by
    unfold lastB;simp only [off_len];rw [hy,decide_eq_true (by first | omega | (simp; omega))];rfl
   have hw9:IntKind.i64.wrap ((((offL dn.length r4 st).map Step.enc).length:Int) - 1)=((st.length - 1:Nat):Int):=by
    rw [List.length_map,off_len,wrap64 (by omega) (by omega)];omega
   have hat:At1 ((offL dn.length r4 st).map Step.enc) (((IntKind.i64.wrap ((((offL dn.length r4 st).map Step.enc).length:Int) - 1)).toNat:Nat):Int) y.enc:=by
    rw [hw9];exact at_map hy
   have hb9:0≤IntKind.i64.wrap ((((offL dn.length r4 st).map Step.enc).length:Int) - 1)∧IntKind.i64.wrap ((((offL dn.length r4 st).map Step.enc).length:Int) - 1)<(((offL dn.length r4 st).map Step.enc).length:Int):=by
    rw [hw9,List.length_map,off_len];omega
   refine caseB_yes (by simp [off_len]; omega) ?_;refine gD ?_;refine need_intro hb9 ?_;refine gD ?_;refine elemP_at (e:=y.enc) hat rfl ?_;refine gD ?_;refine gS ?_;refine gO Tryz.func19 ?_;refine caseB_split (fun h9=>?_) (fun h9=>?_)
   ·rw [hlb,h9] at hTk;simp only [Bool.not_true,Bool.false_eq_true,if_false] at hTk;subst hTk;refine gO Tryz.func19 ?_;rfl
   ·rw [hlb,h9] at hTk;simp only [Bool.not_false,if_true] at hTk;subst hTk;refine gO Tryz.func19 ?_;first | rfl | (simp only [PE.enc,Progress.enc,List.map_append,List.map_cons,List.map_nil]; rfl)
  ·obtain ⟨u,hu⟩:=some_of_lt (l:=dn) (k:=dn.length - 1) (by omega);have hru:decide (r3≤u)=false:=decide_eq_false fun hru=>hA ⟨u,hu,hru⟩;have hlast:At1 (dn.map (DV.int .i64)) (IntKind.i64.wrap (((dn.map (DV.int .i64)).length:Int) - 1)) (.int .i64 u):=by
    rw [List.length_map];exact at_prev hu (by omega) (by omega)
   refine caseB_yes (by simp; omega) ?_;refine gD ?_;refine elemP_at (e := .int .i64 u) hlast rfl ?_;repeat' (first | with_reducible refine cY ?_ | with_reducible refine cN ?_ | with_reducible refine caseB_split (fun _=>?_) (fun _=>?_) | refine gA Tryz.func19 ?_ | refine gB ?_ | refine gC ?_ | with_reducible rfl)
   refine gO Tryz.func19 ?_;refine AWL.indexArr E_ok 2 rfl rfl rfl rfl rfl rfl rfl (ev_at rfl) (ev_at rfl) rfl (by decide) rfl ?_;refine gO Tryz.func19 ?_
   with_reducible refine callS_eq (takeF2_a (dn.length:Int) 2 r3 r4) ?_
   refine gO Tryz.func19 ?_;refine callP_own (hcp) rfl ?_;refine gO Tryz.func19 ?_;refine caseB_no (by decide) ?_;refine gO Tryz.func19 ?_;refine caseB_no (by decide) ?_;refine gO Tryz.func19 ?_
   with_reducible refine callS_eq (hpo) ?_
   refine gO Tryz.func19 ?_;refine AWL.draw E_ok E_mixed 17 2000 (by kernel_rfl) ?_;(conv=>whnf);obtain ⟨y,hy⟩:=some_of_lt (l:=offL dn.length r4 st) (k:=st.length - 1) (by rw [off_len]; omega);have hlb:lastB ⟨offL dn.length r4 st,dn,false,false⟩ fin=decide (y.time≥fin):=by
    unfold lastB;simp only [off_len];rw [hy,decide_eq_true (by first | omega | (simp; omega))];rfl
   have hw9:IntKind.i64.wrap ((((offL dn.length r4 st).map Step.enc).length:Int) - 1)=((st.length - 1:Nat):Int):=by
    rw [List.length_map,off_len,wrap64 (by omega) (by omega)];omega
   have hat:At1 ((offL dn.length r4 st).map Step.enc) (((IntKind.i64.wrap ((((offL dn.length r4 st).map Step.enc).length:Int) - 1)).toNat:Nat):Int) y.enc:=by
    rw [hw9];exact at_map hy
   have hb9:0≤IntKind.i64.wrap ((((offL dn.length r4 st).map Step.enc).length:Int) - 1)∧IntKind.i64.wrap ((((offL dn.length r4 st).map Step.enc).length:Int) - 1)<(((offL dn.length r4 st).map Step.enc).length:Int):=by
    rw [hw9,List.length_map,off_len];omega
   refine caseB_yes (by simp [off_len]; omega) ?_;refine gD ?_;refine need_intro hb9 ?_;refine gD ?_;refine elemP_at (e:=y.enc) hat rfl ?_;refine gD ?_;refine gS ?_;refine gO Tryz.func19 ?_;refine caseB_split (fun h9=>?_) (fun h9=>?_)
   ·rw [hlb,h9] at hTk;simp only [Bool.not_true,Bool.false_eq_true,if_false] at hTk;subst hTk;refine gO Tryz.func19 ?_;rfl
   ·rw [hlb,h9] at hTk;simp only [Bool.not_false,if_true] at hTk;subst hTk;refine gO Tryz.func19 ?_;first | rfl | (simp only [PE.enc,Progress.enc,List.map_append,List.map_cons,List.map_nil]; rfl)
 ·have hq:takeQ ⟨st,dn,false,false⟩ ⟨dn.length,3,r3,r4⟩ s.time=⟨offL dn.length 0 st,dn,false,true⟩:=by simp [takeQ,doneOf,byOf]
  have hpo:ACalls E 59 [.cells [.own 1 0,.own 2 0,.d (.bool false),.d (.bool true)],.arr 0 (45,2) (st.map Step.enc),.arr 0 (3,1) (dn.map (DV.int .i64))] [.ptr 0 0,.d (.int .i64 0)] (fun a b=>a = .tup []∧b=[.cells [.own 1 0,.own 2 0,.d (.bool false),.d (.bool true)],.arr 0 (45,2) ((offL dn.length 0 st).map Step.enc),.arr 0 (3,1) (dn.map (DV.int .i64))]):=by
   have:=putOff_a st dn false true 0 (by omega) (by first | omega | (simp; omega));have:=this;exact this
  have hlate:=H.late;rw [hq] at hlate hTk;simp only at hlate hTk;rw [hlate] at hTk;clear hlate hE;refine AWL.draw E_ok E_mixed 13 2000 (by kernel_rfl) ?_;(conv=>whnf);rcases Nat.eq_zero_or_pos dn.length with h0 | h0
  ·refine caseB_no (decide_eq_false (by rw [List.length_map]; omega)) ?_;repeat' (first | with_reducible refine cY ?_ | with_reducible refine cN ?_ | with_reducible refine caseB_split (fun _=>?_) (fun _=>?_) | refine gA Tryz.func19 ?_ | refine gB ?_ | refine gC ?_ | with_reducible rfl)
   refine gO Tryz.func19 ?_;refine AWL.indexArr E_ok 3 rfl rfl rfl rfl rfl rfl rfl (ev_at rfl) (ev_at rfl) rfl (by decide) rfl ?_;refine gO Tryz.func19 ?_
   with_reducible refine callP_eq (takeF3_p) ?_
   refine gO Tryz.func19 ?_;refine callP_own (hcp) rfl ?_;refine gO Tryz.func19 ?_;refine caseB_no (by decide) ?_;refine gO Tryz.func19 ?_;refine caseB_yes (by decide) ?_;refine gO Tryz.func19 ?_
   with_reducible refine callS_eq (hpo) ?_
   refine gO Tryz.func19 ?_;refine AWL.draw E_ok E_mixed 17 2000 (by kernel_rfl) ?_;(conv=>whnf);obtain ⟨y,hy⟩:=some_of_lt (l:=offL dn.length 0 st) (k:=st.length - 1) (by rw [off_len]; omega);have hlb:lastB ⟨offL dn.length 0 st,dn,false,true⟩ fin=decide (y.time≥fin):=by
    unfold lastB;simp only [off_len];rw [hy,decide_eq_true (by first | omega | (simp; omega))];rfl
   have hw9:IntKind.i64.wrap ((((offL dn.length 0 st).map Step.enc).length:Int) - 1)=((st.length - 1:Nat):Int):=by
    rw [List.length_map,off_len,wrap64 (by omega) (by omega)];omega
   have hat:At1 ((offL dn.length 0 st).map Step.enc) (((IntKind.i64.wrap ((((offL dn.length 0 st).map Step.enc).length:Int) - 1)).toNat:Nat):Int) y.enc:=by
    rw [hw9];exact at_map hy
   have hb9:0≤IntKind.i64.wrap ((((offL dn.length 0 st).map Step.enc).length:Int) - 1)∧IntKind.i64.wrap ((((offL dn.length 0 st).map Step.enc).length:Int) - 1)<(((offL dn.length 0 st).map Step.enc).length:Int):=by
    rw [hw9,List.length_map,off_len];omega
   refine caseB_yes (by simp [off_len]; omega) ?_;refine gD ?_;refine need_intro hb9 ?_;refine gD ?_;refine elemP_at (e:=y.enc) hat rfl ?_;refine gD ?_;refine gS ?_;refine gO Tryz.func19 ?_;refine caseB_split (fun h9=>?_) (fun h9=>?_)
   ·rw [hlb,h9] at hTk;simp only [Bool.not_true,Bool.false_eq_true,if_false] at hTk;subst hTk;refine gO Tryz.func19 ?_;rfl
   ·rw [hlb,h9] at hTk;simp only [Bool.not_false,if_true] at hTk;subst hTk;refine gO Tryz.func19 ?_;first | rfl | (simp only [PE.enc,Progress.enc,List.map_append,List.map_cons,List.map_nil]; rfl)
  ·obtain ⟨u,hu⟩:=some_of_lt (l:=dn) (k:=dn.length - 1) (by omega);have hru:decide (r3≤u)=false:=decide_eq_false fun hru=>hA ⟨u,hu,hru⟩;have hlast:At1 (dn.map (DV.int .i64)) (IntKind.i64.wrap (((dn.map (DV.int .i64)).length:Int) - 1)) (.int .i64 u):=by
    rw [List.length_map];exact at_prev hu (by omega) (by omega)
   refine caseB_yes (by simp; omega) ?_;refine gD ?_;refine elemP_at (e := .int .i64 u) hlast rfl ?_;repeat' (first | with_reducible refine cY ?_ | with_reducible refine cN ?_ | with_reducible refine caseB_split (fun _=>?_) (fun _=>?_) | refine gA Tryz.func19 ?_ | refine gB ?_ | refine gC ?_ | with_reducible rfl)
   refine gO Tryz.func19 ?_;refine AWL.indexArr E_ok 3 rfl rfl rfl rfl rfl rfl rfl (ev_at rfl) (ev_at rfl) rfl (by decide) rfl ?_;refine gO Tryz.func19 ?_
   with_reducible refine callP_eq (takeF3_p) ?_
   refine gO Tryz.func19 ?_;refine callP_own (hcp) rfl ?_;refine gO Tryz.func19 ?_;refine caseB_no (by decide) ?_;refine gO Tryz.func19 ?_;refine caseB_yes (by decide) ?_;refine gO Tryz.func19 ?_
   with_reducible refine callS_eq (hpo) ?_
   refine gO Tryz.func19 ?_;refine AWL.draw E_ok E_mixed 17 2000 (by kernel_rfl) ?_;(conv=>whnf);obtain ⟨y,hy⟩:=some_of_lt (l:=offL dn.length 0 st) (k:=st.length - 1) (by rw [off_len]; omega);have hlb:lastB ⟨offL dn.length 0 st,dn,false,true⟩ fin=decide (y.time≥fin):=by
    unfold lastB;simp only [off_len];rw [hy,decide_eq_true (by first | omega | (simp; omega))];rfl
   have hw9:IntKind.i64.wrap ((((offL dn.length 0 st).map Step.enc).length:Int) - 1)=((st.length - 1:Nat):Int):=by
    rw [List.length_map,off_len,wrap64 (by omega) (by omega)];omega
   have hat:At1 ((offL dn.length 0 st).map Step.enc) (((IntKind.i64.wrap ((((offL dn.length 0 st).map Step.enc).length:Int) - 1)).toNat:Nat):Int) y.enc:=by
    rw [hw9];exact at_map hy
   have hb9:0≤IntKind.i64.wrap ((((offL dn.length 0 st).map Step.enc).length:Int) - 1)∧IntKind.i64.wrap ((((offL dn.length 0 st).map Step.enc).length:Int) - 1)<(((offL dn.length 0 st).map Step.enc).length:Int):=by
    rw [hw9,List.length_map,off_len];omega
   refine caseB_yes (by simp [off_len]; omega) ?_;refine gD ?_;refine need_intro hb9 ?_;refine gD ?_;refine elemP_at (e:=y.enc) hat rfl ?_;refine gD ?_;refine gS ?_;refine gO Tryz.func19 ?_;refine caseB_split (fun h9=>?_) (fun h9=>?_)
   ·rw [hlb,h9] at hTk;simp only [Bool.not_true,Bool.false_eq_true,if_false] at hTk;subst hTk;refine gO Tryz.func19 ?_;rfl
   ·rw [hlb,h9] at hTk;simp only [Bool.not_false,if_true] at hTk;subst hTk;refine gO Tryz.func19 ?_;first | rfl | (simp only [PE.enc,Progress.enc,List.map_append,List.map_cons,List.map_nil]; rfl)
 ·have hq:takeQ ⟨st,dn,false,false⟩ ⟨dn.length,4,r3,r4⟩ s.time=⟨offL dn.length (IntKind.i64.wrap (IntKind.i64.wrap (r3+r4) - s.time)) st,dn,false,false⟩:=by simp [takeQ,doneOf,byOf]
  have hlt:decide (r3<s.time)=false:=decide_eq_false fun e=>hB ⟨by simp,e⟩;have hpo:ACalls E 59 [.cells [.own 1 0,.own 2 0,.d (.bool false),.d (.bool false)],.arr 0 (45,2) (st.map Step.enc),.arr 0 (3,1) (dn.map (DV.int .i64))] [.ptr 0 0,.d (.int .i64 (IntKind.i64.wrap (IntKind.i64.wrap (r3+r4) - s.time)))] (fun a b=>a = .tup []∧b=[.cells [.own 1 0,.own 2 0,.d (.bool false),.d (.bool false)],.arr 0 (45,2) ((offL dn.length (IntKind.i64.wrap (IntKind.i64.wrap (r3+r4) - s.time)) st).map Step.enc),.arr 0 (3,1) (dn.map (DV.int .i64))]):=by
   have:=putOff_a st dn false false (IntKind.i64.wrap (IntKind.i64.wrap (r3+r4) - s.time)) (by omega) (by first | omega | (simp; omega));have:=this;exact this
  have hlate:=H.late;rw [hq] at hlate hTk;simp only at hlate hTk;rw [hlate] at hTk;clear hlate hE;refine AWL.draw E_ok E_mixed 13 2000 (by kernel_rfl) ?_;(conv=>whnf);rcases Nat.eq_zero_or_pos dn.length with h0 | h0
  ·refine caseB_no (decide_eq_false (by rw [List.length_map]; omega)) ?_;repeat' (first | with_reducible refine cY ?_ | with_reducible refine cN ?_ | with_reducible refine caseB_split (fun _=>?_) (fun _=>?_) | refine gA Tryz.func19 ?_ | refine gB ?_ | refine gC ?_ | with_reducible rfl)
   refine gO Tryz.func19 ?_;refine AWL.indexArr E_ok 4 rfl rfl rfl rfl rfl rfl rfl (ev_at rfl) (ev_at rfl) rfl (by decide) rfl ?_;refine gO Tryz.func19 ?_
   with_reducible refine callS_eq (takeF4_a (dn.length:Int) 4 r3 r4 s.time) ?_
   refine gO Tryz.func19 ?_;refine callP_own (hcp) rfl ?_;refine gO Tryz.func19 ?_;refine caseB_no (by decide) ?_;refine gO Tryz.func19 ?_;refine caseB_no (by decide) ?_;refine gO Tryz.func19 ?_
   with_reducible refine callS_eq (hpo) ?_
   refine gO Tryz.func19 ?_;refine AWL.draw E_ok E_mixed 17 2000 (by kernel_rfl) ?_;(conv=>whnf);obtain ⟨y,hy⟩:=some_of_lt (l:=offL dn.length (IntKind.i64.wrap (IntKind.i64.wrap (r3+r4) - s.time)) st) (k:=st.length - 1) (by rw [off_len]; omega);have hlb:lastB ⟨offL dn.length (IntKind.i64.wrap (IntKind.i64.wrap (r3+r4) - s.time)) st,dn,false,false⟩ fin=decide (y.time≥fin):=by
    unfold lastB;simp only [off_len];rw [hy,decide_eq_true (by first | omega | (simp; omega))];rfl
   have hw9:IntKind.i64.wrap ((((offL dn.length (IntKind.i64.wrap (IntKind.i64.wrap (r3+r4) - s.time)) st).map Step.enc).length:Int) - 1)=((st.length - 1:Nat):Int):=by
    rw [List.length_map,off_len,wrap64 (by omega) (by omega)];omega
   have hat:At1 ((offL dn.length (IntKind.i64.wrap (IntKind.i64.wrap (r3+r4) - s.time)) st).map Step.enc) (((IntKind.i64.wrap ((((offL dn.length (IntKind.i64.wrap (IntKind.i64.wrap (r3+r4) - s.time)) st).map Step.enc).length:Int) - 1)).toNat:Nat):Int) y.enc:=by
    rw [hw9];exact at_map hy
   have hb9:0≤IntKind.i64.wrap ((((offL dn.length (IntKind.i64.wrap (IntKind.i64.wrap (r3+r4) - s.time)) st).map Step.enc).length:Int) - 1)∧IntKind.i64.wrap ((((offL dn.length (IntKind.i64.wrap (IntKind.i64.wrap (r3+r4) - s.time)) st).map Step.enc).length:Int) - 1)<(((offL dn.length (IntKind.i64.wrap (IntKind.i64.wrap (r3+r4) - s.time)) st).map Step.enc).length:Int):=by
    rw [hw9,List.length_map,off_len];omega
   refine caseB_yes (by simp [off_len]; omega) ?_;refine gD ?_;refine need_intro hb9 ?_;refine gD ?_;refine elemP_at (e:=y.enc) hat rfl ?_;refine gD ?_;refine gS ?_;refine gO Tryz.func19 ?_;refine caseB_split (fun h9=>?_) (fun h9=>?_)
   ·rw [hlb,h9] at hTk;simp only [Bool.not_true,Bool.false_eq_true,if_false] at hTk;subst hTk;refine gO Tryz.func19 ?_;rfl
   ·rw [hlb,h9] at hTk;simp only [Bool.not_false,if_true] at hTk;subst hTk;refine gO Tryz.func19 ?_;first | rfl | (simp only [PE.enc,Progress.enc,List.map_append,List.map_cons,List.map_nil]; rfl)
  ·obtain ⟨u,hu⟩:=some_of_lt (l:=dn) (k:=dn.length - 1) (by omega);have hru:decide (r3≤u)=false:=decide_eq_false fun hru=>hA ⟨u,hu,hru⟩;have hlast:At1 (dn.map (DV.int .i64)) (IntKind.i64.wrap (((dn.map (DV.int .i64)).length:Int) - 1)) (.int .i64 u):=by
    rw [List.length_map];exact at_prev hu (by omega) (by omega)
   refine caseB_yes (by simp; omega) ?_;refine gD ?_;refine elemP_at (e := .int .i64 u) hlast rfl ?_;repeat' (first | with_reducible refine cY ?_ | with_reducible refine cN ?_ | with_reducible refine caseB_split (fun _=>?_) (fun _=>?_) | refine gA Tryz.func19 ?_ | refine gB ?_ | refine gC ?_ | with_reducible rfl)
   refine gO Tryz.func19 ?_;refine AWL.indexArr E_ok 4 rfl rfl rfl rfl rfl rfl rfl (ev_at rfl) (ev_at rfl) rfl (by decide) rfl ?_;refine gO Tryz.func19 ?_
   with_reducible refine callS_eq (takeF4_a (dn.length:Int) 4 r3 r4 s.time) ?_
   refine gO Tryz.func19 ?_;refine callP_own (hcp) rfl ?_;refine gO Tryz.func19 ?_;refine caseB_no (by decide) ?_;refine gO Tryz.func19 ?_;refine caseB_no (by decide) ?_;refine gO Tryz.func19 ?_
   with_reducible refine callS_eq (hpo) ?_
   refine gO Tryz.func19 ?_;refine AWL.draw E_ok E_mixed 17 2000 (by kernel_rfl) ?_;(conv=>whnf);obtain ⟨y,hy⟩:=some_of_lt (l:=offL dn.length (IntKind.i64.wrap (IntKind.i64.wrap (r3+r4) - s.time)) st) (k:=st.length - 1) (by rw [off_len]; omega);have hlb:lastB ⟨offL dn.length (IntKind.i64.wrap (IntKind.i64.wrap (r3+r4) - s.time)) st,dn,false,false⟩ fin=decide (y.time≥fin):=by
    unfold lastB;simp only [off_len];rw [hy,decide_eq_true (by first | omega | (simp; omega))];rfl
   have hw9:IntKind.i64.wrap ((((offL dn.length (IntKind.i64.wrap (IntKind.i64.wrap (r3+r4) - s.time)) st).map Step.enc).length:Int) - 1)=((st.length - 1:Nat):Int):=by
    rw [List.length_map,off_len,wrap64 (by omega) (by omega)];omega
   have hat:At1 ((offL dn.length (IntKind.i64.wrap (IntKind.i64.wrap (r3+r4) - s.time)) st).map Step.enc) (((IntKind.i64.wrap ((((offL dn.length (IntKind.i64.wrap (IntKind.i64.wrap (r3+r4) - s.time)) st).map Step.enc).length:Int) - 1)).toNat:Nat):Int) y.enc:=by
    rw [hw9];exact at_map hy
   have hb9:0≤IntKind.i64.wrap ((((offL dn.length (IntKind.i64.wrap (IntKind.i64.wrap (r3+r4) - s.time)) st).map Step.enc).length:Int) - 1)∧IntKind.i64.wrap ((((offL dn.length (IntKind.i64.wrap (IntKind.i64.wrap (r3+r4) - s.time)) st).map Step.enc).length:Int) - 1)<(((offL dn.length (IntKind.i64.wrap (IntKind.i64.wrap (r3+r4) - s.time)) st).map Step.enc).length:Int):=by
    rw [hw9,List.length_map,off_len];omega
   refine caseB_yes (by simp [off_len]; omega) ?_;refine gD ?_;refine need_intro hb9 ?_;refine gD ?_;refine elemP_at (e:=y.enc) hat rfl ?_;refine gD ?_;refine gS ?_;refine gO Tryz.func19 ?_;refine caseB_split (fun h9=>?_) (fun h9=>?_)
   ·rw [hlb,h9] at hTk;simp only [Bool.not_true,Bool.false_eq_true,if_false] at hTk;subst hTk;refine gO Tryz.func19 ?_;rfl
   ·rw [hlb,h9] at hTk;simp only [Bool.not_false,if_true] at hTk;subst hTk;refine gO Tryz.func19 ?_;first | rfl | (simp only [PE.enc,Progress.enc,List.map_append,List.map_cons,List.map_nil]; rfl)
end Go.Proofs.YtajnanldmhpeaaaGreatDoor.P
